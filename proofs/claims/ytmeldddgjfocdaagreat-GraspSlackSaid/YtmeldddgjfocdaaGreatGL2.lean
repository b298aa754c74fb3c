/- Part 2 of the texts behind the last one: rules and contracts. No condition. -/
import Derived.Test.YtmeldddgjfocdaaGreatGL1
open Option renaming map_eq_some_iff → vZW
open Option.some renaming injEq → vQZ
open Prod.mk renaming injEq → vQY
open Bool renaming and_eq_true → vQJ
open List renaming getElem?_eq_getElem → vQK, length_cons → vQW, mem_of_getElem? → vQG, mem_cons_of_mem → vQH, mem_cons_self → vZQ, getElem?_map → vZY, getElem?_take → vZV, take_zero → vYX
open Nat renaming eq_of_beq_eq_true → vQX, lt_of_lt_of_le → vZK, le_of_ble_eq_true → vZX
open Array renaming getElem?_eq_getElem → vZU, all_eq_true_iff_forall_mem → vYY
open Go.IntKind renaming wrap → vJJ
namespace Go.Sx
structure Iv where
 lo:Int
 hi:Int
@[simp] theorem Iv.eta (x:Iv):(⟨x.lo,x.hi⟩:Iv)=x:=rfl
def iv (x:Iv):Value:=.agg #[.int .i64 x.lo,.int .i64 x.hi]
def vI (x:Int):Value:=.int .i64 x
def vB (b:Bool):Value:=.bool b
def In64 (a:Int):Prop:=-9223372036854775808≤a∧a≤9223372036854775807
def qQK (a:Int):Int:=min (max a (-2147483648)) 2147483648
def zW (a b:Int):Int:=-((-a) / b)
def Iv.valid (a:Iv):Bool:=decide (-2147483648≤a.lo) && decide (a.lo≤a.hi) && decide (a.hi≤2147483648)
def Iv.limited (lo hi:Int):Iv:=⟨qQK lo,qQK hi⟩
def Iv.of (x:Int):Iv:=⟨qQK x,qQK x⟩
def Iv.neg (a:Iv):Iv:=bif a.valid then ⟨-a.hi,-a.lo⟩ else ⟨0,0⟩
def Iv.add (a b:Iv):Iv:=bif a.valid && b.valid then ⟨qQK (a.lo + b.lo),qQK (a.hi + b.hi)⟩ else ⟨0,0⟩
def Iv.sub (a b:Iv):Iv:=bif a.valid && b.valid then ⟨qQK (a.lo - b.hi),qQK (a.hi - b.lo)⟩ else ⟨0,0⟩
def min4 (a b c d:Int):Int:=min (min (min a b) c) d
def max4 (a b c d:Int):Int:=max (max (max a b) c) d
def Iv.mul (a b:Iv):Iv:=bif a.valid && b.valid then
 ⟨qQK (min4 (a.lo * b.lo) (a.lo * b.hi) (a.hi * b.lo) (a.hi * b.hi) / 65536),qQK (zW (max4 (a.lo * b.lo) (a.lo * b.hi) (a.hi * b.lo) (a.hi * b.hi)) 65536)⟩ else ⟨0,0⟩
def Iv.hull (a b:Iv):Iv:=bif a.valid && b.valid then ⟨min a.lo b.lo,max a.hi b.hi⟩ else ⟨0,0⟩
def Iv.meetB (a b:Iv):Bool:=a.valid && b.valid && decide (max a.lo b.lo≤min a.hi b.hi)
def Iv.has (a:Iv) (x:Int):Bool:=a.valid && decide (a.lo≤x) && decide (x≤a.hi)
def Iv.width (a:Iv):Int:=bif a.valid then a.hi - a.lo else 0
theorem Iv.valid_spec {a:Iv} (h:a.valid=true) : -2147483648≤a.lo∧a.lo≤a.hi∧a.hi≤2147483648:=by
 simp [Iv.valid] at h; omega
theorem uG {x y:Int} (h:Iv.valid ⟨x,y⟩=true) : -2147483648≤x∧x≤y∧y≤2147483648:=Iv.valid_spec h
theorem qWX {a b:Int} (_: -2147483648≤a∧a≤2147483648) (_: -2147483648≤b∧b≤2147483648) : -4611686018427387904≤a * b∧a * b≤4611686018427387904:=by
 have h1:a.natAbs * b.natAbs≤2147483648 * 2147483648:=Nat.mul_le_mul (by omega) (by omega);have h2:(a * b).natAbs=a.natAbs * b.natAbs:=Int.natAbs_mul a b;rw [← h2] at h1;omega
theorem xVK {a b:Int} (ha : -2147483648≤a∧a≤2147483648) (hb : -2147483648≤b∧b≤2147483648):vJJ .i64 (a * b)=a * b :=
 qX (by have:=qWX ha hb; omega)
theorem zJC {a b:Int} (_:In64 a) (hb:0 < b):In64 (a.tdiv b):=by
 unfold In64 at *;rcases Int.le_total 0 a with h | h
 ·rw [Int.tdiv_eq_ediv_of_nonneg h];have h1:=Int.ediv_le_self b h;have h2:0≤a / b:=Int.ediv_nonneg h (Int.le_of_lt hb);omega
 ·have e:a.tdiv b = -((-a) / b):=by
   rw [← Int.tdiv_eq_ediv_of_nonneg (by omega:0 ≤ -a),Int.neg_tdiv,Int.neg_neg]
  rw [e];have h1:=Int.ediv_le_self b (by omega:0 ≤ -a);have h2:0≤(-a) / b:=Int.ediv_nonneg (by omega) (Int.le_of_lt hb);omega
theorem zWZ {a b:Int} (hb:0 < b) (_:a.tmod b < 0):a.tdiv b - 1=a / b:=by
 have h1:=Int.tdiv_mul_add_tmod a b;have h3 : -b < a.tmod b:=by
  have:=Int.lt_tmod_of_pos a hb
  omega
 have:a / b=a.tdiv b - 1:=by
  rw [Int.ediv_eq_iff_of_pos hb];have e:(a.tdiv b - 1) * b=a.tdiv b * b - b:=by rw [Int.sub_mul]; omega
  rw [e];omega
 omega
theorem yKV {a b:Int} (hb:0 < b) (_:¬ a.tmod b < 0):a.tdiv b=a / b:=by
 have h1:=Int.tdiv_mul_add_tmod a b;have h3:a.tmod b < b:=Int.tmod_lt_of_pos a hb
 have:a / b=a.tdiv b:=by
  rw [Int.ediv_eq_iff_of_pos hb];omega
 omega
theorem zQC {a b q:Int} (hb:0 < b) (_:a≤q * b) (_:q * b < a + b):zW a b=q:=by
 unfold zW;have : -a / b = -q:=by
  rw [Int.ediv_eq_iff_of_pos hb,Int.neg_mul];omega
 omega
theorem kGD {a b:Int} (hb:0 < b) (_:0 < a.tmod b):a.tdiv b + 1=zW a b:=by
 have h1:=Int.tdiv_mul_add_tmod a b;have h3:a.tmod b < b:=Int.tmod_lt_of_pos a hb;refine (zQC hb ?_ ?_).symm <;> rw [Int.add_mul] <;> omega
theorem kGE {a b:Int} (hb:0 < b) (_:¬ 0 < a.tmod b):a.tdiv b=zW a b:=by
 have h1:=Int.tdiv_mul_add_tmod a b;have h3 : -b < a.tmod b:=by
  have:=Int.lt_tmod_of_pos a hb
  omega
 refine (zQC hb ?_ ?_).symm <;> omega
theorem uZY {a k:Int} (_:0≤k) (_:k≤62):a.fdiv (2 ^ min k.toNat IntKind.i64.bits)=a / 2 ^ k.toNat:=by
 have:min k.toNat IntKind.i64.bits=k.toNat:=by
  have hb:IntKind.i64.bits=64:=rfl;omega
 rw [this,Int.fdiv_eq_ediv_of_nonneg _ (by exact Int.le_of_lt (Int.pow_pos (by decide)))]
theorem yJQ {k:Nat} (_:k≤62):(2:Int) ^ (63 - k) * 2 ^ k=9223372036854775808:=by
 rw [← Int.pow_add,show 63 - k + k=63 by omega]; rfl
theorem xYE {a k:Int} (ha:In64 a) (_:0≤k) (_:k≤62):vJJ .i64 (a / 2 ^ k.toNat * 2 ^ min k.toNat IntKind.i64.bits)=a / 2 ^ k.toNat * 2 ^ k.toNat:=by
 have hm:min k.toNat IntKind.i64.bits=k.toNat:=by
  have hb:IntKind.i64.bits=64:=rfl;omega
 rw [hm];have hp:(0:Int) < 2 ^ k.toNat:=Int.pow_pos (by decide);have h2:=Int.ediv_mul_le a (Int.ne_of_gt hp);have h3 : -(2 ^ (63 - k.toNat))≤a / 2 ^ k.toNat:=by
  rw [Int.le_ediv_iff_mul_le hp,Int.neg_mul,yJQ (by omega)];exact ha.1
 have h4 : -(2 ^ (63 - k.toNat)) * 2 ^ k.toNat≤a / 2 ^ k.toNat * 2 ^ k.toNat:=Int.mul_le_mul_of_nonneg_right h3 (Int.le_of_lt hp);rw [Int.neg_mul,yJQ (by omega)] at h4;exact qX ⟨h4,by unfold In64 at ha; omega⟩
theorem zWX {a b:Int} (hb:0 < b) (_:a / b * b=a):a / b=zW a b:=(zQC hb (by omega) (by omega)).symm
theorem jKB {a b:Int} (hb:0 < b) (_:¬ a / b * b=a):a / b + 1=zW a b:=by
 have h1:=Int.ediv_mul_le a (Int.ne_of_gt hb);have h2:=Int.lt_ediv_add_one_mul_self a hb;refine (zQC hb ?_ ?_).symm <;> rw [Int.add_mul] at * <;> omega
theorem zVF {a b:Int} (_:a≤0) (hb:1≤b):a * b≤a:=by
 have:=Int.mul_le_mul_of_nonneg_left (c:=-a) hb (by omega)
 rw [Int.neg_mul,Int.neg_mul] at this;omega
theorem jKH {a b:Int} (_:a≤0) (hb:0 < b):a / b≤0:=by
 rcases Int.lt_or_le 0 (a / b) with h | h
 ·have h1:=Int.ediv_mul_le a (Int.ne_of_gt hb);have h2:1 * b≤a / b * b:=Int.mul_le_mul_of_nonneg_right (by omega) (Int.le_of_lt hb);omega
 ·exact h
theorem yXU {a k:Int} (ha:In64 a) (h:¬ a / 2 ^ k.toNat * 2 ^ k.toNat=a) : -9223372036854775808≤a / 2 ^ k.toNat + 1∧a / 2 ^ k.toNat + 1≤9223372036854775807:=by
 have hp:(0:Int) < 2 ^ k.toNat:=Int.pow_pos (by decide);unfold In64 at ha;rcases Int.le_total 0 a with h' | h'
 ·have h1:=Int.ediv_le_self (2 ^ k.toNat) h';have h2:0≤a / 2 ^ k.toNat:=Int.ediv_nonneg h' (Int.le_of_lt hp);refine ⟨by omega,?_⟩;rcases Int.lt_or_le (a / 2 ^ k.toNat) a with h3 | h3
  ·omega
  ·have e:a / 2 ^ k.toNat=a:=by omega
   have h4:=Int.ediv_mul_le a (Int.ne_of_gt hp);rw [e] at h4 h;have h5:a * 1≤a * 2 ^ k.toNat:=Int.mul_le_mul_of_nonneg_left (by omega) h';omega
 ·have h1:a / 2 ^ k.toNat≤0:=jKH h' hp;have h2:a≤a / 2 ^ k.toNat:=by
   rw [Int.le_ediv_iff_mul_le hp];exact zVF h' (by omega)
  omega
theorem kQZ {a b:Int} (ha:In64 a) (hb:0 < b) (h:a.tmod b < 0) : -9223372036854775808≤a.tdiv b - 1∧a.tdiv b - 1≤9223372036854775807:=by
 have h1:=zJC ha hb;have e:=zWZ hb h;have h2:a≤a / b:=by
  have ha0:a≤0:=by
   rcases Int.le_total a 0 with h' | h'
   ·exact h'
   ·have:=Int.tmod_nonneg b h'
    omega
  rw [Int.le_ediv_iff_mul_le hb];exact zVF ha0 (by omega)
 unfold In64 at *;omega
theorem kGI {a b:Int} (ha:In64 a) (hb:0 < b) (_:0 < a.tmod b) : -9223372036854775808≤a.tdiv b + 1∧a.tdiv b + 1≤9223372036854775807:=by
 have h1:=zJC ha hb;have ha0:0≤a:=by
  rcases Int.le_total 0 a with h' | h'
  ·exact h'
  ·have h2:=Int.tmod_nonneg b (show 0 ≤ -a by omega);rw [Int.neg_tmod] at h2;omega
 have e:=Int.tdiv_mul_add_tmod a b;have h2:0≤a.tdiv b:=by rw [Int.tdiv_eq_ediv_of_nonneg ha0]; exact Int.ediv_nonneg ha0 (Int.le_of_lt hb)
 have h3:a.tdiv b * 1≤a.tdiv b * b:=Int.mul_le_mul_of_nonneg_left (by omega) h2;unfold In64 at *;omega
theorem qZE {a:Int} (_: -2147483648≤a∧a≤2147483648):qQK a=a:=by unfold qQK; omega
theorem kHJ {a:Int}:vJJ .i64 ((BitVec.ofInt IntKind.i64.bits a &&& BitVec.ofInt IntKind.i64.bits 65535).toNat)=a % 65536:=by
 have hb:IntKind.i64.bits=64:=rfl;have h1:(BitVec.ofInt IntKind.i64.bits a &&& BitVec.ofInt IntKind.i64.bits 65535).toNat=(a % 65536).toNat:=by
  rw [hb,BitVec.toNat_and];have e1:(BitVec.ofInt 64 65535).toNat=2 ^ 16 - 1:=by decide
  rw [e1,Nat.and_two_pow_sub_one_eq_mod,BitVec.toNat_ofInt];omega
 rw [h1];refine (qX ?_).trans ?_ <;> omega
section
variable {P:Program} {n:Nat} {w0:Base} {ops:Array Oper} {Q:Exit→Act→World→Prop} {S:yV} {H:Heap}
theorem qKD {α:Type} {F:α→Value} {x:α} {o:Oper} {rest:List Oper} {d:Nat} (ho:OpV P w0 S H o (F x)) (hw:qQD ops S o=some true) (hd:o.dst=some d) (hn:Nat.blt d n=true)
  (next:∀ r,r=x→DoL P n w0 ops Q rest ((d,F r) :: S) H):DoL P n w0 ops Q (o :: rest) S H:=qG ho hw hd hn (next x rfl)
theorem zWJ {α:Type} {F:α→Value} {x:α} {o:Oper} {rest:List Oper} {d:Nat} {K:yV→qZK→Prop} {G:qZK} (ho:OpV P w0 S H o (F x)) (hw:qQD ops S o=some true) (hd:o.dst=some d) (hn:Nat.blt d n=true)
  (next:∀ r,r=x→DoG P n w0 ops H K rest ((d,F r) :: S) G):DoG P n w0 ops H K (o :: rest) S G:=jG ho hw hd hn (next x rfl)
theorem yZZ {a:Act} {d:Nat} {b c:Bool} (f:Fits n S a) (hb:look S d=some (.bool b)) (e:b=c):Fits n ((d,.bool c) :: S) a:=by
 subst e; exact yKG f (f.has _ _ hb)
theorem kQH {l:List Oper} (d:Nat) {b:Bool} (hb:look S d=some (.bool b)) (ht:b=true→DoL P n w0 ops Q l ((d,.bool true) :: S) H) (hf:b=false→DoL P n w0 ops Q l ((d,.bool false) :: S) H) :
  DoL P n w0 ops Q l S H:=fun a w f k=>by
 cases hbb:b with
 | true=>exact ht hbb a w (yZZ f hb hbb) k
 | false=>exact hf hbb a w (yZZ f hb hbb) k
end
end Go.Sx
namespace Go.Sx
open Go.RowKit Go.ChangeShapes Go.WideShapes
section
variable {P:Program} {W:World} {r:Reach} {base:Nat}
theorem zHG {t:TypeId} {v:Value} (hu:P.underlying t=some (.int .i64)) (h:Value.okWide P W r base t v):∃ n,v=.int .i64 n∧In64 n:=by
 simp only [Value.okWide,hu,Cell.okWide] at h;cases v <;> simp [Cell.ok,hu] at h
 obtain ⟨rfl,h1⟩:=h;exact ⟨_,rfl,by simpa [IntKind.has,IntKind.min,IntKind.max,IntKind.signed,IntKind.bits,In64] using h1⟩
variable {H:Type} {enc:TypeId × Value→H}
def uXA (P:Program) (ts:List TypeId):Bool:=ts.all fun t=>P.readableRec t && decide (t < P.types.size)
theorem qHQ (hl:laidOutB P=true) {W':World} (hb:Below W.heap.size W W'):∀ {ts:List TypeId} {vs:List Value} {ds:List (DataW H)} {ps:List MemPlace},uXA P ts=true →
  DataW.TrodAll enc P W 0 (fun _=>true) true ts vs ds ps→(∀ x ∈ ps,x.block < W.heap.size)→DataW.TrodAll enc P W' 0 (fun b=>decide (b < W.heap.size)) true ts vs ds ps
 | [],vs,ds,ps,_,h,_=>by
  obtain ⟨rfl,rfl,rfl⟩:=trodAll_nil h;exact trodAll_mk0
 | t :: ts,vs,ds,ps,hr,h,hlt=>by
  obtain ⟨v,vs',d,ds',p,q,rfl,rfl,rfl,h1,h2⟩:=trodAll_cons h;simp only [uXA,List.all_cons,vQJ,decide_eq_true_eq] at hr;exact trodAll_cons_mk (Below.trod hl hr.1.1 hr.1.2 h1 hb fun x hx=>hlt x (List.mem_append_left _ hx))
   (qHQ hl hb hr.2 h2 fun x hx=>hlt x (List.mem_append_right _ hx))
theorem kGJ {f:Func} {s:ChangeSpec} {apart fresh handsOn:Bool} {W':World} {args:Array Value} {ds:List (DataW H)} {before:List MemPlace} {tb:TypeId}
  (hW:DataW.Whole enc P f.params.toList s.vars apart W args.toList ds [] before) (hvs:s.vars=[]) (hl:laidOutB P=true) (hr:uXA P f.params.toList=true) (hargs:(s.fn H (ds ++ [])).args=ds)
  (hres:(s.fn H (ds ++ [])).results=[.lit (.bool true)]) (hv:(s.fn H (ds ++ [])).vars=[]) (hrt:f.resultTypes=#[tb]) (hub:P.underlying tb=some .bool) (hb:Below W.heap.size W W') :
  s.post enc P f apart fresh handsOn false W args (.bool true) W':=by
 have hlt:∀ p ∈ before,p.block < W.heap.size:=fun p hp=>hW.lt p hp
 have hW2:=hW;obtain ⟨p,q,hA,hV,rfl,_,_⟩:=hW2;rw [hvs] at hV;obtain ⟨_,rfl⟩:=trodVars_none hV;refine ⟨ds,[],p ++ [],[],p,[],hW,?_,?_,?_,World.keptBut_mono (fun x hx=>⟨hx,Or.inr (Or.inl (by simpa using hx))⟩) (hb.frame (· ∈ p ++ [])),fun h=>by cases h⟩
 ·rw [hres,hrt];exact trodAll_mk1 (shut_bool hub true)
 ·rw [hargs];exact qHQ hl hb hr hA fun x hx=>hlt x (by simpa using hx)
 ·rw [hv,hvs];exact rfl
end
end Go.Sx
namespace Go.Sx
open Go.RowKit
structure GrowB (b:Nat→Prop) (w w':World):Prop where
 os:w'.os=w.os
 tape:w'.tape=w.tape
 output:w'.output=w.output
 size:w.heap.size≤w'.heap.size
 block:∀ k,k < w.heap.size→¬ b k→w'.heap[k]? = w.heap[k]?
theorem GrowB.of {b:Nat→Prop} {w w':World} (g:Grow w w'):GrowB b w w':=⟨g.os,g.tape,g.output,g.size,fun k hk _=>g.block k hk⟩
theorem GrowB.refl (b:Nat→Prop) (w:World):GrowB b w w:=.of (Grow.refl w)
theorem GrowB.trans {b:Nat→Prop} {x y z:World} (h:GrowB b x y) (k:GrowB b y z):GrowB b x z :=
 ⟨k.os.trans h.os,k.tape.trans h.tape,k.output.trans h.output,Nat.le_trans h.size k.size,fun i hi hb=>(k.block i (vZK hi h.size) hb).trans (h.block i hi hb)⟩
theorem GrowB.set (b:Nat) (w:World) (cs:Array Value):GrowB (· = b) w (w.setRow b cs):=⟨rfl,rfl,rfl,by simp,fun k _ hb=>setRow_other w b k cs hb⟩
def uHV (b:Nat→Prop) (T:Pred):Prop:=∀ v w w',T v w→GrowB b w w'→T v w'
section
variable {P:Program} {n:Nat} {ops:Array Oper} {Q:Exit→Act→World→Prop} {σ:Type}
def uHW (P:Program) (b:Nat→Prop) (w:World) (T:Pred) (K:World→Prop):Result Next→Prop
 | .ok (.value v) w'=>GrowB b w w'∧T v w'∧K w'
 | .ok (.enter f args) w'=>GrowB b w w'∧Calls P f args w' (fun e w''=>∃ v,e=.returned v∧GrowB b w' w''∧T v w''∧K w'')
 | _=>False
def OpE (P:Program) (n:Nat) (ops:Array Oper) (K1 K2:World→Prop) (b:Nat→Prop) (S:yV) (G:qZK) (o:Oper) (T:Pred):Prop :=
 ∀ a w,a.tmps.size=n→(∀ t ∈ o.looksAt ops,yUG S G a w t)→K1 w →
  Region.wanted o (yielded ops a.tmps)=true∧uHW P b w T K2 ((execOp a.eval o).run P w)
structure Fam (b:Nat→Prop) (w1:Base) (H0:Heap) (Wf:σ→Base) (Hf:σ→Heap):Prop where
 size:∀ s,(Wf s).w.heap.size=w1.w.heap.size
 told:∀ s,(Wf s).R=w1.R
 adr:∀ s,(Hf s).map (·.2.1)=H0.map (·.2.1)
 here:∀ k,b k→k < w1.w.heap.size ∨ k ∈ H0.map (·.2.1)
def xHL (P:Program) (n:Nat) (ops:Array Oper) (Wf:σ→Base) (Hf:σ→Heap) (S:yV) (G:qZK) (o:Oper) (T:Pred):Prop:=∀ s',OpA P n (Wf s') ops (Hf s') S G o T
structure CertOkM (P:Program) (n:Nat) (ops:Array Oper) (b:Nat→Prop) (Wf:σ→Base) (Hf:σ→Heap) (H0:Heap) (es:List Nat) (i:Nat) (s s2:σ) (o:Oper) (c:Cert):Prop where
 dst:o.dst=some c.d
 lt:c.d < n
 nosel:zXW o=true
 stable:uHV b c.T
 op:(es.contains i=false∧s2=s∧xHL P n ops Wf Hf c.S c.G o c.T) ∨ (es.contains i=true∧OpE P n ops (Knows (Wf s) (Hf s)) (Knows (Wf s2) (Hf s2)) b c.S c.G o c.T)
 al:c.al=true→(es.contains i=false∧∀ s',kZF P n (Wf s') ops (Hf s') c.S c.G o)∧uHG H0 c.T
variable {b:Nat→Prop} {Wf:σ→Base} {Hf:σ→Heap} {H0:Heap} {es:List Nat} {w1:Base}
structure InvM (S0:yV) (Wf:σ→Base) (Hf:σ→Heap) (es:List Nat) (ss:Nat→σ) (N n:Nat) (cs:List Cert) (listed:Array Bool) (a:Act) (w:World):Prop where
 size:a.tmps.size=n
 defers:a.defers=[]
 old:∀ t v,look S0 t=some v→(∀ i c,cs[i]? = some c→c.d=t→listed.getD i false=false)→a.tmps[t]? = some v
 done:∀ i c,cs[i]? = some c→listed.getD i false=true→∃ u,a.tmps[c.d]? = some u∧c.T u w
 apart:∀ i j c c',cs[i]? = some c→cs[j]? = some c'→i ≠ j→c.al=true→c'.al=true→listed.getD i false=true→listed.getD j false=true→a.tmps[c.d]? ≠ a.tmps[c'.d]?
 knows:∃ m,m≤N∧Knows (Wf (ss m)) (Hf (ss m)) w∧∀ i,i < N→es.contains i=true→(listed.getD i false=true ↔ i < m)
variable {S0:yV}
variable {S:yV} {G:qZK} {K:σ→yV→qZK→Prop} {o:Oper} {l:List Oper} {d i:Nat} {s:σ}
end
end Go.Sx
namespace Go.Sx
section
variable {P:Program} {n:Nat} {w0:Base} {ops:Array Oper} {Q:Exit→Act→World→Prop} {S:yV} {H:Heap}
variable {d:Option Tmp} {ty:TypeId} {pos:String} {af:Array Edge} {g:Option (Nat × Bool)}
theorem qXW {t:Nat} {x y:Operand} {a i v:Value} (hx:ev S x=some a) (hy:ev S y=some i) (h:∀ w:World,(Instr.index t a i).run P w=.ok v w):OpV P w0 S H ⟨d,.index t x y,ty,pos,af,g⟩ v :=
 kY (by simp [yH,Op.operands,hx,hy]) rfl fun w _=>by simp [execOp,yY hx,yY hy,h w]
end
end Go.Sx
namespace Go.Sx
open Go.RowKit
def zWD (len size:Nat):List (Nat × Nat):=(List.range len).map fun i=>(i * size,size)
def rowZ (zs:List Value):Nat→List Value
 | 0=>[]
 | k + 1=>zs ++ rowZ zs k
theorem yHK {zs:List Value} (hz:0 < zs.length):∀ (len i:Nat),i < len * zs.length→(rowZ zs len)[i]? = zs[i % zs.length]?
 | 0,i,h=>by omega
 | k + 1,i,h=>by
  simp only [rowZ,List.getElem?_append];split
  ·rename_i hlt;rw [Nat.mod_eq_of_lt hlt]
  ·rename_i hge;rw [Nat.add_mul] at h;rw [yHK hz k (i - zs.length) (by omega)]
   congr 1
   exact (Nat.mod_eq_sub_mod (by omega)).symm
theorem qGB (zs:List Value):∀ len,(rowZ zs len).length=len * zs.length
 | 0=>by simp [rowZ]
 | k + 1=>by simp [rowZ,qGB zs k,Nat.add_mul]; omega
section
variable {P:Program} {n:Nat} {w0:Base} {ops:Array Oper} {Q:Exit→Act→World→Prop} {S:yV} {H:Heap}
theorem kZI (z:Value) (len:Nat) (hz:0 < z.cells.size):(Array.range (len * z.cells.size)).map (z.cells[· % z.cells.size]!)=(rowZ z.cells.toList len).toArray:=by
 apply Array.ext
 ·simp [qGB]
 ·intro i h1 h2;have hlt:i < len * z.cells.toList.length:=by simpa using h1
  have hg:=yHK (zs:=z.cells.toList) (by simpa using hz) len i hlt;have hm:i % z.cells.size < z.cells.size:=Nat.mod_lt _ hz;simp only [Array.getElem_map,Array.getElem_range,List.getElem_toArray];have hlt':i < (rowZ z.cells.toList len).length:=by rw [qGB]; exact hlt
  rw [vQK hlt'] at hg;have e1:z.cells.toList[i % z.cells.toList.length]? = some z.cells[i % z.cells.size]:=by
   simp [hm]
  rw [e1] at hg;rw [Option.some.inj hg];simp [hm]
theorem zVJ {t e size len:Nat} {z:Value} {parts:List (Nat × Value)} {cs:List Value} (hs:slcB P t e size=true) (hz:qJY P e z) (hzs:Nat.beq z.cells.size size=true) (h0:Nat.blt 0 size=true) (hl:Nat.ble (len * size) 16777216=true)
  (h1:Nat.blt 0 len=true) (hf:qGK (zWD len size) (rowZ z.cells.toList len) parts=some cs) (w:World) :
  (Instr.buildSlice t len parts.toArray).run P w=.ok (.slice (some ⟨w.heap.size,0,none⟩) len len) (w.alloc (.cells cs.toArray e)):=by
 have hzs':=vQX hzs;subst hzs';have h0':0 < z.cells.size:=by simpa using h0
 have h1':0 < len:=by simpa using h1
 have hl':len * z.cells.size≤16777216:=vZX hl;have hne:¬ len * z.cells.size=0:=by
  intro e;rcases Nat.mul_eq_zero.1 e with h | h <;> omega
 unfold slcB at hs;cases hu:P.underlying t with
 | none=>simp [hu] at hs
 | some ds =>
  cases ds <;> simp [hu] at hs
  rename_i e';obtain ⟨rfl,h2⟩:=hs;cases hi:P.info? e' with
  | none=>simp [hi] at h2
  | some inf =>
   simp [hi] at h2;have hfill:=yZJ (place:=fun i=>some (i * z.cells.size,z.cells.size)) (pl:=zWD len z.cells.size) (fun i x hx=>by
    simp only [zWD,vZY,vZW] at hx;obtain ⟨j,hj,rfl⟩:=hx
    have:=(List.getElem?_eq_some_iff.1 hj)
    simp at this;simp [this.2]) parts (rowZ z.cells.toList len) cs hf
   rw [← kZI z len h0'] at hfill;have hsz:(sizeOf e').run P w=.ok z.cells.size w:=by simp [sizeOf,typeInfo,hi,h2]
   simp only [Instr.buildSlice,Sem.run_bind,run_underlying hu,Result.andThen_ok,hsz,Sem.run_ite];rw [if_neg (by omega)];simp only [Sem.run_pure,Result.andThen_ok,if_neg hne,qHJ hz,Sem.run_bind];simp [hfill,newRow,hne,qHJ hz]
def RowT (w0:Base) (H:Heap) (cs:List Value) (e:TypeId) (len:Nat):Pred:=fun u w =>
 ∃ b,u=.slice (some ⟨b,0,none⟩) len len∧w0.w.heap.size≤b∧((∀ x ∈ H,x.2.1 ≠ b)∧∀ x ∈ w0.R,¬ x.2.1 b)∧w.heap[b]? = some (.cells cs.toArray e)
variable {d:Nat} {ty:TypeId} {pos:String} {af:Array Edge} {g:Option (Nat × Bool)}
theorem jJH {t e size len:Nat} {z:Value} {parts:List (Nat × Operand)} {vs:List (Nat × Value)} {cs:List Value} (hs:slcB P t e size=true) (hz:qJY P e z) (hzs:Nat.beq z.cells.size size=true) (h0:Nat.blt 0 size=true)
  (hl:Nat.ble (len * size) 16777216=true) (h1:Nat.blt 0 len=true) (hp:evp S parts=some vs) (hf:qGK (zWD len size) (rowZ z.cells.toList len) vs=some cs) :
  OpT P w0 S H ⟨some d,.buildSlice t len parts.toArray,ty,pos,af,g⟩ (RowT w0 H cs e len):=by
 obtain ⟨e1,hk⟩:=yZW hp;refine ⟨?_,rfl,fun w k => ?_⟩
 ·simp only [yH,Op.operands];rw [vYY];intro x hx;simp at hx;obtain ⟨i,hi⟩:=hx;exact hk _ hi
 ·have:=zVJ (P:=P) hs hz hzs h0 hl h1 hf w
  have h2:(parts.toArray.map fun (x:Nat × Operand)=>(x.1,evD S x.2))=vs.toArray:=by rw [← e1]; simp
  simp only [execOp];rw [h2];simp only [Sem.run_bind,this,Result.andThen_ok,Sem.run_pure,Yields];refine ⟨(Grow.refl w).alloc _,w.heap.size,rfl,k.grow.size,⟨fun x hx e => ?_,fun x hx hd => ?_⟩,?_⟩
  ·have:=qZC (k.has x hx).2
   omega
  ·have:=((k.facts x hx).at' _ hd).2.1
   omega
  ·show (w.heap.push _)[w.heap.size]? = _
   simp
theorem zGW {t e size len:Nat} {z:Value} {parts:List (Nat × Operand)} {vs:List (Nat × Value)} {cs:List Value} {l:List Oper} (id:Nat) (hs:slcB P t e size=true) (hz:qJY P e z) (hzs:Nat.beq z.cells.size size=true) (h0:Nat.blt 0 size=true)
  (hl:Nat.ble (len * size) 16777216=true) (h1:Nat.blt 0 len=true) (hp:evp S parts=some vs) (hf:qGK (zWD len size) (rowZ z.cells.toList len) vs=some cs)
  (hw:qQD ops S ⟨some d,.buildSlice t len parts.toArray,ty,pos,af,g⟩=some true) (hn:Nat.blt d n=true)
  (next:∀ b,DoL P n w0 ops Q l ((d,.slice (some ⟨b,0,none⟩) len len) :: S) ((id,b,cs,e) :: H)):DoL P n w0 ops Q (⟨some d,.buildSlice t len parts.toArray,ty,pos,af,g⟩ :: l) S H :=
 fWX (jJH hs hz hzs h0 hl h1 hp hf) hw rfl hn fun v a w f k ⟨b,hv,hb,⟨hno,hR⟩,hblk⟩=>by
  subst hv;refine next b a w f ⟨k.grow,fun x hx => ?_,?_,fun F hF=>(k.facts F hF).heap fun x hx => ?_,k.apart⟩
  ·rcases List.mem_cons.1 hx with rfl | hx
   ·exact ⟨hb,hblk⟩
   ·exact k.has x hx
  ·rw [List.map_cons,List.nodup_cons];refine ⟨fun hm => ?_,k.nodup⟩;obtain ⟨y,hy,he⟩:=List.mem_map.1 hm;exact hno y hy he
  ·rcases List.mem_cons.1 hx with rfl | hx
   ·exact .inr (hR F hF)
   ·exact .inl ⟨x,hx,rfl⟩
end
end Go.Sx
namespace Go.Sx
open Go.RowKit
structure IntsAt (w:World) (m:Nat) (sl:Value) (L:List Int):Prop where
 len:L.length≤9223372036854775807
 slice:∃ a cap,sl=.slice a L.length cap∧∀ j,j < L.length→∃ b off,a=some ⟨b,off,none⟩∧b < m∧w.cell? ⟨b,off + j,none⟩=some (.int .i64 (L.getD j 0))
def srcC (sl:Value) (L:List Int) (i:Nat):List Value:=[sl,.int .i64 ((min i L.length:Nat):Int)]
def srcW (w:World) (b:Nat) (sl:Value) (L:List Int) (i:Nat):World:=w.setRow b (srcC sl L i).toArray
structure SrcQ (w:World) (b:Nat) (sl:Value) (L:List Int) (i:Nat):Prop where
 blk:∃ ty,w.heap[b]? = some (.cells (srcC sl L i).toArray ty)
 ints:IntsAt w b sl L
theorem SrcQ.lt {w:World} {b:Nat} {sl:Value} {L:List Int} {i:Nat} (h:SrcQ w b sl L i):b < w.heap.size:=by
 obtain ⟨ty,h⟩:=h.blk;exact qZC h
theorem IntsAt.mono {w w':World} {m m':Nat} {sl:Value} {L:List Int} (h:IntsAt w m sl L) (_:m≤m') (hw:∀ k,k < m→w'.heap[k]? = w.heap[k]?):IntsAt w' m' sl L:=by
 obtain ⟨h1,a,cap,h2,h3⟩:=h;refine ⟨h1,a,cap,h2,fun j hj => ?_⟩;obtain ⟨b,off,e,hb,hc⟩:=h3 j hj;refine ⟨b,off,e,by omega,?_⟩;rw [← hc];exact World.cell?_of_block (w:=w) (hw b hb)
theorem SrcQ.w {w:World} {b:Nat} {sl:Value} {L:List Int} {i:Nat} (h:SrcQ w b sl L i) (j:Nat):SrcQ (srcW w b sl L j) b sl L j:=by
 obtain ⟨⟨ty,hb⟩,hi⟩:=h;exact ⟨⟨ty,setRow_heap w b _ _ ty _ hb⟩,hi.mono (Nat.le_refl _) fun k hk=>setRow_other w b k _ (by omega)⟩
theorem SrcQ.grow {w w':World} {b:Nat} {sl:Value} {L:List Int} {i:Nat} (h:SrcQ w b sl L i) (g:Grow w w'):SrcQ w' b sl L i:=by
 have hlt:=h.lt;obtain ⟨⟨ty,hb⟩,hi⟩:=h;exact ⟨⟨ty,by rw [g.block b hlt]; exact hb⟩,hi.mono (Nat.le_refl _) fun k hk=>g.block k (by omega)⟩
def Base.setRow (B:Base) (b:Nat) (cs:Array Value):Base:=⟨B.w.setRow b cs,B.R⟩
section
variable {P:Program} {n:Nat} {w0:Base} {ops:Array Oper} {Q:Exit→Act→World→Prop} {S:yV} {H:Heap}
variable {d:Nat} {ty:TypeId} {pos:String} {af:Array Edge} {g:Option (Nat × Bool)}
theorem yJU {dd:Option Tmp} {x:Operand} {a:Addr} (hx:ev S x=some (.pointer (some a))):OpV P w0 S H ⟨dd,.nilCheck x,ty,pos,af,g⟩ (.pointer (some a)) :=
 kY (by simp [yH,Op.operands,hx]) rfl fun w _=>by simp [execOp,yY hx]
theorem uXZ {t:TypeId} {p q:Bool} (hb:P.underlying t=some .bool) (w:World):(Op.equal t (.bool p) (.bool q)).run P w=.ok (p == q) w:=by
 unfold Op.equal;rw [show Op.maxDepth=9999 + 1 from rfl,Op.equalIn];simp [run_underlying hb]
theorem kUB {dd:Option Tmp} {x y:Operand} {t t':TypeId} {p q:Bool} (hb:P.underlying t=some .bool) (hx:ev S x=some (.bool p)) (hy:ev S y=some (.bool q)):OpV P w0 S H ⟨dd,.binOp .eql t x y t',ty,pos,af,g⟩ (.bool (p == q)) :=
 kY (by simp [yH,Op.operands,hx,hy]) rfl fun w _=>by simp [execOp,yY hx,yY hy,eqGuard,binOp,uXZ hb]
variable {α:Type} {F:α→Value} {x:α} {f:FuncId} {xs:List Operand} {ats:Array TypeId} {vs:List Value} {rest:List Oper}
variable {B:Base} {b i0 i j:Nat} {sl:Value} {L:List Int}
end
end Go.Sx
namespace Go.Sx
open Go.RowKit Go.ChangeShapes Go.WideShapes
section
variable {P:Program} {W:World} {H:Type} {enc:TypeId × Value→H}
theorem kKY {t e:TypeId} {v:Value} (ht:P.underlying t=some (.slice e)) {r:Reach} {base:Nat} (h:Value.okWide P W r base t v):∃ a l c,v=.slice a l c:=by
 simp only [Value.okWide,ht,Cell.okWide] at h;cases v <;> simp [Cell.ok,ht] at h
 exact ⟨_,_,_,rfl⟩
end
end Go.Sx
namespace Go.Sx
open Go.RowKit
section
variable {P:Program} {n:Nat} {w0:Base} {ops:Array Oper} {Q:Exit→Act→World→Prop} {S:yV} {H:Heap}
variable {d:Nat} {ty:TypeId} {pos:String} {af:Array Edge} {g:Option (Nat × Bool)}
theorem yJX {dd:Option Tmp} {fn:Fn} {xs ys:List Operand} {vs us:List Value} (h1:evs S xs=some vs) (h2:evs S ys=some us) :
  OpV P w0 S H ⟨dd,.makeFunc fn xs.toArray ys.toArray,ty,pos,af,g⟩ (.func fn vs.toArray us.toArray):=by
 obtain ⟨e1,k1⟩:=qVI h1;obtain ⟨e2,k2⟩:=qVI h2;refine kY ?_ rfl fun w _ => ?_
 ·simp only [yH,Op.operands];rw [vYY];intro x hx;simp at hx;rcases hx with hx | hx
  ·exact k1 x hx
  ·exact k2 x hx
 ·simp [execOp,Instr.makeFunc,e1,e2]
variable {f:FuncId} {xs:List Operand} {ats:Array TypeId} {vs:List Value} {rest:List Oper}
variable {K:yV→qZK→Prop} {G:qZK}
end
end Go.Sx
namespace Go.Sx
open Go.RowKit
abbrev yZL:=List (Nat × (Nat→Prop) × (World→Prop))
def zQZ:yZL→Nat→Option ((Nat→Prop) × (World→Prop))
 | [],_=>none
 | (k,x) :: R,i=>bif Nat.beq k i then some x else zQZ R i
theorem yJL {R:yZL} {i:Nat} {x:(Nat→Prop) × (World→Prop)} (h:zQZ R i=some x):∃ k,(k,x) ∈ R:=by
 induction R with
 | nil=>cases h
 | cons y R ih =>
  obtain ⟨k,y⟩:=y;simp only [zQZ] at h;cases hb:Nat.beq k i with
  | true=>rw [hb] at h; simp at h; subst h; exact ⟨k,vZQ⟩
  | false=>rw [hb] at h; simp at h; obtain ⟨k',hk⟩:=ih h; exact ⟨k',vQH _ hk⟩
def updR:yZL→Nat→(Nat→Prop)→(World→Prop)→Option yZL
 | [],_,_,_=>none
 | (k,x) :: R,i,D,F=>bif Nat.beq k i then some ((k,D,F) :: R) else qWD (k,x) (updR R i D F)
theorem yYQ {R R':yZL} {i:Nat} {D:Nat→Prop} {F:World→Prop} (h:updR R i D F=some R'):∃ R1 R2 k x,R=R1 ++ (k,x) :: R2∧R'=R1 ++ (k,D,F) :: R2∧zQZ R i=some x:=by
 induction R generalizing R' with
 | nil=>cases h
 | cons y R ih =>
  obtain ⟨k,y⟩:=y;simp only [updR] at h;cases hb:Nat.beq k i with
  | true=>rw [hb] at h; simp at h; subst h; exact ⟨[],R,k,y,rfl,rfl,by simp [zQZ,hb]⟩
  | false =>
   rw [hb] at h;obtain ⟨R2,h2,rfl⟩:=qQC h;obtain ⟨A,B,k',x,e1,e2,e3⟩:=ih h2;exact ⟨(k,y) :: A,B,k',x,by rw [e1]; rfl,by rw [e2]; rfl,by simp [zQZ,hb,e3]⟩
def Holds (w0:Base) (F:World→Prop):Prop:=∀ (H:Heap) (w:World),Knows w0 H w→F w
theorem qWV {w0:Base} {id:Nat} {D:Nat→Prop} {F:World→Prop} (h:zQZ w0.R id=some (D,F)):Holds w0 F:=fun _ _ k=>by
 obtain ⟨j,hj⟩:=yJL h;exact (k.facts _ hj).holds
theorem Knows.forget {w1:World} {x:Nat × (Nat→Prop) × (World→Prop)} {R:yZL} {H:Heap} {w:World} (k:Knows ⟨w1,x :: R⟩ H w):Knows ⟨w1,R⟩ H w :=
 ⟨k.grow,k.has,k.nodup,fun y hy=>k.facts y (vQH _ hy),(List.pairwise_cons.1 k.apart).2⟩
theorem Holds.more {w0:Base} {F:World→Prop} (h:Holds w0 F) (x:Nat × (Nat→Prop) × (World→Prop)):Holds ⟨w0.w,x :: w0.R⟩ F:=fun H w k=>h H w k.forget
theorem Holds.imp {w0:Base} {F G:World→Prop} (h:Holds w0 F) (hi:∀ w,F w→G w):Holds w0 G:=fun H w k=>hi w (h H w k)
def kHX {X:Type} (Φ:X→Prop) (V:X→Value) (F:X→World→Prop) (w:World) (e:Ending) (w':World):Prop:=∃ x,Φ x∧e=.returned (V x)∧Grow w w'∧Told w.heap.size (F x) w'
section
variable {P:Program} {n:Nat} {w0:Base} {ops:Array Oper} {Q:Exit→Act→World→Prop} {S:yV} {H:Heap}
variable {d:Nat} {ty:TypeId} {pos:String} {af:Array Edge} {g:Option (Nat × Bool)}
variable {f:FuncId} {xs:List Operand} {ats:Array TypeId} {vs:List Value} {rest:List Oper} {X:Type} {Φ:X→Prop} {V:X→Value} {F:X→World→Prop}
variable {B:Base} {b i0 i j:Nat} {sl:Value} {L:List Int}
def ownD (a:Option Addr):Nat→Prop:=fun k=>∃ ad,a=some ad∧ad.block=k
def OwnF (m:Nat) (e:TypeId) (size:Nat) (a:Option Addr) (cap k:Nat) (ys:List Value):World→Prop:=fun w=>w.ownsRow m e size (.slice a k cap) k ys
theorem yXF (m:Nat) (e:TypeId) (size:Nat) (a:Option Addr) (cap k:Nat) (ys:List Value):qKC (ownD a) (OwnF m e size a cap k ys):=fun w w' h hF=>by
 obtain ⟨h1,h2⟩:=hF;refine ⟨h1,?_⟩;rcases h2 with h2 | ⟨gg,cp,cur,hv,h3,h4,h5⟩
 ·exact .inl h2
 ·refine .inr ⟨gg,cp,cur,hv,h3,?_,h5⟩;simp only [Value.slice.injEq] at hv;rw [h gg ⟨_,hv.1,rfl⟩];exact h4
theorem uGE {c:Code} (id:Nat) (e:TypeId) (size:Nat) (h:DoC P n ⟨w0.w,(id,ownD none,OwnF 0 e size none 0 0 []) :: w0.R⟩ Q c S H):DoC P n w0 Q c S H:=fun a w f k =>
 h a w f ⟨k.grow,k.has,k.nodup,fun x hx=>by
  rcases List.mem_cons.1 hx with rfl | hx
  ·exact ⟨yXF _ _ _ _ _ _ _,fun j ⟨_,hj,_⟩=>(by cases hj),World.ownsRow_nil _ _ _ _⟩
  ·exact k.facts x hx,List.Pairwise.cons (fun y _ j ⟨_,hj,_⟩=>by cases hj) k.apart⟩
def appB (P:Program) (t e size bytes:Nat):Bool :=
 match P.underlying t,P.info? e with
 | some (.slice e'),some i=>e' == e && i.size == size && i.bytes == bytes && Nat.blt 0 size && (match i.zero with | some z=>z.cells.size == size | none=>false)
 | _,_=>false
theorem qXC {w:World} {t e size bytes base:Nat} {ty:TypeId} (hB:appB P t e size bytes=true) {v:Value} {k:Nat} {ys:List Value} (hown:w.ownsRow base e size v k ys)
  {ad:Addr} {m c:Nat} {news:List Value} (hm:0 < m) (hl:news.length=m * size) (hnews:∀ j u,news[j]? = some u→w.cell? (ad.add j)=some u) (h1:∀ u ∈ news,u.oneCell'=true)
  (h63:k + m≤9223372036854775807) (hby:(k + m) * bytes≤140737488355328) (hbase:base≤w.heap.size) :
  ∃ gg cap w',(Builtin.append_ #[t,t] ty #[v,.slice (some ad) m c]).run P w=.ok (.slice (some ⟨gg,0,none⟩) (k + m) cap) w'∧w'.ownsRow base e size (.slice (some ⟨gg,0,none⟩) (k + m) cap) (k + m) (ys ++ news)∧w.grownBy w' v.ownBlock ∧
   (v.ownBlock=some gg ∨ w.heap.size≤gg):=by
 unfold appB at hB;cases hu:P.underlying t with
 | none=>simp [hu] at hB
 | some ds =>
  cases ds <;> simp [hu] at hB
  rename_i e';cases hi:P.info? e with
  | none=>simp [hi] at hB
  | some i =>
   simp [hi] at hB;obtain ⟨⟨⟨⟨rfl,h2⟩,h3⟩,h4⟩,h5⟩:=hB;cases hz:i.zero with
   | none=>simp [hz] at h5
   | some z =>
    simp [hz] at h5;have hmax:maxLen=9223372036854775807:=rfl;obtain ⟨v',w',hr,ho,hg,hiff⟩:=run_append_own (P:=P) w base t ty e' i z size bytes hu hi hz h2 h3 h5 h4 v k ys hown ad m c news hl hnews h1 (by omega) hby hbase;rcases ho.2 with ⟨rfl,h0⟩ | ⟨gg,cap,cur,rfl,hbg,hgg,_⟩
    ·omega
    ·refine ⟨gg,cap,w',hr,ho,hg,?_⟩;rcases Nat.lt_or_ge gg w.heap.size with hlt | hge
     ·left
      -- the block lay there before: it is the slice's own
      subst h2;rcases hown.2 with ⟨rfl,hk0⟩ | ⟨g0,cap0,cur0,rfl,hb0,hg0,hkc,hcm,hcs,htake⟩
      ·exfalso;have hr2:=run_append_nil (P:=P) w t ty e' i z hu hi hz ad m c news hl hnews hm (by omega) (by have:=hby; subst hk0; subst h3; rw [Nat.zero_add] at this; omega);rw [hr] at hr2;simp only [Result.ok.injEq,Value.slice.injEq,vQZ,Addr.mk.injEq] at hr2;omega
      ·by_cases hroom:k + m≤cap0
       ·have hfit:k * i.size + news.length≤cur0.size:=by rw [hl,hcs,← Nat.add_mul]; exact Nat.mul_le_mul_right _ hroom
        have hr2:=run_append_room (P:=P) w t ty e' i hu hi g0 k cap0 cur0 hg0 ad m c news hl hnews h1 hroom hfit;rw [hr] at hr2;simp only [Result.ok.injEq,Value.slice.injEq,vQZ,Addr.mk.injEq] at hr2;simp [Value.ownBlock,hr2.1.1.1]
       ·exfalso;have holds:∀ j u,ys[j]? = some u→w.cell? ((⟨g0,0,none⟩:Addr).add j)=some u:=hown.cells (g:=g0) rfl;subst h3;have hr2:=run_append_grow (P:=P) w t ty e' i z hu hi hz ⟨g0,0,none⟩ k cap0 ys hown.1 holds ad m c news hl hnews (by omega) (by omega) (growslice_fits (by omega) hby);rw [hr] at hr2;simp only [Result.ok.injEq,Value.slice.injEq,vQZ,Addr.mk.injEq] at hr2;omega
     ·exact .inr hge
theorem Knows.append {w w':World} {R':yZL} {id e size cap cap' k m gg:Nat} {a:Option Addr} {ys news:List Value} (hk:Knows w0 H w) (hR:zQZ w0.R id=some (ownD a,OwnF 0 e size a cap k ys))
  (ho:w'.ownsRow 0 e size (.slice (some ⟨gg,0,none⟩) (k + m) cap') (k + m) (ys ++ news)) (hg:w.grownBy w' (Value.slice a k cap).ownBlock)
  (hgg:(Value.slice a k cap).ownBlock=some gg ∨ w.heap.size≤gg) (hu:updR w0.R id (ownD (some ⟨gg,0,none⟩)) (OwnF 0 e size (some ⟨gg,0,none⟩) cap' (k + m) (ys ++ news))=some R'):Knows ⟨w0.w,R'⟩ H w':=by
 obtain ⟨R1,R2,kk,x,e1,e2,e3⟩:=yYQ hu;rw [hR] at e3;cases e3;have hmem:(kk,ownD a,OwnF 0 e size a cap k ys) ∈ w0.R:=by rw [e1]; simp
 have hfa:=hk.facts _ hmem;have blk:∀ q,(Value.slice a k cap).ownBlock=some q→ownD a q:=fun q hq=>by
  cases a with
  | none=>simp [Value.ownBlock] at hq
  | some ad=>simp [Value.ownBlock] at hq; exact ⟨ad,rfl,hq⟩
 have hlow:∀ q,q < w.heap.size→¬ ownD a q→w'.heap[q]? = w.heap[q]?:=fun q hq hn=>hg.block q hq fun e=>hn (blk q e.symm)
 have hgt:gg < w'.heap.size:=by
  rcases ho.2 with ⟨h,_⟩ | ⟨g',c',cur,h,_,h4,_⟩
  ·simp at h
  ·simp only [Value.slice.injEq,vQZ,Addr.mk.injEq,and_true] at h;rw [h.1];exact qZC h4
 have hgm:w0.w.heap.size≤gg:=by
  rcases hgg with h | h
  ·exact (hfa.at' gg (blk gg h)).1
  ·exact Nat.le_trans hk.grow.size h
 have hap:=hk.apart;rw [e1] at hap;have hap1:=List.pairwise_append.1 hap;have hap2:=List.pairwise_cons.1 hap1.2.1
 -- the new block is none of another fact's
 have others:∀ y ∈ R1 ++ R2,¬ y.2.1 gg:=fun y hy hd=>by
  have hy0:y ∈ w0.R:=by
   rw [e1];rcases List.mem_append.1 hy with h | h
   ·exact List.mem_append_left _ h
   ·exact List.mem_append_right _ (vQH _ h)
  rcases hgg with h | h
  ·rcases List.mem_append.1 hy with h' | h'
   ·exact hap1.2.2 y h' _ vZQ gg hd (blk gg h)
   ·exact hap2.1 y h' gg (blk gg h) hd
  ·have:=((hk.facts y hy0).at' gg hd).2.1
   omega
 have keepF:∀ y ∈ R1 ++ R2,RFact w0.w.heap.size H y.2.1 y.2.2 w':=fun y hy=>by
  have hy0:y ∈ w0.R:=by
   rw [e1];rcases List.mem_append.1 hy with h | h
   ·exact List.mem_append_left _ h
   ·exact List.mem_append_right _ (vQH _ h)
  obtain ⟨q1,q2,q3⟩:=hk.facts y hy0;refine ⟨q1,fun q hq=>⟨(q2 q hq).1,vZK (q2 q hq).2.1 hg.size,(q2 q hq).2.2⟩,q1 w w' (fun q hq=>hlow q (q2 q hq).2.1 fun ho' => ?_) q3⟩;rcases List.mem_append.1 hy with h' | h'
  ·exact hap1.2.2 y h' _ vZQ q hq ho'
  ·exact hap2.1 y h' q ho' hq
 refine ⟨⟨hg.os.trans hk.grow.os,hg.tape.trans hk.grow.tape,hg.output.trans hk.grow.output,Nat.le_trans hk.grow.size hg.size,fun q hq => ?_⟩,fun y hy=>⟨(hk.has y hy).1,?_⟩,hk.nodup,fun y hy => ?_,?_⟩
 ·have hq':q < w0.w.heap.size:=hq;rw [hlow q (vZK hq' hk.grow.size) fun hd=>by have:=(hfa.at' q hd).1; omega];exact hk.grow.block q hq'
 ·rw [hlow _ (qZC (hk.has y hy).2) fun hd=>(hfa.at' _ hd).2.2 y hy rfl];exact (hk.has y hy).2
 ·rw [show (⟨w0.w,R'⟩:Base).R=R' from rfl,e2] at hy;rcases List.mem_append.1 hy with h | h
  ·exact keepF y (List.mem_append_left _ h)
  ·rcases List.mem_cons.1 h with rfl | h
   ·refine ⟨yXF _ _ _ _ _ _ _,fun q ⟨ad,had,hq⟩ => ?_,ho⟩;simp only [vQZ] at had;subst had;simp only at hq;subst hq;refine ⟨hgm,hgt,fun y hy e => ?_⟩;rcases hgg with h | h
    ·exact (hfa.at' gg (blk gg h)).2.2 y hy e
    ·have:=hk.lt y hy
     omega
   ·exact keepF y (List.mem_append_right _ h)
 ·show R'.Pairwise _;rw [e2];refine List.pairwise_append.2 ⟨hap1.1,List.pairwise_cons.2 ⟨fun y hy q ⟨ad,had,hq⟩ hd => ?_,hap2.2⟩,fun y hy z hz q hyq hzq => ?_⟩
  ·simp only [vQZ] at had;subst had;simp only at hq;subst hq;exact others y (List.mem_append_right _ hy) hd
  ·rcases List.mem_cons.1 hz with rfl | hz
   ·obtain ⟨ad,had,hq⟩:=hzq;simp only [vQZ] at had;subst had;simp only at hq;subst hq;exact others y (List.mem_append_left _ hy) hyq
   ·exact hap1.2.2 y hy z (vQH _ hz) q hyq hzq
theorem yGU {t e size bytes id cap k m b2 c2:Nat} {e2:TypeId} {a:Option Addr} {ys news:List Value} {x y:Operand} {act:Act} {w:World} (hB:appB P t e size bytes=true) (hR:zQZ w0.R id=some (ownD a,OwnF 0 e size a cap k ys))
  (hx:ev S x=some (.slice a k cap)) (hy:ev S y=some (.slice (some ⟨b2,0,none⟩) m c2)) (hblk:w.heap[b2]? = some (.cells news.toArray e2)) (hm:Nat.blt 0 m=true) (hl:Nat.beq news.length (m * size)=true) (h1:news.all Value.oneCell'=true)
  (h63:k + m≤9223372036854775807) (hby:(k + m) * bytes≤140737488355328) (fi:Fits n S act) (hk:Knows w0 H w)
  (hw:qQD ops S ⟨some d,.call ⟨.builtin .append,#[x,y],#[t,t]⟩,ty,pos,af,g⟩=some true) (hn:Nat.blt d n=true)
  (next:∀ a' cap' R' act' w',updR w0.R id (ownD a') (OwnF 0 e size a' cap' (k + m) (ys ++ news))=some R'→Fits n ((d,.slice a' (k + m) cap') :: S) act'→Knows ⟨w0.w,R'⟩ H w'→wpList P ops Q rest act' w') :
  wpList P ops Q (⟨some d,.call ⟨.builtin .append,#[x,y],#[t,t]⟩,ty,pos,af,g⟩ :: rest) act w:=by
 obtain ⟨kk,hmem⟩:=yJL hR;have hown:w.ownsRow 0 e size (.slice a k cap) k ys:=(hk.facts _ hmem).holds;have hl':=vQX hl;have hm':0 < m:=by simpa using hm
 obtain ⟨gg,cap',w',hr,ho,hg,hgg⟩:=qXC (P:=P) (ty:=ty) hB hown (ad:=⟨b2,0,none⟩) (c:=c2) hm' hl' (fun j u hu=>by
   rw [qUZ,qVG hblk,Nat.zero_add]; exact hu) (fun u hu=>List.all_eq_true.1 h1 u hu) h63 hby (Nat.zero_le _)
 obtain ⟨R',hR'⟩:∃ R',updR w0.R id (ownD (some ⟨gg,0,none⟩)) (OwnF 0 e size (some ⟨gg,0,none⟩) cap' (k + m) (ys ++ news))=some R':=by
  have:∀ R:yZL,zQZ R id=some (ownD a,OwnF 0 e size a cap k ys)→∃ R',updR R id (ownD (some ⟨gg,0,none⟩)) (OwnF 0 e size (some ⟨gg,0,none⟩) cap' (k + m) (ys ++ news))=some R':=by
   intro R;induction R with
   | nil=>intro h; cases h
   | cons z R ih =>
    obtain ⟨q,z⟩:=z;intro h;simp only [zQZ] at h;simp only [updR];cases hb:Nat.beq q id with
    | true=>exact ⟨_,rfl⟩
    | false =>
     rw [hb] at h;obtain ⟨R2,h2⟩:=ih h;exact ⟨_,by simp only [h2,qWD]; rfl⟩
  exact this _ hR
 unfold wpList;rw [qJU fi hw,if_pos rfl];refine .inl ?_;unfold Oper.wp;have hrun:(execOp act.eval ⟨some d,.call ⟨.builtin .append,#[x,y],#[t,t]⟩,ty,pos,af,g⟩).run P w=.ok (.value (.slice (some ⟨gg,0,none⟩) (k + m) cap')) w':=by
  simp [execOp,resolve,invoke,builtin,fi.ev hx,fi.ev hy,hr]
 rw [hrun];exact next _ _ R' _ _ hR' (fi.put hn _) (hk.append hR ho hg hgg hR')
theorem zGV {t e size bytes id2 cap k m b2 c2:Nat} {e2:TypeId} {a:Option Addr} {ys news:List Value} {x y:Operand} (id:Nat) (hB:appB P t e size bytes=true) (hR:zQZ w0.R id=some (ownD a,OwnF 0 e size a cap k ys))
  (hx:ev S x=some (.slice a k cap)) (hy:ev S y=some (.slice (some ⟨b2,0,none⟩) m c2)) (hH:qWC H id2=some (b2,news,e2)) (hm:Nat.blt 0 m=true) (hl:Nat.beq news.length (m * size)=true) (h1:news.all Value.oneCell'=true)
  (h63:k + m≤9223372036854775807) (hby:(k + m) * bytes≤140737488355328)
  (hw:qQD ops S ⟨some d,.call ⟨.builtin .append,#[x,y],#[t,t]⟩,ty,pos,af,g⟩=some true) (hn:Nat.blt d n=true)
  (next:∀ a' cap' R',updR w0.R id (ownD a') (OwnF 0 e size a' cap' (k + m) (ys ++ news))=some R'→DoL P n ⟨w0.w,R'⟩ ops Q rest ((d,.slice a' (k + m) cap') :: S) H) :
  DoL P n w0 ops Q (⟨some d,.call ⟨.builtin .append,#[x,y],#[t,t]⟩,ty,pos,af,g⟩ :: rest) S H:=fun act w fi hk =>
 yGU hB hR hx hy (hk.at hH).2 hm hl h1 h63 hby fi hk hw hn fun a' cap' R' act' w' h2 h3 h4=>next a' cap' R' h2 act' w' h3 h4
def AllIn (S:yV):yV→Prop
 | []=>True
 | (t,v) :: r=>look S t=some v∧AllIn S r
theorem Fits.all {S':yV} {a:Act} (f:Fits n S a) (h:AllIn S S'):Fits n S' a:=by
 refine ⟨f.size,f.defers,fun t v ht=>f.has t v ?_⟩;induction S' with
 | nil=>cases ht
 | cons x S' ih =>
  obtain ⟨k,u⟩:=x;by_cases e:k=t
  ·subst e;rw [qQA] at ht;cases ht;exact h.1
  ·rw [qZZ _ _ e] at ht;exact ih h.2 ht
def yUB (H:Heap):Heap→Prop
 | []=>True
 | (k,x) :: r=>qWC H k=some x∧yUB H r
theorem jQI {H:Heap} {i:Nat} {x:Nat × List Value × TypeId} (h:qWC H i=some x):(i,x) ∈ H:=by
 induction H with
 | nil=>cases h
 | cons y H ih =>
  obtain ⟨k,y⟩:=y;simp only [qWC] at h;cases hb:Nat.beq k i with
  | true =>
   rw [hb] at h; simp at h; subst h;rw [vQX hb];exact vZQ
  | false=>rw [hb] at h; simp at h; exact vQH _ (ih h)
theorem jHB:∀ {H:Heap},(H.map (·.2.1)).Nodup→∀ p ∈ H,∀ q ∈ H,p.2.1=q.2.1→p=q:=by
 intro H;induction H with
 | nil=>intro _ p hp; cases hp
 | cons z H ih =>
  intro nd p hp q hq e;rw [List.map_cons,List.nodup_cons] at nd;rcases List.mem_cons.1 hp with p1 | p1
  ·rcases List.mem_cons.1 hq with q1 | q1
   ·rw [p1,q1]
   ·exact absurd (List.mem_map.2 ⟨q,q1,by rw [← e,p1]⟩) nd.1
  ·rcases List.mem_cons.1 hq with q1 | q1
   ·exact absurd (List.mem_map.2 ⟨p,p1,by rw [e,q1]⟩) nd.1
   ·exact ih nd.2 p p1 q q1 e
def idsB:Heap→Bool
 | []=>true
 | (k,_) :: r => !(r.any fun x=>Nat.beq x.1 k) && idsB r
theorem Knows.all {w:World} {H':Heap} (k:Knows w0 H w) (h:yUB H H') (hp:idsB H'=true):Knows w0 H' w:=by
 have hm:∀ x ∈ H',qWC H x.1=some x.2:=by
  clear hp
  induction H' with
  | nil=>intro x hx; cases hx
  | cons z H' ih =>
   intro x hx;rcases List.mem_cons.1 hx with rfl | hx
   ·exact h.1
   ·exact ih h.2 x hx
 have nd:(H'.map (·.2.1)).Nodup:=by
  clear h
  induction H' with
  | nil=>exact List.nodup_nil
  | cons z H' ih =>
   obtain ⟨kz,z⟩:=z;simp only [idsB,vQJ,Bool.not_eq_true'] at hp;rw [List.map_cons,List.nodup_cons];refine ⟨fun hz => ?_,ih hp.2 fun x hx=>hm x (vQH _ hx)⟩;obtain ⟨y,hy,he⟩:=List.mem_map.1 hz;have h1:=jQI (hm _ vZQ);have h2:=jQI (hm _ (vQH _ hy));have h3:=jHB k.nodup _ h2 _ h1 he;have h4:y.1=kz:=congrArg Prod.fst h3;have h5:=List.any_eq_false.1 hp.1 y hy;rw [h4] at h5;simp at h5
 refine ⟨k.grow,fun x hx => ?_,nd,fun F hF=>(k.facts F hF).heap fun x hx => ?_,k.apart⟩
 ·obtain ⟨kx,b,cs,t⟩:=x;exact k.at (hm _ hx)
 ·obtain ⟨l,hl⟩:=zQY (hm x hx);exact .inl ⟨_,hl,rfl⟩
theorem AllIn.app {A C:yV} (h:AllIn S A) (h':AllIn S C):AllIn S (A ++ C):=by
 induction A with
 | nil=>exact h'
 | cons x A ih=>exact ⟨h.1,ih h.2⟩
theorem jHY {ks:List Nat} {S':yV} (h:zXC ks S=some S'):AllIn S S':=by
 have hs:=zYU h
 -- each entry of a kept list is looked up as itself
 have own:∀ (ks:List Nat) (S S':yV),zXC ks S=some S'→∀ A C t v,S'=A ++ (t,v) :: C→look S' t=some v:=by
  intro ks S;induction S generalizing ks with
  | nil=>intro S' h A C t v e; simp [zXC] at h; subst h; simp at e
  | cons x S ih =>
   obtain ⟨k,u⟩:=x;intro S' h A C t v e;simp only [zXC] at h;cases hb:ks.any (Nat.beq k) with
   | false=>rw [hb] at h; simp at h; exact ih ks S' h A C t v e
   | true =>
    rw [hb] at h;obtain ⟨S2,h2,rfl⟩:=qQC h;cases A with
    | nil =>
     simp only [List.nil_append,List.cons.injEq,vQY] at e;obtain ⟨⟨rfl,rfl⟩,_⟩:=e;exact qQA _ _ _
    | cons y A =>
     simp only [List.cons_append,List.cons.injEq] at e;have h3:=ih _ S2 h2 A C t v e.2;have hne:k ≠ t:=fun hk=>by
      have:=(zYU h2 t v h3).2
      rw [List.mem_filter] at this;have h4:=this.2;rw [hk] at h4;simp at h4
     rw [qZZ _ _ hne];exact h3
 have all:∀ C:yV,(∀ A,S'=A ++ C→AllIn S C):=by
  intro C;induction C with
  | nil=>intro _ _; trivial
  | cons x C ih =>
   intro A e;obtain ⟨t,v⟩:=x;exact ⟨(hs t v (own ks S S' h A C t v e)).1,ih (A ++ [(t,v)]) (by rw [e]; simp)⟩
 exact all S' [] rfl
def xZH {α:Type} (n:Nat) (μ:α→Nat) (I:α→Prop) (Wb:α→Base) (St:α→yV) (He:α→Heap) (a:α):Act→World→Prop:=fun act w=>∃ a',I a'∧μ a' < μ a∧Fits n (St a') act∧Knows (Wb a') (He a') w
theorem kGA {α:Type} {c:Code} {μ:α→Nat} {I:α→Prop} {Wb:α→Base} {St:α→yV} {He:α→Heap}
  (h:∀ a,I a→DoC P n (Wb a) (Exit.then (xZH n μ I Wb St He a) Q) c (St a) (He a)):∀ a,I a→DoC P n (Wb a) Q (.loop c) (St a) (He a):=by
 have key:∀ (N:Nat) (a:α),I a→μ a < N→∀ act w,Fits n (St a) act→Knows (Wb a) (He a) w→Code.rounds P c Q N act w:=by
  intro N;induction N with
  | zero=>intro a _ hlt; omega
  | succ N ih =>
   intro a ha hlt act w hf hk;rw [rounds_succ];refine wp_mono (h a ha act w hf hk) fun e act' w' hq => ?_
   cases e with
   | normal =>
    obtain ⟨a',h1,h2,h3,h4⟩:=hq;exact ih a' h1 (by omega) act' w' h3 h4
   | _=>exact hq
 exact fun a ha act w hf hk=>wp_loop_rounds (μ a + 1) (key (μ a + 1) a ha (by omega) act w hf hk)
theorem qVC {α:Type} {μ:α→Nat} {I:α→Prop} {Wb:α→Base} {St:α→yV} {He:α→Heap} {a:α} {w1:Base} (a':α) (hI:I a') (hμ:μ a' < μ a) (hb:w1=Wb a') (hS:AllIn S (St a')) (hH:yUB H (He a')) (hid:idsB (He a')=true) :
  qKG n w1 (Exit.then (xZH n μ I Wb St He a) Q) .normal S H:=fun act w f k=>by
 subst hb;exact ⟨a',hI,hμ,f.all hS,k.all hH hid⟩
theorem uGD {c:Code} {S':yV} {H':Heap} (hS:AllIn S S') (hH:yUB H H') (hid:idsB H'=true) (h:DoC P n w0 Q c S' H'):DoC P n w0 Q c S H:=fun a w f k=>h a w (f.all hS) (k.all hH hid)
theorem yKI {α:Type} {c:Code} {Sf:yV} {Hf:Heap} (ks ids:List Nat) (μ:α→Nat) (I:α→Prop) (Wb:α→Base) (chg:α→yV) (chgH:α→Heap) (a0:α) (hK:zXC ks S=some Sf) (_:yVH ids H=some Hf) (h0:I a0) (hb:w0=Wb a0) (hS:AllIn S (chg a0)) (hH:yUB H (chgH a0 ++ Hf)) (hid:idsB (chgH a0 ++ Hf)=true)
  (round:∀ a,I a→DoC P n (Wb a) (Exit.then (xZH n μ I Wb (fun x=>chg x ++ Sf) (fun x=>chgH x ++ Hf) a) Q) c (chg a ++ Sf) (chgH a ++ Hf)):DoC P n w0 Q (.loop c) S H:=by
 subst hb;exact uGD (AllIn.app hS (jHY hK)) hH hid (kGA round a0 h0)
theorem Told.imp {m:Nat} {D:Nat→Prop} {F G:World→Prop} {w:World} (hD:qKC D G) (hb:∀ q,D q→m≤q∧q < w.heap.size) (h:G w):Told m G w:=⟨D,hD,hb,h⟩
end
end Go.Sx
namespace Go.Sx
open Go.RowKit
def qJA (sz:Nat) (a:Option Addr) (rows:List (List Value)) (w:World):Prop :=
 ∀ j r,rows[j]? = some r→r.length=sz∧∃ b off,a=some ⟨b,off,none⟩∧b < w.heap.size∧∀ k,k < sz→w.cell? ⟨b,off + j * sz + k,none⟩=r[k]?
theorem uUB (sz:Nat) (a:Option Addr) (rows:List (List Value)):qKC (ownD a) (qJA sz a rows):=fun w w' h hS j r hj=>by
 obtain ⟨h1,b,off,ha,hb,hc⟩:=hS j r hj;have hw:=h b ⟨_,ha,rfl⟩;refine ⟨h1,b,off,ha,?_,fun k hk => ?_⟩
 ·have:w'.heap[b]? = some w.heap[b]:=by rw [hw]; exact vZU hb
  exact qZC this
 ·rw [← hc k hk];exact World.cell?_of_block (w:=w) hw
theorem kKJ {sz:Nat} {a:Option Addr} {rows:List (List Value)} {w w':World} (h:qJA sz a rows w) (g:Grow w w'):qJA sz a rows w':=fun j r hj=>by
 obtain ⟨h1,b,off,ha,hb,hc⟩:=h j r hj;exact ⟨h1,b,off,ha,vZK hb g.size,fun k hk=>by rw [← hc k hk]; exact World.cell?_of_block (w:=w) (g.block b hb)⟩
theorem qQJ {w0:Base} {sz:Nat} {a:Option Addr} {rows:List (List Value)} (h:qJA sz a rows w0.w):Holds w0 (qJA sz a rows):=fun _ _ k=>kKJ h k.grow
theorem qVF {sz:Nat}:∀ (rows:List (List Value)),(∀ r ∈ rows,r.length=sz)→∀ j r,rows[j]? = some r→∀ k,k < sz→rows.flatten[j * sz + k]? = r[k]?
 | [],_,j,r,hj,_,_=>by simp at hj
 | q :: rows,hs,0,r,hj,k,hk=>by
  simp at hj;subst hj
  have:=hs q vZQ
  simp only [List.flatten_cons,Nat.zero_mul,Nat.zero_add];rw [List.getElem?_append_left (by omega)]
 | q :: rows,hs,j + 1,r,hj,k,hk=>by
  simp only [List.getElem?_cons_succ] at hj;have hq:=hs q vZQ
  have:=qVF rows (fun r hr=>hs r (vQH _ hr)) j r hj k hk
  simp only [List.flatten_cons];rw [List.getElem?_append_right (by rw [hq,Nat.add_mul]; omega),← this]
  congr 1
  rw [hq,Nat.add_mul];omega
theorem zHV {m e sz cap:Nat} {a:Option Addr} {rows:List (List Value)} {w:World} (hs:∀ r ∈ rows,r.length=sz) (h:OwnF m e sz a cap rows.length rows.flatten w):qJA sz a rows w:=fun j r hj=>by
 have hlt:=(List.getElem?_eq_some_iff.1 hj).1;have hr:=hs r (vQG hj);refine ⟨hr,?_⟩;rcases h.2 with ⟨h1,h2⟩ | ⟨gg,cp,cur,hv,hm,hg,hc1,hc2,hcs,htake⟩
 ·omega
 ·simp only [Value.slice.injEq] at hv;refine ⟨gg,0,hv.1,qZC hg,fun k hk => ?_⟩;have hlt2:j * sz + k < rows.length * sz:=by
   have h1:=Nat.mul_le_mul_right sz (show j + 1≤rows.length by omega);rw [Nat.add_mul] at h1;omega
  rw [← qVF rows hs j r hj k hk,← htake,vZV,if_pos hlt2];simp [World.cell?,hg]
def pAt (a:Option Addr) (k:Nat):Value:=match a with
 | some ad=>.pointer (some ⟨ad.block,ad.off + k,none⟩)
 | none=>undef
section
variable {P:Program} {n:Nat} {w0:Base} {ops:Array Oper} {Q:Exit→Act→World→Prop} {S:yV} {H:Heap}
variable {d:Option Tmp} {ty:TypeId} {pos:String} {af:Array Edge} {g:Option (Nat × Bool)}
variable {sz:Nat} {a:Option Addr} {rows:List (List Value)} {r:List Value}
theorem qZB {t e len cap j:Nat} {x y:Operand} {kd:IntKind} {i:Int} (hS:Holds w0 (qJA sz a rows)) (hA:slcB P t e sz=true) (hx:ev S x=some (.slice a len cap)) (hy:ev S y=some (.int kd i)) (hi:i=(j:Int)) (hj:rows[j]? = some r) (hl:j < len) :
  OpV P w0 S H ⟨d,.indexAddr t x y,ty,pos,af,g⟩ (pAt a (j * sz)) :=
 kY (by simp [yH,Op.operands,hx,hy]) rfl fun w k=>by
  obtain ⟨_,b,off,rfl,_⟩:=hS H w k j r hj;subst hi;unfold slcB at hA;cases hu:P.underlying t with
  | none=>simp [hu] at hA
  | some ds =>
   cases ds <;> simp [hu] at hA
   rename_i e';obtain ⟨rfl,h2⟩:=hA;cases hinf:P.info? e' with
   | none=>simp [hinf] at h2
   | some inf =>
    simp [hinf] at h2;subst h2;simp [execOp,yY hx,yY hy,Instr.indexAt,asIntOf,run_underlying hu,hl,sizeOf,typeInfo,hinf,qUZ,pAt]
theorem zVD {s f off' j k:Nat} {x:Operand} (hS:Holds w0 (qJA sz a rows)) (hj:rows[j]? = some r) (hF:qGW P s f off'=true) (hx:ev S x=some (pAt a k)) :
  OpV P w0 S H ⟨d,.fieldAddr s x f,ty,pos,af,g⟩ (pAt a (k + off')) :=
 ⟨by simp [yH,Op.operands,hx],rfl,fun w kn=>by
  obtain ⟨_,b,off,rfl,_⟩:=hS H w kn j r hj
  have:=(zV (P:=P) (w0:=w0) (S:=S) (H:=H) (d:=d) (ty:=ty) (pos:=pos) (af:=af) (g:=g) hF (x:=x) (b:=b) (off:=off + k) hx).run w kn
  rw [Nat.add_assoc] at this;exact this⟩
theorem zVC {t:TypeId} {x:Operand} {v:Value} (j o:Nat) (hS:Holds w0 (qJA sz a rows)) (hj:rows[j]? = some r) (hT:tyB P t false 1=true) (hx:ev S x=some (pAt a (j * sz + o))) (hv:r[o]? = some v):OpV P w0 S H ⟨d,.load t x,ty,pos,af,g⟩ v :=
 kY (by simp [yH,Op.operands,hx]) rfl fun w kn=>by
  obtain ⟨hr,b,off,rfl,_,hc⟩:=hS H w kn j r hj;have ho:o < sz:=by rw [← hr]; exact (List.getElem?_eq_some_iff.1 hv).1
  have:=hc o ho
  rw [hv,Nat.add_assoc] at this;simp [execOp,yY hx,pAt,Instr.loadAt,Instr.sureAddr,loadVar,qUU hT,this]
theorem qKQ {t:TypeId} {x:Operand} {vs:List Value} {sz2:Nat} (j o:Nat) (hS:Holds w0 (qJA sz a rows)) (hj:rows[j]? = some r) (hT:tyB P t true sz2=true) (hx:ev S x=some (pAt a (j * sz + o))) (hv:zUJ r o sz2=some vs):OpV P w0 S H ⟨d,.load t x,ty,pos,af,g⟩ (.agg vs.toArray) :=
 kY (by simp [yH,Op.operands,hx]) rfl fun w kn=>by
  obtain ⟨hr,b,off,rfl,_,hc⟩:=hS H w kn j r hj;obtain ⟨e,hl⟩:=zUY hv;have hrun:=qKU (P:=P) (w:=w) (b:=b) (off:=off + (j * sz + o)) (k:=sz2) (vs:=vs) (fun i hi=>by
   have:=hc (o + i) (by omega)
   rw [show off + (j * sz + o) + i=off + j * sz + (o + i) by omega,this,e,vZV,if_pos hi,List.getElem?_drop]) (by rw [e]; simp; omega)
  simp [execOp,yY hx,pAt,Instr.loadAt,Instr.sureAddr,loadVar,qUU hT,qJD hT,hrun]
variable {X:Type} {Φ:X→Prop} {V:X→Value} {F:X→World→Prop}
end
end Go.Sx
namespace Go.Sx
open Go.RowKit
section
variable {P:Program} {n:Nat} {w0:Base} {ops:Array Oper} {Q:Exit→Act→World→Prop} {S:yV} {H:Heap}
variable {d:Nat} {ty:TypeId} {pos:String} {af:Array Edge} {g:Option (Nat × Bool)}
variable {X:Type} {Φ:X→Prop} {V:X→Value} {F:X→World→Prop}
variable {f:FuncId} {xs:List Operand} {ats:Array TypeId} {vs:List Value} {rest:List Oper} {G:qZK}
variable {σ:Type} {b:Nat→Prop} {w1:Base} {H0:Heap} {Wf:σ→Base} {Hf:σ→Heap} {es:List Nat} {K:σ→yV→qZK→Prop} {ix:Nat} {s s2:σ}
theorem Yields.mono {w:World} {T T':Pred} {r:Result Next} (h:Yields P w T r) (hT:∀ v w',Grow w w'→T v w'→T' v w'):Yields P w T' r:=by
 cases r with
 | ok x w' =>
  cases x <;> simp only [Yields] at h ⊢
  case value v=>exact ⟨h.1,hT v w' h.1 h.2⟩
  case skip=>exact ⟨h.1,hT undef w' h.1 h.2⟩
  case enter ff args=>exact ⟨h.1,h.2.mono fun e w'' ⟨v,h1,h2,h3⟩=>⟨v,h1,h2,hT v w'' (h.1.trans h2) h3⟩⟩
 | halt x w'=>simp only [Yields] at h
variable {tl:List Oper} {Fw:World→Prop}
variable {B:Base} {sb si:Nat} {sl:Value} {L:List Int}
end
end Go.Sx
namespace Go.Sx
open Go.RowKit
section
variable {P:Program} {n:Nat} {w0:Base} {ops:Array Oper} {Q:Exit→Act→World→Prop} {H:Heap} {S0:yV}
theorem kQB {S:yV} {l:List Oper} (d:Nat) {b:Bool} (hb:look S d=some (.bool b)) (h:b=false) (next:DoL P n w0 ops Q l ((d,.bool false) :: S) H):DoL P n w0 ops Q l S H :=
 fun a w f k=>next a w (yZZ f hb h) k
end
end Go.Sx
namespace Go.Sx
open Go.RowKit
section
variable {P:Program} {n:Nat} {w0:Base} {ops:Array Oper} {Q:Exit→Act→World→Prop} {S:yV} {H:Heap}
variable {d:Nat} {ty:TypeId} {pos:String} {af:Array Edge} {g:Option (Nat × Bool)} {rest:List Oper}
theorem Knows.swap {w w':World} {R':yZL} {id:Nat} {D D':Nat→Prop} {F F':World→Prop} (hk:Knows w0 H w) (hR:zQZ w0.R id=some (D,F)) (hg:GrowB D w w') (hD:∀ q,D' q→D q)
  (hd:qKC D' F') (hF:F' w') (hu:updR w0.R id D' F'=some R'):Knows ⟨w0.w,R'⟩ H w':=by
 obtain ⟨R1,R2,kk,x,e1,e2,e3⟩:=yYQ hu;rw [hR] at e3;cases e3;have hmem:(kk,D,F) ∈ w0.R:=by rw [e1]; simp
 have hfa:=hk.facts _ hmem;have hap:=hk.apart;rw [e1] at hap;have hap1:=List.pairwise_append.1 hap;have hap2:=List.pairwise_cons.1 hap1.2.1;have other:∀ y ∈ w0.R,(∀ q,y.2.1 q→¬ D q)→RFact w0.w.heap.size H y.2.1 y.2.2 w':=fun y hy hn=>by
  have hy2:=hk.facts y hy;exact ⟨hy2.dep,fun q hq=>⟨(hy2.at' q hq).1,vZK (hy2.at' q hq).2.1 hg.size,(hy2.at' q hq).2.2⟩,hy2.dep w w' (fun q hq=>hg.block q (hy2.at' q hq).2.1 (hn q hq)) hy2.holds⟩
 refine ⟨⟨hg.os.trans hk.grow.os,hg.tape.trans hk.grow.tape,hg.output.trans hk.grow.output,Nat.le_trans hk.grow.size hg.size,fun q hq => ?_⟩,fun y hy => ?_,hk.nodup,fun y hy => ?_,?_⟩
 ·rw [hg.block q (vZK hq hk.grow.size) fun h=>absurd (hfa.at' q h).1 (Nat.not_le_of_lt hq)];exact hk.grow.block q hq
 ·have h1:=hk.has y hy;exact ⟨h1.1,by rw [hg.block _ (qZC h1.2) fun h=>(hfa.at' _ h).2.2 y hy rfl]; exact h1.2⟩
 ·have hy':y ∈ R1 ++ (kk,D',F') :: R2:=by rw [← e2]; exact hy
  rcases List.mem_append.1 hy' with h | h
  ·exact other y (by rw [e1]; exact List.mem_append_left _ h) fun q hq=>hap1.2.2 y h _ vZQ q hq
  ·rcases List.mem_cons.1 h with rfl | h
   ·exact ⟨hd,fun q hq=>⟨(hfa.at' q (hD q hq)).1,vZK (hfa.at' q (hD q hq)).2.1 hg.size,(hfa.at' q (hD q hq)).2.2⟩,hF⟩
   ·exact other y (by rw [e1]; exact List.mem_append_right _ (vQH _ h)) fun q hq hD2=>hap2.1 y h q hD2 hq
 ·show R'.Pairwise _;rw [e2];refine List.pairwise_append.2 ⟨hap1.1,List.pairwise_cons.2 ⟨fun y hy q hq=>hap2.1 y hy q (hD q hq),hap2.2⟩,fun y hy z hz q hq => ?_⟩;rcases List.mem_cons.1 hz with rfl | hz
  ·exact fun h=>hap1.2.2 y hy _ vZQ q hq (hD q h)
  ·exact hap1.2.2 y hy z (vQH _ hz) q hq
theorem jYL (w:World) (o:Obj):(newObj o).run P w=.ok w.heap.size (w.alloc o):=rfl
theorem zUW {w:World} {b p:Nat} {s:ByteArray} (h:w.heap[b]? = some (.stringIter s p)):(getObj b).run P w=.ok (.stringIter s p) w:=by
 unfold getObj;simp [Sem.run,h]
theorem yXV {w:World} {b p:Nat} {s:ByteArray} (o:Obj) (h:w.heap[b]? = some (.stringIter s p)):(setObj b o).run P w=.ok () { w with heap:=w.heap.setIfInBounds b o }:=by
 unfold setObj;simp [Sem.run,h]
theorem yYX {w:World} {b:Nat} {o:Obj}:GrowB (· = b) w { w with heap:=w.heap.setIfInBounds b o } :=
 ⟨rfl,rfl,rfl,by simp,fun k _ hk=>by simp [Array.getElem?_setIfInBounds_ne (Ne.symm hk)]⟩
end
end Go.Sx
namespace Go.Sx
open Go.RowKit
theorem qZW {sz:Nat}:∀ (rows:List (List Value)),(∀ r ∈ rows,r.length=sz)→rows.flatten.length=rows.length * sz
 | [],_=>by simp
 | r :: rows,h=>by
  rw [List.flatten_cons,List.length_append,h r vZQ,qZW rows fun x hx=>h x (vQH _ hx),vQW,Nat.add_mul];omega
theorem zJE {sz:Nat}:∀ (rows:List (List Value)) (j:Nat) (vs:List Value),(∀ r ∈ rows,r.length=sz)→j < rows.length→vs.length=sz →
  (rows.set j vs).flatten=rows.flatten.take (j * sz) ++ vs ++ rows.flatten.drop (j * sz + sz)
 | [],j,vs,_,hj,_=>by simp at hj
 | r :: rows,0,vs,h,_,hv=>by
  have hr:=h r vZQ;simp only [List.set_cons_zero,List.flatten_cons,Nat.zero_mul,vYX,List.nil_append,Nat.zero_add];rw [← hr,List.drop_left]
 | r :: rows,j + 1,vs,h,hj,hv=>by
  have hr:=h r vZQ;have ih:=zJE rows j vs (fun x hx=>h x (vQH _ hx)) (by simpa using hj) hv;simp only [List.set_cons_succ,List.flatten_cons];rw [ih,show (j + 1) * sz=r.length + j * sz by rw [Nat.add_mul,hr]; omega,List.take_length_add_append,Nat.add_assoc,List.drop_length_add_append]
  simp
def yZD (b sz e:Nat) (rows:List (List Value)):World→Prop:=fun w=>(∀ r ∈ rows,r.length=sz)∧w.heap[b]? = some (.cells rows.flatten.toArray e)
theorem yYA (b sz e:Nat) (rows:List (List Value)):qKC (· = b) (yZD b sz e rows):=fun w w' h hF=>by
 unfold yZD at *;rw [h b rfl]; exact hF
theorem qUW {b sz e:Nat} {rows:List (List Value)} (w:World) (h:yZD b sz e rows w):qJA sz (some ⟨b,0,none⟩) rows w:=fun j r hj =>
 ⟨h.1 r (vQG hj),b,0,rfl,qZC h.2,fun k hk=>by
  rw [qVG h.2,Nat.zero_add];exact qVF rows h.1 j r hj k hk⟩
section
variable {P:Program} {n:Nat} {w0:Base} {ops:Array Oper} {Q:Exit→Act→World→Prop} {S:yV} {H:Heap}
variable {ty:TypeId} {pos:String} {af:Array Edge} {g:Option (Nat × Bool)} {rest:List Oper}
theorem zJW {t:TypeId} {x y:Operand} {b e sz j:Nat} {rows:List (List Value)} {vs:List Value} (id:Nat) (hT:tyB P t true sz=true) (hR:zQZ w0.R id=some ((· = b),yZD b sz e rows))
  (hx:ev S x=some (pAt (some ⟨b,0,none⟩) (j * sz))) (hy:ev S y=some (.agg vs.toArray)) (hj:j < rows.length) (hv:Nat.beq vs.length sz=true) (h1:vs.all Value.oneCell'=true)
  (hw:qQD ops S ⟨none,.store t x y,ty,pos,af,g⟩=some true) (hu:(updR w0.R id (· = b) (yZD b sz e (rows.set j vs))).isSome=true)
  (next:∀ R',updR w0.R id (· = b) (yZD b sz e (rows.set j vs))=some R'→DoL P n ⟨w0.w,R'⟩ ops Q rest S H) :
  DoL P n w0 ops Q (⟨none,.store t x y,ty,pos,af,g⟩ :: rest) S H:=by
 intro a w f k;unfold wpList;rw [qJU f hw,if_pos rfl];refine .inl ?_;obtain ⟨R',hR'⟩:=Option.isSome_iff_exists.1 hu;have hF:yZD b sz e rows w:=qWV hR _ _ k;have hvs:=vQX hv;have hlen:j * sz + sz≤rows.flatten.length:=by
  rw [qZW rows hF.1]
  have:=Nat.mul_le_mul_right sz (show j + 1≤rows.length from hj)
  rw [Nat.add_mul] at this;omega
 have hst:=run_storeCells_at P b (0 + j * sz) e vs 0 rows.flatten.toArray w hF.2 (by simp; simp at hlen; omega) (fun u hu=>List.all_eq_true.1 h1 u hu);have hx':ev S x=some (.pointer (some ⟨b,0 + j * sz,none⟩)):=hx;have hrun:(execOp a.eval ⟨none,.store t x y,ty,pos,af,g⟩).run P w=.ok .skip (w.setRow b (rows.set j vs).flatten.toArray):=by
  rw [zJE rows j vs hF.1 hj hvs];simp only [Nat.add_zero,Nat.zero_add,hvs] at hst;have hx2:ev S x=some (.pointer (some ⟨b,j * sz,none⟩)):=by rw [hx',Nat.zero_add]
  have hc:(Value.agg vs.toArray).cells=vs.toArray:=rfl;simp [execOp,f.ev hx2,f.ev hy,Instr.storeAt,Instr.sureAddr,storeVar,qJD hT,hc,hvs,hst]
 unfold Oper.wp;rw [hrun];refine next R' hR' _ _ f (k.swap hR (GrowB.set b w _) (fun _ h=>h) (yYA _ _ _ _) ⟨fun r hr => ?_,setRow_heap w b _ _ e _ hF.2⟩ hR')
 rcases List.mem_or_eq_of_mem_set hr with h | h
 ·exact hF.1 r h
 ·rw [h]; exact hvs
end
end Go.Sx
namespace Go.Sx
open Go.RowKit
theorem yJE {zs:List Value} {sz m:Nat} (hz:zs.length=sz) (h0:0 < sz):madeCells zs.toArray (m * sz)=(List.replicate m zs).flatten.toArray:=by
 have hall:∀ r ∈ List.replicate m zs,r.length=sz:=fun r hr=>by rw [List.eq_of_mem_replicate hr,hz]
 have hlen:=qZW (sz:=sz) (List.replicate m zs) hall;rw [List.length_replicate] at hlen;apply Array.ext
 ·rw [size_madeCells]; simp only [List.size_toArray]; exact hlen.symm
 ·intro k h1 h2;rw [size_madeCells] at h1;have hd:k / sz < m:=(Nat.div_lt_iff_lt_mul h0).2 h1;have hm:=Nat.mod_lt k h0;have hg:=qVF (sz:=sz) (List.replicate m zs) hall (k / sz) zs (by simp [hd]) (k % sz) hm;rw [show k / sz * sz + k % sz=k by rw [Nat.mul_comm]; exact Nat.div_add_mod k sz] at hg;have e1:(madeCells zs.toArray (m * sz))[k]? = zs[k % sz]?:=by
   simp only [madeCells,Array.getElem?_map,List.size_toArray,hz];rw [Array.getElem?_range,if_pos h1];simp [hz,hm]
  have e2:(List.replicate m zs).flatten.toArray[k]? = zs[k % sz]?:=by rw [List.getElem?_toArray]; exact hg
  have:=e1.trans e2.symm
  rw [vZU (by rw [size_madeCells]; exact h1),vZU h2] at this;exact Option.some.inj this
def xVW (P:Program) (t e sz bytes:Nat) (zs:List Value):Prop:=P.underlying t=some (.slice e)∧∃ i z,P.info? e=some i∧i.zero=some z∧i.size=sz∧i.bytes=bytes∧z.cells.toList=zs∧zs.length=sz∧0 < sz
section
variable {P:Program} {n:Nat} {w0:Base} {ops:Array Oper} {Q:Exit→Act→World→Prop} {S:yV} {H:Heap}
variable {d:Nat} {ty:TypeId} {pos:String} {af:Array Edge} {g:Option (Nat × Bool)} {rest:List Oper}
theorem zKU {t e sz bytes:Nat} {z:Value} (hA:appB P t e sz bytes=true) (hz:qJY P e z):xVW P t e sz bytes z.cells.toList:=by
 unfold appB at hA;unfold qJY at hz;cases hu:P.underlying t with
 | none=>simp [hu] at hA
 | some ds =>
  cases ds <;> simp [hu] at hA
  rename_i e';cases hi:P.info? e with
  | none=>simp [hi] at hA
  | some i =>
   simp only [hi] at hA hz;simp at hz;simp only [hz,vQJ,beq_iff_eq] at hA;obtain ⟨⟨⟨⟨rfl,h2⟩,h3⟩,h4⟩,h5⟩:=hA;exact ⟨hu,i,z,hi,hz,h2,h3,rfl,by simpa using h5,by simpa using h4⟩
theorem kGH {t e sz bytes m:Nat} {zs:List Value} {x:Operand} (id:Nat) (hB:xVW P t e sz bytes zs) (hx:ev S x=some (.int .i64 (m:Int))) (hm:m * bytes≤281474976710656) (_:m≤1000000)
  (hw:qQD ops S ⟨some d,.makeSlice t x x,ty,pos,af,g⟩=some true) (hn:Nat.blt d n=true)
  (next:∀ b,DoL P n ⟨w0.w,(id,(· = b),yZD b sz e (List.replicate m zs)) :: w0.R⟩ ops Q rest ((d,.slice (some ⟨b,0,none⟩) m m) :: S) H):DoL P n w0 ops Q (⟨some d,.makeSlice t x x,ty,pos,af,g⟩ :: rest) S H:=by
 intro a w fi k;unfold wpList;rw [qJU fi hw,if_pos rfl];refine .inl ?_;unfold Oper.wp;obtain ⟨ht,i,z,hi,hz,rfl,rfl,rfl,hlen,h0⟩:=hB;have hrun:(execOp (evD S) ⟨some d,.makeSlice t x x,ty,pos,af,g⟩).run P w=.ok (.value (.slice (some ⟨w.heap.size,0,none⟩) m m)) (w.alloc (.cells (List.replicate m z.cells.toList).flatten.toArray e)):=by
  have:=run_make (P:=P) w t e i z ht hi hz .i64 .i64 (m:Int) (m:Int) (by omega) (by omega) (by rw [Int.mul_comm,← Int.natCast_mul]; exact Int.ofNat_le.2 hm) (by omega)
  simp only [Int.toNat_natCast] at this;rw [show z.cells=z.cells.toList.toArray from rfl,yJE hlen h0] at this;simp [execOp,yY hx,this]
 rw [zQG fi (by simp [yH,Op.operands,hx]) rfl,hrun];simp only [Oper.upon];refine next w.heap.size _ _ (fi.put hn _) (k.tell ((Grow.refl w).alloc _) id (yYA _ _ _ _) (fun q hq=>by subst hq; exact ⟨Nat.le_refl _,by show w.heap.size < (w.heap.push _).size; simp⟩) ⟨fun r hr => ?_,by show (w.heap.push _)[w.heap.size]? = _; simp⟩)
 rw [List.eq_of_mem_replicate hr]; exact hlen
end
end Go.Sx
namespace Go.Sx
open Go.RowKit
section
variable {P:Program} {n:Nat} {w0:Base} {ops:Array Oper} {Q:Exit→Act→World→Prop} {S:yV} {H:Heap}
variable {d:Nat} {ty:TypeId} {pos:String} {af:Array Edge} {g:Option (Nat × Bool)} {rest:List Oper}
theorem uWU {x y:Operand} {t t':TypeId} {dd:Option Tmp} {xs ys:List Value} (m:Nat) (hm:Nat.ble m 10000=true) (hT:aggB P t=true) (hx:ev S x=some (.agg xs.toArray)) (hy:ev S y=some (.agg ys.toArray)) (hcx:qZI P m t xs=true) (hcy:qZI P m t ys=true) :
  OpV P w0 S H ⟨dd,.binOp .neq t x y t',ty,pos,af,g⟩ (.bool (!eqCells xs ys)) :=
 kY (by simp [yH,Op.operands,hx,hy]) rfl fun w _=>by
  simp only [aggB,vQJ,Bool.not_eq_true'] at hT;obtain ⟨k,hk⟩:∃ k,k + m=10000:=⟨10000 - m,by have:=vZX hm; omega⟩
  have h1:=yZV (P:=P) k m t w xs ys hcx hcy;have e1:mkV P t xs=.agg xs.toArray:=by
   unfold mkV;cases hu:P.underlying t with
   | none=>simp [hu] at hT
   | some ds=>cases ds <;> simp [hu] at hT ⊢
  have e2:mkV P t ys=.agg ys.toArray:=by
   unfold mkV;cases hu:P.underlying t with
   | none=>simp [hu] at hT
   | some ds=>cases ds <;> simp [hu] at hT ⊢
  rw [e1,e2,hk] at h1;have h2:=run_eqGuard_agg w .neq t x y xs.toArray ys.toArray hT.2;have h3:=run_neq_struct (P:=P) w t xs.toArray ys.toArray;rw [h1] at h3;simp [execOp,yY hx,yY hy,h2,h3]
variable {X Y:Type} {Φ:X→Prop} {V:X→Value} {F:X→World→Prop} {Φ2:Y→Prop} {V2:Y→Value} {F2:Y→World→Prop} {G:qZK} {tl:List Oper} {Fw:World→Prop}
end
end Go.Sx

/- Part 5 of the texts behind the last one: rules and contracts. No condition. -/
import Derived.Test.YtgmbkkkbfbocnaaGreatKL4
open Bool renaming and_eq_true → vQJ
open Nat renaming le_of_ble_eq_true → vZX
open Array renaming getElem?_eq_getElem → vZU
namespace Go.Sx
open Go.RowKit
theorem made_rows {zs:List Value} {sz m:Nat} (hz:zs.length=sz) (h0:0 < sz):madeCells zs.toArray (m * sz)=(List.replicate m zs).flatten.toArray:=by
 have hall:∀ r ∈ List.replicate m zs,r.length=sz:=fun r hr=>by rw [List.eq_of_mem_replicate hr,hz]
 have hlen:=qZV (sz:=sz) (List.replicate m zs) hall;rw [List.length_replicate] at hlen;apply Array.ext
 ·rw [size_madeCells]; simp only [List.size_toArray]; exact hlen.symm
 ·intro k h1 h2;rw [size_madeCells] at h1;have hd:k / sz < m:=(Nat.div_lt_iff_lt_mul h0).2 h1;have hm:=Nat.mod_lt k h0;have hg:=zYH (sz:=sz) (List.replicate m zs) hall (k / sz) zs (by simp [hd]) (k % sz) hm;rw [show k / sz * sz + k % sz=k by rw [Nat.mul_comm]; exact Nat.div_add_mod k sz] at hg;have e1:(madeCells zs.toArray (m * sz))[k]? = zs[k % sz]?:=by
   simp only [madeCells,Array.getElem?_map,List.size_toArray,hz];rw [Array.getElem?_range,if_pos h1];simp [hz,hm]
  have e2:(List.replicate m zs).flatten.toArray[k]? = zs[k % sz]?:=by rw [List.getElem?_toArray]; exact hg
  have:=e1.trans e2.symm
  rw [vZU (by rw [size_madeCells]; exact h1),vZU h2] at this;exact Option.some.inj this
def makeB (P:Program) (t e sz bytes:Nat) (zs:List Value):Prop:=P.underlying t=some (.slice e)∧∃ i z,P.info? e=some i∧i.zero=some z∧i.size=sz∧i.bytes=bytes∧z.cells.toList=zs∧zs.length=sz∧0 < sz
section
variable {P:Program} {n:Nat} {w0:Base} {ops:Array Oper} {Q:Exit→Act→World→Prop} {S:yZ} {H:Heap}
variable {d:Nat} {ty:TypeId} {pos:String} {af:Array Edge} {g:Option (Nat × Bool)} {rest:List Oper}
theorem yWU {t e sz bytes:Nat} {z:Value} (hA:appB P t e sz bytes=true) (hz:qKZ P e z):makeB P t e sz bytes z.cells.toList:=by
 unfold appB at hA;unfold qKZ at hz;cases hu:P.underlying t with
 | none=>simp [hu] at hA
 | some ds =>
  cases ds <;> simp [hu] at hA
  rename_i e';cases hi:P.info? e with
  | none=>simp [hi] at hA
  | some i =>
   simp only [hi] at hA hz;simp at hz;simp only [hz,vQJ,beq_iff_eq] at hA;obtain ⟨⟨⟨⟨rfl,h2⟩,h3⟩,h4⟩,h5⟩:=hA;exact ⟨hu,i,z,hi,hz,h2,h3,rfl,by simpa using h5,by simpa using h4⟩
theorem doL_make {t e sz bytes m:Nat} {zs:List Value} {x:Operand} (id:Nat) (hB:makeB P t e sz bytes zs) (hx:ev S x=some (.int .i64 (m:Int))) (hm:m * bytes≤281474976710656) (h63:m≤1000000)
  (hw:uU ops S ⟨some d,.makeSlice t x x,ty,pos,af,g⟩=some true) (hn:Nat.blt d n=true)
  (next:∀ b,DoL P n ⟨w0.w,(id,(· = b),yGZ b sz e (List.replicate m zs)) :: w0.R⟩ ops Q rest ((d,.slice (some ⟨b,0,none⟩) m m) :: S) H):DoL P n w0 ops Q (⟨some d,.makeSlice t x x,ty,pos,af,g⟩ :: rest) S H:=by
 intro a w fi k;unfold wpList;rw [qKU fi hw,if_pos rfl];refine .inl ?_;unfold Oper.wp;obtain ⟨ht,i,z,hi,hz,rfl,rfl,rfl,hlen,h0⟩:=hB;have hrun:(execOp (evD S) ⟨some d,.makeSlice t x x,ty,pos,af,g⟩).run P w=.ok (.value (.slice (some ⟨w.heap.size,0,none⟩) m m)) (w.alloc (.cells (List.replicate m z.cells.toList).flatten.toArray e)):=by
  have:=run_make (P:=P) w t e i z ht hi hz .i64 .i64 (m:Int) (m:Int) (by omega) (by omega) (by rw [Int.mul_comm,← Int.natCast_mul]; exact Int.ofNat_le.2 hm) (by omega)
  simp only [Int.toNat_natCast] at this;rw [show z.cells=z.cells.toList.toArray from rfl,made_rows hlen h0] at this;simp [execOp,zG hx,this]
 rw [zXZ fi (by simp [yK,Op.operands,hx]) rfl,hrun];simp only [Oper.upon];refine next w.heap.size _ _ (fi.put hn _) (k.tell ((Grow.refl w).alloc _) id (rowsF_dep _ _ _ _) (fun q hq=>by subst hq; exact ⟨Nat.le_refl _,by show w.heap.size < (w.heap.push _).size; simp⟩) ⟨fun r hr => ?_,by show (w.heap.push _)[w.heap.size]? = _; simp⟩)
 rw [List.eq_of_mem_replicate hr]; exact hlen
end
end Go.Sx
namespace Go.Sx
open Go.RowKit
section
variable {P:Program} {n:Nat} {w0:Base} {ops:Array Oper} {Q:Exit→Act→World→Prop} {S:yZ} {H:Heap}
variable {d:Nat} {ty:TypeId} {pos:String} {af:Array Edge} {g:Option (Nat × Bool)} {rest:List Oper}
theorem opV_neA {x y:Operand} {t t':TypeId} {dd:Option Tmp} {xs ys:List Value} (m:Nat) (hm:Nat.ble m 10000=true) (hT:aggB P t=true) (hx:ev S x=some (.agg xs.toArray)) (hy:ev S y=some (.agg ys.toArray)) (hcx:qZU P m t xs=true) (hcy:qZU P m t ys=true) :
  OpV P w0 S H ⟨dd,.binOp .neq t x y t',ty,pos,af,g⟩ (.bool (!eqCells xs ys)) :=
 jJ (by simp [yK,Op.operands,hx,hy]) rfl fun w _=>by
  simp only [aggB,vQJ,Bool.not_eq_true'] at hT;obtain ⟨k,hk⟩:∃ k,k + m=10000:=⟨10000 - m,by have:=vZX hm; omega⟩
  have h1:=yVX (P:=P) k m t w xs ys hcx hcy;have e1:mkV P t xs=.agg xs.toArray:=by
   unfold mkV;cases hu:P.underlying t with
   | none=>simp [hu] at hT
   | some ds=>cases ds <;> simp [hu] at hT ⊢
  have e2:mkV P t ys=.agg ys.toArray:=by
   unfold mkV;cases hu:P.underlying t with
   | none=>simp [hu] at hT
   | some ds=>cases ds <;> simp [hu] at hT ⊢
  rw [e1,e2,hk] at h1;have h2:=run_eqGuard_agg w .neq t x y xs.toArray ys.toArray hT.2;have h3:=run_neq_struct (P:=P) w t xs.toArray ys.toArray;rw [h1] at h3;simp [execOp,zG hx,zG hy,h2,h3]
variable {X Y:Type} {Φ:X→Prop} {V:X→Value} {F:X→World→Prop} {Φ2:Y→Prop} {V2:Y→Value} {F2:Y→World→Prop} {G:qQK} {tl:List Oper} {Fw:World→Prop}
end
end Go.Sx

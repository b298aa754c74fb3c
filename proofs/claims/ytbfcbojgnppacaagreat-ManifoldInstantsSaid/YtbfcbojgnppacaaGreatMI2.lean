/- Part 2 of the texts behind the last one: rules and contracts. No condition. -/
import Derived.Test.YtbfcbojgnppacaaGreatMI1
open Option renaming map_eq_some_iff → vZW
open Option.some renaming injEq → vQZ
open Prod.mk renaming injEq → vQY
open Bool renaming and_eq_true → vQJ
open List renaming getElem?_eq_getElem → vQK, length_cons → vQW, mem_of_getElem? → vQG, mem_cons_of_mem → vQH, mem_cons_self → vZQ, getElem?_map → vZY, getElem?_take → vZV, take_zero → vYX
open Nat renaming eq_of_beq_eq_true → vQX, lt_of_lt_of_le → vZK, le_of_ble_eq_true → vZX
open Array renaming getElem?_eq_getElem → vZU, all_eq_true_iff_forall_mem → vYY
namespace Go.Sx
section
variable {P:Program} {n:Nat} {w0:Base} {ops:Array Oper} {Q:Exit→Act→World→Prop} {S:yU} {H:Heap}
variable {d:Option Tmp} {ty:TypeId} {pos:String} {af:Array Edge} {g:Option (Nat × Bool)}
theorem qUF {t:Nat} {x y:Operand} {a i v:Value} (hx:ev S x=some a) (hy:ev S y=some i) (h:∀ w:World,(Instr.index t a i).run P w=.ok v w):OpV P w0 S H ⟨d,.index t x y,ty,pos,af,g⟩ v :=
 jX (by simp [jQ,Op.operands,hx,hy]) rfl fun w _=>by simp [execOp,zV hx,zV hy,h w]
end
end Go.Sx
namespace Go.Sx
open Go.RowKit
def yQW (len size:Nat):List (Nat × Nat):=(List.range len).map fun i=>(i * size,size)
def rowZ (zs:List Value):Nat→List Value
 | 0=>[]
 | k + 1=>zs ++ rowZ zs k
theorem rowZ_get {zs:List Value} (hz:0 < zs.length):∀ (len i:Nat),i < len * zs.length→(rowZ zs len)[i]? = zs[i % zs.length]?
 | 0,i,h=>by omega
 | k + 1,i,h=>by
  simp only [rowZ,List.getElem?_append];split
  ·rename_i hlt;rw [Nat.mod_eq_of_lt hlt]
  ·rename_i hge;rw [Nat.add_mul] at h;rw [rowZ_get hz k (i - zs.length) (by omega)]
   congr 1
   exact (Nat.mod_eq_sub_mod (by omega)).symm
theorem qGA (zs:List Value):∀ len,(rowZ zs len).length=len * zs.length
 | 0=>by simp [rowZ]
 | k + 1=>by simp [rowZ,qGA zs k,Nat.add_mul]; omega
section
variable {P:Program} {n:Nat} {w0:Base} {ops:Array Oper} {Q:Exit→Act→World→Prop} {S:yU} {H:Heap}
theorem zero_row (z:Value) (len:Nat) (hz:0 < z.cells.size):(Array.range (len * z.cells.size)).map (z.cells[· % z.cells.size]!)=(rowZ z.cells.toList len).toArray:=by
 apply Array.ext
 ·simp [qGA]
 ·intro i h1 h2;have hlt:i < len * z.cells.toList.length:=by simpa using h1
  have hg:=rowZ_get (zs:=z.cells.toList) (by simpa using hz) len i hlt;have hm:i % z.cells.size < z.cells.size:=Nat.mod_lt _ hz;simp only [Array.getElem_map,Array.getElem_range,List.getElem_toArray];have hlt':i < (rowZ z.cells.toList len).length:=by rw [qGA]; exact hlt
  rw [vQK hlt'] at hg;have e1:z.cells.toList[i % z.cells.toList.length]? = some z.cells[i % z.cells.size]:=by
   simp [hm]
  rw [e1] at hg;rw [Option.some.inj hg];simp [hm]
theorem run_bslice {t e size len:Nat} {z:Value} {parts:List (Nat × Value)} {cs:List Value} (hs:slcB P t e size=true) (hz:qYV P e z) (hzs:Nat.beq z.cells.size size=true) (h0:Nat.blt 0 size=true) (hl:Nat.ble (len * size) 16777216=true)
  (h1:Nat.blt 0 len=true) (hf:zQB (yQW len size) (rowZ z.cells.toList len) parts=some cs) (w:World) :
  (Instr.buildSlice t len parts.toArray).run P w=.ok (.slice (some ⟨w.heap.size,0,none⟩) len len) (w.alloc (.cells cs.toArray e)):=by
 have hzs':=vQX hzs;subst hzs';have h0':0 < z.cells.size:=by simpa using h0
 have h1':0 < len:=by simpa using h1
 have hl':len * z.cells.size≤16777216:=vZX hl;have hne:¬ len * z.cells.size=0:=by
  intro e;rcases Nat.mul_eq_zero.1 e with h | h <;> omega
 unfold slcB at hs;cases hu:P.underlying t with
 | none=>simp [hu] at hs
 | some ds =>
  cases ds <;> simp [hu] at hs
  rename_i e';obtain ⟨rfl,h2⟩:=hs;cases hi:P.info? e' with
  | none=>simp [hi] at h2
  | some inf =>
   simp [hi] at h2;have hfill:=zHG (place:=fun i=>some (i * z.cells.size,z.cells.size)) (pl:=yQW len z.cells.size) (fun i x hx=>by
    simp only [yQW,vZY,vZW] at hx;obtain ⟨j,hj,rfl⟩:=hx
    have:=(List.getElem?_eq_some_iff.1 hj)
    simp at this;simp [this.2]) parts (rowZ z.cells.toList len) cs hf
   rw [← zero_row z len h0'] at hfill;have hsz:(sizeOf e').run P w=.ok z.cells.size w:=by simp [sizeOf,typeInfo,hi,h2]
   simp only [Instr.buildSlice,Sem.run_bind,run_underlying hu,Result.andThen_ok,hsz,Sem.run_ite];rw [if_neg (by omega)];simp only [Sem.run_pure,Result.andThen_ok,if_neg hne,zJE hz,Sem.run_bind];simp [hfill,newRow,hne,zJE hz]
variable {d:Nat} {ty:TypeId} {pos:String} {af:Array Edge} {g:Option (Nat × Bool)}
end
end Go.Sx
namespace Go.Sx
open Go.RowKit
structure IntsAt (w:World) (m:Nat) (sl:Value) (L:List Int):Prop where
 len:L.length≤9223372036854775807
 slice:∃ a cap,sl=.slice a L.length cap∧∀ j,j < L.length→∃ b off,a=some ⟨b,off,none⟩∧b < m∧w.cell? ⟨b,off + j,none⟩=some (.int .i64 (L.getD j 0))
def srcC (sl:Value) (L:List Int) (i:Nat):List Value:=[sl,.int .i64 ((min i L.length:Nat):Int)]
def srcW (w:World) (b:Nat) (sl:Value) (L:List Int) (i:Nat):World:=w.setRow b (srcC sl L i).toArray
structure SrcQ (w:World) (b:Nat) (sl:Value) (L:List Int) (i:Nat):Prop where
 blk:∃ ty,w.heap[b]? = some (.cells (srcC sl L i).toArray ty)
 ints:IntsAt w b sl L
theorem SrcQ.lt {w:World} {b:Nat} {sl:Value} {L:List Int} {i:Nat} (h:SrcQ w b sl L i):b < w.heap.size:=by
 obtain ⟨ty,h⟩:=h.blk;exact qZF h
theorem IntsAt.mono {w w':World} {m m':Nat} {sl:Value} {L:List Int} (h:IntsAt w m sl L) (_:m≤m') (hw:∀ k,k < m→w'.heap[k]? = w.heap[k]?):IntsAt w' m' sl L:=by
 obtain ⟨h1,a,cap,h2,h3⟩:=h;refine ⟨h1,a,cap,h2,fun j hj => ?_⟩;obtain ⟨b,off,e,hb,hc⟩:=h3 j hj;refine ⟨b,off,e,by omega,?_⟩;rw [← hc];exact World.cell?_of_block (w:=w) (hw b hb)
theorem SrcQ.w {w:World} {b:Nat} {sl:Value} {L:List Int} {i:Nat} (h:SrcQ w b sl L i) (j:Nat):SrcQ (srcW w b sl L j) b sl L j:=by
 obtain ⟨⟨ty,hb⟩,hi⟩:=h;exact ⟨⟨ty,setRow_heap w b _ _ ty _ hb⟩,hi.mono (Nat.le_refl _) fun k hk=>setRow_other w b k _ (by omega)⟩
theorem SrcQ.grow {w w':World} {b:Nat} {sl:Value} {L:List Int} {i:Nat} (h:SrcQ w b sl L i) (g:Grow w w'):SrcQ w' b sl L i:=by
 have hlt:=h.lt;obtain ⟨⟨ty,hb⟩,hi⟩:=h;exact ⟨⟨ty,by rw [g.block b hlt]; exact hb⟩,hi.mono (Nat.le_refl _) fun k hk=>g.block k (by omega)⟩
def Base.setRow (B:Base) (b:Nat) (cs:Array Value):Base:=⟨B.w.setRow b cs,B.R⟩
section
variable {P:Program} {n:Nat} {w0:Base} {ops:Array Oper} {Q:Exit→Act→World→Prop} {S:yU} {H:Heap}
variable {d:Nat} {ty:TypeId} {pos:String} {af:Array Edge} {g:Option (Nat × Bool)}
theorem opV_nilCheck {dd:Option Tmp} {x:Operand} {a:Addr} (hx:ev S x=some (.pointer (some a))):OpV P w0 S H ⟨dd,.nilCheck x,ty,pos,af,g⟩ (.pointer (some a)) :=
 jX (by simp [jQ,Op.operands,hx]) rfl fun w _=>by simp [execOp,zV hx]
theorem run_eqB {t:TypeId} {p q:Bool} (hb:P.underlying t=some .bool) (w:World):(Op.equal t (.bool p) (.bool q)).run P w=.ok (p == q) w:=by
 unfold Op.equal;rw [show Op.maxDepth=9999 + 1 from rfl,Op.equalIn];simp [run_underlying hb]
theorem opV_eqlB {dd:Option Tmp} {x y:Operand} {t t':TypeId} {p q:Bool} (hb:P.underlying t=some .bool) (hx:ev S x=some (.bool p)) (hy:ev S y=some (.bool q)):OpV P w0 S H ⟨dd,.binOp .eql t x y t',ty,pos,af,g⟩ (.bool (p == q)) :=
 jX (by simp [jQ,Op.operands,hx,hy]) rfl fun w _=>by simp [execOp,zV hx,zV hy,eqGuard,binOp,run_eqB hb]
variable {α:Type} {F:α→Value} {x:α} {f:FuncId} {xs:List Operand} {ats:Array TypeId} {vs:List Value} {rest:List Oper}
variable {B:Base} {b i0 i j:Nat} {sl:Value} {L:List Int}
end
end Go.Sx
namespace Go.Sx
open Go.RowKit Go.ChangeShapes Go.WideShapes
section
variable {P:Program} {W:World} {H:Type} {enc:TypeId × Value→H}
theorem slice_of {t e:TypeId} {v:Value} (ht:P.underlying t=some (.slice e)) {r:Reach} {base:Nat} (h:Value.okWide P W r base t v):∃ a l c,v=.slice a l c:=by
 simp only [Value.okWide,ht,Cell.okWide] at h;cases v <;> simp [Cell.ok,ht] at h
 exact ⟨_,_,_,rfl⟩
end
end Go.Sx
namespace Go.Sx
open Go.RowKit
section
variable {P:Program} {n:Nat} {w0:Base} {ops:Array Oper} {Q:Exit→Act→World→Prop} {S:yU} {H:Heap}
variable {d:Nat} {ty:TypeId} {pos:String} {af:Array Edge} {g:Option (Nat × Bool)}
theorem opV_makeFunc {dd:Option Tmp} {fn:Fn} {xs ys:List Operand} {vs us:List Value} (h1:evs S xs=some vs) (h2:evs S ys=some us) :
  OpV P w0 S H ⟨dd,.makeFunc fn xs.toArray ys.toArray,ty,pos,af,g⟩ (.func fn vs.toArray us.toArray):=by
 obtain ⟨e1,k1⟩:=qVL h1;obtain ⟨e2,k2⟩:=qVL h2;refine jX ?_ rfl fun w _ => ?_
 ·simp only [jQ,Op.operands];rw [vYY];intro x hx;simp at hx;rcases hx with hx | hx
  ·exact k1 x hx
  ·exact k2 x hx
 ·simp [execOp,Instr.makeFunc,e1,e2]
variable {f:FuncId} {xs:List Operand} {ats:Array TypeId} {vs:List Value} {rest:List Oper}
variable {K:yU→qQV→Prop} {G:qQV}
end
end Go.Sx
namespace Go.Sx
open Go.RowKit
abbrev yZW:=List (Nat × (Nat→Prop) × (World→Prop))
def zWA:yZW→Nat→Option ((Nat→Prop) × (World→Prop))
 | [],_=>none
 | (k,x) :: R,i=>bif Nat.beq k i then some x else zWA R i
theorem lookR_mem {R:yZW} {i:Nat} {x:(Nat→Prop) × (World→Prop)} (h:zWA R i=some x):∃ k,(k,x) ∈ R:=by
 induction R with
 | nil=>cases h
 | cons y R ih =>
  obtain ⟨k,y⟩:=y;simp only [zWA] at h;cases hb:Nat.beq k i with
  | true=>rw [hb] at h; simp at h; subst h; exact ⟨k,vZQ⟩
  | false=>rw [hb] at h; simp at h; obtain ⟨k',hk⟩:=ih h; exact ⟨k',vQH _ hk⟩
def updR:yZW→Nat→(Nat→Prop)→(World→Prop)→Option yZW
 | [],_,_,_=>none
 | (k,x) :: R,i,D,F=>bif Nat.beq k i then some ((k,D,F) :: R) else qVW (k,x) (updR R i D F)
theorem updR_spec {R R':yZW} {i:Nat} {D:Nat→Prop} {F:World→Prop} (h:updR R i D F=some R'):∃ R1 R2 k x,R=R1 ++ (k,x) :: R2∧R'=R1 ++ (k,D,F) :: R2∧zWA R i=some x:=by
 induction R generalizing R' with
 | nil=>cases h
 | cons y R ih =>
  obtain ⟨k,y⟩:=y;simp only [updR] at h;cases hb:Nat.beq k i with
  | true=>rw [hb] at h; simp at h; subst h; exact ⟨[],R,k,y,rfl,rfl,by simp [zWA,hb]⟩
  | false =>
   rw [hb] at h;obtain ⟨R2,h2,rfl⟩:=uG h;obtain ⟨A,B,k',x,e1,e2,e3⟩:=ih h2;exact ⟨(k,y) :: A,B,k',x,by rw [e1]; rfl,by rw [e2]; rfl,by simp [zWA,hb,e3]⟩
def Holds (w0:Base) (F:World→Prop):Prop:=∀ (H:Heap) (w:World),Knows w0 H w→F w
theorem qGD {w0:Base} {id:Nat} {D:Nat→Prop} {F:World→Prop} (h:zWA w0.R id=some (D,F)):Holds w0 F:=fun _ _ k=>by
 obtain ⟨j,hj⟩:=lookR_mem h;exact (k.facts _ hj).holds
theorem Knows.forget {w1:World} {x:Nat × (Nat→Prop) × (World→Prop)} {R:yZW} {H:Heap} {w:World} (k:Knows ⟨w1,x :: R⟩ H w):Knows ⟨w1,R⟩ H w :=
 ⟨k.grow,k.has,k.nodup,fun y hy=>k.facts y (vQH _ hy),(List.pairwise_cons.1 k.apart).2⟩
theorem Holds.more {w0:Base} {F:World→Prop} (h:Holds w0 F) (x:Nat × (Nat→Prop) × (World→Prop)):Holds ⟨w0.w,x :: w0.R⟩ F:=fun H w k=>h H w k.forget
theorem Holds.imp {w0:Base} {F G:World→Prop} (h:Holds w0 F) (hi:∀ w,F w→G w):Holds w0 G:=fun H w k=>hi w (h H w k)
def RetsF {X:Type} (Φ:X→Prop) (V:X→Value) (F:X→World→Prop) (w:World) (e:Ending) (w':World):Prop:=∃ x,Φ x∧e=.returned (V x)∧Grow w w'∧Told w.heap.size (F x) w'
section
variable {P:Program} {n:Nat} {w0:Base} {ops:Array Oper} {Q:Exit→Act→World→Prop} {S:yU} {H:Heap}
variable {d:Nat} {ty:TypeId} {pos:String} {af:Array Edge} {g:Option (Nat × Bool)}
variable {f:FuncId} {xs:List Operand} {ats:Array TypeId} {vs:List Value} {rest:List Oper} {X:Type} {Φ:X→Prop} {V:X→Value} {F:X→World→Prop}
variable {B:Base} {b i0 i j:Nat} {sl:Value} {L:List Int}
def ownD (a:Option Addr):Nat→Prop:=fun k=>∃ ad,a=some ad∧ad.block=k
def OwnF (m:Nat) (e:TypeId) (size:Nat) (a:Option Addr) (cap k:Nat) (ys:List Value):World→Prop:=fun w=>w.ownsRow m e size (.slice a k cap) k ys
theorem own_dep (m:Nat) (e:TypeId) (size:Nat) (a:Option Addr) (cap k:Nat) (ys:List Value):qKL (ownD a) (OwnF m e size a cap k ys):=fun w w' h hF=>by
 obtain ⟨h1,h2⟩:=hF;refine ⟨h1,?_⟩;rcases h2 with h2 | ⟨gg,cp,cur,hv,h3,h4,h5⟩
 ·exact .inl h2
 ·refine .inr ⟨gg,cp,cur,hv,h3,?_,h5⟩;simp only [Value.slice.injEq] at hv;rw [h gg ⟨_,hv.1,rfl⟩];exact h4
def appB (P:Program) (t e size bytes:Nat):Bool :=
 match P.underlying t,P.info? e with
 | some (.slice e'),some i=>e' == e && i.size == size && i.bytes == bytes && Nat.blt 0 size && (match i.zero with | some z=>z.cells.size == size | none=>false)
 | _,_=>false
theorem qXH {w:World} {t e size bytes base:Nat} {ty:TypeId} (hB:appB P t e size bytes=true) {v:Value} {k:Nat} {ys:List Value} (hown:w.ownsRow base e size v k ys)
  {ad:Addr} {m c:Nat} {news:List Value} (hm:0 < m) (hl:news.length=m * size) (hnews:∀ j u,news[j]? = some u→w.cell? (ad.add j)=some u) (h1:∀ u ∈ news,u.oneCell'=true)
  (h63:k + m≤9223372036854775807) (hby:(k + m) * bytes≤140737488355328) (hbase:base≤w.heap.size) :
  ∃ gg cap w',(Builtin.append_ #[t,t] ty #[v,.slice (some ad) m c]).run P w=.ok (.slice (some ⟨gg,0,none⟩) (k + m) cap) w'∧w'.ownsRow base e size (.slice (some ⟨gg,0,none⟩) (k + m) cap) (k + m) (ys ++ news)∧w.grownBy w' v.ownBlock ∧
   (v.ownBlock=some gg ∨ w.heap.size≤gg):=by
 unfold appB at hB;cases hu:P.underlying t with
 | none=>simp [hu] at hB
 | some ds =>
  cases ds <;> simp [hu] at hB
  rename_i e';cases hi:P.info? e with
  | none=>simp [hi] at hB
  | some i =>
   simp [hi] at hB;obtain ⟨⟨⟨⟨rfl,h2⟩,h3⟩,h4⟩,h5⟩:=hB;cases hz:i.zero with
   | none=>simp [hz] at h5
   | some z =>
    simp [hz] at h5;have hmax:maxLen=9223372036854775807:=rfl;obtain ⟨v',w',hr,ho,hg,hiff⟩:=run_append_own (P:=P) w base t ty e' i z size bytes hu hi hz h2 h3 h5 h4 v k ys hown ad m c news hl hnews h1 (by omega) hby hbase;rcases ho.2 with ⟨rfl,h0⟩ | ⟨gg,cap,cur,rfl,hbg,hgg,_⟩
    ·omega
    ·refine ⟨gg,cap,w',hr,ho,hg,?_⟩;rcases Nat.lt_or_ge gg w.heap.size with hlt | hge
     ·left
      -- the block lay there before: it is the slice's own
      subst h2;rcases hown.2 with ⟨rfl,hk0⟩ | ⟨g0,cap0,cur0,rfl,hb0,hg0,hkc,hcm,hcs,htake⟩
      ·exfalso;have hr2:=run_append_nil (P:=P) w t ty e' i z hu hi hz ad m c news hl hnews hm (by omega) (by have:=hby; subst hk0; subst h3; rw [Nat.zero_add] at this; omega);rw [hr] at hr2;simp only [Result.ok.injEq,Value.slice.injEq,vQZ,Addr.mk.injEq] at hr2;omega
      ·by_cases hroom:k + m≤cap0
       ·have hfit:k * i.size + news.length≤cur0.size:=by rw [hl,hcs,← Nat.add_mul]; exact Nat.mul_le_mul_right _ hroom
        have hr2:=run_append_room (P:=P) w t ty e' i hu hi g0 k cap0 cur0 hg0 ad m c news hl hnews h1 hroom hfit;rw [hr] at hr2;simp only [Result.ok.injEq,Value.slice.injEq,vQZ,Addr.mk.injEq] at hr2;simp [Value.ownBlock,hr2.1.1.1]
       ·exfalso;have holds:∀ j u,ys[j]? = some u→w.cell? ((⟨g0,0,none⟩:Addr).add j)=some u:=hown.cells (g:=g0) rfl;subst h3;have hr2:=run_append_grow (P:=P) w t ty e' i z hu hi hz ⟨g0,0,none⟩ k cap0 ys hown.1 holds ad m c news hl hnews (by omega) (by omega) (growslice_fits (by omega) hby);rw [hr] at hr2;simp only [Result.ok.injEq,Value.slice.injEq,vQZ,Addr.mk.injEq] at hr2;omega
     ·exact .inr hge
theorem Knows.append {w w':World} {R':yZW} {id e size cap cap' k m gg:Nat} {a:Option Addr} {ys news:List Value} (hk:Knows w0 H w) (hR:zWA w0.R id=some (ownD a,OwnF 0 e size a cap k ys))
  (ho:w'.ownsRow 0 e size (.slice (some ⟨gg,0,none⟩) (k + m) cap') (k + m) (ys ++ news)) (hg:w.grownBy w' (Value.slice a k cap).ownBlock)
  (hgg:(Value.slice a k cap).ownBlock=some gg ∨ w.heap.size≤gg) (hu:updR w0.R id (ownD (some ⟨gg,0,none⟩)) (OwnF 0 e size (some ⟨gg,0,none⟩) cap' (k + m) (ys ++ news))=some R'):Knows ⟨w0.w,R'⟩ H w':=by
 obtain ⟨R1,R2,kk,x,e1,e2,e3⟩:=updR_spec hu;rw [hR] at e3;cases e3;have hmem:(kk,ownD a,OwnF 0 e size a cap k ys) ∈ w0.R:=by rw [e1]; simp
 have hfa:=hk.facts _ hmem;have blk:∀ q,(Value.slice a k cap).ownBlock=some q→ownD a q:=fun q hq=>by
  cases a with
  | none=>simp [Value.ownBlock] at hq
  | some ad=>simp [Value.ownBlock] at hq; exact ⟨ad,rfl,hq⟩
 have hlow:∀ q,q < w.heap.size→¬ ownD a q→w'.heap[q]? = w.heap[q]?:=fun q hq hn=>hg.block q hq fun e=>hn (blk q e.symm)
 have hgt:gg < w'.heap.size:=by
  rcases ho.2 with ⟨h,_⟩ | ⟨g',c',cur,h,_,h4,_⟩
  ·simp at h
  ·simp only [Value.slice.injEq,vQZ,Addr.mk.injEq,and_true] at h;rw [h.1];exact qZF h4
 have hgm:w0.w.heap.size≤gg:=by
  rcases hgg with h | h
  ·exact (hfa.at' gg (blk gg h)).1
  ·exact Nat.le_trans hk.grow.size h
 have hap:=hk.apart;rw [e1] at hap;have hap1:=List.pairwise_append.1 hap;have hap2:=List.pairwise_cons.1 hap1.2.1
 -- the new block is none of another fact's
 have others:∀ y ∈ R1 ++ R2,¬ y.2.1 gg:=fun y hy hd=>by
  have hy0:y ∈ w0.R:=by
   rw [e1];rcases List.mem_append.1 hy with h | h
   ·exact List.mem_append_left _ h
   ·exact List.mem_append_right _ (vQH _ h)
  rcases hgg with h | h
  ·rcases List.mem_append.1 hy with h' | h'
   ·exact hap1.2.2 y h' _ vZQ gg hd (blk gg h)
   ·exact hap2.1 y h' gg (blk gg h) hd
  ·have:=((hk.facts y hy0).at' gg hd).2.1
   omega
 have keepF:∀ y ∈ R1 ++ R2,RFact w0.w.heap.size H y.2.1 y.2.2 w':=fun y hy=>by
  have hy0:y ∈ w0.R:=by
   rw [e1];rcases List.mem_append.1 hy with h | h
   ·exact List.mem_append_left _ h
   ·exact List.mem_append_right _ (vQH _ h)
  obtain ⟨q1,q2,q3⟩:=hk.facts y hy0;refine ⟨q1,fun q hq=>⟨(q2 q hq).1,vZK (q2 q hq).2.1 hg.size,(q2 q hq).2.2⟩,q1 w w' (fun q hq=>hlow q (q2 q hq).2.1 fun ho' => ?_) q3⟩;rcases List.mem_append.1 hy with h' | h'
  ·exact hap1.2.2 y h' _ vZQ q hq ho'
  ·exact hap2.1 y h' q ho' hq
 refine ⟨⟨hg.os.trans hk.grow.os,hg.tape.trans hk.grow.tape,hg.output.trans hk.grow.output,Nat.le_trans hk.grow.size hg.size,fun q hq => ?_⟩,fun y hy=>⟨(hk.has y hy).1,?_⟩,hk.nodup,fun y hy => ?_,?_⟩
 ·have hq':q < w0.w.heap.size:=hq;rw [hlow q (vZK hq' hk.grow.size) fun hd=>by have:=(hfa.at' q hd).1; omega];exact hk.grow.block q hq'
 ·rw [hlow _ (qZF (hk.has y hy).2) fun hd=>(hfa.at' _ hd).2.2 y hy rfl];exact (hk.has y hy).2
 ·rw [show (⟨w0.w,R'⟩:Base).R=R' from rfl,e2] at hy;rcases List.mem_append.1 hy with h | h
  ·exact keepF y (List.mem_append_left _ h)
  ·rcases List.mem_cons.1 h with rfl | h
   ·refine ⟨own_dep _ _ _ _ _ _ _,fun q ⟨ad,had,hq⟩ => ?_,ho⟩;simp only [vQZ] at had;subst had;simp only at hq;subst hq;refine ⟨hgm,hgt,fun y hy e => ?_⟩;rcases hgg with h | h
    ·exact (hfa.at' gg (blk gg h)).2.2 y hy e
    ·have:=hk.lt y hy
     omega
   ·exact keepF y (List.mem_append_right _ h)
 ·show R'.Pairwise _;rw [e2];refine List.pairwise_append.2 ⟨hap1.1,List.pairwise_cons.2 ⟨fun y hy q ⟨ad,had,hq⟩ hd => ?_,hap2.2⟩,fun y hy z hz q hyq hzq => ?_⟩
  ·simp only [vQZ] at had;subst had;simp only at hq;subst hq;exact others y (List.mem_append_right _ hy) hd
  ·rcases List.mem_cons.1 hz with rfl | hz
   ·obtain ⟨ad,had,hq⟩:=hzq;simp only [vQZ] at had;subst had;simp only at hq;subst hq;exact others y (List.mem_append_left _ hy) hyq
   ·exact hap1.2.2 y hy z (vQH _ hz) q hyq hzq
def AllIn (S:yU):yU→Prop
 | []=>True
 | (t,v) :: r=>look S t=some v∧AllIn S r
theorem Fits.all {S':yU} {a:Act} (f:Fits n S a) (h:AllIn S S'):Fits n S' a:=by
 refine ⟨f.size,f.defers,fun t v ht=>f.has t v ?_⟩;induction S' with
 | nil=>cases ht
 | cons x S' ih =>
  obtain ⟨k,u⟩:=x;by_cases e:k=t
  ·subst e;rw [uX] at ht;cases ht;exact h.1
  ·rw [qQU _ _ e] at ht;exact ih h.2 ht
def yZV (H:Heap):Heap→Prop
 | []=>True
 | (k,x) :: r=>qVU H k=some x∧yZV H r
theorem lookH_at {H:Heap} {i:Nat} {x:Nat × List Value × TypeId} (h:qVU H i=some x):(i,x) ∈ H:=by
 induction H with
 | nil=>cases h
 | cons y H ih =>
  obtain ⟨k,y⟩:=y;simp only [qVU] at h;cases hb:Nat.beq k i with
  | true =>
   rw [hb] at h; simp at h; subst h;rw [vQX hb];exact vZQ
  | false=>rw [hb] at h; simp at h; exact vQH _ (ih h)
theorem heap_uniq:∀ {H:Heap},(H.map (·.2.1)).Nodup→∀ p ∈ H,∀ q ∈ H,p.2.1=q.2.1→p=q:=by
 intro H;induction H with
 | nil=>intro _ p hp; cases hp
 | cons z H ih =>
  intro nd p hp q hq e;rw [List.map_cons,List.nodup_cons] at nd;rcases List.mem_cons.1 hp with p1 | p1
  ·rcases List.mem_cons.1 hq with q1 | q1
   ·rw [p1,q1]
   ·exact absurd (List.mem_map.2 ⟨q,q1,by rw [← e,p1]⟩) nd.1
  ·rcases List.mem_cons.1 hq with q1 | q1
   ·exact absurd (List.mem_map.2 ⟨p,p1,by rw [e,q1]⟩) nd.1
   ·exact ih nd.2 p p1 q q1 e
def idsB:Heap→Bool
 | []=>true
 | (k,_) :: r => !(r.any fun x=>Nat.beq x.1 k) && idsB r
theorem Knows.all {w:World} {H':Heap} (k:Knows w0 H w) (h:yZV H H') (hp:idsB H'=true):Knows w0 H' w:=by
 have hm:∀ x ∈ H',qVU H x.1=some x.2:=by
  clear hp
  induction H' with
  | nil=>intro x hx; cases hx
  | cons z H' ih =>
   intro x hx;rcases List.mem_cons.1 hx with rfl | hx
   ·exact h.1
   ·exact ih h.2 x hx
 have nd:(H'.map (·.2.1)).Nodup:=by
  clear h
  induction H' with
  | nil=>exact List.nodup_nil
  | cons z H' ih =>
   obtain ⟨kz,z⟩:=z;simp only [idsB,vQJ,Bool.not_eq_true'] at hp;rw [List.map_cons,List.nodup_cons];refine ⟨fun hz => ?_,ih hp.2 fun x hx=>hm x (vQH _ hx)⟩;obtain ⟨y,hy,he⟩:=List.mem_map.1 hz;have h1:=lookH_at (hm _ vZQ);have h2:=lookH_at (hm _ (vQH _ hy));have h3:=heap_uniq k.nodup _ h2 _ h1 he;have h4:y.1=kz:=congrArg Prod.fst h3;have h5:=List.any_eq_false.1 hp.1 y hy;rw [h4] at h5;simp at h5
 refine ⟨k.grow,fun x hx => ?_,nd,fun F hF=>(k.facts F hF).heap fun x hx => ?_,k.apart⟩
 ·obtain ⟨kx,b,cs,t⟩:=x;exact k.at (hm _ hx)
 ·obtain ⟨l,hl⟩:=zQK (hm x hx);exact .inl ⟨_,hl,rfl⟩
theorem AllIn.app {A C:yU} (h:AllIn S A) (h':AllIn S C):AllIn S (A ++ C):=by
 induction A with
 | nil=>exact h'
 | cons x A ih=>exact ⟨h.1,ih h.2⟩
theorem keepS_all {ks:List Nat} {S':yU} (h:zXH ks S=some S'):AllIn S S':=by
 have hs:=zYC h
 -- each entry of a kept list is looked up as itself
 have own:∀ (ks:List Nat) (S S':yU),zXH ks S=some S'→∀ A C t v,S'=A ++ (t,v) :: C→look S' t=some v:=by
  intro ks S;induction S generalizing ks with
  | nil=>intro S' h A C t v e; simp [zXH] at h; subst h; simp at e
  | cons x S ih =>
   obtain ⟨k,u⟩:=x;intro S' h A C t v e;simp only [zXH] at h;cases hb:ks.any (Nat.beq k) with
   | false=>rw [hb] at h; simp at h; exact ih ks S' h A C t v e
   | true =>
    rw [hb] at h;obtain ⟨S2,h2,rfl⟩:=uG h;cases A with
    | nil =>
     simp only [List.nil_append,List.cons.injEq,vQY] at e;obtain ⟨⟨rfl,rfl⟩,_⟩:=e;exact uX _ _ _
    | cons y A =>
     simp only [List.cons_append,List.cons.injEq] at e;have h3:=ih _ S2 h2 A C t v e.2;have hne:k ≠ t:=fun hk=>by
      have:=(zYC h2 t v h3).2
      rw [List.mem_filter] at this;have h4:=this.2;rw [hk] at h4;simp at h4
     rw [qQU _ _ hne];exact h3
 have all:∀ C:yU,(∀ A,S'=A ++ C→AllIn S C):=by
  intro C;induction C with
  | nil=>intro _ _; trivial
  | cons x C ih =>
   intro A e;obtain ⟨t,v⟩:=x;exact ⟨(hs t v (own ks S S' h A C t v e)).1,ih (A ++ [(t,v)]) (by rw [e]; simp)⟩
 exact all S' [] rfl
def jQB {α:Type} (n:Nat) (μ:α→Nat) (I:α→Prop) (Wb:α→Base) (St:α→yU) (He:α→Heap) (a:α):Act→World→Prop:=fun act w=>∃ a',I a'∧μ a' < μ a∧Fits n (St a') act∧Knows (Wb a') (He a') w
theorem doC_loop {α:Type} {c:Code} {μ:α→Nat} {I:α→Prop} {Wb:α→Base} {St:α→yU} {He:α→Heap}
  (h:∀ a,I a→DoC P n (Wb a) (Exit.then (jQB n μ I Wb St He a) Q) c (St a) (He a)):∀ a,I a→DoC P n (Wb a) Q (.loop c) (St a) (He a):=by
 have key:∀ (N:Nat) (a:α),I a→μ a < N→∀ act w,Fits n (St a) act→Knows (Wb a) (He a) w→Code.rounds P c Q N act w:=by
  intro N;induction N with
  | zero=>intro a _ hlt; omega
  | succ N ih =>
   intro a ha hlt act w hf hk;rw [rounds_succ];refine wp_mono (h a ha act w hf hk) fun e act' w' hq => ?_
   cases e with
   | normal =>
    obtain ⟨a',h1,h2,h3,h4⟩:=hq;exact ih a' h1 (by omega) act' w' h3 h4
   | _=>exact hq
 exact fun a ha act w hf hk=>wp_loop_rounds (μ a + 1) (key (μ a + 1) a ha (by omega) act w hf hk)
theorem post_again {α:Type} {μ:α→Nat} {I:α→Prop} {Wb:α→Base} {St:α→yU} {He:α→Heap} {a:α} {w1:Base} (a':α) (hI:I a') (hμ:μ a' < μ a) (hb:w1=Wb a') (hS:AllIn S (St a')) (hH:yZV H (He a')) (hid:idsB (He a')=true) :
  qJG n w1 (Exit.then (jQB n μ I Wb St He a) Q) .normal S H:=fun act w f k=>by
 subst hb;exact ⟨a',hI,hμ,f.all hS,k.all hH hid⟩
theorem doC_sub {c:Code} {S':yU} {H':Heap} (hS:AllIn S S') (hH:yZV H H') (hid:idsB H'=true) (h:DoC P n w0 Q c S' H'):DoC P n w0 Q c S H:=fun a w f k=>h a w (f.all hS) (k.all hH hid)
theorem doC_loopK {α:Type} {c:Code} {Sf:yU} {Hf:Heap} (ks ids:List Nat) (μ:α→Nat) (I:α→Prop) (Wb:α→Base) (chg:α→yU) (chgH:α→Heap) (a0:α) (hK:zXH ks S=some Sf) (_:yYL ids H=some Hf) (h0:I a0) (hb:w0=Wb a0) (hS:AllIn S (chg a0)) (hH:yZV H (chgH a0 ++ Hf)) (hid:idsB (chgH a0 ++ Hf)=true)
  (round:∀ a,I a→DoC P n (Wb a) (Exit.then (jQB n μ I Wb (fun x=>chg x ++ Sf) (fun x=>chgH x ++ Hf) a) Q) c (chg a ++ Sf) (chgH a ++ Hf)):DoC P n w0 Q (.loop c) S H:=by
 subst hb;exact doC_sub (AllIn.app hS (keepS_all hK)) hH hid (doC_loop round a0 h0)
theorem Told.imp {m:Nat} {D:Nat→Prop} {F G:World→Prop} {w:World} (hD:qKL D G) (hb:∀ q,D q→m≤q∧q < w.heap.size) (h:G w):Told m G w:=⟨D,hD,hb,h⟩
end
end Go.Sx
namespace Go.Sx
open Go.RowKit
def qJQ (sz:Nat) (a:Option Addr) (rows:List (List Value)) (w:World):Prop :=
 ∀ j r,rows[j]? = some r→r.length=sz∧∃ b off,a=some ⟨b,off,none⟩∧b < w.heap.size∧∀ k,k < sz→w.cell? ⟨b,off + j * sz + k,none⟩=r[k]?
theorem slc_dep (sz:Nat) (a:Option Addr) (rows:List (List Value)):qKL (ownD a) (qJQ sz a rows):=fun w w' h hS j r hj=>by
 obtain ⟨h1,b,off,ha,hb,hc⟩:=hS j r hj;have hw:=h b ⟨_,ha,rfl⟩;refine ⟨h1,b,off,ha,?_,fun k hk => ?_⟩
 ·have:w'.heap[b]? = some w.heap[b]:=by rw [hw]; exact vZU hb
  exact qZF this
 ·rw [← hc k hk];exact World.cell?_of_block (w:=w) hw
theorem slc_grow {sz:Nat} {a:Option Addr} {rows:List (List Value)} {w w':World} (h:qJQ sz a rows w) (g:Grow w w'):qJQ sz a rows w':=fun j r hj=>by
 obtain ⟨h1,b,off,ha,hb,hc⟩:=h j r hj;exact ⟨h1,b,off,ha,vZK hb g.size,fun k hk=>by rw [← hc k hk]; exact World.cell?_of_block (w:=w) (g.block b hb)⟩
theorem qVE {w0:Base} {sz:Nat} {a:Option Addr} {rows:List (List Value)} (h:qJQ sz a rows w0.w):Holds w0 (qJQ sz a rows):=fun _ _ k=>slc_grow h k.grow
theorem qVI {sz:Nat}:∀ (rows:List (List Value)),(∀ r ∈ rows,r.length=sz)→∀ j r,rows[j]? = some r→∀ k,k < sz→rows.flatten[j * sz + k]? = r[k]?
 | [],_,j,r,hj,_,_=>by simp at hj
 | q :: rows,hs,0,r,hj,k,hk=>by
  simp at hj;subst hj
  have:=hs q vZQ
  simp only [List.flatten_cons,Nat.zero_mul,Nat.zero_add];rw [List.getElem?_append_left (by omega)]
 | q :: rows,hs,j + 1,r,hj,k,hk=>by
  simp only [List.getElem?_cons_succ] at hj;have hq:=hs q vZQ
  have:=qVI rows (fun r hr=>hs r (vQH _ hr)) j r hj k hk
  simp only [List.flatten_cons];rw [List.getElem?_append_right (by rw [hq,Nat.add_mul]; omega),← this]
  congr 1
  rw [hq,Nat.add_mul];omega
theorem zVD {m e sz cap:Nat} {a:Option Addr} {rows:List (List Value)} {w:World} (hs:∀ r ∈ rows,r.length=sz) (h:OwnF m e sz a cap rows.length rows.flatten w):qJQ sz a rows w:=fun j r hj=>by
 have hlt:=(List.getElem?_eq_some_iff.1 hj).1;have hr:=hs r (vQG hj);refine ⟨hr,?_⟩;rcases h.2 with ⟨h1,h2⟩ | ⟨gg,cp,cur,hv,hm,hg,hc1,hc2,hcs,htake⟩
 ·omega
 ·simp only [Value.slice.injEq] at hv;refine ⟨gg,0,hv.1,qZF hg,fun k hk => ?_⟩;have hlt2:j * sz + k < rows.length * sz:=by
   have h1:=Nat.mul_le_mul_right sz (show j + 1≤rows.length by omega);rw [Nat.add_mul] at h1;omega
  rw [← qVI rows hs j r hj k hk,← htake,vZV,if_pos hlt2];simp [World.cell?,hg]
def pAt (a:Option Addr) (k:Nat):Value:=match a with
 | some ad=>.pointer (some ⟨ad.block,ad.off + k,none⟩)
 | none=>undef
section
variable {P:Program} {n:Nat} {w0:Base} {ops:Array Oper} {Q:Exit→Act→World→Prop} {S:yU} {H:Heap}
variable {d:Option Tmp} {ty:TypeId} {pos:String} {af:Array Edge} {g:Option (Nat × Bool)}
variable {sz:Nat} {a:Option Addr} {rows:List (List Value)} {r:List Value}
theorem qKZ {t e len cap j:Nat} {x y:Operand} {kd:IntKind} {i:Int} (hS:Holds w0 (qJQ sz a rows)) (hA:slcB P t e sz=true) (hx:ev S x=some (.slice a len cap)) (hy:ev S y=some (.int kd i)) (hi:i=(j:Int)) (hj:rows[j]? = some r) (hl:j < len) :
  OpV P w0 S H ⟨d,.indexAddr t x y,ty,pos,af,g⟩ (pAt a (j * sz)) :=
 jX (by simp [jQ,Op.operands,hx,hy]) rfl fun w k=>by
  obtain ⟨_,b,off,rfl,_⟩:=hS H w k j r hj;subst hi;unfold slcB at hA;cases hu:P.underlying t with
  | none=>simp [hu] at hA
  | some ds =>
   cases ds <;> simp [hu] at hA
   rename_i e';obtain ⟨rfl,h2⟩:=hA;cases hinf:P.info? e' with
   | none=>simp [hinf] at h2
   | some inf =>
    simp [hinf] at h2;subst h2;simp [execOp,zV hx,zV hy,Instr.indexAt,asIntOf,run_underlying hu,hl,sizeOf,typeInfo,hinf,qUG,pAt]
theorem qVB {t:TypeId} {x:Operand} {vs:List Value} {sz2:Nat} (j o:Nat) (hS:Holds w0 (qJQ sz a rows)) (hj:rows[j]? = some r) (hT:tyB P t true sz2=true) (hx:ev S x=some (pAt a (j * sz + o))) (hv:zUQ r o sz2=some vs):OpV P w0 S H ⟨d,.load t x,ty,pos,af,g⟩ (.agg vs.toArray) :=
 jX (by simp [jQ,Op.operands,hx]) rfl fun w kn=>by
  obtain ⟨hr,b,off,rfl,_,hc⟩:=hS H w kn j r hj;obtain ⟨e,hl⟩:=sliceV_spec hv;have hrun:=qJX (P:=P) (w:=w) (b:=b) (off:=off + (j * sz + o)) (k:=sz2) (vs:=vs) (fun i hi=>by
   have:=hc (o + i) (by omega)
   rw [show off + (j * sz + o) + i=off + j * sz + (o + i) by omega,this,e,vZV,if_pos hi,List.getElem?_drop]) (by rw [e]; simp; omega)
  simp [execOp,zV hx,pAt,Instr.loadAt,Instr.sureAddr,loadVar,qUA hT,qYQ hT,hrun]
variable {X:Type} {Φ:X→Prop} {V:X→Value} {F:X→World→Prop}
end
end Go.Sx
namespace Go.Sx
open Go.RowKit
section
variable {P:Program} {n:Nat} {w0:Base} {ops:Array Oper} {Q:Exit→Act→World→Prop} {S:yU} {H:Heap}
variable {d:Nat} {ty:TypeId} {pos:String} {af:Array Edge} {g:Option (Nat × Bool)}
variable {X:Type} {Φ:X→Prop} {V:X→Value} {F:X→World→Prop}
variable {f:FuncId} {xs:List Operand} {ats:Array TypeId} {vs:List Value} {rest:List Oper} {G:qQV}
variable {σ:Type} {b:Nat→Prop} {w1:Base} {H0:Heap} {Wf:σ→Base} {Hf:σ→Heap} {es:List Nat} {K:σ→yU→qQV→Prop} {ix:Nat} {s s2:σ}
theorem Yields.mono {w:World} {T T':Pred} {r:Result Next} (h:Yields P w T r) (hT:∀ v w',Grow w w'→T v w'→T' v w'):Yields P w T' r:=by
 cases r with
 | ok x w' =>
  cases x <;> simp only [Yields] at h ⊢
  case value v=>exact ⟨h.1,hT v w' h.1 h.2⟩
  case skip=>exact ⟨h.1,hT undef w' h.1 h.2⟩
  case enter ff args=>exact ⟨h.1,h.2.mono fun e w'' ⟨v,h1,h2,h3⟩=>⟨v,h1,h2,hT v w'' (h.1.trans h2) h3⟩⟩
 | halt x w'=>simp only [Yields] at h
variable {tl:List Oper} {Fw:World→Prop}
variable {B:Base} {sb si:Nat} {sl:Value} {L:List Int}
end
end Go.Sx
namespace Go.Sx
open Go.RowKit
section
variable {P:Program} {n:Nat} {w0:Base} {ops:Array Oper} {Q:Exit→Act→World→Prop} {S:yU} {H:Heap}
variable {d:Nat} {ty:TypeId} {pos:String} {af:Array Edge} {g:Option (Nat × Bool)} {rest:List Oper}
theorem Knows.swap {w w':World} {R':yZW} {id:Nat} {D D':Nat→Prop} {F F':World→Prop} (hk:Knows w0 H w) (hR:zWA w0.R id=some (D,F)) (hg:GrowB D w w') (hD:∀ q,D' q→D q)
  (hd:qKL D' F') (hF:F' w') (hu:updR w0.R id D' F'=some R'):Knows ⟨w0.w,R'⟩ H w':=by
 obtain ⟨R1,R2,kk,x,e1,e2,e3⟩:=updR_spec hu;rw [hR] at e3;cases e3;have hmem:(kk,D,F) ∈ w0.R:=by rw [e1]; simp
 have hfa:=hk.facts _ hmem;have hap:=hk.apart;rw [e1] at hap;have hap1:=List.pairwise_append.1 hap;have hap2:=List.pairwise_cons.1 hap1.2.1;have other:∀ y ∈ w0.R,(∀ q,y.2.1 q→¬ D q)→RFact w0.w.heap.size H y.2.1 y.2.2 w':=fun y hy hn=>by
  have hy2:=hk.facts y hy;exact ⟨hy2.dep,fun q hq=>⟨(hy2.at' q hq).1,vZK (hy2.at' q hq).2.1 hg.size,(hy2.at' q hq).2.2⟩,hy2.dep w w' (fun q hq=>hg.block q (hy2.at' q hq).2.1 (hn q hq)) hy2.holds⟩
 refine ⟨⟨hg.os.trans hk.grow.os,hg.tape.trans hk.grow.tape,hg.output.trans hk.grow.output,Nat.le_trans hk.grow.size hg.size,fun q hq => ?_⟩,fun y hy => ?_,hk.nodup,fun y hy => ?_,?_⟩
 ·rw [hg.block q (vZK hq hk.grow.size) fun h=>absurd (hfa.at' q h).1 (Nat.not_le_of_lt hq)];exact hk.grow.block q hq
 ·have h1:=hk.has y hy;exact ⟨h1.1,by rw [hg.block _ (qZF h1.2) fun h=>(hfa.at' _ h).2.2 y hy rfl]; exact h1.2⟩
 ·have hy':y ∈ R1 ++ (kk,D',F') :: R2:=by rw [← e2]; exact hy
  rcases List.mem_append.1 hy' with h | h
  ·exact other y (by rw [e1]; exact List.mem_append_left _ h) fun q hq=>hap1.2.2 y h _ vZQ q hq
  ·rcases List.mem_cons.1 h with rfl | h
   ·exact ⟨hd,fun q hq=>⟨(hfa.at' q (hD q hq)).1,vZK (hfa.at' q (hD q hq)).2.1 hg.size,(hfa.at' q (hD q hq)).2.2⟩,hF⟩
   ·exact other y (by rw [e1]; exact List.mem_append_right _ (vQH _ h)) fun q hq hD2=>hap2.1 y h q hD2 hq
 ·show R'.Pairwise _;rw [e2];refine List.pairwise_append.2 ⟨hap1.1,List.pairwise_cons.2 ⟨fun y hy q hq=>hap2.1 y hy q (hD q hq),hap2.2⟩,fun y hy z hz q hq => ?_⟩;rcases List.mem_cons.1 hz with rfl | hz
  ·exact fun h=>hap1.2.2 y hy _ vZQ q hq (hD q h)
  ·exact hap1.2.2 y hy z (vQH _ hz) q hq
theorem run_newObj (w:World) (o:Obj):(newObj o).run P w=.ok w.heap.size (w.alloc o):=rfl
theorem run_getIter {w:World} {b p:Nat} {s:ByteArray} (h:w.heap[b]? = some (.stringIter s p)):(getObj b).run P w=.ok (.stringIter s p) w:=by
 unfold getObj;simp [Sem.run,h]
theorem run_setIter {w:World} {b p:Nat} {s:ByteArray} (o:Obj) (h:w.heap[b]? = some (.stringIter s p)):(setObj b o).run P w=.ok () { w with heap:=w.heap.setIfInBounds b o }:=by
 unfold setObj;simp [Sem.run,h]
theorem setObj_growB {w:World} {b:Nat} {o:Obj}:GrowB (· = b) w { w with heap:=w.heap.setIfInBounds b o } :=
 ⟨rfl,rfl,rfl,by simp,fun k _ hk=>by simp [Array.getElem?_setIfInBounds_ne (Ne.symm hk)]⟩
end
end Go.Sx
namespace Go.Sx
open Go.RowKit
theorem rows_len {sz:Nat}:∀ (rows:List (List Value)),(∀ r ∈ rows,r.length=sz)→rows.flatten.length=rows.length * sz
 | [],_=>by simp
 | r :: rows,h=>by
  rw [List.flatten_cons,List.length_append,h r vZQ,rows_len rows fun x hx=>h x (vQH _ hx),vQW,Nat.add_mul];omega
theorem zJI {sz:Nat}:∀ (rows:List (List Value)) (j:Nat) (vs:List Value),(∀ r ∈ rows,r.length=sz)→j < rows.length→vs.length=sz →
  (rows.set j vs).flatten=rows.flatten.take (j * sz) ++ vs ++ rows.flatten.drop (j * sz + sz)
 | [],j,vs,_,hj,_=>by simp at hj
 | r :: rows,0,vs,h,_,hv=>by
  have hr:=h r vZQ;simp only [List.set_cons_zero,List.flatten_cons,Nat.zero_mul,vYX,List.nil_append,Nat.zero_add];rw [← hr,List.drop_left]
 | r :: rows,j + 1,vs,h,hj,hv=>by
  have hr:=h r vZQ;have ih:=zJI rows j vs (fun x hx=>h x (vQH _ hx)) (by simpa using hj) hv;simp only [List.set_cons_succ,List.flatten_cons];rw [ih,show (j + 1) * sz=r.length + j * sz by rw [Nat.add_mul,hr]; omega,List.take_length_add_append,Nat.add_assoc,List.drop_length_add_append]
  simp
def zHF (b sz e:Nat) (rows:List (List Value)):World→Prop:=fun w=>(∀ r ∈ rows,r.length=sz)∧w.heap[b]? = some (.cells rows.flatten.toArray e)
theorem rowsF_dep (b sz e:Nat) (rows:List (List Value)):qKL (· = b) (zHF b sz e rows):=fun w w' h hF=>by
 unfold zHF at *;rw [h b rfl]; exact hF
theorem qKU {b sz e:Nat} {rows:List (List Value)} (w:World) (h:zHF b sz e rows w):qJQ sz (some ⟨b,0,none⟩) rows w:=fun j r hj =>
 ⟨h.1 r (vQG hj),b,0,rfl,qZF h.2,fun k hk=>by
  rw [qGL h.2,Nat.zero_add];exact qVI rows h.1 j r hj k hk⟩
section
variable {P:Program} {n:Nat} {w0:Base} {ops:Array Oper} {Q:Exit→Act→World→Prop} {S:yU} {H:Heap}
variable {ty:TypeId} {pos:String} {af:Array Edge} {g:Option (Nat × Bool)} {rest:List Oper}
theorem doL_storeRow {t:TypeId} {x y:Operand} {b e sz j:Nat} {rows:List (List Value)} {vs:List Value} (id:Nat) (hT:tyB P t true sz=true) (hR:zWA w0.R id=some ((· = b),zHF b sz e rows))
  (hx:ev S x=some (pAt (some ⟨b,0,none⟩) (j * sz))) (hy:ev S y=some (.agg vs.toArray)) (hj:j < rows.length) (hv:Nat.beq vs.length sz=true) (h1:vs.all Value.oneCell'=true)
  (hw:qZV ops S ⟨none,.store t x y,ty,pos,af,g⟩=some true) (hu:(updR w0.R id (· = b) (zHF b sz e (rows.set j vs))).isSome=true)
  (next:∀ R',updR w0.R id (· = b) (zHF b sz e (rows.set j vs))=some R'→DoL P n ⟨w0.w,R'⟩ ops Q rest S H) :
  DoL P n w0 ops Q (⟨none,.store t x y,ty,pos,af,g⟩ :: rest) S H:=by
 intro a w f k;unfold wpList;rw [qYF f hw,if_pos rfl];refine .inl ?_;obtain ⟨R',hR'⟩:=Option.isSome_iff_exists.1 hu;have hF:zHF b sz e rows w:=qGD hR _ _ k;have hvs:=vQX hv;have hlen:j * sz + sz≤rows.flatten.length:=by
  rw [rows_len rows hF.1]
  have:=Nat.mul_le_mul_right sz (show j + 1≤rows.length from hj)
  rw [Nat.add_mul] at this;omega
 have hst:=run_storeCells_at P b (0 + j * sz) e vs 0 rows.flatten.toArray w hF.2 (by simp; simp at hlen; omega) (fun u hu=>List.all_eq_true.1 h1 u hu);have hx':ev S x=some (.pointer (some ⟨b,0 + j * sz,none⟩)):=hx;have hrun:(execOp a.eval ⟨none,.store t x y,ty,pos,af,g⟩).run P w=.ok .skip (w.setRow b (rows.set j vs).flatten.toArray):=by
  rw [zJI rows j vs hF.1 hj hvs];simp only [Nat.add_zero,Nat.zero_add,hvs] at hst;have hx2:ev S x=some (.pointer (some ⟨b,j * sz,none⟩)):=by rw [hx',Nat.zero_add]
  have hc:(Value.agg vs.toArray).cells=vs.toArray:=rfl;simp [execOp,f.ev hx2,f.ev hy,Instr.storeAt,Instr.sureAddr,storeVar,qYQ hT,hc,hvs,hst]
 unfold Oper.wp;rw [hrun];refine next R' hR' _ _ f (k.swap hR (GrowB.set b w _) (fun _ h=>h) (rowsF_dep _ _ _ _) ⟨fun r hr => ?_,setRow_heap w b _ _ e _ hF.2⟩ hR')
 rcases List.mem_or_eq_of_mem_set hr with h | h
 ·exact hF.1 r h
 ·rw [h]; exact hvs
end
end Go.Sx
namespace Go.Sx
open Go.RowKit
theorem zXV {zs:List Value} {sz m:Nat} (hz:zs.length=sz) (h0:0 < sz):madeCells zs.toArray (m * sz)=(List.replicate m zs).flatten.toArray:=by
 have hall:∀ r ∈ List.replicate m zs,r.length=sz:=fun r hr=>by rw [List.eq_of_mem_replicate hr,hz]
 have hlen:=rows_len (sz:=sz) (List.replicate m zs) hall;rw [List.length_replicate] at hlen;apply Array.ext
 ·rw [size_madeCells]; simp only [List.size_toArray]; exact hlen.symm
 ·intro k h1 h2;rw [size_madeCells] at h1;have hd:k / sz < m:=(Nat.div_lt_iff_lt_mul h0).2 h1;have hm:=Nat.mod_lt k h0;have hg:=qVI (sz:=sz) (List.replicate m zs) hall (k / sz) zs (by simp [hd]) (k % sz) hm;rw [show k / sz * sz + k % sz=k by rw [Nat.mul_comm]; exact Nat.div_add_mod k sz] at hg;have e1:(madeCells zs.toArray (m * sz))[k]? = zs[k % sz]?:=by
   simp only [madeCells,Array.getElem?_map,List.size_toArray,hz];rw [Array.getElem?_range,if_pos h1];simp [hz,hm]
  have e2:(List.replicate m zs).flatten.toArray[k]? = zs[k % sz]?:=by rw [List.getElem?_toArray]; exact hg
  have:=e1.trans e2.symm
  rw [vZU (by rw [size_madeCells]; exact h1),vZU h2] at this;exact Option.some.inj this
def makeB (P:Program) (t e sz bytes:Nat) (zs:List Value):Prop:=P.underlying t=some (.slice e)∧∃ i z,P.info? e=some i∧i.zero=some z∧i.size=sz∧i.bytes=bytes∧z.cells.toList=zs∧zs.length=sz∧0 < sz
section
variable {P:Program} {n:Nat} {w0:Base} {ops:Array Oper} {Q:Exit→Act→World→Prop} {S:yU} {H:Heap}
variable {d:Nat} {ty:TypeId} {pos:String} {af:Array Edge} {g:Option (Nat × Bool)} {rest:List Oper}
theorem qHL {t e sz bytes:Nat} {z:Value} (hA:appB P t e sz bytes=true) (hz:qYV P e z):makeB P t e sz bytes z.cells.toList:=by
 unfold appB at hA;unfold qYV at hz;cases hu:P.underlying t with
 | none=>simp [hu] at hA
 | some ds =>
  cases ds <;> simp [hu] at hA
  rename_i e';cases hi:P.info? e with
  | none=>simp [hi] at hA
  | some i =>
   simp only [hi] at hA hz;simp at hz;simp only [hz,vQJ,beq_iff_eq] at hA;obtain ⟨⟨⟨⟨rfl,h2⟩,h3⟩,h4⟩,h5⟩:=hA;exact ⟨hu,i,z,hi,hz,h2,h3,rfl,by simpa using h5,by simpa using h4⟩
theorem doL_make {t e sz bytes m:Nat} {zs:List Value} {x:Operand} (id:Nat) (hB:makeB P t e sz bytes zs) (hx:ev S x=some (.int .i64 (m:Int))) (hm:m * bytes≤281474976710656) (_:m≤1000000)
  (hw:qZV ops S ⟨some d,.makeSlice t x x,ty,pos,af,g⟩=some true) (hn:Nat.blt d n=true)
  (next:∀ b,DoL P n ⟨w0.w,(id,(· = b),zHF b sz e (List.replicate m zs)) :: w0.R⟩ ops Q rest ((d,.slice (some ⟨b,0,none⟩) m m) :: S) H):DoL P n w0 ops Q (⟨some d,.makeSlice t x x,ty,pos,af,g⟩ :: rest) S H:=by
 intro a w fi k;unfold wpList;rw [qYF fi hw,if_pos rfl];refine .inl ?_;unfold Oper.wp;obtain ⟨ht,i,z,hi,hz,rfl,rfl,rfl,hlen,h0⟩:=hB;have hrun:(execOp (evD S) ⟨some d,.makeSlice t x x,ty,pos,af,g⟩).run P w=.ok (.value (.slice (some ⟨w.heap.size,0,none⟩) m m)) (w.alloc (.cells (List.replicate m z.cells.toList).flatten.toArray e)):=by
  have:=run_make (P:=P) w t e i z ht hi hz .i64 .i64 (m:Int) (m:Int) (by omega) (by omega) (by rw [Int.mul_comm,← Int.natCast_mul]; exact Int.ofNat_le.2 hm) (by omega)
  simp only [Int.toNat_natCast] at this;rw [show z.cells=z.cells.toList.toArray from rfl,zXV hlen h0] at this;simp [execOp,zV hx,this]
 rw [zQE fi (by simp [jQ,Op.operands,hx]) rfl,hrun];simp only [Oper.upon];refine next w.heap.size _ _ (fi.put hn _) (k.tell ((Grow.refl w).alloc _) id (rowsF_dep _ _ _ _) (fun q hq=>by subst hq; exact ⟨Nat.le_refl _,by show w.heap.size < (w.heap.push _).size; simp⟩) ⟨fun r hr => ?_,by show (w.heap.push _)[w.heap.size]? = _; simp⟩)
 rw [List.eq_of_mem_replicate hr]; exact hlen
end
end Go.Sx
namespace Go.Sx
open Go.RowKit
section
variable {P:Program} {n:Nat} {w0:Base} {ops:Array Oper} {Q:Exit→Act→World→Prop} {S:yU} {H:Heap}
variable {d:Nat} {ty:TypeId} {pos:String} {af:Array Edge} {g:Option (Nat × Bool)} {rest:List Oper}
theorem opV_neA {x y:Operand} {t t':TypeId} {dd:Option Tmp} {xs ys:List Value} (m:Nat) (hm:Nat.ble m 10000=true) (hT:aggB P t=true) (hx:ev S x=some (.agg xs.toArray)) (hy:ev S y=some (.agg ys.toArray)) (hcx:qZC P m t xs=true) (hcy:qZC P m t ys=true) :
  OpV P w0 S H ⟨dd,.binOp .neq t x y t',ty,pos,af,g⟩ (.bool (!eqCells xs ys)) :=
 jX (by simp [jQ,Op.operands,hx,hy]) rfl fun w _=>by
  simp only [aggB,vQJ,Bool.not_eq_true'] at hT;obtain ⟨k,hk⟩:∃ k,k + m=10000:=⟨10000 - m,by have:=vZX hm; omega⟩
  have h1:=zHB (P:=P) k m t w xs ys hcx hcy;have e1:mkV P t xs=.agg xs.toArray:=by
   unfold mkV;cases hu:P.underlying t with
   | none=>simp [hu] at hT
   | some ds=>cases ds <;> simp [hu] at hT ⊢
  have e2:mkV P t ys=.agg ys.toArray:=by
   unfold mkV;cases hu:P.underlying t with
   | none=>simp [hu] at hT
   | some ds=>cases ds <;> simp [hu] at hT ⊢
  rw [e1,e2,hk] at h1;have h2:=run_eqGuard_agg w .neq t x y xs.toArray ys.toArray hT.2;have h3:=run_neq_struct (P:=P) w t xs.toArray ys.toArray;rw [h1] at h3;simp [execOp,zV hx,zV hy,h2,h3]
variable {X Y:Type} {Φ:X→Prop} {V:X→Value} {F:X→World→Prop} {Φ2:Y→Prop} {V2:Y→Value} {F2:Y→World→Prop} {G:qQV} {tl:List Oper} {Fw:World→Prop}
end
end Go.Sx
namespace Go.Rx
open Go.RowKit
inductive PV where
 | n (k:IntKind) (x:Int)
 | b (x:Bool)
 | s (x:ByteArray)
 | a (cs:List PV)
 | t (cs:List PV)
 | l (rows:List (List PV))
 | z (rows:List (List PV)) (j off:Nat)
 | c (cells:List PV) (off:Nat)
 | f (fn:Nat) (first cap:List PV)
 | ni
 | np
 | nf
 | zs
 | ze                                          -- nothing, with no room for more
 | nz                                          -- a nil slice, whatever its room
 | ne                                          -- nothing, not nil
 | lf (n:Nat) (f:Nat→List PV)
 | zf (n:Nat) (f:Nat→List PV) (j off:Nat)
 | gs (e sz:Nat) (x:PV)                    -- a growing slice in a block that is handed to a callee
inductive Cap where
 | v (x:PV)
 | p (id off:Nat)
def zJX (c:Bool):PV→PV→PV
 | .n k x,.n k' y=>match decide (k=k') with
  | true=>.n k (bif c then x else y)
  | false=>bif c then .n k x else .n k' y
 | .b x,.b y=>.b (bif c then x else y)
 | .s x,.s y=>.s (bif c then x else y)
 | .l [],.l []=>.l []
 | x,y=>bif c then x else y
def zJU (m:PV→PV→PV) (c:Bool):List PV→List PV→List PV
 | [],[]=>[]
 | x :: xs,y :: ys=>m x y :: zJU m c xs ys
 | xs,ys=>bif c then xs else ys
def yZQ (c:Bool):PV→PV→PV
 | .lf n f,.lf m g=>.lf (bif c then n else m) (fun v=>zJU (zJX c) c (f v) (g v))
 | x,y=>zJX c x y
def yQL (c:Bool):PV→PV→PV
 | .lf n f,.lf m g=>.lf (bif c then n else m) (fun v=>zJU (yZQ c) c (f v) (g v))
 | x,y=>zJX c x y
def jV (c:Bool):List PV→List PV→List PV:=zJU (yQL c) c
inductive Rows where
 | l (rows:List (List PV))
 | fo (n:Nat) (f:Nat→List PV)
instance:Coe (List (List PV)) Rows:=⟨.l⟩
def Rows.L:Rows→List (List PV)
 | .l rows=>rows
 | .fo n f=>(List.range n).map f
def Rows.len:Rows→Nat
 | .l rows=>rows.length
 | .fo n _=>n
def Rows.pv:Rows→PV
 | .l rows=>.l rows
 | .fo n f=>.lf n f
def Rows.pz:Rows→Nat→Nat→PV
 | .l rows,j,off=>.z rows j off
 | .fo n f,j,off=>.zf n f j off
def Rows.at (j:Nat):Rows→Option (List PV)
 | .l rows=>rows[j]?
 | .fo _ f=>some (f j)
def Rows.set (j:Nat) (r:List PV):Rows→Rows
 | .l rows=>.l (rows.set j r)
 | .fo n f=>.fo n fun v=>jV (Nat.beq v j) r (f v)
def fnOf:List (List PV)→Nat→List PV
 | [],_=>[]
 | [r],_=>r
 | r :: s :: l,v=>jV (Nat.beq v 0) r (fnOf (s :: l) (v - 1))
def yUE:Nat→(Nat→List PV)→List (List PV)→Rows
 | n,f,[]=>.fo n f
 | n,f,r :: l=>yUE (n + 1) (fun v=>jV (Nat.beq v n) r (f v)) l
def Rows.app:Rows→Rows→Rows
 | .l a,.l b=>.l (a ++ b)
 | .l [],.fo m g=>.fo m g
 | .l (r :: a),.fo m g=>.fo (a.length + 1 + m) fun v=>jV (Nat.blt v (a.length + 1)) (fnOf (r :: a) v) (g (v - (a.length + 1)))
 | .fo n f,.l b=>yUE n f b
 | .fo n f,.fo m g=>.fo (n + m) fun v=>jV (Nat.blt v n) (f v) (g (v - n))
def Rows.take (j:Nat):Rows→Rows
 | .l rows=>.l (rows.take j)
 | .fo _ f=>.fo j f
def Rows.toF (z:List PV):Rows→Rows
 | .l []=>.fo 0 fun _=>z
 | .l (r :: a)=>.fo (a.length + 1) (fnOf (r :: a))
 | r=>r
def PV.rowsO:PV→Option Rows
 | .l rows=>some (.l rows)
 | .lf m g=>some (.fo m g)
 | _=>none
def qHI (c:Bool):Rows→Rows→Rows
 | .fo n f,.fo m g=>.fo (bif c then n else m) fun v=>jV c (f v) (g v)
 | x,y=>bif c then x else y
inductive NR where
 | l (rows:List Rows)
 | fo (n:Nat) (f:Nat→Rows)
def NR.len:NR→Nat
 | .l rows=>rows.length
 | .fo n _=>n
def NR.at (j:Nat):NR→Option Rows
 | .l rows=>rows[j]?
 | .fo _ f=>some (f j)
def NR.set (j:Nat) (r:Rows):NR→NR
 | .l rows=>.l (rows.set j r)
 | .fo n f=>.fo n fun v=>qHI (Nat.beq v j) r (f v)
def NR.rows:NR→Rows
 | .l rows=>.l (rows.map fun r=>[r.pv])
 | .fo n f=>.fo n fun v=>[(f v).pv]
inductive HC where
 | v (x:PV)
 | nl
 | o (id:Nat)
 | un
inductive HV where
 | v (x:PV)
 | nl
 | o (id:Nat)
 | p (id off:Nat)
 | q (id j off:Nat)
 | g (fn:Nat) (first:List PV) (cap:List Cap)
 | un
 | ag (cs:List HC)                           -- a struct that holds own slices
 | m (id j:Nat)                              -- an own slice within an own slice, as it lies there
 | mp (id j:Nat)                             -- .. grown, not stored yet
inductive Ent where
 | blk (cells:List HV)
 | reg (e sz:Nat) (rows:Rows)
 | itr (s:ByteArray) (pos:Nat)
 | nst (e ie isz:Nat) (rows:NR) (pd:Option (Nat × Rows))
abbrev Mem:=List (Nat × Ent)
def zG:Mem→Nat→Option Ent
 | [],_=>none
 | (k,x) :: M,i=>bif Nat.beq k i then some x else zG M i
def qQY:List (Nat × HV)→Nat→Option HV
 | [],_=>none
 | (k,x) :: M,i=>bif Nat.beq k i then some x else qQY M i
inductive CV where
 | h (x:HV)
 | o (id e sz:Nat) (rows:Rows)
inductive RC where
 | v (x:PV)
 | p (id off:Nat) (cells:List CV)
inductive RV where
 | v (x:PV)
 | nl
 | o (id e sz:Nat) (rows:Rows)
 | p (id off:Nat) (cells:List CV)
 | q (id j off e sz:Nat) (rows:Rows)
 | i (id off:Nat) (s:ByteArray) (pos:Nat)
 | g (fn:Nat) (first:List PV) (cap:List RC)
 | w (x:HV)
 | un
 | no (id e n:Nat)
 | nq (id j off e ie isz:Nat) (rows:NR) (pd:Option (Nat × Rows))
 | mi (id j e ie isz:Nat) (rows:NR) (pd:Option (Nat × Rows))
 | ld (id i:Nat)                             -- a block whose only cell holds the own slice i, not looked at
def mapO {α β:Type} (f:α→Option β):List α→Option (List β)
 | []=>some []
 | x :: xs=>(f x).bind fun y=>(mapO f xs).bind fun ys=>some (y :: ys)
def cvOf (M:Mem):HV→Option CV
 | .o id=>match zG M id with
  | some (.reg e sz rows)=>some (.o id e sz rows)
  | _=>none
 | x=>some (.h x)
def rcOf (M:Mem):Cap→Option RC
 | .v x=>some (.v x)
 | .p id off=>match zG M id with
  | some (.blk cells)=>(mapO (cvOf M) cells).bind fun cs=>some (.p id off cs)
  | _=>none
def res (M:Mem):HV→Option RV
 | .v x=>some (.v x)
 | .nl=>some .nl
 | .un=>some .un
 | .o id=>match zG M id with
  | some (.reg e sz rows)=>some (.o id e sz rows)
  | some (.nst e _ _ rows _)=>some (.no id e rows.len)
  | _=>none
 | .p id off=>match zG M id with
  | some (.blk cells)=>(mapO (cvOf M) cells).bind fun cs=>some (.p id off cs)
  | some (.itr s pos)=>some (.i id off s pos)
  | _=>none
 | .q id j off=>match zG M id with
  | some (.reg e sz rows)=>some (.q id j off e sz rows)
  | some (.nst e ie isz rows pd)=>some (.nq id j off e ie isz rows pd)
  | _=>none
 | .g fn first cap=>(mapO (rcOf M) cap).bind fun cs=>some (.g fn first cs)
 | .ag cs=>some (.w (.ag cs))
 | .m id j=>match zG M id with
  | some (.nst e ie isz rows pd)=>some (.mi id j e ie isz rows pd)
  | _=>none
 | .mp id j=>some (.w (.mp id j))
def sh:HV→RV
 | .v x=>.v x
 | .nl=>.nl
 | .un=>.un
 | x=>.w x
def mode:Op→Nat
 | .move _ | .assign _ | .pick .. | .fieldAddr .. | .nilCheck _ | .makeFunc .. | .box .. => 1
 | .indexAddr .. => 2
 | .load .. => 3
 | _=>0
def resM:Nat→Mem→HV→Option RV
 | 0,M,x=>res M x
 | 1,_,x=>some (sh x)
 | 2,M,.o id=>res M (.o id)
 | 2,_,x=>some (sh x)
 | _ + 3,M,.p id 0=>(match zG M id with
  | some (.blk [.o i2])=>some (.ld id i2)
  | _=>res M (.p id 0))
 | _ + 3,M,x=>res M x
def CV.back:CV→HV
 | .h x=>x
 | .o id _ _ _=>.o id
def RC.back:RC→Cap
 | .v x=>.v x
 | .p id off _=>.p id off
def RV.back:RV→HV
 | .v x=>.v x
 | .nl=>.nl
 | .o id _ _ _=>.o id
 | .p id off _=>.p id off
 | .q id j off _ _ _=>.q id j off
 | .i id off _ _=>.p id off
 | .g fn first cap=>.g fn first (cap.map RC.back)
 | .w x=>x
 | .un=>.un
 | .no id _ _=>.o id
 | .nq id j off _ _ _ _ _=>.q id j off
 | .mi id j _ _ _ _ _=>.m id j
 | .ld id _=>.p id 0
def CV.fz:CV→Option PV
 | .h (.v x)=>some x
 | .h .nl=>some (.l [])
 | .o _ _ _ rows=>some rows.pv
 | _=>none
def RC.fz:RC→Option PV
 | .v x=>some x
 | .p _ off cells=>(mapO CV.fz cells).bind fun cs=>some (.c cs off)
def RV.fz:RV→Option PV
 | .v x=>some x
 | .nl=>some (.l [])
 | .o _ _ _ rows=>some rows.pv
 | .p _ off cells=>(mapO CV.fz cells).bind fun cs=>some (.c cs off)
 | .q _ j off _ _ rows=>some (rows.pz j off)
 | .g fn first cap=>(mapO RC.fz cap).bind fun cs=>some (.f fn first cs)
 | _=>none
abbrev Regs:=List (Nat × Rows)
def CV.regs:CV→Regs
 | .o id _ _ rows=>[(id,rows)]
 | _=>[]
def catR {α:Type} (f:α→Regs):List α→Regs
 | []=>[]
 | x :: xs=>match f x with
  | []=>catR f xs
  | ys=>ys ++ catR f xs
def RV.regs:RV→Regs
 | .o id _ _ rows=>[(id,rows)]
 | .q id _ _ _ _ rows=>[(id,rows)]
 | _=>[]
def RV.still:RV→Bool
 | .p .. => false
 | .i .. => false
 | .w _=>false
 | .g _ _ cap=>cap.all fun c=>match c with | .v _=>true | .p .. => false
 | _=>true
structure Eff where
 up:List (Nat × Option Ent)
 sb:List (Nat × Option Rows)
 x:HV
 nw:List Nat
def Eff.val (x:HV):Eff:=⟨[],[],x,[]⟩
def Eff.new (id:Nat) (e:Ent) (x:HV):Eff:=⟨[(id,some e)],[],x,[id]⟩
def Eff.set (id:Nat) (e:Ent) (x:HV):Eff:=⟨[(id,some e)],[],x,[]⟩
def Eff.app (id:Nat) (e:Ent) (x:HV):Eff:=⟨[(id,some e)],[(id,none)],x,[]⟩
def Eff.and (e:Eff) (rs:Regs):Eff:=match rs with
 | []=>e
 | rs=>⟨e.up ++ rs.map fun r=>(r.1,none),e.sb ++ rs.map fun r=>(r.1,some r.2),e.x,e.nw⟩
def Eff.frz (rs:Regs) (x:HV):Eff:=(Eff.val x).and rs
def mid (id:Nat):Nat:=id + 3000000
def catL {α:Type} (f:α→List Nat):List α→List Nat
 | []=>[]
 | x :: xs=>match f x with
  | []=>catL f xs
  | ys=>ys ++ catL f xs
def HC.ids:HC→List Nat
 | .o id=>[id]
 | _=>[]
def HV.ids:HV→List Nat
 | .o id=>[id]
 | .q id _ _=>[id]
 | .ag cs=>catL HC.ids cs
 | .m id _=>[id,mid id]
 | .mp id _=>[id,mid id]
 | _=>[]
def Cap.every:Cap→List Nat
 | .v _=>[]
 | .p id _=>[id]
def HV.every:HV→List Nat
 | .o id=>[id]
 | .p id _=>[id]
 | .q id _ _=>[id]
 | .g _ _ cap=>catL Cap.every cap
 | .ag cs=>catL HC.ids cs
 | .m id _=>[id]
 | .mp id _=>[id]
 | _=>[]
def CV.fol:CV→List Nat
 | .h _=>[]
 | .o id _ _ _=>[id]
def RC.fol:RC→List Nat
 | .v _=>[]
 | .p id _ cells=>id :: catL CV.fol cells
def RV.fol:RV→List Nat
 | .o id _ _ _=>[id]
 | .p id _ cells=>id :: catL CV.fol cells
 | .q id _ _ _ _ _=>[id]
 | .i id _ _ _=>[id]
 | .g _ _ cap=>catL RC.fol cap
 | .no id _ _=>[id]
 | .nq id .. => [id]
 | .mi id .. => [id]
 | .ld id _=>[id]
 | _=>[]
def CV.ids:CV→List Nat
 | .h x=>x.ids
 | .o id _ _ _=>[id]
def RC.ids:RC→List Nat
 | .v _=>[]
 | .p id _ cells=>id :: catL CV.ids cells
def RV.ids:RV→List Nat
 | .o id _ _ _=>[id]
 | .p id _ cells=>id :: catL CV.ids cells
 | .q id _ _ _ _ _=>[id]
 | .i id _ _ _=>[id]
 | .g _ _ cap=>catL RC.ids cap
 | .w x=>x.ids
 | .no id _ _=>[id]
 | .nq id .. => [id]
 | .mi id .. => [id,mid id]
 | .ld id k=>[id,k]
 | _=>[]
def Ent.ids:Ent→List Nat
 | .blk cells=>catL HV.ids cells
 | _=>[]
def yHG (u:Nat × Option Ent):List Nat:=match u.2 with
 | some e=>u.1 :: e.ids
 | none=>[u.1]
def Eff.wr (e:Eff):List Nat:=e.up.map (·.1) ++ e.sb.map (·.1)
def Eff.all (e:Eff):List Nat:=catL yHG e.up ++ e.x.ids ++ e.nw
def jZ:List (Nat × Option Rows)→Nat→Option (Option Rows)
 | [],_=>none
 | (k,x) :: M,i=>bif Nat.beq k i then some x else jZ M i
def HC.sub (sb:List (Nat × Option Rows)):HC→HC
 | .o id=>match jZ sb id with
  | none=>.o id
  | some none=>.un
  | some (some rows)=>.v rows.pv
 | x=>x
def HC.h:HC→HV
 | .v x=>.v x
 | .nl=>.nl
 | .o id=>.o id
 | .un=>.un
def HV.sub (sb:List (Nat × Option Rows)):HV→HV
 | .o id=>match jZ sb id with
  | none=>.o id
  | some none=>.un
  | some (some rows)=>.v rows.pv
 | .q id j off=>match jZ sb id with
  | none=>.q id j off
  | some none=>.un
  | some (some rows)=>.v (rows.pz j off)
 | .ag cs=>.ag (cs.map (HC.sub sb))
 | .m id j=>match jZ sb id,jZ sb (mid id) with
  | none,none=>.m id j
  | _,_=>.un
 | .mp id j=>match jZ sb id,jZ sb (mid id) with
  | none,none=>.mp id j
  | _,_=>.un
 | x=>x
def Ent.sub (sb:List (Nat × Option Rows)):Ent→Ent
 | .blk cells=>.blk (cells.map (HV.sub sb))
 | x=>x
def remM (i:Nat):Mem→Mem
 | []=>[]
 | (k,x) :: M=>bif Nat.beq k i then remM i M else (k,x) :: remM i M
def putM (i:Nat) (e:Ent):Mem→Mem
 | []=>[(i,e)]
 | (k,x) :: M=>bif Nat.beq k i then (i,e) :: M else (k,x) :: putM i e M
def ups:List (Nat × Option Ent)→Mem→Mem
 | [],M=>M
 | (i,some e) :: l,M=>ups l (putM i e M)
 | (i,none) :: l,M=>ups l (remM i M)
structure St where
 S:List (Nat × HV)
 M:Mem
def subS (sb:List (Nat × Option Rows)) (S:List (Nat × HV)):List (Nat × HV):=match sb with
 | []=>S
 | y :: ys=>S.map fun x=>(x.1,x.2.sub (y :: ys))
def subM (sb:List (Nat × Option Rows)) (M:Mem):Mem:=match sb with
 | []=>M
 | y :: ys=>M.map fun x=>(x.1,x.2.sub (y :: ys))
def St.apply (σ:St) (e:Eff) (dst:Option Nat):St :=
 ⟨match dst with | some d=>(d,e.x) :: subS e.sb σ.S | none=>subS e.sb σ.S,ups e.up (subM e.sb σ.M)⟩
structure FnI where
 body:Code
 ntmps:Nat
 results:List ResultVar
structure Hint where
 keep:List Nat:=[]
 ids:List Nat:=[]
 own:List (Nat × Nat × Nat × Nat):=[]      -- slot, id, elem, size
 frz:List Nat:=[]
 out:Option (List Nat × List Nat):=none    -- behind the loop: slots, ids
 fun_:List (Nat × List PV):=[]             -- own slices that become functions: id, zero row
 ownB:List (Nat × Nat × Nat × Nat × Nat):=[]   -- nil slices in a block: block, cell, id, elem, size
 unn:List Nat:=[]                          -- behind the loop: own slices within own slices are frozen
inductive Kd where
 | i (k:IntKind)
 | b
 | s
 deriving DecidableEq
structure Tab where
 sz:Nat→Option (Bool × Nat)
 zr:Nat→Option (List PV)
 zh:Nat→Option (List HV)
 fd:Nat→Nat→Option Nat
 fx:Nat→Nat→Option (Nat × Bool × Nat)
 ar:Nat→Option (Nat × Nat × Bool)
 sl:Nat→Option (Nat × Nat)
 ly:Nat→Option (List (Nat × Nat))
 ik:Nat→Option IntKind
 str:Nat→Bool
 bo:Nat→Bool
 eqK:Nat→Option (List Kd)
 fn:Nat→Option FnI
 hint:Nat→Nat→Hint
 rw:Nat→Bool
 dd:Nat→Bool
 ownR:Nat→Nat→Bool
 ff:Nat→Bool:=fun _=>false             -- functions whose slices are kept as functions
 bd:Nat→Nat:=fun _=>1000000            -- how long a slice of these elements may grow
 zf:Nat→Bool:=fun _=>false             -- functions in which a slice made without room is .ze
 bf:Nat→Bool:=fun _=>false             -- functions whose built slices are functions
 agf:Nat→Bool:=fun _=>false            -- functions in which a struct may hold own slices
 sf:Nat→Bool:=fun _=>false             -- functions that freeze the own slices that they store in a block
 nf:Nat→Bool:=fun _=>false             -- functions in which a slice of slices that is made holds own slices
 gq:Nat→Bool:=fun _=>false             -- functions that write a block with a growing slice
 gk:Nat→Bool:=fun _=>false             -- .. that write only in the slice
 dr:Nat→Nat→Option Hint:=fun _ _=>none -- what stays alive where a region begins
inductive Ret where
 | v (x:PV)
 | ow (e sz:Nat) (rows:Rows)
 | pb (cells:List PV)
def yKL {α:Type}:List α→Nat→Option (List α)
 | _,0=>some []
 | c :: cs,k + 1=>(yKL cs k).bind fun l=>some (c :: l)
 | [],_ + 1=>none
def qUK {α:Type}:List α→Nat→Nat→Option (List α)
 | cs,0,k=>yKL cs k
 | _ :: cs,off + 1,k=>qUK cs off k
 | [],_ + 1,_=>none
def qZG {α:Type}:List α→Nat→List α→Option (List α)
 | cs,0,[]=>some cs
 | _ :: cs,0,v :: vs=>(qZG cs 0 vs).bind fun l=>some (v :: l)
 | c :: cs,off + 1,vs=>(qZG cs off vs).bind fun l=>some (c :: l)
 | [],0,_ :: _=>none
 | [],_ + 1,_=>none
def PV.cells:PV→List PV
 | .a cs=>cs
 | x=>[x]
def PV.flat1:PV→Bool
 | .n .. => true
 | .b _=>true
 | .s _=>true
 | _=>false
def PV.flat2:PV→Bool
 | .a cs=>cs.all PV.flat1
 | x=>x.flat1
def PV.flat:PV→Bool
 | .t cs=>cs.all PV.flat2
 | x=>x.flat2
def kdIs:Kd→PV→Bool
 | .i k,.n k' _=>decide (k=k')
 | .b,.b _=>true
 | .s,.s _=>true
 | _,_=>false
def qGW:List Kd→List PV→Bool
 | [],[]=>true
 | k :: ks,p :: ps=>kdIs k p && qGW ks ps
 | _,_=>false
def cellEq:PV→PV→Option Bool
 | .n _ x,.n _ y=>some (decide (x=y))
 | .b x,.b y=>some (x == y)
 | .s x,.s y=>some (x == y)
 | _,_=>none
def zWQ:List PV→List PV→Option Bool
 | [],[]=>some true
 | x :: xs,y :: ys=>(cellEq x y).bind fun e=>(zWQ xs ys).bind fun es=>some (e && es)
 | _,_=>none
def zJZ:Value→Option PV
 | .int k x=>some (.n k x)
 | .bool x=>some (.b x)
 | .string x=>some (.s x)
 | .nilIface=>some .ni
 | .pointer none=>some .np
 | .nilFunc=>some .nf
 | .slice none 0 0=>some .zs
 | _=>none
def yJW:Value→Option RV
 | .slice none 0 0=>some .nl
 | .agg cs=>(mapO zJZ cs.toList).bind fun l=>some (.v (.a l))
 | x=>(zJZ x).bind fun y=>some (.v y)
def opv (m:Nat) (σ:St):Operand→Option RV
 | .tmp t=>(qQY σ.S t).bind (resM m σ.M)
 | .const v=>yJW v
 | .func f=>some (.v (.f f [] []))
 | .global _=>none
def binI (op:BinOp) (k:IntKind) (x y:Int):Option PV :=
 match op with
 | .add=>some (.n k (k.wrap (x + y)))
 | .sub=>some (.n k (k.wrap (x - y)))
 | .mul=>some (.n k (k.wrap (x * y)))
 | .quo=>bif decide (y=0) then none else some (.n k (k.wrap (x.tdiv y)))
 | .rem=>bif decide (y=0) then none else some (.n k (x.tmod y))
 | .and=>some (.n k (k.wrap ((BitVec.ofInt k.bits x &&& BitVec.ofInt k.bits y).toNat)))
 | .lss=>some (.b (decide (x < y)))
 | .leq=>some (.b (decide (x≤y)))
 | .gtr=>some (.b (decide (y < x)))
 | .geq=>some (.b (decide (y≤x)))
 | .eql=>some (.b (decide (x=y)))
 | .neq=>some (.b (!decide (x=y)))
 | _=>none
def binP (T:Tab) (op:BinOp) (t:Nat) (x y:PV):Option PV :=
 match op,x,y with
 | .shl,.n k x,.n _ y=>bif decide (0≤y) then some (.n k (k.wrap (x * 2 ^ (min y.toNat k.bits)))) else none
 | .shr,.n k x,.n _ y=>bif decide (0≤y) then some (.n k (x.fdiv (2 ^ (min y.toNat k.bits)))) else none
 | op,.n k x,.n k' y=>bif decide (k=k') then binI op k x y else none
 | .eql,.s x,.s y=>bif T.str t then some (.b (x.toList == y.toList)) else none
 | .neq,.s x,.s y=>bif T.str t then some (.b (!(x.toList == y.toList))) else none
 | .eql,.b x,.b y=>bif T.bo t then some (.b (x == y)) else none
 | .neq,.b x,.b y=>bif T.bo t then some (.b (!(x == y))) else none
 | .eql,.a x,.a y=>(T.eqK t).bind fun ks=>bif qGW ks x && qGW ks y then (zWQ x y).bind fun e=>some (.b e) else none
 | .neq,.a x,.a y=>(T.eqK t).bind fun ks=>bif qGW ks x && qGW ks y then (zWQ x y).bind fun e=>some (.b (!e)) else none
 | _,_,_=>none
def nilCmp:BinOp→PV→Option PV
 | .eql,.l (_ :: _)=>some (.b false)
 | .neq,.l (_ :: _)=>some (.b true)
 | .eql,.nz=>some (.b true)
 | .eql,.ne=>some (.b false)
 | .eql,.lf (_ + 1) _=>some (.b false)
 | .neq,.lf (_ + 1) _=>some (.b true)
 | _,_=>none
def RV.pv:RV→Option PV
 | .v x=>some x
 | _=>none
def yHJ:RV→Option Cap
 | .v y=>some (.v y)
 | .w (.p id off)=>some (.p id off)
 | _=>none
def PV.toH:PV→HV
 | .zs=>.nl
 | x=>.v x
def RV.hcells:RV→Option (List HV)
 | .v (.a cs)=>some (cs.map PV.toH)
 | .v (.t _)=>none
 | .un=>none
 | .w (.v _)=>none
 | .w .un=>none
 | .w (.ag cs)=>some (cs.map HC.h)
 | x=>some [x.back]
def RV.pcells:RV→Option (List PV × Regs)
 | .v (.t _)=>none
 | .v x=>some (x.cells,[])
 | .nl=>some ([.l []],[])
 | .o id _ _ rows=>some ([rows.pv],[(id,rows)])
 | _=>none
def yQA:List RV→Option (List (List PV) × Regs)
 | []=>some ([],[])
 | x :: xs=>x.pcells.bind fun c=>(yQA xs).bind fun r=>some (c.1 :: r.1,match c.2 with | []=>r.2 | q=>q ++ r.2)
def PV.toC:PV→HC
 | .zs=>.nl
 | x=>.v x
def RV.ccells:RV→Option (List HC)
 | .v (.t _)=>none
 | .v x=>some (x.cells.map PV.toC)
 | .nl=>some [.nl]
 | .o id _ _ _=>some [.o id]
 | .w (.ag cs)=>some cs
 | _=>none
def RV.isO:RV→Bool
 | .o .. => true
 | .w (.ag _)=>true
 | _=>false
def yWH {α:Type} (pl:List (Nat × Nat)):List α→List Nat→List (List α)→Option (List α)
 | cells,[],[]=>some cells
 | cells,i :: is,v :: vs=>(pl[i]?).bind fun x=>bif Nat.beq v.length x.2 then (qZG cells x.1 v).bind fun cs=>yWH pl cs is vs else none
 | _,_,_=>none
def yHZ (sz:Nat):List (List PV)→List Nat→List (List PV)→Option (List (List PV))
 | rows,[],[]=>some rows
 | rows,i :: is,v :: vs=>bif Nat.blt i rows.length && Nat.beq v.length sz then yHZ sz (rows.set i v) is vs else none
 | _,_,_=>none
def qJF {α:Type} (x:α):Nat→List α
 | 0=>[]
 | k + 1=>x :: qJF x k
def disj:List Nat→List Nat→Bool
 | [],_=>true
 | x :: xs,ys => !(ys.any (Nat.beq x)) && disj xs ys
def zVY (lo hi:Option Operand) (vs:List RV):Option (Option Int × Option Int):=match lo,hi,vs with
 | some _,some _,[.v (.n _ i),.v (.n _ j)]=>some (some i,some j)
 | none,some _,[.v (.n _ j)]=>some (none,some j)
 | some _,none,[.v (.n _ i)]=>some (some i,none)
 | _,_,_=>none
def loOf:Option Int→Nat
 | some i=>i.toNat
 | none=>0
def hiOf (j:Option Int) (n:Nat):Nat:=match j with
 | some j=>j.toNat
 | none=>n
def inS (i j:Option Int) (n:Nat):Bool:=(match i with | some i=>decide (0≤i) | none=>true) && (match j with | some j=>decide (0≤j) | none=>true) && decide (loOf i≤hiOf j n) && decide (hiOf j n≤n)
def zWV (rows:List (List PV)) (l k:Nat):Bool:=(rows[l]?).all fun r=>Nat.beq r.length k
def Rows.ok (k:Nat):Rows→Bool
 | .l rows=>zWV rows 0 k
 | .fo _ f=>Nat.beq (f 0).length k
def yQE:RV→Option Rows
 | .v (.l rows)=>some (.l rows)
 | .v (.lf n f)=>some (.fo n f)
 | .v .ne=>some (.l [])
 | .o _ _ _ rows=>some rows
 | .nl=>some (.l [])
 | _=>none
def inB (i:Int) (n:Nat):Bool:=decide (0≤i) && decide (i.toNat < n)
abbrev yVX:=Nat→List PV→Option Ret
abbrev yJL:=Nat→List HV→List PV→Option (PV × List PV)
def pid:Nat:=1000000
def pid2:Nat:=1000002
def zWF (T:Tab) (fnid dst:Nat) (hs:Regs):Ret→Option Eff
 | .v x=>match hs with
  | []=>some (.val (.v x))
  | hs=>bif x.flat then some (.val (.v x)) else some (.frz hs (.v x))
 | .ow e sz rows=>bif T.ownR fnid dst then
   (match hs with
     | []=>some (.new dst (.reg e sz rows) (.o dst))
     | _=>none)
  else (match hs with
     | []=>some (.val (.v rows.pv))
     | hs=>some (.frz hs (.v rows.pv)))
 | .pb cells=>match hs with
  | []=>some (.new dst (.blk (cells.map .v)) (.p dst 0))
  | _=>none
def jQJ (g:Nat→List PV):Bool:=(List.range 16).all fun v=>(g v).all PV.flat1
def zJY (T:Tab) (qJB:yVX) (me dst:Nat) (f:Nat) (args:List RV):Option Eff :=
 (mapO RV.fz args).bind fun ps=>(qJB f ps).bind fun r =>
  bif args.all RV.still then zWF T me dst (catR RV.regs args) r
  else match r with
   | .v x=>bif x.flat then some (.val (.v x)) else none
   | .ow _ _ (.l rows)=>bif rows.all (fun r=>r.all PV.flat1) then some (.val (.v (.l rows))) else none
   | .ow _ _ (.fo n g)=>bif jQJ g then (bif decide (n≤16) then some (.val (.v (.lf n g))) else none) else none
   | _=>none
def CV.pv:CV→Option PV
 | .h (.v x)=>some x
 | .h .nl=>some .zs
 | _=>none
def zHW:List RV→Option (Nat × List CV)
 | []=>none
 | x :: xs=>match x with
  | .p id _ cells=>some (id,cells)
  | _=>zHW xs
def RV.toB (id:Nat):RV→Option HV
 | .p id' off _=>bif Nat.beq id' id then some (.p pid off) else none
 | x=>bif x.still then x.fz.bind fun y=>some (.v y) else none
def CV.pvq:CV→Option PV
 | .h (.v x)=>some x
 | .h .nl=>some .zs
 | .o _ e sz rows=>some (.gs e sz rows.pv)
 | _=>none
def qWC:List CV→Option Nat
 | []=>none
 | .o id _ _ _ :: _=>some id
 | _ :: cs=>qWC cs
def qWD:List PV→Option (Nat × Nat × PV)
 | []=>none
 | .gs e sz x :: _=>some (e,sz,x)
 | _ :: ps=>qWD ps
def oneG:List PV→Bool
 | []=>true
 | .gs .. :: ps=>(qWD ps).isNone
 | _ :: ps=>oneG ps
def PV.toQ (id:Nat):PV→HV
 | .gs .. => .o id
 | .zs=>.nl
 | x=>.v x
def gEnt:Option (Nat × Nat × PV)→Option (Option Ent)
 | none=>some none
 | some (e,sz,x)=>x.rowsO.bind fun rows=>some (some (.reg e sz rows))
def qWG (qYE:yJL) (dst f:Nat) (args:List RV):Option Eff :=
 (zHW args).bind fun p=>(mapO CV.pvq p.2).bind fun ps=>(mapO (RV.toB p.1) args).bind fun hs=>(qYE f hs ps).bind fun r =>
  (gEnt (qWD r.2)).bind fun ent=>bif oneG ps && oneG r.2 && (catR RV.regs args).isEmpty && !(Nat.beq p.1 ((qWC p.2).getD (100000 + dst))) && r.1.flat && !(Nat.beq p.1 pid2) then
   some ⟨[(p.1,some (.blk (r.2.map (PV.toQ ((qWC p.2).getD (100000 + dst)))))),((qWC p.2).getD (100000 + dst),ent)],[((qWC p.2).getD (100000 + dst),none)],.v r.1,match qWC p.2 with | some _=>[] | none=>[100000 + dst]⟩ else none
def zKG (qYE:yJL) (f:Nat) (args:List RV):Option Eff :=
 (zHW args).bind fun p=>(mapO CV.pv p.2).bind fun ps=>(mapO (RV.toB p.1) args).bind fun hs=>(qYE f hs ps).bind fun r =>
  bif Nat.beq p.1 pid2 then none else some (Eff.and (.set p.1 (.blk (r.2.map PV.toH)) (.v r.1)) (catR RV.regs args))
def qUV (qYE:yJL) (f:Nat) (args:List RV):Option Eff :=
 (zHW args).bind fun p=>match p.2 with
  | [.o m e sz rows]=>(mapO (RV.toB p.1) args).bind fun hs=>(qYE f hs [.gs e sz rows.pv]).bind fun r=>match r.2 with
   | [.gs e2 sz2 y]=>y.rowsO.bind fun zJB=>bif Nat.beq sz2 sz && (catR RV.regs args).isEmpty && !(Nat.beq p.1 m) && r.1.flat then some ⟨[(m,some (.reg e2 sz2 zJB))],[],.v r.1,[]⟩ else none
   | _=>none
  | _=>none
def zU (T:Tab) (qJB:yVX) (qYE:yJL) (me dst:Nat) (op:Op) (vs:List RV):Option Eff :=
 match op,vs with
 | .move _,[x]=>some (.val x.back)
 | .assign _,[x]=>some (.val x.back)
 | .pick ..,[.v (.b c),x,y]=>some (.val (bif c then x.back else y.back))
 | .alloc t,[]=>(T.zh t).bind fun cs=>some (.new dst (.blk cs) (.p dst 0))
 | .box _ _,[x]=>x.hcells.bind fun hs=>some (.new dst (.blk hs) (.p dst 0))
 | .build t ps,vs=>(T.zr t).bind fun zs=>(T.ly t).bind fun pl=>bif T.agf me && vs.any RV.isO then (mapO RV.ccells vs).bind fun r =>
   (yWH pl (zs.map PV.toC) (ps.toList.map (·.1)) r).bind fun cs=>some (.val (.ag cs)) else (yQA vs).bind fun r =>
   (yWH pl zs (ps.toList.map (·.1)) r.1).bind fun cs=>some (.frz r.2 (.v (.a cs)))
 | .buildSlice t len ps,vs=>(T.sl t).bind fun e=>(T.zr e.1).bind fun zs=>(yQA vs).bind fun r =>
   bif Nat.ble (len * e.2) 16777216 then (yHZ e.2 (qJF zs len) (ps.toList.map (·.1)) r.1).bind fun rows=>some ((Eff.new dst (.reg e.1 e.2 (bif T.bf me then (Rows.l rows).toF zs else .l rows)) (.o dst)).and r.2) else none
 | .load t _,[x]=>(T.sz t).bind fun k=>match x with
   | .p _ off cells=>bif k.1 then
     (qUK cells off k.2).bind fun cs=>(mapO CV.fz cs).bind fun ps=>some (.frz (catR CV.regs cs) (.v (.a ps)))
    else (cells[off]?).bind fun c=>some (.val c.back)
   | .q _ j off _ _ rows=>(rows.at j).bind fun r=>bif k.1 then (qUK r off k.2).bind fun cs=>some (.val (.v (.a cs))) else (r[off]?).bind fun c=>some (.val c.toH)
   | .v (.z rows j off)=>(rows[j]?).bind fun r=>bif k.1 then (qUK r off k.2).bind fun cs=>some (.val (.v (.a cs))) else (r[off]?).bind fun c=>some (.val c.toH)
   | .v (.c cells off)=>bif k.1 then (qUK cells off k.2).bind fun cs=>some (.val (.v (.a cs))) else (cells[off]?).bind fun c=>some (.val c.toH)
   | .v (.zf _ f j off)=>bif k.1 then (qUK (f j) off k.2).bind fun cs=>some (.val (.v (.a cs))) else ((f j)[off]?).bind fun c=>some (.val c.toH)
   | .nq id j 0 _ _ _ _ none=>bif k.1 then none else some (.val (.m id j))
   | .ld _ i=>bif k.1 then none else some (.val (.o i))
   | _=>none
 | .store t _ _,[x,y]=>(T.sz t).bind fun k=>match x with
   | .p id off cells=>bif Nat.beq id pid2 then none else bif T.sf me && y.isO then y.pcells.bind fun c=>(bif Nat.beq c.1.length k.2 && disj [id] (c.2.map (·.1)) then
      (qZG ((cells.map CV.back).map (HV.sub (c.2.map fun r=>(r.1,some r.2)))) off (c.1.map HV.v)).bind fun cs=>some ((Eff.set id (.blk cs) .un).and c.2) else none)
     else y.hcells.bind fun hs=>bif Nat.beq hs.length k.2 then (qZG (cells.map CV.back) off hs).bind fun cs=>some (.set id (.blk cs) .un) else none
   | .q id j off e sz rows=>y.pcells.bind fun c=>(rows.at j).bind fun r=>bif Nat.beq c.1.length k.2 && disj [id] (c.2.map (·.1)) then (qZG r off c.1).bind fun r'=>some ((Eff.set id (.reg e sz (rows.set j r')) .un).and c.2) else none
   | .nq id j 0 e ie isz rows (some (j',r))=>match y with
    | .w (.mp id' j'')=>bif !k.1 && Nat.beq id' id && Nat.beq j' j && Nat.beq j'' j then some ⟨[(id,some (.nst e ie isz (rows.set j r) none))],[(mid id,none)],.un,[]⟩ else none
    | _=>none
   | _=>none
 | .nilCheck _,[x]=>match x with
   | .w (.p ..)=>some (.val x.back)
   | .w (.q ..)=>some (.val x.back)
   | .v (.z ..)=>some (.val x.back)
   | .v (.c ..)=>some (.val x.back)
   | .v (.zf ..)=>some (.val x.back)
   | _=>none
 | .binOp op t _ _ _,[.v x,.v y]=>(binP T op t x y).bind fun r=>some (.val (.v r))
 | .binOp op t _ _ _,[.v x,.nl]=>(T.sl t).bind fun _=>(nilCmp op x).bind fun r=>some (.val (.v r))
 | .unOp .not _ _,[.v (.b x)]=>some (.val (.v (.b (!x))))
 | .unOp .neg _ _,[.v (.n k x)]=>some (.val (.v (.n k (k.wrap (0 - x)))))
 | .convert s d _,[.v (.n k x)]=>(T.ik s).bind fun k1=>(T.ik d).bind fun k2=>bif decide (k=k1) then some (.val (.v (.n k2 (k2.wrap x)))) else none
 | .makeFunc (.func fn) first _,vs=>(mapO RV.pv (vs.take first.size)).bind fun fs =>
   (match mapO RV.pv (vs.drop first.size) with
     | some cs=>some (.val (.v (.f fn fs cs)))
     | none=>(mapO yHJ (vs.drop first.size)).bind fun cs=>some (.val (.g fn fs cs)))
 | .makeSlice t _ _,[.v (.n _ n),.v (.n _ c)]=>(T.sl t).bind fun e=>(T.zr e.1).bind fun zs =>
   bif T.zf me && (decide (n=0) && decide (c=0)) then some (.val (.v .ze)) else
   bif T.nf me then (T.sl e.1).bind fun q=>(T.zr q.1).bind fun z2=>(match zs with
    | [.zs]=>bif decide (0≤n) && decide (n≤c) && decide (c≤1000000) && Nat.beq e.2 1 then some ⟨[(dst,some (.nst e.1 q.1 q.2 (bif T.ff me then .fo n.toNat (fun _=>.fo 0 (fun _=>z2)) else .l (qJF (.l []) n.toNat)) none))],[(mid dst,none)],.o dst,[dst]⟩ else none
    | _=>none) else
   bif decide (0≤n) && decide (n≤c) && decide (c≤1000000) then some (.new dst (.reg e.1 e.2 (bif T.ff me then .fo n.toNat (fun _=>zs) else .l (qJF zs n.toNat))) (.o dst)) else none
 | .slice t _ lo hi none,x :: vs=>(zVY lo hi vs).bind fun b=>(match x with
   | .v (.s s)=>bif T.str t && inS b.1 b.2 s.size then some (.val (.v (.s (s.extract (loOf b.1) (hiOf b.2 s.size))))) else none
   | .v (.lf n f)=>(T.sl t).bind fun e=>bif inS b.1 b.2 n then (bif Nat.beq (f (loOf b.1)).length e.2 then some (.val (.v (.lf (hiOf b.2 n - loOf b.1) fun v=>f (v + loOf b.1)))) else none) else none
   | .v (.l rows)=>(T.sl t).bind fun e=>bif inS b.1 b.2 rows.length && zWV rows (loOf b.1) e.2 then some (.val (.v (.l ((rows.take (hiOf b.2 rows.length)).drop (loOf b.1))))) else none
   | .o id e' sz rows=>(match b with
     | (none,some j)=>(T.sl t).bind fun e=>bif Nat.beq sz e.2 && decide (0≤j) && decide (j.toNat≤rows.len) then some (.app id (.reg e' sz (rows.take j.toNat)) (.o id)) else none
     | _=>none)
   | _=>none)
 | .fieldAddr t _ f,[x]=>(T.fd t f).bind fun o=>match x with
   | .w (.p id off)=>some (.val (.p id (off + o)))
   | .w (.q id j off)=>some (.val (.q id j (off + o)))
   | .v (.z rows j off)=>some (.val (.v (.z rows j (off + o))))
   | .v (.c cells off)=>some (.val (.v (.c cells (off + o))))
   | .v (.zf n f j off)=>some (.val (.v (.zf n f j (off + o))))
   | _=>none
 | .field t _ f,[.v (.a cs)]=>(T.fx t f).bind fun o=>bif o.2.1 then (qUK cs o.1 o.2.2).bind fun r=>some (.val (.v (.a r))) else (cs[o.1]?).bind fun r=>some (.val r.toH)
 | .indexAddr t _ _,[x,.v (.n _ i)]=>match x with
   | .w (.p id off)=>(T.ar t).bind fun k=>bif inB i k.1 then some (.val (.p id (off + i.toNat * k.2.1))) else none
   | .w (.q id j off)=>(T.ar t).bind fun k=>bif inB i k.1 then some (.val (.q id j (off + i.toNat * k.2.1))) else none
   | .v (.c cells off)=>(T.ar t).bind fun k=>bif inB i k.1 then some (.val (.v (.c cells (off + i.toNat * k.2.1)))) else none
   | .v (.z rows j off)=>(T.ar t).bind fun k=>bif inB i k.1 then some (.val (.v (.z rows j (off + i.toNat * k.2.1)))) else none
   | .o id _ sz rows=>(T.sl t).bind fun e=>bif inB i rows.len && Nat.beq sz e.2 then some (.val (.q id i.toNat 0)) else none
   | .no id _ n=>(T.sl t).bind fun e=>bif inB i n && Nat.beq 1 e.2 then some (.val (.q id i.toNat 0)) else none
   | .v (.zf n f j off)=>(T.ar t).bind fun k=>bif inB i k.1 then some (.val (.v (.zf n f j (off + i.toNat * k.2.1)))) else none
   | .v (.lf n f)=>(T.sl t).bind fun e=>bif inB i n && Nat.beq (f i.toNat).length e.2 then some (.val (.v (.zf n f i.toNat 0))) else none
   | .v (.l rows)=>(T.sl t).bind fun e=>(rows[i.toNat]?).bind fun r=>bif decide (0≤i) && Nat.beq r.length e.2 then some (.val (.v (.z rows i.toNat 0))) else none
   | _=>none
 | .index t _ _,[x,.v (.n _ i)]=>match x with
   | .v (.a cs)=>(T.ar t).bind fun k=>bif inB i k.1 then (bif k.2.2 then (qUK cs (i.toNat * k.2.1) k.2.1).bind fun r=>some (.val (.v (.a r))) else (cs[i.toNat]?).bind fun r=>some (.val r.toH)) else none
   | .v (.s s)=>bif T.str t && decide (0≤i) then (s[i.toNat]?).bind fun b=>some (.val (.v (.n .u8 (b.toNat:Int)))) else none
   | _=>none
 | .range t _,[.v (.s s)]=>bif T.str t then some (.new dst (.itr s 0) (.p dst 0)) else none
 | .next _ true,[.i id 0 s pos] =>
   bif Nat.beq id pid2 then none else bif decide (pos < s.size) then
    let r:=Utf8.decode s pos
    some (.set id (.itr s (pos + r.2)) (.v (.t [.b true,.n .i64 (pos:Int),.n .i32 (r.1:Int)])))
   else some (.val (.v (.t [.b false])))
 | .extract _ i,[.v (.t cs)]=>(cs[i]?).bind fun r=>some (.val r.toH)
 | .call ⟨.builtin b,_,ats⟩,vs=>match b,vs with
   | .len,[x]=>(match x with
     | .v (.s s)=>(match ats[0]? with | some t=>bif T.str t then some (.val (.v (.n .i64 (s.size:Int)))) else none | none=>none)
     | .v (.l rows)=>(match ats[0]? with | some t=>(T.sl t).bind fun _=>some (.val (.v (.n .i64 (rows.length:Int)))) | none=>none)
     | .v (.lf n _)=>(match ats[0]? with | some t=>(T.sl t).bind fun _=>some (.val (.v (.n .i64 (n:Int)))) | none=>none)
     | .nl=>(match ats[0]? with | some t=>(T.sl t).bind fun _=>some (.val (.v (.n .i64 0))) | none=>none)
     | .o _ _ _ rows=>(match ats[0]? with | some t=>(T.sl t).bind fun _=>some (.val (.v (.n .i64 (rows.len:Int)))) | none=>none)
     | _=>none)
   | .min,[.v (.n k x),.v (.n k' y)]=>bif decide (k=k') then some (.val (.v (.n k (min x y)))) else none
   | .max,[.v (.n k x),.v (.n k' y)]=>bif decide (k=k') then some (.val (.v (.n k (max x y)))) else none
   | .append,[x,y]=>(match ats.toList with
     | [t,t']=>bif Nat.beq t t' then (T.sl t).bind fun e=>(yQE y).bind fun news=>bif news.ok e.2 then (match x with
       | .nl=>bif decide (news.len≤T.bd e.1) then some (.new dst (.reg e.1 e.2 news) (.o dst)) else none
       | .v .ze=>bif decide (news.len≤T.bd e.1) && decide (0 < news.len) then some (.new dst (.reg e.1 e.2 news) (.o dst)) else none
       | .mi id j e' ie isz rows none=>bif Nat.beq ie e.1 && Nat.beq isz e.2 && !(y.ids.any (Nat.beq id)) then (rows.at j).bind fun r=>bif decide (r.len + news.len≤T.bd e.1) then some ⟨[(id,some (.nst e' ie isz rows (some (j,r.app news))))],[(mid id,none)],.mp id j,[]⟩ else none else none
       | .o id e' sz rows=>bif Nat.beq e' e.1 && Nat.beq sz e.2 && decide (rows.len + news.len≤T.bd e.1) && !(y.ids.any (Nat.beq id)) then some (.app id (.reg e' sz (rows.app news)) (.o id)) else none
       | _=>none) else none else none
     | _=>none)
   | _,_=>none
 | .call ⟨.value _,_,_⟩,x :: vs=>match x with
   | .v (.f f first cap)=>bif T.rw f then (bif T.gk f then qUV qYE f (first.map .v ++ vs ++ cap.map .v) else bif T.gq f then qWG qYE dst f (first.map .v ++ vs ++ cap.map .v) else zKG qYE f (first.map .v ++ vs ++ cap.map .v)) else zJY T qJB me dst f (first.map .v ++ vs ++ cap.map .v)
   | .g f first cap=>bif T.rw f then (bif T.gk f then qUV qYE f (first.map .v ++ vs ++ cap.map fun c=>match c with | .v x=>.v x | .p id off cells=>.p id off cells) else bif T.gq f then qWG qYE dst f (first.map .v ++ vs ++ cap.map fun c=>match c with | .v x=>.v x | .p id off cells=>.p id off cells) else none) else zJY T qJB me dst f (first.map .v ++ vs ++ cap.map fun c=>match c with | .v x=>.v x | .p id off cells=>.p id off cells)
   | _=>none
 | .defer ⟨.value _,args,_⟩,x :: _=>bif args.isEmpty then (match x with
   | .v (.f f _ _)=>bif T.dd f then some (.val .un) else none
   | .g f _ _=>bif T.dd f then some (.val .un) else none
   | _=>none) else none
 | _,_=>none
def qQJ (ops:Array Oper) (σ:St) (o:Oper):Option Bool :=
 match o.guard with
 | none=>some true
 | some (j,b)=>match (ops[j]?).bind (·.dst) with
  | some d=>match qQY σ.S d with
   | some (.v (.b c))=>some (c == b)
   | some (.v (.t []))=>some false
   | _=>none
  | none=>none
structure Cx where
 T:Tab
 cA:yVX
 cB:yJL
 me:Nat
 n:Nat
def dstB (n:Nat):Option Nat→Bool
 | some d=>Nat.blt d n
 | none=>true
def qJU (C:Cx) (ops:Array Oper) (o:Oper) (σ:St):Option (Eff × List RV) :=
 (qQJ ops σ o).bind fun g=>bif dstB C.n o.dst then
  bif g then
   (mapO (opv (mode o.op) σ) o.op.operands.toList).bind fun vs=>(zU C.T C.cA C.cB C.me (o.dst.getD 0) o.op vs).bind fun e =>
    bif e.nw.all (fun id=>(zG σ.M id).isNone && Nat.blt id 2000000) then some (e,vs) else none
  else some (.val (.v (.t [])),[])
 else none
abbrev Done:=Nat × Eff × List RV
def yWX (ops:Array Oper) (x y:Done):Bool :=
 match ops[x.1]?,ops[y.1]? with
 | some ox,some oy =>
  (match x.2.1.sb with | []=>true | _=>false) && (match ox.dst with | some d => !((oy.looksAt ops).any (Nat.beq d)) | none=>true) &&
  (match oy.dst with | some d => !((ox.looksAt ops).any (Nat.beq d)) | none=>true) && (match ox.dst,oy.dst with | some d,some d' => !(Nat.beq d d') | _,_=>true) &&
  disj x.2.1.wr (catL RV.ids y.2.2 ++ y.2.1.all) && (disj (y.2.1.up.map (·.1)) (catL RV.fol x.2.2 ++ x.2.1.nw) && disj (y.2.1.sb.map (·.1)) (catL RV.ids x.2.2 ++ x.2.1.all))
 | _,_=>false
def zKD (ops:Array Oper):Nat→Nat→Nat→Bool
 | 0,j,i=>Region.waitsFor .any ops j i
 | n + 1,j,i=>Region.waitsFor .any ops j i || (match ops[j]? with
  | some o=>o.after.any fun e=>Region.binds .any e && zKD ops n e.on i
  | none=>false)
def zWB (ops:Array Oper) (j i:Nat):Bool:=zKD ops 3 j i || zKD ops 5 j i || zKD ops 9 j i
def zJK (ops:Array Oper):List Done→Bool
 | []=>true
 | x :: l=>(l.all fun y=>Region.waitsFor .any ops y.1 x.1 || (yWX ops x y || zWB ops y.1 x.1)) && zJK ops l
def qVZ (C:Cx) (ops:Array Oper):List Oper→(St→Option (Ret × Mem))→St→Option (Ret × Mem)
 | [],K,σ=>K σ
 | o :: l,K,σ=>(qJU C ops o σ).bind fun r=>qVZ C ops l K (σ.apply r.1 o.dst)
def qYZ (C:Cx) (ops:Array Oper):Nat→List Oper→List Done→(St→Option (Ret × Mem))→St→Option (Ret × Mem)
 | _,[],acc,K,σ=>bif zJK ops acc.reverse && Sx.backB ops then K σ else none
 | i,o :: l,acc,K,σ=>(qJU C ops o σ).bind fun r=>qYZ C ops (i + 1) l ((i,r) :: acc) K (σ.apply r.1 o.dst)
inductive Ex where
 | normal
 | exit (id:Nat)
 | ret
def yWK (σ:St):List Nat→List (Nat × HV)
 | []=>[]
 | t :: ts=>match qQY σ.S t with
  | some x=>(t,x) :: yWK σ ts
  | none=>yWK σ ts
def yYI (M:Mem):List Nat→Mem
 | []=>[]
 | t :: ts=>match zG M t with
  | some x=>(t,x) :: yYI M ts
  | none=>yYI M ts
def ownL:List (Nat × Nat × Nat × Nat)→St→St
 | [],σ=>σ
 | (t,id,e,sz) :: l,σ=>match qQY σ.S t,zG σ.M id with
  | some .nl,none=>bif Nat.blt 0 sz && Nat.blt id 2000000 then ownL l (σ.apply (.new id (.reg e sz (.l [])) (.o id)) (some t)) else ownL l σ
  | _,_=>ownL l σ
def frzL:List Nat→St→St
 | [],σ=>σ
 | t :: l,σ=>match qQY σ.S t with
  | some .nl=>frzL l (σ.apply (.val (.v (.l []))) (some t))
  | some (.o id)=>match zG σ.M id with
   | some (.reg _ _ rows)=>frzL l (σ.apply (.frz [(id,rows)] .un) none)
   | _=>frzL l σ
  | _=>frzL l σ
def yQB:List (Nat × Nat × Nat × Nat × Nat)→St→St
 | [],σ=>σ
 | (b,k,id,e,sz) :: l,σ=>match zG σ.M b,zG σ.M id with
  | some (.blk cells),none=>(match cells[k]? with
   | some .nl=>bif Nat.blt 0 sz && Nat.blt id 2000000 then yQB l ⟨σ.S,putM id (.reg e sz (.l [])) (putM b (.blk (cells.set k (.o id))) σ.M)⟩ else yQB l σ
   | _=>yQB l σ)
  | _,_=>yQB l σ
def funL:List (Nat × List PV)→Mem→Mem
 | [],M=>M
 | (id,z) :: l,M=>match zG M id with
  | some (.reg e sz rows)=>funL l (putM id (.reg e sz (rows.toF z)) M)
  | _=>funL l M
def HV.only (ids:List Nat) (x:HV):HV:=bif x.every.all (fun i=>ids.any (Nat.beq i)) then x else .un
def Ent.only (ids:List Nat):Ent→Ent
 | .blk cells=>.blk (cells.map (HV.only ids))
 | x=>x
def qYD (h:Hint) (σ:St):St :=
 let σ:=yQB h.ownB (ownL h.own (frzL h.frz σ))
 ⟨(yWK σ h.keep).map fun x=>(x.1,x.2.only (pid :: pid2 :: h.ids)),funL h.fun_ ((yYI σ.M (pid :: pid2 :: h.ids)).map fun x=>(x.1,x.2.only (pid :: pid2 :: h.ids)))⟩
def unnL:List Nat→St→St
 | [],σ=>σ
 | id :: l,σ=>match zG σ.M id with
  | some (.nst e _ _ rows none)=>unnL l (σ.apply ⟨[(id,some (.reg e 1 rows.rows))],[(mid id,none)],.un,[]⟩ none)
  | _=>unnL l σ
def qYX (h:Hint) (σ:St):St:=match h.out with
 | none=>σ
 | some o=>qYD { keep:=o.1,ids:=o.2 } (unnL h.unn σ)
def preR (C:Cx) (id:Nat) (σ:St):St:=match C.T.dr C.me id with
 | none=>σ
 | some h=>qYD h σ
def preK {α:Type} (C:Cx) (id:Nat) (F:St→α) (σ:St):α:=match C.T.dr C.me id with
 | none=>F σ
 | some h=>F (qYD h σ)
theorem preK_eq {α:Type} {C:Cx} {id:Nat} {F:St→α} {σ:St}:preK C id F σ=F (preR C id σ):=by
 unfold preK preR; cases C.T.dr C.me id <;> rfl
def zQY {α:Type} (step:(St→Option α)→St→Option α):Nat→St→Option α
 | 0=>fun _=>none
 | n + 1=>step (zQY step n)
def yQ:Code→Nat
 | .region id _ _=>id
 | .seq a _=>yQ a
 | .block _ a=>yQ a
 | .loop a=>yQ a
 | .scope a=>yQ a
 | _=>0
def runC (N:Nat) (C:Cx):Code→(Ex→St→Option (Ret × Mem))→St→Option (Ret × Mem)
 | .skip,K,σ=>K .normal σ
 | .label _,K,σ=>K .normal σ
 | .scope x,K,σ=>runC N C x K σ
 | .ret,K,σ=>K .ret σ
 | .exit id,K,σ=>K (.exit id) σ
 | .region id ops d,K,σ=>preK C id (fun σ=>bif d then qYZ C ops 0 ops.toList [] (K .normal) σ else qVZ C ops ops.toList (K .normal) σ) σ
 | .seq x y,K,σ=>runC N C x (fun e σ=>match e with
   | .normal=>runC N C y K σ
   | e=>K e σ) σ
 | .cond c x y,K,σ=>(opv 1 σ c).bind fun v=>match v with
   | .v (.b t)=>bif t then runC N C x K σ else runC N C y K σ
   | _=>none
 | .block id x,K,σ=>runC N C x (fun e σ=>match e with
   | .exit id'=>bif Nat.beq id' id then K .normal σ else K (.exit id') σ
   | e=>K e σ) σ
 | .loop x,K,σ=>zQY (fun again σ=>runC N C x (fun e σ=>match e with
   | .normal=>again σ
   | e=>K e (qYX (C.T.hint C.me (yQ x)) σ)) (qYD (C.T.hint C.me (yQ x)) σ)) N σ
 | _,_,_=>none
def yUK (T:Tab) (σ:St):ResultVar→Option RV
 | .tmp t=>(qQY σ.S t).bind (res σ.M)
 | .cell x t=>(qQY σ.S x).bind fun p=>(res σ.M p).bind fun p=>(T.sz t).bind fun k=>match p with
  | .p _ off cells=>bif k.1 then (qUK cells off k.2).bind fun cs=>(mapO CV.fz cs).bind fun ps=>some (.v (.a ps)) else (cells[off]?).bind fun c=>c.fz.bind fun p=>some (.v p)
  | _=>none
def zWG:List RV→Option Ret
 | [.o _ e sz rows]=>some (.ow e sz rows)
 | [.p _ 0 cells]=>(mapO CV.fz cells).bind fun cs=>some (.pb cs)
 | [x]=>x.fz.bind fun y=>some (.v y)
 | xs=>(mapO RV.fz xs).bind fun ys=>some (.v (.t ys))
def initS:Nat→List HV→List (Nat × HV)
 | _,[]=>[]
 | k,v :: vs=>(k,v) :: initS (k + 1) vs
structure Orc where
 a:Nat→Option (List PV→Option Ret)
 b:Nat→Option (List HV→List PV→Option (PV × List PV))
def Orc.none:Orc:=⟨fun _=>.none,fun _=>.none⟩
def HV.pv:HV→Option PV
 | .v x=>some x
 | _=>none
def HV.pz (M:Mem):HV→Option PV
 | .v x=>some x
 | .nl=>some .zs
 | .o id=>match zG M id with
  | some (.reg _ _ rows)=>some rows.pv
  | _=>none
 | _=>none
def HV.pq (M:Mem):HV→Option PV
 | .v x=>some x
 | .nl=>some .zs
 | .o id=>match zG M id with
  | some (.reg e sz rows)=>some (.gs e sz rows.pv)
  | _=>none
 | _=>none
def qKX (q:Bool) (M:Mem):Option (List PV):=match zG M pid with
 | some (.blk hs)=>bif q then (mapO (HV.pq M) hs).bind fun ps=>bif oneG ps then some ps else none else mapO (HV.pz M) hs
 | _=>none
def memB (q:Bool) (ps:List PV):Mem:=bif q then (pid,.blk (ps.map (PV.toQ (pid + 1)))) :: (match gEnt (qWD ps) with
  | some (some e)=>[(pid + 1,e)]
  | _=>[]) else [(pid,.blk (ps.map PV.toH))]
def yJK (q:Bool) (x:PV):Option PV:=bif q then (bif x.flat then some x else none) else some x
def yUJ:Ret→Option PV
 | .v x=>some x
 | .ow _ _ rows=>some rows.pv
 | .pb _=>none
def qJB (orc:Orc) (r:Nat→List HV→Mem→Option (Ret × Mem)):yVX:=fun g ps=>match orc.a g with
 | some o=>o ps
 | none=>(r g (ps.map .v) []).bind fun r=>some r.1
def qYE (T:Tab) (orc:Orc) (r:Nat→List HV→Mem→Option (Ret × Mem)):yJL:=fun g hs ps=>match orc.b g with
 | some o=>o hs ps
 | none=>bif T.gk g then none else (r g hs (memB (T.gq g) ps)).bind fun r=>(qKX (T.gq g) r.2).bind fun ps'=>(yUJ r.1).bind fun x=>(yJK (T.gq g) x).bind fun x=>some (x,ps')
def endK (T:Tab) (M:Mem) (res:List ResultVar) (e:Ex) (σ:St):Option (Ret × Mem):=match e with
 | .exit _=>none
 | _=>(mapO (yUK T σ) res).bind fun rs=>(zWG rs).bind fun r=>bif M.isEmpty || rs.all RV.still then some (r,σ.M) else none
def runF (T:Tab) (orc:Orc):Nat→Nat→List HV→Mem→Option (Ret × Mem)
 | 0,_,_,_=>none
 | N + 1,f,args,M=>match T.fn f with
  | none=>none
  | some fi=>bif Nat.ble args.length fi.ntmps then runC N ⟨T,qJB orc (runF T orc N),qYE T orc (runF T orc N),f,fi.ntmps⟩ fi.body (endK T M fi.results) ⟨initS 0 args,M⟩ else none
def run (T:Tab) (orc:Orc) (N f:Nat) (ps:List PV):Option Ret:=(runF T orc N f (ps.map .v) []).bind fun r=>some r.1
def runB (T:Tab) (orc:Orc) (N f:Nat) (hs:List HV) (ps:List PV):Option (PV × List PV):=(runF T orc N f hs (memB (T.gq f) ps)).bind fun r=>(qKX (T.gq f) r.2).bind fun ps'=>(yUJ r.1).bind fun x=>(yJK (T.gq f) x).bind fun x=>some (x,ps')
end Go.Rx

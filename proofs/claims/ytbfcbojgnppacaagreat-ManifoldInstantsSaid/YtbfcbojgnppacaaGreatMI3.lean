/- Part 3 of the texts behind the last one: rules and contracts. No condition. -/
import Derived.Test.YtbfcbojgnppacaaGreatMI2
open Option renaming bind_eq_some_iff → vQQ, map_eq_some_iff → vZW, bind_some → vYQ
open Option.some renaming injEq → vQZ
open Bool renaming and_eq_true → vQJ
open List renaming getElem?_eq_getElem → vQK, mem_of_getElem? → vQG, mem_cons_of_mem → vQH, mem_cons_self → vZQ, all_eq_true → vZZ, getElem?_map → vZY, getElem?_take → vZV, mem_cons → vYZ
open Nat renaming eq_of_beq_eq_true → vQX, lt_of_lt_of_le → vZK, le_of_ble_eq_true → vZX
open Array renaming getElem?_eq_getElem → vZU
namespace Go.Rx
open Go.RowKit Go.Sx
def Al {α β:Type} (R:α→β→Prop) (xs:List α) (ys:List β):Prop:=xs.length=ys.length∧∀ (i:Nat) x y,xs[i]? = some x→ys[i]? = some y→R x y
section
variable {α β:Type} {R R':α→β→Prop} {xs:List α} {ys:List β}
theorem Al.nil:Al R [] []:=⟨rfl,fun i x y h=>by simp at h⟩
theorem Al.cons {x:α} {y:β} (h:R x y) (hs:Al R xs ys):Al R (x :: xs) (y :: ys):=⟨by simp [hs.1],fun i a b ha hb=>by
 cases i with
 | zero=>simp at ha hb; subst ha; subst hb; exact h
 | succ i=>simp at ha hb; exact hs.2 i a b ha hb⟩
theorem Al.nil_left (h:Al R [] ys):ys=[]:=List.eq_nil_of_length_eq_zero h.1.symm
theorem Al.cons_left {x:α} (h:Al R (x :: xs) ys):∃ y ys',ys=y :: ys'∧R x y∧Al R xs ys':=by
 cases ys with
 | nil=>have:=h.1; simp at this
 | cons y ys'=>exact ⟨y,ys',rfl,h.2 0 x y rfl rfl,by have:=h.1; simpa using this,fun i a b ha hb=>h.2 (i + 1) a b (by simpa using ha) (by simpa using hb)⟩
theorem Al.imp (h:Al R xs ys) (hi:∀ x y,x ∈ xs→R x y→R' x y):Al R' xs ys:=⟨h.1,fun i x y hx hy=>hi x y (vQG hx) (h.2 i x y hx hy)⟩
theorem Al.get (h:Al R xs ys) {i:Nat} {x:α} (hx:xs[i]? = some x):∃ y,ys[i]? = some y∧R x y:=by
 have hl:=(List.getElem?_eq_some_iff.1 hx).1
 have:i < ys.length:=by rw [← h.1]; exact hl
 exact ⟨ys[i],vQK this,h.2 i x _ hx (vQK this)⟩
theorem Al.append {xs':List α} {ys':List β} (h:Al R xs ys) (h':Al R xs' ys'):Al R (xs ++ xs') (ys ++ ys'):=⟨by simp [h.1,h'.1],fun i x y hx hy=>by
 rw [List.getElem?_append] at hx hy;rw [h.1] at hx;split at hx
 ·rename_i hl;rw [if_pos hl] at hy; exact h.2 i x y hx hy
 ·rename_i hl;rw [if_neg hl] at hy; exact h'.2 _ x y hx hy⟩
theorem Al.take (h:Al R xs ys) (k:Nat):Al R (xs.take k) (ys.take k):=⟨by simp [h.1],fun i x y hx hy=>by
 rw [vZV] at hx hy;split at hx
 ·rename_i hl;rw [if_pos hl] at hy; exact h.2 i x y hx hy
 ·cases hx⟩
theorem Al.drop (h:Al R xs ys) (k:Nat):Al R (xs.drop k) (ys.drop k):=⟨by simp [h.1],fun i x y hx hy=>by
 rw [List.getElem?_drop] at hx hy; exact h.2 _ x y hx hy⟩
theorem Al.set (h:Al R xs ys) {x:α} {y:β} (hxy:R x y) (k:Nat):Al R (xs.set k x) (ys.set k y):=⟨by simp [h.1],fun i a b ha hb=>by
 rw [List.getElem?_set] at ha hb;split at ha
 ·rename_i e;rw [if_pos e] at hb;split at ha
  ·split at hb
   ·cases ha; cases hb; exact hxy
   ·cases hb
  ·cases ha
 ·rename_i e;rw [if_neg e] at hb; exact h.2 i a b ha hb⟩
theorem Al.repl {x:α} {y:β} (h:R x y) (k:Nat):Al R (qJF x k) (List.replicate k y):=by
 induction k with
 | zero=>exact Al.nil
 | succ k ih=>exact Al.cons h ih
theorem Al.map_left {γ:Type} {f:γ→α} {zs:List γ} (h:Al (fun z y=>R (f z) y) zs ys):Al R (zs.map f) ys:=⟨by simp [h.1],fun i x y hx hy=>by
 rw [vZY,vZW] at hx;obtain ⟨z,hz,rfl⟩:=hx;exact h.2 i z y hz hy⟩
theorem Al.map_left_inv {γ:Type} {f:γ→α} {zs:List γ} (h:Al R (zs.map f) ys):Al (fun z y=>R (f z) y) zs ys:=⟨by have:=h.1; simpa using this,fun i z y hz hy=>h.2 i (f z) y (by rw [vZY,hz]; rfl) hy⟩
end
theorem qQW {i j:Nat} (h:i ≠ j):Nat.beq i j=false:=by
 cases hb:Nat.beq i j with
 | false=>rfl
 | true=>exact absurd (vQX hb) h
theorem zKU (x y:PV):zJX true x y=x:=by
 unfold zJX;split
 ·split <;> rfl
 all_goals rfl
theorem zKX (x y:PV):zJX false x y=y:=by
 unfold zJX;split
 ·split
  ·rename_i h; rw [vJZ h]; rfl
  ·rfl
 all_goals rfl
theorem zKJ {m:PV→PV→PV} (h:∀ x y,m x y=x):∀ xs ys,zJU m true xs ys=xs
 | [],[]=>rfl
 | x :: xs,y :: ys=>by rw [zJU,h,zKJ h xs ys]
 | [],_ :: _=>rfl
 | _ :: _,[]=>rfl
theorem zKK {m:PV→PV→PV} (h:∀ x y,m x y=y):∀ xs ys,zJU m false xs ys=ys
 | [],[]=>rfl
 | x :: xs,y :: ys=>by rw [zJU,h,zKK h xs ys]
 | [],_ :: _=>rfl
 | _ :: _,[]=>rfl
theorem merge1_t (x y:PV):yZQ true x y=x:=by
 unfold yZQ;split
 ·simp only [zKJ zKU,vYV]
 ·exact zKU _ _
theorem merge1_f (x y:PV):yZQ false x y=y:=by
 unfold yZQ;split
 ·simp only [zKK zKX,vYG]
 ·exact zKX _ _
theorem merge2_t (x y:PV):yQL true x y=x:=by
 unfold yQL;split
 ·simp only [zKJ merge1_t,vYV]
 ·exact zKU _ _
theorem merge2_f (x y:PV):yQL false x y=y:=by
 unfold yQL;split
 ·simp only [zKK merge1_f,vYG]
 ·exact zKX _ _
theorem mergeRow_t (xs ys:List PV):jV true xs ys=xs:=zKJ merge2_t xs ys
theorem mergeRow_f (xs ys:List PV):jV false xs ys=ys:=zKK merge2_f xs ys
theorem kV (c:Bool) (xs ys:List PV):jV c xs ys=bif c then xs else ys:=by
 cases c
 ·exact mergeRow_f xs ys
 ·exact mergeRow_t xs ys
theorem Rows.len_L (r:Rows):r.L.length=r.len:=by cases r <;> simp [Rows.L,Rows.len]
theorem qQD {α:Type} (f:Nat→α) {n j:Nat} (h:j < n):((List.range n).map f)[j]? = some (f j):=by rw [vZY,List.getElem?_range h]; rfl
theorem Rows.at_L {r:Rows} {j:Nat} {x:List PV} (h:r.at j=some x) (hj:j < r.len):r.L[j]? = some x:=by
 cases r with
 | l rows=>exact h
 | fo n f=>cases h; exact qQD f hj
theorem qKF (v j:Nat):Nat.beq v j=decide (v=j):=by
 by_cases h:v=j
 ·subst h; simp
 ·rw [vYH h];cases hb:Nat.beq v j with
  | false=>rfl
  | true=>exact absurd (vQX hb) h
theorem Rows.set_L (r:Rows) (j:Nat) (x:List PV):(r.set j x).L=r.L.set j x:=by
 cases r with
 | l rows=>rfl
 | fo n f =>
  simp only [Rows.set,Rows.L];refine List.ext_getElem? fun i => ?_
  by_cases hi:i < n
  ·rw [qQD _ hi,List.getElem?_set,kV,qKF];by_cases e:j=i
   ·subst e; simp [hi]
   ·rw [if_neg e,qQD _ hi,vYH (fun h=>e h.symm)]; rfl
  ·rw [List.getElem?_eq_none (by simp; omega),List.getElem?_eq_none (by simp; omega)]
theorem blt_t {i n:Nat} (h:i < n):Nat.blt i n=true:=Nat.ble_eq_true_of_le h
theorem blt_f {i n:Nat} (h:¬ i < n):Nat.blt i n=false:=by
 cases hb:Nat.blt i n with
 | false=>rfl
 | true=>exact absurd (vZX hb) (by omega)
theorem fnOf_get:∀ (l:List (List PV)) (i:Nat),i < l.length→l[i]? = some (fnOf l i)
 | [],i,h=>by simp at h
 | [r],i,h=>by
  have:i=0:=by simpa using h
  subst this; rfl
 | r :: s :: l,0,_=>by simp only [fnOf,kV]; rfl
 | r :: s :: l,i + 1,h=>by
  have:=fnOf_get (s :: l) i (by simpa using h)
  simp only [fnOf,kV,Nat.add_sub_cancel];rw [List.getElem?_cons_succ,this]; rfl
theorem fnOf_map (l:List (List PV)):(List.range l.length).map (fnOf l)=l:=by
 refine List.ext_getElem? fun i => ?_
 by_cases hi:i < l.length
 ·rw [qQD _ hi,fnOf_get l i hi]
 ·rw [List.getElem?_eq_none (by simp; omega),List.getElem?_eq_none (by omega)]
theorem map_two {n m:Nat} (f g h:Nat→List PV) (h1:∀ i,i < n→h i=f i) (h2:∀ i,n≤i→h i=g (i - n)):(List.range (n + m)).map h=(List.range n).map f ++ (List.range m).map g:=by
 refine List.ext_getElem? fun i => ?_
 by_cases hi:i < n
 ·rw [qQD _ (by omega),List.getElem?_append_left (by simpa using hi),qQD _ hi,h1 i hi]
 ·rw [List.getElem?_append_right (by simp; omega)];simp only [List.length_map,List.length_range];by_cases hj:i < n + m
  ·rw [qQD _ hj,qQD _ (by omega),h2 i (by omega)]
  ·rw [List.getElem?_eq_none (by simp; omega),List.getElem?_eq_none (by simp; omega)]
theorem snocF_L:∀ (b:List (List PV)) (n:Nat) (f:Nat→List PV),(yUE n f b).L=(List.range n).map f ++ b
 | [],n,f=>by simp [yUE,Rows.L]
 | r :: b,n,f=>by
  simp only [yUE];rw [snocF_L b (n + 1) _,List.range_succ,List.map_append,List.append_assoc]
  congr 1
  ·exact List.map_congr_left fun i hi=>by rw [kV,qQW (by have:=List.mem_range.1 hi; omega)]; rfl
  ·simp [kV]
theorem Rows.app_L (a b:Rows):(a.app b).L=a.L ++ b.L:=by
 cases a with
 | l a =>
  cases b with
  | l b=>rfl
  | fo m g =>
   cases a with
   | nil=>rfl
   | cons r a =>
    simp only [Rows.app,Rows.L];rw [map_two (n:=a.length + 1) (fnOf (r :: a)) g _ (fun i hi => ?_) (fun i hi => ?_),show a.length + 1=(r :: a).length from rfl,fnOf_map]
    ·rw [kV,blt_t hi]; rfl
    ·rw [kV,blt_f (by omega)]; rfl
 | fo n f =>
  cases b with
  | l b=>exact snocF_L b n f
  | fo m g =>
   simp only [Rows.app,Rows.L];refine map_two f g _ (fun i hi => ?_) (fun i hi => ?_)
   ·rw [kV,blt_t hi]; rfl
   ·rw [kV,blt_f (by omega)]; rfl
theorem Rows.take_L {r:Rows} {j:Nat} (h:j≤r.len):(r.take j).L=r.L.take j:=by
 cases r with
 | l rows=>rfl
 | fo n f =>
  have hj:j≤n:=h;simp only [Rows.take,Rows.L];rw [← List.map_take,List.take_range,Nat.min_eq_left hj]
theorem Rows.toF_L (z:List PV) (r:Rows):(r.toF z).L=r.L:=by
 cases r with
 | l rows =>
  cases rows with
  | nil=>rfl
  | cons r a=>exact fnOf_map (r :: a)
 | fo n f=>rfl
theorem Rows.ok_L {r:Rows} {k:Nat} (h:r.ok k=true):zWV r.L 0 k=true:=by
 cases r with
 | l rows=>exact h
 | fo n f =>
  cases n with
  | zero=>rfl
  | succ n =>
   simp only [Rows.L,zWV];rw [qQD f (Nat.succ_pos n)];exact h
inductive Loc where
 | blk (b:Nat)
 | reg (a:Option Addr) (cap len sz:Nat)
 | inn (a:Option Addr) (cap len sz:Nat)    -- an own slice within an own slice
def Loc.bl:Loc→Option Nat
 | .blk b=>some b
 | .reg a _ _ _=>a.map (·.block)
 | .inn a _ _ _=>a.map (·.block)
def Loc.inner:Loc→Bool
 | .inn .. => true
 | _=>false
abbrev Own:=Nat→Option Loc
def nid (id j:Nat):Nat:=2000000 + (id + 3000000 * j)
theorem zXW {i j i' j':Nat} (h:i < 2000000) (_:i' < 2000000) (e:nid i j=nid i' j'):i=i'∧j=j':=by
 unfold nid at e; omega
theorem qKG (i j:Nat):2000000≤nid i j:=by unfold nid; omega
inductive RP (F:Nat→Prop) (w:World):PV→Value→Prop
 | n (k:IntKind) (x:Int):RP F w (.n k x) (.int k x)
 | b (x:Bool):RP F w (.b x) (.bool x)
 | s (x:ByteArray):RP F w (.s x) (.string x)
 | ni:RP F w .ni .nilIface
 | np:RP F w .np (.pointer none)
 | nf:RP F w .nf .nilFunc
 | zs:RP F w .zs (.slice none 0 0)
 | ze (ad:Option Addr):RP F w .ze (.slice ad 0 0)
 | nz (c:Nat):RP F w .nz (.slice none 0 c)
 | ne (ad:Addr) (c:Nat):RP F w .ne (.slice (some ad) 0 c)
 | a (cs:List PV) (vs:List Value) (hl:cs.length=vs.length) (h1:∀ v ∈ vs,v.oneCell'=true) (h:∀ (i:Nat) p v,cs[i]? = some p→vs[i]? = some v→RP F w p v):RP F w (.a cs) (.agg vs.toArray)
 | t (cs:List PV) (vs:List Value) (hl:cs.length=vs.length) (h:∀ (i:Nat) p v,cs[i]? = some p→vs[i]? = some v→RP F w p v):RP F w (.t cs) (.tuple vs.toArray)
 | l0 (ad:Option Addr) (c:Nat):RP F w (.l []) (.slice ad 0 c)
 | l (rows:List (List PV)) (b off n c sz:Nat) (g:Nat→Nat→Value) (hn:n=rows.length) (hcap:n≤c) (hs:∀ r ∈ rows,r.length=sz) (hF:F b)
   (hc:∀ j t,j < n→t < sz→w.cell? ⟨b,off + (j * sz + t),none⟩=some (g j t)∧(g j t).oneCell'=true)
   (h:∀ (j:Nat) r (t:Nat) p,rows[j]? = some r→r[t]? = some p→RP F w p (g j t)):RP F w (.l rows) (.slice (some ⟨b,off,none⟩) n c)
 | z (rows:List (List PV)) (b off sz j o:Nat) (g:Nat→Nat→Value) (hs:∀ r ∈ rows,r.length=sz) (hF:F b)
   (hc:∀ j t,j < rows.length→t < sz→w.cell? ⟨b,off + (j * sz + t),none⟩=some (g j t)∧(g j t).oneCell'=true)
   (h:∀ (j:Nat) r (t:Nat) p,rows[j]? = some r→r[t]? = some p→RP F w p (g j t)):RP F w (.z rows j o) (.pointer (some ⟨b,off + (j * sz + o),none⟩))
 | c (cells:List PV) (vs:List Value) (b o:Nat) (ty:TypeId) (hF:F b) (hb:w.heap[b]? = some (.cells vs.toArray ty)) (hl:cells.length=vs.length) (h1:∀ v ∈ vs,v.oneCell'=true)
   (h:∀ (i:Nat) p v,cells[i]? = some p→vs[i]? = some v→RP F w p v):RP F w (.c cells o) (.pointer (some ⟨b,o,none⟩))
 | f (fn:Nat) (first cap:List PV) (fs cs:List Value) (hl:first.length=fs.length) (hm:cap.length=cs.length) (h:∀ (i:Nat) p v,first[i]? = some p→fs[i]? = some v→RP F w p v)
   (h':∀ (i:Nat) p v,cap[i]? = some p→cs[i]? = some v→RP F w p v):RP F w (.f fn first cap) (.func (.func fn) fs.toArray cs.toArray)
 | lf (n:Nat) (f:Nat→List PV) (v:Value) (h:RP F w (.l ((List.range n).map f)) v):RP F w (.lf n f) v
 | zf (n:Nat) (f:Nat→List PV) (j o:Nat) (v:Value) (hj:j < n) (h:RP F w (.z ((List.range n).map f) j o) v):RP F w (.zf n f j o) v
theorem cell_same {w w':World} {b o:Nat} (h:w'.heap[b]? = w.heap[b]?):w'.cell? ⟨b,o,none⟩=w.cell? ⟨b,o,none⟩:=World.cell?_of_block (a:=⟨b,o,none⟩) h
theorem RP.mono {F F':Nat→Prop} {w w':World} (hF:∀ k,F k→F' k∧w'.heap[k]? = w.heap[k]?) {p:PV} {v:Value} (h:RP F w p v):RP F' w' p v:=by
 induction h with
 | n k x=>exact .n k x
 | b x=>exact .b x
 | s x=>exact .s x
 | ni=>exact .ni
 | np=>exact .np
 | nf=>exact .nf
 | zs=>exact .zs
 | ze ad=>exact .ze ad
 | nz c=>exact .nz c
 | ne ad c=>exact .ne ad c
 | a cs vs hl h1 _ ih=>exact .a cs vs hl h1 ih
 | t cs vs hl _ ih=>exact .t cs vs hl ih
 | l0 ad c=>exact .l0 ad c
 | l rows b off n c sz g hn hcap hs hf hc _ ih=>exact .l rows b off n c sz g hn hcap hs (hF b hf).1 (fun j t hj ht=>by rw [cell_same (hF b hf).2]; exact hc j t hj ht) ih
 | z rows b off sz j o g hs hf hc _ ih=>exact .z rows b off sz j o g hs (hF b hf).1 (fun j t hj ht=>by rw [cell_same (hF b hf).2]; exact hc j t hj ht) ih
 | c cells vs b o ty hf hb hl h1 _ ih=>exact .c cells vs b o ty (hF b hf).1 (by rw [(hF b hf).2]; exact hb) hl h1 ih
 | f fn first cap fs cs hl hm _ _ ih ih'=>exact .f fn first cap fs cs hl hm ih ih'
 | lf n f v _ ih=>exact .lf n f v ih
 | zf n f j o v hj _ ih=>exact .zf n f j o v hj ih
theorem RP.flat1 {F F':Nat→Prop} {w w':World} {p:PV} {v:Value} (h:RP F w p v) (hp:p.flat1=true):RP F' w' p v:=by
 cases h <;> first | (simp [PV.flat1] at hp; done) | constructor
theorem RP.flat2 {F F':Nat→Prop} {w w':World} {p:PV} {v:Value} (h:RP F w p v) (hp:p.flat2=true):RP F' w' p v:=by
 cases p with
 | a cs =>
  cases h with
  | a _ vs hl h1 h =>
   exact .a cs vs hl h1 fun i p v hi hv=>(h i p v hi hv).flat1 (List.all_eq_true.1 hp p (vQG hi))
 | _=>exact h.flat1 hp
theorem RP.flat {F F':Nat→Prop} {w w':World} {p:PV} {v:Value} (h:RP F w p v) (hp:p.flat=true):RP F' w' p v:=by
 cases p with
 | t cs =>
  cases h with
  | t _ vs hl h =>
   exact .t cs vs hl fun i p v hi hv=>(h i p v hi hv).flat2 (List.all_eq_true.1 hp p (vQG hi))
 | _=>exact h.flat2 hp
def RCp (ρ:Own) (F:Nat→Prop) (w:World):Cap→Value→Prop
 | .v x,v=>RP F w x v
 | .p id off,v=>∃ b,ρ id=some (.blk b)∧v=.pointer (some ⟨b,off,none⟩)
def RHc (ρ:Own) (F:Nat→Prop) (w:World):HC→Value→Prop
 | .v x,v=>RP F w x v
 | .nl,v=>v=.slice none 0 0
 | .o id,v=>∃ a c k sz,ρ id=some (.reg a c k sz)∧v=.slice a k c
 | .un,_=>True
def RH (ρ:Own) (F:Nat→Prop) (w:World):HV→Value→Prop
 | .v x,v=>RP F w x v
 | .nl,v=>v=.slice none 0 0
 | .o id,v=>∃ a c k sz,ρ id=some (.reg a c k sz)∧v=.slice a k c
 | .p id off,v=>∃ b,ρ id=some (.blk b)∧v=.pointer (some ⟨b,off,none⟩)
 | .q id j off,v=>∃ b c k sz,ρ id=some (.reg (some ⟨b,0,none⟩) c k sz)∧j < k∧v=.pointer (some ⟨b,j * sz + off,none⟩)
 | .g fn first cap,v=>∃ fs cs,v=.func (.func fn) fs.toArray cs.toArray∧Al (RP F w) first fs∧Al (RCp ρ F w) cap cs
 | .un,_=>True
 | .ag cs,v=>∃ vs,v=.agg vs.toArray∧Al (RHc ρ F w) cs vs∧∀ u ∈ vs,u.oneCell'=true
 | .m id j,v=>∃ a c k sz,(ρ (nid id j)=some (.inn a c k sz)∧v=.slice a k c)∧id < 2000000∧∃ a0 c0 k0 s0,ρ id=some (.reg a0 c0 k0 s0)∧j < k0
 | .mp id j,v=>∃ a c k sz,(ρ (nid id j)=some (.inn a c k sz)∧v=.slice a k c)∧id < 2000000∧∃ a0 c0 k0 s0,ρ id=some (.reg a0 c0 k0 s0)∧j < k0
def yXQ (rows:NR) (pd:Option (Nat × Rows)) (v:Nat):Option Rows:=match pd with
 | some (j,r)=>if v=j then some r else rows.at v
 | none=>rows.at v
def EntOk (ρ:Own) (F:Nat→Prop) (w:World) (id:Nat):Ent→Prop
 | .blk cells=>∃ b vs ty,ρ id=some (.blk b)∧w.heap[b]? = some (.cells vs.toArray ty)∧Al (RH ρ F w) cells vs∧∀ v ∈ vs,v.oneCell'=true
 | .reg e sz rows=>∃ a c vr,ρ id=some (.reg a c rows.len sz)∧0 < sz∧Al (Al (RP F w)) rows.L vr∧(∀ r ∈ rows.L,r.length=sz)∧(∀ v ∈ vr,∀ u ∈ v,u.oneCell'=true)∧w.ownsRow 0 e sz (.slice a rows.len c) rows.len vr.flatten
 | .itr s pos=>∃ b,ρ id=some (.blk b)∧w.heap[b]? = some (.stringIter s pos)
 | .nst e ie isz rows pd=>∃ (a:Option Addr) (c:Nat) (H:Nat→Value),ρ id=some (.reg a c rows.len 1)∧(id < 2000000∧0 < isz)∧w.ownsRow 0 e 1 (.slice a rows.len c) rows.len ((List.range rows.len).map H)∧(∀ v,v < rows.len→(H v).oneCell'=true)∧(∀ j r,pd=some (j,r)→j < rows.len) ∧
   ∀ v,v < rows.len→∃ r av cv vr,yXQ rows pd v=some r∧ρ (nid id v)=some (.inn av cv r.len isz)∧((∀ r',pd ≠ some (v,r'))→H v=.slice av r.len cv)∧Al (Al (RP F w)) r.L vr∧(∀ x ∈ r.L,x.length=isz)∧(∀ x ∈ vr,∀ u ∈ x,u.oneCell'=true)∧w.ownsRow 0 ie isz (.slice av r.len cv) r.len vr.flatten
structure Env where
 w0:World
 F0:Nat→Prop
 W:Nat→Prop
 D:Deferred→Prop
 Q:Nat→Prop:=fun _=>False              -- where the growing slice lay that was handed over in the block
 R:Nat→Prop:=fun _=>False              -- the block that is only read
structure MemOk (E:Env) (ρ:Own) (F:Nat→Prop) (M:Mem) (w:World):Prop where
 ent:∀ id e,zG M id=some e→EntOk ρ F w id e
 dom:∀ id L,ρ id=some L→L.inner=false→∃ e,zG M id=some e
 ord:∀ id e,zG M id=some e→id < 2000000
 inr:∀ id L,ρ id=some L→L.inner=true→2000000≤id
 apart:∀ id id' L L' b,ρ id=some L→ρ id'=some L'→L.bl=some b→L'.bl=some b→id=id'
 off:∀ id L b,ρ id=some L→L.bl=some b→¬ F b∧b < w.heap.size∧(E.w0.heap.size≤b ∨ E.W b)
 fz:∀ k,F k→k < w.heap.size∧(E.F0 k ∨ E.w0.heap.size≤k ∨ E.W k)
 fz0:∀ k,E.F0 k→F k
 grow:GrowB E.W E.w0 w
 pin:∀ b,E.W b→ρ pid=some (.blk b) ∨ E.Q b
 rd:∀ b,E.R b→ρ pid2=some (.blk b)∧w.heap[b]? = E.w0.heap[b]?
structure Rel' (E:Env) (n:Nat) (ρ:Own) (F:Nat→Prop) (σ:St) (a:Act) (w:World):Prop where
 size:a.tmps.size=n
 defers:∀ d ∈ a.defers,E.D d
 slots:∀ t x,qQY σ.S t=some x→∃ v,a.tmps[t]? = some v∧RH ρ F w x v
 mem:MemOk E ρ F σ.M w
def Rel (E:Env) (n:Nat) (σ:St) (a:Act) (w:World):Prop:=∃ ρ F,Rel' E n ρ F σ a w
theorem RCp.mono {ρ ρ':Own} {F F':Nat→Prop} {w w':World} (hρ:∀ id b,ρ id=some (.blk b)→ρ' id=some (.blk b)) (hF:∀ k,F k→F' k∧w'.heap[k]? = w.heap[k]?) {x:Cap} {v:Value} (h:RCp ρ F w x v):RCp ρ' F' w' x v:=by
 cases x with
 | v x=>exact RP.mono hF h
 | p id off=>obtain ⟨b,h1,h2⟩:=h; exact ⟨b,hρ id b h1,h2⟩
structure Turns (sb:List (Nat × Option Rows)) (ρ ρ':Own) (F F':Nat→Prop) (w w':World):Prop where
 blk:∀ id b,ρ id=some (.blk b)→ρ' id=some (.blk b)
 keep:∀ id L,ρ id=some L→jZ sb id=none→L.inner=false→ρ' id=some L
 keepN:∀ id j a c k s,id < 2000000→ρ (nid id j)=some (.inn a c k s)→jZ sb id=none→jZ sb (mid id)=none→ρ' (nid id j)=some (.inn a c k s)
 thaw:∀ id rows a c k sz,ρ id=some (.reg a c k sz)→jZ sb id=some (some rows)→RP F' w' rows.pv (.slice a k c)∧∀ b j off,a=some ⟨b,0,none⟩→j < k→RP F' w' (rows.pz j off) (.pointer (some ⟨b,j * sz + off,none⟩))
 fz:∀ k,F k→F' k∧w'.heap[k]? = w.heap[k]?
theorem RHc.sub {sb:List (Nat × Option Rows)} {ρ ρ':Own} {F F':Nat→Prop} {w w':World} (ht:Turns sb ρ ρ' F F' w w') {x:HC} {v:Value} (h:RHc ρ F w x v):RHc ρ' F' w' (x.sub sb) v:=by
 cases x with
 | v x=>exact RP.mono ht.fz h
 | nl=>exact h
 | un=>trivial
 | o id =>
  obtain ⟨a,c,k,sz,h1,h2⟩:=h;simp only [HC.sub];split
  ·rename_i hs; exact ⟨a,c,k,sz,ht.keep id _ h1 hs rfl,h2⟩
  ·trivial
  ·rename_i rows hs; rw [h2]; exact (ht.thaw id rows a c k sz h1 hs).1
theorem RHc.h {ρ:Own} {F:Nat→Prop} {w:World} {x:HC} {v:Value} (h:RHc ρ F w x v):RH ρ F w x.h v:=by cases x <;> exact h
theorem RH.sub {sb:List (Nat × Option Rows)} {ρ ρ':Own} {F F':Nat→Prop} {w w':World} (ht:Turns sb ρ ρ' F F' w w') {x:HV} {v:Value} (h:RH ρ F w x v):RH ρ' F' w' (x.sub sb) v:=by
 cases x with
 | v x=>exact RP.mono ht.fz h
 | nl=>exact h
 | un=>trivial
 | p id off=>obtain ⟨b,h1,h2⟩:=h; exact ⟨b,ht.blk id b h1,h2⟩
 | g fn first cap =>
  obtain ⟨fs,cs,h1,h2,h3⟩:=h;exact ⟨fs,cs,h1,h2.imp fun _ _ _ h=>h.mono ht.fz,h3.imp fun _ _ _ h=>h.mono ht.blk ht.fz⟩
 | ag cs =>
  obtain ⟨vs,h1,h2,h3⟩:=h;exact ⟨vs,h1,Al.map_left (h2.imp fun _ _ _ h=>h.sub ht),h3⟩
 | o id =>
  obtain ⟨a,c,k,sz,h1,h2⟩:=h;simp only [HV.sub];split
  ·rename_i hs; exact ⟨a,c,k,sz,ht.keep id _ h1 hs rfl,h2⟩
  ·trivial
  ·rename_i rows hs; rw [h2]; exact (ht.thaw id rows a c k sz h1 hs).1
 | q id j off =>
  obtain ⟨b,c,k,sz,h1,hj,h2⟩:=h;simp only [HV.sub];split
  ·rename_i hs; exact ⟨b,c,k,sz,ht.keep id _ h1 hs rfl,hj,h2⟩
  ·trivial
  ·rename_i rows hs; rw [h2]; exact (ht.thaw id rows _ c k sz h1 hs).2 b j off rfl hj
 | m id j =>
  obtain ⟨a,c,k,sz,⟨h1,h2⟩,h3,a0,c0,k0,s0,h4,h5⟩:=h;simp only [HV.sub];split
  ·rename_i hs hs'; exact ⟨a,c,k,sz,⟨ht.keepN id j _ _ _ _ h3 h1 hs hs',h2⟩,h3,a0,c0,k0,s0,ht.keep id _ h4 hs rfl,h5⟩
  ·trivial
 | mp id j =>
  obtain ⟨a,c,k,sz,⟨h1,h2⟩,h3,a0,c0,k0,s0,h4,h5⟩:=h;simp only [HV.sub];split
  ·rename_i hs hs'; exact ⟨a,c,k,sz,⟨ht.keepN id j _ _ _ _ h3 h1 hs hs',h2⟩,h3,a0,c0,k0,s0,ht.keep id _ h4 hs rfl,h5⟩
  ·trivial
theorem HC.sub_nil (x:HC):x.sub []=x:=by cases x <;> rfl
theorem HV.sub_nil (x:HV):x.sub []=x:=by
 cases x with
 | ag cs=>exact congrArg HV.ag ((List.map_congr_left fun c _=>HC.sub_nil c).trans (List.map_id cs))
 | _=>rfl
theorem RH.mono {ρ ρ':Own} {F F':Nat→Prop} {w w':World} (hρ:∀ id L,ρ id=some L→ρ' id=some L) (hF:∀ k,F k→F' k∧w'.heap[k]? = w.heap[k]?) {x:HV} {v:Value} (h:RH ρ F w x v):RH ρ' F' w' x v:=by
 have:=RH.sub (sb:=[]) ⟨fun id b=>hρ id _,fun id L h _ _=>hρ id L h,fun id j a c k s _ h _ _=>hρ _ _ h,fun id rows a c k sz _ h=>by simp [jZ] at h,hF⟩ h
 rwa [HV.sub_nil] at this
theorem qZH {w w':World} {m e sz:Nat} {a:Option Addr} {n c:Nat} {xs:List Value} (h:w.ownsRow m e sz (.slice a n c) n xs) (hb:∀ b,a.map (·.block)=some b→w'.heap[b]? = w.heap[b]?):w'.ownsRow m e sz (.slice a n c) n xs:=by
 refine ⟨h.1,?_⟩;rcases h.2 with h | ⟨g,cap,cur,h1,h2,h3,h4⟩
 ·exact .inl h
 ·refine .inr ⟨g,cap,cur,h1,h2,?_,h4⟩;simp only [Value.slice.injEq] at h1;rw [hb g (by rw [h1.1]; rfl)]; exact h3
theorem EntOk.sub {sb:List (Nat × Option Rows)} {ρ ρ':Own} {F F':Nat→Prop} {w w':World} (ht:Turns sb ρ ρ' F F' w w') {id:Nat} {e:Ent} (h:EntOk ρ F w id e) (hk:jZ sb id=none) (hk2:jZ sb (mid id)=none) (hb:∀ L b,ρ id=some L→L.bl=some b→w'.heap[b]? = w.heap[b]?) (hbn:∀ j L b,ρ (nid id j)=some L→L.bl=some b→w'.heap[b]? = w.heap[b]?):EntOk ρ' F' w' id (e.sub sb):=by
 cases e with
 | blk cells =>
  obtain ⟨b,vs,ty,h1,h2,h3,h4⟩:=h;refine ⟨b,vs,ty,ht.keep id _ h1 hk rfl,by rw [hb _ b h1 rfl]; exact h2,Al.map_left (h3.imp fun _ _ _ h=>RH.sub ht h),h4⟩
 | reg e sz rows =>
  obtain ⟨a,c,vr,h1,h2,h3,h4,h5,h6⟩:=h;exact ⟨a,c,vr,ht.keep id _ h1 hk rfl,h2,h3.imp fun _ _ _ h=>h.imp fun _ _ _ h=>h.mono ht.fz,h4,h5,qZH h6 fun b hb'=>hb _ b h1 hb'⟩
 | itr s pos =>
  obtain ⟨b,h1,h2⟩:=h;exact ⟨b,ht.keep id _ h1 hk rfl,by rw [hb _ b h1 rfl]; exact h2⟩
 | nst e ie isz rows pd =>
  obtain ⟨a,c,H,h1,h2,h3,h4,h5,h6⟩:=h;refine ⟨a,c,H,ht.keep id _ h1 hk rfl,h2,qZH h3 fun b hb'=>hb _ b h1 hb',h4,h5,fun v hv => ?_⟩;obtain ⟨r,av,cv,vr,q1,q2,q3,q4,q5,q6,q7⟩:=h6 v hv;exact ⟨r,av,cv,vr,q1,ht.keepN id v _ _ _ _ h2.1 q2 hk hk2,q3,q4.imp fun _ _ _ h=>h.imp fun _ _ _ h=>h.mono ht.fz,q5,q6,qZH q7 fun b hb'=>hbn v _ b q2 hb'⟩
theorem zQJ {f:Ent→Ent} {M:Mem} {i:Nat}:zG (M.map fun x=>(x.1,f x.2)) i=(zG M i).map f:=by
 induction M with
 | nil=>rfl
 | cons x M ih=>simp only [List.map_cons,zG]; cases Nat.beq x.1 i <;> simp [ih]
theorem lookS_map {f:HV→HV} {S:List (Nat × HV)} {i:Nat}:qQY (S.map fun x=>(x.1,f x.2)) i=(qQY S i).map f:=by
 induction S with
 | nil=>rfl
 | cons x M ih=>simp only [List.map_cons,qQY]; cases Nat.beq x.1 i <;> simp [ih]
theorem beq_self (i:Nat):Nat.beq i i=true:=Nat.beq_refl i
theorem lookS_same (S:List (Nat × HV)) (i:Nat) (x:HV):qQY ((i,x) :: S) i=some x:=by simp [qQY]
theorem zGF {S:List (Nat × HV)} {i j:Nat} {x:HV} (h:i ≠ j):qQY ((i,x) :: S) j=qQY S j:=by simp [qQY,qQW h]
theorem lookM_rem {M:Mem} {i j:Nat}:zG (remM i M) j=if i=j then none else zG M j:=by
 induction M with
 | nil=>simp [remM,zG]
 | cons x M ih =>
  obtain ⟨k,x⟩:=x;simp only [remM];by_cases e:k=i
  ·subst e;rw [beq_self,vYV,ih];by_cases e2:k=j
   ·simp [e2]
   ·simp [e2,zG,qQW e2]
  ·rw [qQW e,vYG];simp only [zG];by_cases e2:k=j
   ·subst e2; simp [Ne.symm e]
   ·rw [qQW e2,vYG,vYG,ih]
theorem qKH {M:Mem} {i j:Nat} {e:Ent}:zG (putM i e M) j=if i=j then some e else zG M j:=by
 induction M with
 | nil =>
  simp only [putM,zG];by_cases h:i=j
  ·subst h; simp
  ·simp [h,qQW h]
 | cons x M ih =>
  obtain ⟨k,x⟩:=x;simp only [putM];by_cases e:k=i
  ·subst e;rw [beq_self,vYV];simp only [zG];by_cases e2:k=j
   ·subst e2; simp
   ·rw [qQW e2]; simp [e2]
  ·rw [qQW e,vYG];simp only [zG];by_cases e2:k=j
   ·subst e2; simp [Ne.symm e]
   ·rw [qQW e2,vYG,vYG,ih]
def yG:List (Nat × Option Ent)→Nat→Option (Option Ent)
 | [],_=>none
 | (k,x) :: l,i=>match yG l i with
  | some y=>some y
  | none=>bif Nat.beq k i then some x else none
theorem lookM_ups {l:List (Nat × Option Ent)}:∀ {M:Mem} {j:Nat},zG (ups l M) j=match yG l j with | some x=>x | none=>zG M j:=by
 induction l with
 | nil=>intro M j; rfl
 | cons x l ih =>
  intro M j;obtain ⟨i,x⟩:=x;cases x with
  | none =>
   simp only [ups,yG,ih];cases hu:yG l j with
   | some y=>rfl
   | none =>
    simp only [lookM_rem];by_cases e:i=j
    ·subst e; simp
    ·simp [e,qQW e]
  | some y =>
   simp only [ups,yG,ih];cases hu:yG l j with
   | some y=>rfl
   | none =>
    simp only [qKH];by_cases e:i=j
    ·subst e; simp
    ·simp [e,qQW e]
theorem lookS_sub (sb:List (Nat × Option Rows)) (S:List (Nat × HV)) (t:Nat):qQY (subS sb S) t=(qQY S t).map (HV.sub sb):=by
 cases sb with
 | nil=>simp only [subS]; cases qQY S t <;> simp [HV.sub_nil]
 | cons y ys=>exact lookS_map (f:=HV.sub (y :: ys))
theorem Ent.sub_nil (x:Ent):x.sub []=x:=by
 cases x with
 | blk cells=>simp only [Ent.sub]; congr 1; exact (List.map_congr_left fun a _=>HV.sub_nil a).trans (List.map_id _)
 | _=>rfl
theorem lookM_sub (sb:List (Nat × Option Rows)) (M:Mem) (t:Nat):zG (subM sb M) t=(zG M t).map (Ent.sub sb):=by
 cases sb with
 | nil=>simp only [subM]; cases zG M t <;> simp [Ent.sub_nil]
 | cons y ys=>exact zQJ (f:=Ent.sub (y :: ys))
theorem qYY (σ:St) (e:Eff) (dst:Option Nat) (t:Nat):qQY (σ.apply e dst).S t=if dst=some t then some e.x else (qQY σ.S t).map (HV.sub e.sb):=by
 unfold St.apply;cases dst with
 | none=>simpa using lookS_sub _ _ _
 | some d =>
  by_cases hd:d=t
  ·subst hd; simp [qQY]
  ·simp only [zGF hd,vQZ,hd,if_false]; exact lookS_sub _ _ _
theorem qQF (σ:St) (e:Eff) (dst:Option Nat) (i:Nat):zG (σ.apply e dst).M i=match yG e.up i with | some x=>x | none=>(zG σ.M i).map (Ent.sub e.sb):=by
 show zG (ups e.up _) i=_;rw [lookM_ups];cases yG e.up i with
 | some x=>rfl
 | none=>exact lookM_sub _ _ _
theorem EntOk.own {ρ:Own} {F:Nat→Prop} {w:World} {id:Nat} {e:Ent} (h:EntOk ρ F w id e):∃ L,ρ id=some L∧L.inner=false:=by
 cases e with
 | blk cells=>obtain ⟨b,_,_,h1,_⟩:=h; exact ⟨_,h1,rfl⟩
 | reg e sz rows=>obtain ⟨a,c,vr,h1,_⟩:=h; exact ⟨_,h1,rfl⟩
 | itr s pos=>obtain ⟨b,h1,_⟩:=h; exact ⟨_,h1,rfl⟩
 | nst e ie isz rows pd=>obtain ⟨a,c,H,h1,_⟩:=h; exact ⟨_,h1,rfl⟩
theorem Rel'.apply2 {E:Env} {n:Nat} {ρ ρ':Own} {F F':Nat→Prop} {σ:St} {a:Act} {w w':World} (h:Rel' E n ρ F σ a w) (e:Eff) (dst:Option Nat) (v:Value)
  (hd:∀ d,dst=some d→d < n) (ht:Turns e.sb ρ ρ' F F' w w') (hx:RH ρ' F' w' e.x v)
  (hsame:∀ id L b,yG e.up id=none→(∀ k j,id=nid k j→yG e.up k=none)→ρ id=some L→L.bl=some b→w'.heap[b]? = w.heap[b]?)
  (hsb:∀ id,id < 2000000→yG e.up id=none→jZ e.sb id=none)
  (hsb2:∀ id,id < 2000000→yG e.up id=none→jZ e.sb (mid id)=none)
  (hord:∀ id x,yG e.up id=some x→id < 2000000)
  (hold:∀ id L,yG e.up id=none→ρ' id=some L→L.inner=false→ρ id=some L)
  (hup:∀ id x,yG e.up id=some x→match x with
   | some ent=>EntOk ρ' F' w' id ent
   | none=>ρ' id=none)
  (hinr:∀ id L,ρ' id=some L→L.inner=true→2000000≤id)
  (hap:∀ id id' L L' b,ρ' id=some L→ρ' id'=some L'→L.bl=some b→L'.bl=some b→id=id')
  (hoff:∀ id L b,ρ' id=some L→L.bl=some b→¬ F' b∧b < w'.heap.size∧(E.w0.heap.size≤b ∨ E.W b))
  (hfz:∀ k,F' k→k < w'.heap.size∧(E.F0 k ∨ E.w0.heap.size≤k ∨ E.W k)) (hg:GrowB E.W E.w0 w') (hp2:∀ b,ρ pid2=some (.blk b)→yG e.up pid2=none):Rel' E n ρ' F' (σ.apply e dst) (a.put dst v) w':=by
 have nnone:∀ k j,yG e.up (nid k j)=none:=fun k j=>by
  cases hc:yG e.up (nid k j) with
  | none=>rfl
  | some x=>exact absurd (hord _ x hc) (by have:=qKG k j; omega)
 refine ⟨?_,?_,fun t x hx' => ?_,⟨fun id ent hl => ?_,fun id L hL hi => ?_,fun id ent hl => ?_,hinr,hap,hoff,hfz,fun k hk=>(ht.fz k (h.mem.fz0 k hk)).1,hg,fun b hb=>(h.mem.pin b hb).imp (ht.blk pid b) fun h=>h,fun b hb => ?_⟩⟩
 ·unfold Act.put; cases dst <;> simp [h.size]
 ·unfold Act.put; cases dst <;> exact h.defers
 ·rw [qYY] at hx';by_cases e1:dst=some t
  ·rw [if_pos e1] at hx';cases hx';subst e1
   have:=hd t rfl
   exact ⟨v,by simp [Act.put,h.size,this],hx⟩
  ·rw [if_neg e1,vZW] at hx';obtain ⟨y,hy,rfl⟩:=hx';obtain ⟨u,hu,hr⟩:=h.slots t y hy;refine ⟨u,?_,RH.sub ht hr⟩;cases dst with
   | none=>exact hu
   | some d =>
    have:d ≠ t:=fun e=>e1 (by rw [e])
    simp [Act.put,Array.getElem?_setIfInBounds_ne this,hu]
 ·rw [qQF] at hl;cases hu:yG e.up id with
  | some x =>
   rw [hu] at hl;simp only at hl;subst hl;exact hup id _ hu
  | none =>
   rw [hu] at hl;simp only [vZW] at hl;obtain ⟨y,hy,rfl⟩:=hl;have hid:=h.mem.ord id y hy;refine EntOk.sub ht (h.mem.ent id y hy) (hsb id hid hu) (hsb2 id hid hu) (fun L b hL hb=>hsame id L b hu (fun k j e => ?_) hL hb) (fun j L b hL hb=>hsame _ L b (nnone id j) (fun k i e2 => ?_) hL hb)
   ·have:=qKG k j; omega
   ·by_cases hk:k < 2000000
    ·obtain ⟨rfl,_⟩:=zXW hid hk e2; exact hu
    ·cases hc:yG e.up k with
     | none=>rfl
     | some x=>exact absurd (hord _ x hc) hk
 ·rw [qQF];cases hu:yG e.up id with
  | some x =>
   have:=hup id x hu
   cases x with
   | none=>simp only at this; rw [this] at hL; cases hL
   | some ent=>exact ⟨ent,rfl⟩
  | none =>
   obtain ⟨y,hy⟩:=h.mem.dom id L (hold id L hu hL hi) hi;exact ⟨_,by simp [hy]; rfl⟩
 ·rw [qQF] at hl;cases hu:yG e.up id with
  | some x=>exact hord id x hu
  | none =>
   rw [hu] at hl;simp only [vZW] at hl;obtain ⟨y,hy,rfl⟩:=hl;exact h.mem.ord id y hy
 ·obtain ⟨h1,h2⟩:=h.mem.rd b hb;exact ⟨ht.blk _ _ h1,(hsame pid2 (.blk b) b (hp2 b h1) (fun k j e=>absurd e (by have:=qKG k j; unfold pid2; omega)) h1 rfl).trans h2⟩
theorem Rel'.apply {E:Env} {n:Nat} {ρ ρ':Own} {F F':Nat→Prop} {σ:St} {a:Act} {w w':World} (h:Rel' E n ρ F σ a w) (e:Eff) (dst:Option Nat) (v:Value)
  (hd:∀ d,dst=some d→d < n) (ht:Turns e.sb ρ ρ' F F' w w') (hx:RH ρ' F' w' e.x v)
  (hsame:∀ id L b,yG e.up id=none→ρ id=some L→L.bl=some b→w'.heap[b]? = w.heap[b]?)
  (hsb:∀ id,yG e.up id=none→jZ e.sb id=none)
  (hord:∀ id x,yG e.up id=some x→id < 2000000)
  (hold:∀ id,yG e.up id=none→ρ' id=ρ id)
  (hup:∀ id x,yG e.up id=some x→match x with
   | some ent=>EntOk ρ' F' w' id ent
   | none=>ρ' id=none)
  (hap:∀ id id' L L' b,ρ' id=some L→ρ' id'=some L'→L.bl=some b→L'.bl=some b→id=id')
  (hoff:∀ id L b,ρ' id=some L→L.bl=some b→¬ F' b∧b < w'.heap.size∧(E.w0.heap.size≤b ∨ E.W b))
  (hfz:∀ k,F' k→k < w'.heap.size∧(E.F0 k ∨ E.w0.heap.size≤k ∨ E.W k)) (hg:GrowB E.W E.w0 w') (hp2:∀ b,ρ pid2=some (.blk b)→yG e.up pid2=none):Rel' E n ρ' F' (σ.apply e dst) (a.put dst v) w':=by
 refine h.apply2 e dst v hd ht hx (fun id L b hu _=>hsame id L b hu) (fun id _=>hsb id) (fun id _ _ => ?_) hord (fun id L hu hL _=>by rw [← hold id hu]; exact hL) hup (fun id L hL hi => ?_) hap hoff hfz hg hp2
 ·refine hsb (mid id) ?_;cases hc:yG e.up (mid id) with
  | none=>rfl
  | some x=>exact absurd (hord _ x hc) (by unfold mid; omega)
 ·cases hu:yG e.up id with
  | none=>rw [hold id hu] at hL; exact h.mem.inr id L hL hi
  | some x =>
   have:=hup id x hu
   cases x with
   | none=>simp only at this; rw [this] at hL; cases hL
   | some ent =>
    obtain ⟨L',h1,h2⟩:=EntOk.own this;rw [hL] at h1;cases h1;rw [hi] at h2; cases h2
def qJC (M:Mem) (id:Nat):Prop:=zG M id=none∧id < 2000000
theorem MemOk.fresh {E:Env} {ρ:Own} {F:Nat→Prop} {M:Mem} {w:World} (h:MemOk E ρ F M w) {id:Nat} (hid:qJC M id):ρ id=none:=by
 cases hc:ρ id with
 | none=>rfl
 | some L =>
  cases hi:L.inner with
  | true=>exact absurd (h.inr id L hc hi) (by have:=hid.2; omega)
  | false=>obtain ⟨e,he⟩:=h.dom id L hc hi; rw [hid.1] at he; cases he
theorem MemOk.lt {E:Env} {ρ:Own} {F:Nat→Prop} {M:Mem} {w:World} (h:MemOk E ρ F M w) {id:Nat} {L:Loc} (hL:ρ id=some L) (hi:L.inner=false):id < 2000000:=by
 obtain ⟨e,he⟩:=h.dom id L hL hi;exact h.ord id e he
end Go.Rx
namespace Go.Rx
open Go.RowKit Go.Sx
def Eqv (σ τ:St):Prop:=(∀ t,qQY σ.S t=qQY τ.S t)∧(∀ i,zG σ.M i=zG τ.M i)
theorem Eqv.refl (σ:St):Eqv σ σ:=⟨fun _=>rfl,fun _=>rfl⟩
theorem Eqv.symm {σ τ:St} (h:Eqv σ τ):Eqv τ σ:=⟨fun t=>(h.1 t).symm,fun i=>(h.2 i).symm⟩
theorem Eqv.trans {σ τ υ:St} (h:Eqv σ τ) (k:Eqv τ υ):Eqv σ υ:=⟨fun t=>(h.1 t).trans (k.1 t),fun i=>(h.2 i).trans (k.2 i)⟩
theorem Eqv.apply {σ τ:St} (h:Eqv σ τ) (e:Eff) (d:Option Nat):Eqv (σ.apply e d) (τ.apply e d):=⟨fun t=>by rw [qYY,qYY,h.1],fun i=>by rw [qQF,qQF,h.2]⟩
theorem jJ {α β:Type} {f:α→Option β} {xs:List α} {ys:List β} (h:mapO f xs=some ys):Al (fun x y=>f x=some y) xs ys:=by
 induction xs generalizing ys with
 | nil=>simp [mapO] at h; subst h; exact Al.nil
 | cons x xs ih =>
  simp only [mapO,vQQ,vQZ] at h;obtain ⟨y,hy,zs,hz,rfl⟩:=h;exact Al.cons hy (ih hz)
theorem yYF {α β:Type} {f:α→Option β} {xs:List α} {ys:List β} (h:Al (fun x y=>f x=some y) xs ys):mapO f xs=some ys:=by
 induction xs generalizing ys with
 | nil=>rw [h.nil_left]; rfl
 | cons x xs ih =>
  obtain ⟨y,zs,rfl,h1,h2⟩:=h.cons_left;simp [mapO,h1,ih h2]
theorem mem_catL {α:Type} {f:α→List Nat} {xs:List α} {i:Nat}:i ∈ catL f xs ↔ ∃ x ∈ xs,i ∈ f x:=by
 induction xs with
 | nil=>simp [catL]
 | cons x xs ih =>
  have:catL f (x :: xs)=f x ++ catL f xs:=by
   simp only [catL]; cases f x <;> simp
  simp [this,ih]
theorem cv_local {M M':Mem} {x:HV} {c:CV} (h:cvOf M x=some c) (he:∀ id ∈ c.fol,zG M' id=zG M id):cvOf M' x=some c:=by
 cases x with
 | o id =>
  simp only [cvOf] at h ⊢;split at h
  ·rename_i e sz rows hl;cases h;rw [he id (by simp [CV.fol]),hl]
  ·cases h
 | _=>exact h
theorem cv_ids {M:Mem} {x:HV} {c:CV} (h:cvOf M x=some c):∀ id ∈ x.ids,id ∈ c.ids:=by
 cases x with
 | o id =>
  simp only [cvOf] at h;split at h
  ·cases h; exact fun _ h=>h
  ·cases h
 | _=>simp only [cvOf,vQZ] at h; subst h; exact fun _ h=>h
theorem cv_fol {c:CV}:∀ id ∈ c.fol,id ∈ c.ids:=by
 cases c with
 | h x=>intro id h; cases h
 | o id e sz rows=>exact fun _ h=>h
theorem cv_deep {M:Mem} {x:HV} {c:CV} (h:cvOf M x=some c):∀ id ∈ c.fol,∀ e,zG M id=some e→e.ids=[]:=by
 cases x with
 | o id =>
  simp only [cvOf] at h;split at h
  ·rename_i e sz rows hl;cases h;intro i hi e he;simp only [CV.fol,List.mem_singleton] at hi;subst hi;rw [hl] at he; cases he; rfl
  ·cases h
 | _=>simp only [cvOf,vQZ] at h; subst h; intro i hi; cases hi
section
variable {M M':Mem} {cells:List HV} {cs:List CV}
theorem cvs_local (h:mapO (cvOf M) cells=some cs) (he:∀ id ∈ catL CV.fol cs,zG M' id=zG M id):mapO (cvOf M') cells=some cs:=by
 have h1:=jJ h;refine yYF ⟨h1.1,fun i x y hx hy=>cv_local (h1.2 i x y hx hy) fun id hid=>he id (mem_catL.2 ⟨y,vQG hy,hid⟩)⟩
theorem cvs_ids (h:mapO (cvOf M) cells=some cs):∀ id ∈ catL HV.ids cells,id ∈ catL CV.ids cs:=by
 have h1:=jJ h;intro id hid;obtain ⟨x,hx,hi⟩:=mem_catL.1 hid;obtain ⟨i,hi2⟩:=List.mem_iff_getElem?.1 hx;obtain ⟨y,hy,hr⟩:=h1.get hi2;exact mem_catL.2 ⟨y,vQG hy,cv_ids hr id hi⟩
theorem cvs_fol:∀ id ∈ catL CV.fol cs,id ∈ catL CV.ids cs:=fun id hid=>by
 obtain ⟨x,hx,hi⟩:=mem_catL.1 hid;exact mem_catL.2 ⟨x,hx,cv_fol id hi⟩
theorem cvs_deep (h:mapO (cvOf M) cells=some cs):∀ id ∈ catL CV.fol cs,∀ e,zG M id=some e→e.ids=[]:=by
 have h1:=jJ h;intro id hid e he;obtain ⟨y,hy,hi⟩:=mem_catL.1 hid;obtain ⟨i,hi2⟩:=List.mem_iff_getElem?.1 hy;have hil:=(List.getElem?_eq_some_iff.1 hi2).1;have hc:i < cells.length:=by rw [h1.1]; exact hil
 exact cv_deep (h1.2 i _ y (vQK hc) hi2) id hi e he
end
theorem rc_local {M M':Mem} {x:Cap} {c:RC} (h:rcOf M x=some c) (he:∀ id ∈ c.fol,zG M' id=zG M id):rcOf M' x=some c:=by
 cases x with
 | v x=>exact h
 | p id off =>
  simp only [rcOf] at h ⊢;split at h
  ·rename_i cells hl;simp only [vQQ,vQZ] at h;obtain ⟨cc,hcc,rfl⟩:=h;rw [he id (by simp [RC.fol]),hl];simp only [cvs_local hcc fun id hid=>he id (by simp [RC.fol,hid])];rfl
  ·cases h
theorem rc_fol {c:RC}:∀ id ∈ c.fol,id ∈ c.ids:=by
 cases c with
 | v x=>intro id h; cases h
 | p id off cells =>
  intro i hi;simp only [RC.fol,RC.ids,vYZ] at hi ⊢;exact hi.imp (fun h=>h) (cvs_fol i)
theorem rc_deep {M:Mem} {x:Cap} {c:RC} (h:rcOf M x=some c):∀ i ∈ c.fol,∀ e,zG M i=some e→∀ id ∈ e.ids,id ∈ c.ids:=by
 cases x with
 | v x=>simp only [rcOf,vQZ] at h; subst h; intro i hi; cases hi
 | p id off =>
  simp only [rcOf] at h;split at h
  ·rename_i cells hl;simp only [vQQ,vQZ] at h;obtain ⟨cc,hcc,rfl⟩:=h;intro i hi e he k hk;simp only [RC.fol,vYZ] at hi;rcases hi with rfl | hi
   ·rw [hl] at he; cases he;simp only [RC.ids,vYZ];exact .inr (cvs_ids hcc k hk)
   ·rw [cvs_deep hcc i hi e he] at hk; cases hk
  ·cases h
theorem qVY {M M':Mem} {x:HV} {r:RV} (h:res M x=some r) (he:∀ id ∈ r.fol,zG M' id=zG M id):res M' x=some r:=by
 cases x with
 | o id =>
  simp only [res] at h ⊢;split at h
  ·rename_i e sz rows hl; cases h; rw [he id (by simp [RV.fol]),hl]
  ·rename_i e ie isz rows pd hl; cases h; rw [he id (by simp [RV.fol]),hl]
  ·cases h
 | m id j =>
  simp only [res] at h ⊢;split at h
  ·rename_i e ie isz rows pd hl; cases h; rw [he id (by simp [RV.fol]),hl]
  ·cases h
 | p id off =>
  simp only [res] at h ⊢;split at h
  ·rename_i cells hl;simp only [vQQ,vQZ] at h;obtain ⟨cs,hcs,rfl⟩:=h;rw [he id (by simp [RV.fol]),hl];simp only [cvs_local hcs fun id hid=>he id (by simp [RV.fol,hid])];rfl
  ·rename_i s pos hl; cases h; rw [he id (by simp [RV.fol]),hl]
  ·cases h
 | q id j off =>
  simp only [res] at h ⊢;split at h
  ·rename_i e sz rows hl; cases h; rw [he id (by simp [RV.fol]),hl]
  ·rename_i e ie isz rows pd hl; cases h; rw [he id (by simp [RV.fol]),hl]
  ·cases h
 | g fn first cap =>
  simp only [res,vQQ,vQZ] at h ⊢;obtain ⟨cs,hcs,rfl⟩:=h;have h1:=jJ hcs;exact ⟨cs,yYF ⟨h1.1,fun i x y hx hy=>rc_local (h1.2 i x y hx hy) fun id hid=>he id (mem_catL.2 ⟨_,vQG hy,hid⟩)⟩,rfl⟩
 | _=>exact h
theorem zUW {M:Mem} {x:HV} {r:RV} (h:res M x=some r):∀ id ∈ x.ids,id ∈ r.ids:=by
 cases x with
 | o id =>
  simp only [res] at h;split at h
  ·cases h; exact fun _ h=>h
  ·cases h; exact fun _ h=>h
  ·cases h
 | q id j off =>
  simp only [res] at h;split at h
  ·cases h; exact fun _ h=>h
  ·cases h; exact fun _ h=>h
  ·cases h
 | m id j =>
  simp only [res] at h;split at h
  ·cases h; exact fun _ h=>h
  ·cases h
 | mp id j=>cases h; exact fun _ h=>h
 | ag cs=>cases h; exact fun _ h=>h
 | _=>intro id hid; simp [HV.ids] at hid
theorem qHH {M:Mem} {x:HV} {r:RV} (h:res M x=some r):(∀ i ∈ r.fol,i ∈ r.ids)∧∀ i ∈ r.fol,∀ e,zG M i=some e→∀ id ∈ e.ids,id ∈ r.ids:=by
 cases x with
 | o id =>
  simp only [res] at h;split at h
  ·rename_i e sz rows hl;cases h;refine ⟨fun _ h=>h,fun i hi e he k hk => ?_⟩;simp only [RV.fol,List.mem_singleton] at hi;subst hi;rw [hl] at he; cases he; cases hk
  ·rename_i e ie isz rows pd hl;cases h;refine ⟨fun _ h=>h,fun i hi e he k hk => ?_⟩;simp only [RV.fol,List.mem_singleton] at hi;subst hi;rw [hl] at he; cases he; cases hk
  ·cases h
 | m id j =>
  simp only [res] at h;split at h
  ·rename_i e ie isz rows pd hl;cases h;refine ⟨fun i hi=>(by simp only [RV.fol,List.mem_singleton] at hi; subst hi; simp [RV.ids]),fun i hi e he k hk => ?_⟩;simp only [RV.fol,List.mem_singleton] at hi;subst hi;rw [hl] at he; cases he; cases hk
  ·cases h
 | mp id j=>cases h; exact ⟨fun i hi=>(by cases hi),fun i hi=>(by cases hi)⟩
 | p id off =>
  simp only [res] at h;split at h
  ·rename_i cells hl;simp only [vQQ,vQZ] at h;obtain ⟨cs,hcs,rfl⟩:=h;refine ⟨fun i hi => ?_,fun i hi e he k hk => ?_⟩
   ·simp only [RV.fol,RV.ids,vYZ] at hi ⊢;exact hi.imp (fun h=>h) (cvs_fol i)
   ·simp only [RV.fol,vYZ] at hi;rcases hi with rfl | hi
    ·rw [hl] at he; cases he;simp only [RV.ids,vYZ];exact .inr (cvs_ids hcs k hk)
    ·rw [cvs_deep hcs i hi e he] at hk; cases hk
  ·rename_i s pos hl;cases h;refine ⟨fun _ h=>h,fun i hi e he k hk => ?_⟩;simp only [RV.fol,List.mem_singleton] at hi;subst hi;rw [hl] at he; cases he; cases hk
  ·cases h
 | q id j off =>
  simp only [res] at h;split at h
  ·rename_i e sz rows hl;cases h;refine ⟨fun _ h=>h,fun i hi e he k hk => ?_⟩;simp only [RV.fol,List.mem_singleton] at hi;subst hi;rw [hl] at he; cases he; cases hk
  ·rename_i e ie isz rows pd hl;cases h;refine ⟨fun _ h=>h,fun i hi e he k hk => ?_⟩;simp only [RV.fol,List.mem_singleton] at hi;subst hi;rw [hl] at he; cases he; cases hk
  ·cases h
 | g fn first cap =>
  simp only [res,vQQ,vQZ] at h;obtain ⟨cs,hcs,rfl⟩:=h;have h1:=jJ hcs;refine ⟨fun i hi => ?_,fun i hi e he k hk => ?_⟩
  ·obtain ⟨c,hc,hin⟩:=mem_catL.1 hi;exact mem_catL.2 ⟨c,hc,rc_fol i hin⟩
  ·obtain ⟨c,hc,hin⟩:=mem_catL.1 hi;obtain ⟨m,hm⟩:=List.mem_iff_getElem?.1 hc;have hml:=(List.getElem?_eq_some_iff.1 hm).1;have hcap:m < cap.length:=by rw [h1.1]; exact hml
   exact mem_catL.2 ⟨c,hc,rc_deep (h1.2 m _ c (vQK hcap) hm) i hin e he k hk⟩
 | v x=>cases h; exact ⟨fun i hi=>(by cases hi),fun i hi=>(by cases hi)⟩
 | nl=>cases h; exact ⟨fun i hi=>(by cases hi),fun i hi=>(by cases hi)⟩
 | un=>cases h; exact ⟨fun i hi=>(by cases hi),fun i hi=>(by cases hi)⟩
 | ag cs=>cases h; exact ⟨fun i hi=>(by cases hi),fun i hi=>(by cases hi)⟩
theorem yUL (x:HV):(∀ id ∈ x.ids,id ∈ (sh x).ids)∧(sh x).fol=[]:=by
 cases x <;> exact ⟨fun _ h=>h,rfl⟩
theorem resM_local {m:Nat} {M M':Mem} {x:HV} {r:RV} (h:resM m M x=some r) (he:∀ id ∈ r.fol,zG M' id=zG M id):resM m M' x=some r:=by
 match m with
 | 0=>exact qVY h he
 | 1=>exact h
 | 2 =>
  cases x with
  | o id=>simp only [resM] at h ⊢; exact qVY h he
  | _=>exact h
 | m + 3 =>
  cases x with
  | p id off =>
   cases off with
   | succ off=>simp only [resM] at h ⊢; exact qVY h he
   | zero =>
    have hid:zG M' id=zG M id:=by
     simp only [resM] at h;split at h
     ·cases h; exact he id (by simp [RV.fol])
     ·simp only [res] at h;split at h
      ·simp only [vQQ,vQZ] at h;obtain ⟨cs,_,rfl⟩:=h;exact he id (by simp [RV.fol])
      ·cases h; exact he id (by simp [RV.fol])
      ·cases h
    simp only [resM] at h ⊢;rw [hid];split at h
    ·exact h
    ·exact qVY h he
  | _=>simp only [resM] at h ⊢; exact qVY h he
theorem resM_ids {m:Nat} {M:Mem} {x:HV} {r:RV} (h:resM m M x=some r):∀ id ∈ x.ids,id ∈ r.ids:=by
 match m with
 | 0=>exact zUW h
 | 1=>simp only [resM,vQZ] at h; subst h; exact (yUL x).1
 | 2 =>
  cases x with
  | o id=>exact zUW (by simpa only [resM] using h)
  | _=>simp only [resM,vQZ] at h; subst h; exact (yUL _).1
 | m + 3 =>
  cases x with
  | p id off =>
   cases off with
   | succ off=>exact zUW (by simpa only [resM] using h)
   | zero =>
    simp only [resM] at h;split at h
    ·cases h; intro i hi; simp [HV.ids] at hi
    ·exact zUW h
  | _=>exact zUW (by simpa only [resM] using h)
theorem resM_deep {m:Nat} {M:Mem} {x:HV} {r:RV} (h:resM m M x=some r):(∀ i ∈ r.fol,i ∈ r.ids)∧∀ i ∈ r.fol,∀ e,zG M i=some e→∀ id ∈ e.ids,id ∈ r.ids:=by
 have shd:∀ x:HV,(∀ i ∈ (sh x).fol,i ∈ (sh x).ids)∧∀ i ∈ (sh x).fol,∀ e,zG M i=some e→∀ id ∈ e.ids,id ∈ (sh x).ids:=fun x=>by
  rw [(yUL x).2]; exact ⟨fun i hi=>(by cases hi),fun i hi=>(by cases hi)⟩
 match m with
 | 0=>exact qHH h
 | 1=>simp only [resM,vQZ] at h; subst h; exact shd x
 | 2 =>
  cases x with
  | o id=>exact qHH (by simpa only [resM] using h)
  | _=>simp only [resM,vQZ] at h; subst h; exact shd _
 | m + 3 =>
  cases x with
  | p id off =>
   cases off with
   | succ off=>exact qHH (by simpa only [resM] using h)
   | zero =>
    simp only [resM] at h;split at h
    ·rename_i i2 hl;cases h;refine ⟨fun i hi => ?_,fun i hi e he j hj => ?_⟩
     ·simp only [RV.fol,List.mem_singleton] at hi; subst hi; simp [RV.ids]
     ·simp only [RV.fol,List.mem_singleton] at hi;subst hi;rw [hl] at he;cases he
      simpa [Ent.ids,catL,HV.ids,RV.ids] using Or.inr hj
    ·exact qHH h
  | _=>exact qHH (by simpa only [resM] using h)
theorem zVX {sb:List (Nat × Option Rows)} {x:HV} (h:∀ id ∈ x.ids,jZ sb id=none):x.sub sb=x:=by
 cases x with
 | o id=>simp [HV.sub,h id (by simp [HV.ids])]
 | q id j off=>simp [HV.sub,h id (by simp [HV.ids])]
 | m id j=>simp [HV.sub,h id (by simp [HV.ids]),h (mid id) (by simp [HV.ids])]
 | mp id j=>simp [HV.sub,h id (by simp [HV.ids]),h (mid id) (by simp [HV.ids])]
 | ag cs =>
  refine congrArg HV.ag ((List.map_congr_left fun c hc => ?_).trans (List.map_id cs));cases c with
  | o id=>simp [HC.sub,h id (mem_catL.2 ⟨_,hc,List.mem_singleton.2 rfl⟩)]
  | _=>rfl
 | _=>rfl
theorem ent_keep {sb:List (Nat × Option Rows)} {x:Ent} (h:∀ id ∈ x.ids,jZ sb id=none):x.sub sb=x:=by
 cases x with
 | blk cells =>
  simp only [Ent.sub]
  congr 1
  exact (List.map_congr_left fun a ha=>zVX fun id hid=>h id (mem_catL.2 ⟨a,ha,hid⟩)).trans (List.map_id _)
 | _=>rfl
theorem subFind_none {l:List (Nat × Option Rows)} {id:Nat} (h:id ∉ l.map (·.1)):jZ l id=none:=by
 induction l with
 | nil=>rfl
 | cons x l ih =>
  obtain ⟨k,x⟩:=x;simp only [List.map_cons,vYZ,not_or] at h;simp only [jZ,qQW (Ne.symm h.1),vYG];exact ih h.2
theorem upFind_none {l:List (Nat × Option Ent)} {id:Nat}:yG l id=none ↔ id ∉ l.map (·.1):=by
 induction l with
 | nil=>simp [yG]
 | cons x l ih =>
  obtain ⟨k,x⟩:=x;simp only [yG,List.map_cons,vYZ,not_or];cases hu:yG l id with
  | some y =>
   simp only [reduceCtorEq,false_iff,not_and];intro _ hn;rw [ih.2 hn] at hu; cases hu
  | none =>
   by_cases e:k=id
   ·subst e; simp
   ·simp [qQW e,Ne.symm e,ih.1 hu]
theorem zZG {l:List (Nat × Option Ent)} {id:Nat} {x:Option Ent} (h:yG l id=some x):(id,x) ∈ l:=by
 induction l with
 | nil=>simp [yG] at h
 | cons y l ih =>
  obtain ⟨k,y⟩:=y;simp only [yG] at h;cases hu:yG l id with
  | some z=>rw [hu] at h; cases h; exact vQH _ (ih hu)
  | none =>
   rw [hu] at h;by_cases e:k=id
   ·subst e; simp at h; subst h; exact vZQ
   ·simp [qQW e] at h
theorem zQI {xs ys:List Nat} (h:disj xs ys=true):∀ x ∈ xs,x ∉ ys:=by
 induction xs with
 | nil=>intro x hx; cases hx
 | cons a xs ih =>
  simp only [disj,vQJ,Bool.not_eq_true'] at h;intro x hx;rcases List.mem_cons.1 hx with rfl | hx
  ·intro hm
   have:=List.any_eq_false.1 h.1 x hm
   simp at this
  ·exact ih h.2 x hx
structure Indep (ops:Array Oper) (x y:Done) (ox oy:Oper):Prop where
 sb:x.2.1.sb=[]
 d1:∀ d,ox.dst=some d→d ∉ oy.looksAt ops
 d2:∀ d,oy.dst=some d→d ∉ ox.looksAt ops
 d3:∀ d,ox.dst=some d→oy.dst ≠ some d
 w1:∀ i ∈ x.2.1.wr,i ∉ catL RV.ids y.2.2∧i ∉ y.2.1.all
 w2:∀ i ∈ y.2.1.up.map (·.1),i ∉ catL RV.fol x.2.2∧i ∉ x.2.1.nw
 w3:∀ i ∈ y.2.1.sb.map (·.1),i ∉ catL RV.ids x.2.2∧i ∉ x.2.1.all
theorem any_beq {d:Nat} {l:List Nat} (h:(!(l.any (Nat.beq d)))=true):d ∉ l:=fun hm=>by
 rw [Bool.not_eq_true'] at h
 have:=List.any_eq_false.1 h d hm
 simp at this
theorem indepB_spec {ops:Array Oper} {x y:Done} {ox oy:Oper} (hx:ops[x.1]? = some ox) (hy:ops[y.1]? = some oy) (h:yWX ops x y=true):Indep ops x y ox oy:=by
 unfold yWX at h;simp only [hx,hy,vQJ] at h;obtain ⟨⟨⟨⟨⟨h1,h2⟩,h3⟩,h4⟩,h5⟩,h6,h7⟩:=h;refine ⟨?_,fun d hd => ?_,fun d hd => ?_,fun d hd he => ?_,fun i hi => ?_,fun i hi => ?_,fun i hi => ?_⟩
 ·cases hs:x.2.1.sb with
  | nil=>rfl
  | cons a b=>rw [hs] at h1; cases h1
 ·rw [hd] at h2; exact any_beq h2
 ·rw [hd] at h3; exact any_beq h3
 ·rw [hd,he] at h4; simp at h4
 ·have:=zQI h5 i hi; simpa [not_or] using this
 ·have:=zQI h6 i hi; simpa [not_or] using this
 ·have:=zQI h7 i hi; simpa [not_or] using this
theorem look_mem {ops:Array Oper} {o:Oper} {t:Nat} (h:Operand.tmp t ∈ o.op.operands.toList):t ∈ o.looksAt ops:=by
 unfold Oper.looksAt;refine List.mem_append.2 (.inl (List.mem_filterMap.2 ⟨_,h,rfl⟩))
theorem look_guard {ops:Array Oper} {o:Oper} {j:Nat} {b:Bool} {d:Nat} (hg:o.guard=some (j,b)) (hd:(ops[j]?).bind (·.dst)=some d):d ∈ o.looksAt ops:=by
 unfold Oper.looksAt;refine List.mem_append.2 (.inr ?_);simp [hg,hd]
theorem zKV {M:Mem} {i:Nat} (h:((zG M i).isNone && Nat.blt i 2000000)=true):qJC M i:=by
 rw [vQJ,Nat.blt_eq] at h;exact ⟨by simpa using h.1,h.2⟩
theorem fresh_to {M:Mem} {i:Nat} (h:qJC M i):((zG M i).isNone && Nat.blt i 2000000)=true:=by
 rw [vQJ,Nat.blt_eq,h.1];exact ⟨rfl,h.2⟩
theorem opv_deep {m:Nat} {σ:St} {x:Operand} {r:RV} (h:opv m σ x=some r):(∀ i ∈ r.fol,i ∈ r.ids)∧∀ i ∈ r.fol,∀ e,zG σ.M i=some e→∀ id ∈ e.ids,id ∈ r.ids:=by
 have nofol:r.fol=[]→(∀ i ∈ r.fol,i ∈ r.ids)∧∀ i ∈ r.fol,∀ e,zG σ.M i=some e→∀ id ∈ e.ids,id ∈ r.ids:=fun h=>by
  rw [h]; exact ⟨fun i hi=>(by cases hi),fun i hi=>(by cases hi)⟩
 cases x with
 | tmp t =>
  simp only [opv,vQQ] at h;obtain ⟨z,_,hr⟩:=h;exact resM_deep hr
 | const v =>
  simp only [opv] at h;unfold yJW at h;split at h
  ·cases h; exact nofol rfl
  ·simp only [vQQ,vQZ] at h; obtain ⟨_,_,rfl⟩:=h; exact nofol rfl
  ·simp only [vQQ,vQZ] at h; obtain ⟨_,_,rfl⟩:=h; exact nofol rfl
 | func f=>simp only [opv,vQZ] at h; subst h; exact nofol rfl
 | global g=>cases h
section
variable {C:Cx} {ops:Array Oper}
theorem guard_local {o:Oper} {σ τ:St} {g:Bool} (h:qQJ ops σ o=some g) (hS:∀ t c,t ∈ o.looksAt ops→qQY σ.S t=some (.v c)→qQY τ.S t=some (.v c)):qQJ ops τ o=some g:=by
 unfold qQJ at h ⊢;cases hg:o.guard with
 | none=>rw [hg] at h; exact h
 | some gd =>
  obtain ⟨j,b⟩:=gd;rw [hg] at h;simp only at h ⊢;cases hd:(ops[j]?).bind (·.dst) with
  | none=>rw [hd] at h; exact h
  | some d =>
   rw [hd] at h;simp only at h ⊢;cases hl:qQY σ.S d with
   | none=>rw [hl] at h; simp at h
   | some x =>
    rw [hl] at h;cases x with
    | v p =>
     rw [hS d p (look_guard hg hd) hl]; exact h
    | _=>simp at h
theorem zZB {o:Oper} {σ:St} {r:Eff × List RV} (h:qJU C ops o σ=some r):dstB C.n o.dst=true∧((qQJ ops σ o=some false∧r=(.val (.v (.t [])),[])) ∨
  (qQJ ops σ o=some true∧mapO (opv (mode o.op) σ) o.op.operands.toList=some r.2∧zU C.T C.cA C.cB C.me (o.dst.getD 0) o.op r.2=some r.1∧∀ i ∈ r.1.nw,qJC σ.M i)):=by
 unfold qJU at h;cases hgo:qQJ ops σ o with
 | none=>rw [hgo] at h; simp at h
 | some g =>
  rw [hgo] at h;simp only [vYQ] at h;cases hdd:dstB C.n o.dst with
  | false=>rw [hdd] at h; simp at h
  | true =>
   rw [hdd] at h;refine ⟨rfl,?_⟩;cases g with
   | false=>simp at h; exact .inl ⟨rfl,h.symm⟩
   | true =>
    simp only [vYV,vQQ] at h;obtain ⟨vs',hvs,e',he,hh⟩:=h;cases hn:e'.nw.all (fun id=>(zG σ.M id).isNone && Nat.blt id 2000000) with
    | false=>rw [hn] at hh; simp at hh
    | true =>
     rw [hn] at hh;simp only [vYV,vQZ] at hh;subst hh;refine .inr ⟨rfl,hvs,he,fun i hi => ?_⟩;exact zKV (List.all_eq_true.1 hn i hi)
theorem qHJ {o:Oper} {σ:St} {r:Eff × List RV} (hd:dstB C.n o.dst=true) (h:(qQJ ops σ o=some false∧r=(.val (.v (.t [])),[])) ∨
  (qQJ ops σ o=some true∧mapO (opv (mode o.op) σ) o.op.operands.toList=some r.2∧zU C.T C.cA C.cB C.me (o.dst.getD 0) o.op r.2=some r.1∧∀ i ∈ r.1.nw,qJC σ.M i)):qJU C ops o σ=some r:=by
 unfold qJU;rcases h with ⟨h1,rfl⟩ | ⟨h1,h2,h3,h4⟩
 ·simp [h1,hd]
 ·have:r.1.nw.all (fun id=>(zG σ.M id).isNone && Nat.blt id 2000000)=true:=by
   rw [vZZ]; intro i hi; exact fresh_to (h4 i hi)
  simp [h1,hd,h2,h3,this]
theorem zZC {o:Oper} {σ τ:St} {r:Eff × List RV} (h:qJU C ops o σ=some r) (hG:∀ t c,t ∈ o.looksAt ops→qQY σ.S t=some (.v c)→qQY τ.S t=some (.v c))
  (hS:∀ t x,t ∈ o.looksAt ops→qQY σ.S t=some x→(∀ id ∈ x.ids,id ∈ catL RV.ids r.2)→qQY τ.S t=some x) (hM:∀ i ∈ catL RV.fol r.2,zG τ.M i=zG σ.M i)
  (hN:∀ i ∈ r.1.nw,zG τ.M i=zG σ.M i):qJU C ops o τ=some r:=by
 obtain ⟨hd,h⟩:=zZB h;refine qHJ hd ?_;rcases h with ⟨h1,h2⟩ | ⟨h1,h2,h3,h4⟩
 ·exact .inl ⟨guard_local h1 hG,h2⟩
 ·refine .inr ⟨guard_local h1 hG,?_,h3,fun i hi=>⟨by rw [hN i hi]; exact (h4 i hi).1,(h4 i hi).2⟩⟩;have ha:=jJ h2;refine yYF ⟨ha.1,fun i x y hx hy => ?_⟩;have h5:=ha.2 i x y hx hy;cases x with
  | tmp t =>
   simp only [opv,vQQ] at h5 ⊢;obtain ⟨z,hz,hr⟩:=h5;exact ⟨z,hS t z (look_mem (vQG hx)) hz fun id hid=>mem_catL.2 ⟨y,vQG hy,resM_ids hr id hid⟩,resM_local hr fun id hid=>hM id (mem_catL.2 ⟨y,vQG hy,hid⟩)⟩
  | _=>exact h5
theorem step_eqv {o:Oper} {σ τ:St} {r:Eff × List RV} (h:qJU C ops o σ=some r) (he:Eqv σ τ):qJU C ops o τ=some r :=
 zZC h (fun t c _ h=>by rw [← he.1]; exact h) (fun t x _ h _=>by rw [← he.1]; exact h) (fun i _=>(he.2 i).symm) (fun i _=>(he.2 i).symm)
theorem fol_both {o:Oper} {σ:St} {r:Eff × List RV} (h:qJU C ops o σ=some r):∀ i ∈ catL RV.fol r.2,i ∈ catL RV.ids r.2∧∀ e,zG σ.M i=some e→∀ id ∈ e.ids,id ∈ catL RV.ids r.2:=by
 obtain ⟨hd,hh⟩:=zZB h;rcases hh with ⟨_,hr⟩ | ⟨_,hr,_,_⟩
 ·intro i hi; rw [hr] at hi; simp [catL] at hi
 ·intro i hi;obtain ⟨rv,hrv,hin⟩:=mem_catL.1 hi;obtain ⟨k,hk⟩:=List.mem_iff_getElem?.1 hrv;have ha:=jJ hr;have hkl:=(List.getElem?_eq_some_iff.1 hk).1;have hko:k < o.op.operands.toList.length:=by rw [ha.1]; exact hkl
  have hop:=opv_deep (ha.2 k _ rv (vQK hko) hk);exact ⟨mem_catL.2 ⟨rv,hrv,hop.1 i hin⟩,fun e he id hid=>mem_catL.2 ⟨rv,hrv,hop.2 i hin e he id hid⟩⟩
theorem fol_all {o:Oper} {σ:St} {r:Eff × List RV} (h:qJU C ops o σ=some r):∀ i ∈ catL RV.fol r.2,i ∈ catL RV.ids r.2:=fun i hi=>(fol_both h i hi).1
theorem fol_deep {o:Oper} {σ:St} {r:Eff × List RV} (h:qJU C ops o σ=some r):∀ i ∈ catL RV.fol r.2,∀ e,zG σ.M i=some e→∀ id ∈ e.ids,id ∈ catL RV.ids r.2:=fun i hi=>(fol_both h i hi).2
theorem swap {x y:Done} {ox oy:Oper} {σ:St} (ind:Indep ops x y ox oy) (h1:qJU C ops ox σ=some x.2) (h2:qJU C ops oy (σ.apply x.2.1 ox.dst)=some y.2) :
  qJU C ops oy σ=some y.2∧qJU C ops ox (σ.apply y.2.1 oy.dst)=some x.2∧Eqv ((σ.apply x.2.1 ox.dst).apply y.2.1 oy.dst) ((σ.apply y.2.1 oy.dst).apply x.2.1 ox.dst):=by
 have sid:∀ z:Option HV,z.map (HV.sub x.2.1.sb)=z:=fun z=>by rw [ind.sb]; cases z <;> simp [HV.sub_nil]
 have eid:∀ z:Option Ent,z.map (Ent.sub x.2.1.sb)=z:=fun z=>by rw [ind.sb]; cases z <;> simp [Ent.sub_nil]
 have xw:∀ i,i ∉ x.2.1.wr→yG x.2.1.up i=none:=fun i hi=>upFind_none.2 fun h=>hi (List.mem_append.2 (.inl h))
 have yw:∀ i,(i ∈ catL RV.fol x.2.2 ∨ i ∈ x.2.1.nw)→yG y.2.1.up i=none:=fun i hi=>upFind_none.2 fun h=>(by
  have:=ind.w2 i h
  rcases hi with h | h
  ·exact this.1 h
  ·exact this.2 h)
 have ys:∀ i,i ∉ y.2.1.sb.map (·.1)→jZ y.2.1.sb i=none:=fun i hi=>subFind_none hi
 have xall:∀ i,(i ∈ catL RV.ids x.2.2 ∨ i ∈ x.2.1.all)→i ∉ y.2.1.sb.map (·.1):=fun i hi hw=>by
  have:=ind.w3 i hw
  rcases hi with h | h
  ·exact this.1 h
  ·exact this.2 h
 have yall:∀ i,(i ∈ catL RV.ids y.2.2 ∨ i ∈ y.2.1.all)→i ∉ x.2.1.wr:=fun i hi hw=>by
  have:=ind.w1 i hw
  rcases hi with h | h
  ·exact this.1 h
  ·exact this.2 h
 have nwx:∀ i ∈ x.2.1.nw,i ∈ x.2.1.all:=fun i hi=>List.mem_append.2 (.inr hi)
 have nwy:∀ i ∈ y.2.1.nw,i ∈ y.2.1.all:=fun i hi=>List.mem_append.2 (.inr hi)
 have S1:∀ t,t ∈ oy.looksAt ops→qQY (σ.apply x.2.1 ox.dst).S t=qQY σ.S t:=fun t ht=>by
  rw [qYY,if_neg (fun e=>ind.d1 t e ht),sid]
 have M1:∀ i,i ∉ x.2.1.wr→zG (σ.apply x.2.1 ox.dst).M i=zG σ.M i:=fun i hi=>by
  rw [qQF,xw i hi]; exact eid _
 refine ⟨zZC h2 (fun t c ht h=>by rw [← S1 t ht]; exact h) (fun t x ht h _=>by rw [← S1 t ht]; exact h) (fun i hi=>(M1 i (yall i (.inl (fol_all h2 i hi)))).symm) (fun i hi=>(M1 i (yall i (.inr (nwy i hi)))).symm),?_,?_⟩
 ·have S2:∀ t z,t ∈ ox.looksAt ops→qQY σ.S t=some z→(∀ id ∈ z.ids,id ∉ y.2.1.sb.map (·.1))→qQY (σ.apply y.2.1 oy.dst).S t=some z:=fun t z ht hz hi=>by
   rw [qYY,if_neg (fun e=>ind.d2 t e ht),hz,Option.map_some,zVX fun id hid=>ys id (hi id hid)]
  have hMM:∀ i,(i ∈ catL RV.fol x.2.2 ∨ i ∈ x.2.1.nw)→(∀ e,zG σ.M i=some e→∀ id ∈ e.ids,id ∉ y.2.1.sb.map (·.1))→zG (σ.apply y.2.1 oy.dst).M i=zG σ.M i:=fun i hi he=>by
   rw [qQF,yw i hi];cases hl:zG σ.M i with
   | none=>rfl
   | some e=>simp only [Option.map_some]; rw [ent_keep fun id hid=>ys id (he e hl id hid)]
  refine zZC h1 (fun t c ht h=>S2 t _ ht h fun id hid=>by simp [HV.ids] at hid) (fun t z ht h hi=>S2 t z ht h fun id hid=>xall id (.inl (hi id hid))) (fun i hi=>hMM i (.inl hi) fun e he id hid=>xall id (.inl (fol_deep h1 i hi e he id hid))) (fun i hi => ?_)
  ·obtain ⟨hd,hh⟩:=zZB h1;rcases hh with ⟨_,hr⟩ | ⟨_,_,_,hn⟩
   ·rw [hr] at hi; cases hi
   ·refine hMM i (.inr hi) fun e he => ?_
    rw [(hn i hi).1] at he; cases he
 ·refine ⟨fun t => ?_,fun i => ?_⟩
  ·rw [qYY,qYY,qYY,qYY];by_cases e1:oy.dst=some t
   ·have e2:¬ ox.dst=some t:=fun e=>ind.d3 t e e1
    rw [if_pos e1,if_neg e2,if_pos e1,sid]
   ·rw [if_neg e1,if_neg e1];by_cases e2:ox.dst=some t
    ·rw [if_pos e2,if_pos e2,Option.map_some,zVX fun id hid=>ys id (xall id (.inr (List.mem_append.2 (.inl (List.mem_append.2 (.inr hid))))))]
    ·rw [if_neg e2,if_neg e2,sid,sid]
  ·rw [qQF,qQF,qQF,qQF];cases hy:yG y.2.1.up i with
   | some z =>
    have:yG x.2.1.up i=none:=xw i (yall i (.inr (List.mem_append.2 (.inl (List.mem_append.2 (.inl (mem_catL.2 ⟨(i,z),zZG hy,by unfold yHG; cases z <;> simp⟩)))))))
    rw [this]; exact (eid _).symm
   | none =>
    cases hx:yG x.2.1.up i with
    | some z =>
     simp only;cases z with
     | none=>rfl
     | some ent =>
      simp only [Option.map_some];rw [ent_keep fun id hid=>ys id (xall id (.inr (List.mem_append.2 (.inl (List.mem_append.2 (.inl (mem_catL.2 ⟨(i,some ent),zZG hx,by simp [yHG,hid]⟩)))))))]
    | none =>
     simp only;rw [eid,eid]
end
end Go.Rx
namespace Go.Rx
open Go.RowKit Go.Sx
theorem Rel.eqv {E:Env} {n:Nat} {σ τ:St} {a:Act} {w:World} (h:Rel E n σ a w) (he:Eqv σ τ):Rel E n τ a w:=by
 obtain ⟨ρ,F,h⟩:=h;exact ⟨ρ,F,h.size,h.defers,fun t x hx=>h.slots t x (by rw [he.1]; exact hx),⟨fun id e hl=>h.mem.ent id e (by rw [he.2]; exact hl),fun id L hL hi=>by obtain ⟨e,h1⟩:=h.mem.dom id L hL hi; exact ⟨e,by rw [← he.2]; exact h1⟩,
  fun id e hl=>h.mem.ord id e (by rw [he.2]; exact hl),h.mem.inr,h.mem.apart,h.mem.off,h.mem.fz,h.mem.fz0,h.mem.grow,h.mem.pin,h.mem.rd⟩⟩
section
variable {C:Cx} {ops:Array Oper}
inductive Runs (C:Cx) (ops:Array Oper):List Done→St→St→Prop
 | nil (σ:St):Runs C ops [] σ σ
 | cons {x:Done} {o:Oper} {l:List Done} {σ τ:St} (ho:ops[x.1]? = some o) (hs:qJU C ops o σ=some x.2) (h:Runs C ops l (σ.apply x.2.1 o.dst) τ):Runs C ops (x :: l) σ τ
theorem Runs.eqv {l:List Done} {σ τ σ':St} (h:Runs C ops l σ τ) (he:Eqv σ σ'):∃ τ',Runs C ops l σ' τ'∧Eqv τ τ':=by
 induction h generalizing σ' with
 | nil σ=>exact ⟨σ',.nil σ',he⟩
 | cons ho hs _ ih =>
  obtain ⟨τ',h1,h2⟩:=ih (he.apply _ _);exact ⟨τ',.cons ho (step_eqv hs he) h1,h2⟩
theorem Runs.append {l l':List Done} {σ τ υ:St} (h:Runs C ops l σ τ) (h':Runs C ops l' τ υ):Runs C ops (l ++ l') σ υ:=by
 induction h with
 | nil σ=>exact h'
 | cons ho hs _ ih=>exact .cons ho hs (ih h')
theorem Runs.split {l l':List Done} {σ υ:St} (h:Runs C ops (l ++ l') σ υ):∃ τ,Runs C ops l σ τ∧Runs C ops l' τ υ:=by
 induction l generalizing σ with
 | nil=>exact ⟨σ,.nil σ,h⟩
 | cons x l ih =>
  cases h with
  | cons ho hs h =>
   obtain ⟨τ,h1,h2⟩:=ih h;exact ⟨τ,.cons ho hs h1,h2⟩
theorem Runs.det {l:List Done} {σ τ τ':St} (h:Runs C ops l σ τ) (h':Runs C ops l σ τ'):τ=τ':=by
 induction h with
 | nil σ=>cases h'; rfl
 | cons ho hs _ ih =>
  cases h' with
  | cons ho' hs' h' =>
   rw [ho] at ho'; cases ho';exact ih h'
def yKE (ops:Array Oper) (x y:Done):Prop:=∃ ox oy,ops[x.1]? = some ox∧ops[y.1]? = some oy∧Indep ops x y ox oy
theorem Runs.right {x:Done} {l:List Done} {σ τ:St} (h:Runs C ops (x :: l) σ τ) (hi:∀ y ∈ l,yKE ops x y):∃ τ',Runs C ops (l ++ [x]) σ τ'∧Eqv τ τ':=by
 induction l generalizing σ τ with
 | nil=>exact ⟨τ,h,Eqv.refl τ⟩
 | cons y l ih =>
  cases h with
  | cons ho hs h =>
   cases h with
   | cons ho2 hs2 h =>
    obtain ⟨ox,oy,h1,h2,ind⟩:=hi y vZQ;rw [ho] at h1; cases h1;rw [ho2] at h2; cases h2;obtain ⟨q1,q2,q3⟩:=swap ind hs hs2;obtain ⟨τ1,h3,h4⟩:=h.eqv q3;obtain ⟨τ2,h5,h6⟩:=ih (.cons ho q2 h3) (fun z hz=>hi z (vQH _ hz));exact ⟨τ2,.cons ho2 q1 h5,h4.trans h6⟩
theorem Runs.part {d:Done→Bool} {l:List Done} {σ τ:St} (h:Runs C ops l σ τ) (hp:l.Pairwise fun x y=>d x=false→d y=true→yKE ops x y) :
  ∃ τ',Runs C ops (l.filter d ++ l.filter (fun x => !d x)) σ τ'∧Eqv τ τ':=by
 induction l generalizing σ τ with
 | nil=>exact ⟨τ,h,Eqv.refl τ⟩
 | cons x l ih =>
  cases h with
  | cons ho hs h =>
   obtain ⟨hx,hl⟩:=List.pairwise_cons.1 hp;obtain ⟨τ1,h1,h2⟩:=ih h hl;cases hd:d x with
   | true =>
    simp only [List.filter_cons,hd,if_true,Bool.not_true,Bool.false_eq_true,if_false,List.cons_append];exact ⟨τ1,.cons ho hs h1,h2⟩
   | false =>
    simp only [List.filter_cons,hd,Bool.not_false,if_true,Bool.false_eq_true,if_false];obtain ⟨υ,h3,h4⟩:=h1.split;obtain ⟨υ',h5,h6⟩:=Runs.right (.cons ho hs h3) (fun y hy=>hx y (List.mem_filter.1 hy).1 hd (List.mem_filter.1 hy).2);obtain ⟨τ2,h7,h8⟩:=h4.eqv h6;refine ⟨τ2,?_,h2.trans h8⟩
    have:=h5.append h7
    simpa using this
def Goes (P:Program) (o:Oper) (a:Act) (w:World) (T:Value→World→Prop):Prop :=
 match (execOp a.eval o).run P w with
 | .ok (.value v) w'=>T v w'
 | .ok .skip w'=>T undef w'
 | .ok (.enter f args) w'=>Calls P f args w' (fun e w''=>∃ v,e=.returned v∧T v w'')
 | _=>False
theorem Goes.wp {P:Program} {o:Oper} {a:Act} {w:World} {T:Value→World→Prop} {K:Act→World→Prop} {Q:Exit→Act→World→Prop} (h:Goes P o a w T) (hK:∀ v w',T v w'→K (a.put o.dst v) w'):o.wp P a w K Q:=by
 unfold Goes at h;unfold Oper.wp;generalize (execOp a.eval o).run P w=r at *;cases r with
 | ok n w' =>
  cases n <;> first | exact h.elim | exact hK _ _ h | skip
  rename_i f args;exact Calls.mono h fun e w'' ⟨v,he,ht⟩=>by subst he; exact hK _ _ ht
 | halt x w'=>exact h.elim
theorem Goes.mono {P:Program} {o:Oper} {a:Act} {w:World} {T T':Value→World→Prop} (h:Goes P o a w T) (hT:∀ v w',T v w'→T' v w'):Goes P o a w T':=by
 unfold Goes at *;generalize (execOp a.eval o).run P w=r at *;cases r with
 | ok n w' =>
  cases n <;> first | exact h.elim | exact hT _ _ h | skip
  exact Calls.mono h fun e w'' ⟨v,he,ht⟩=>⟨v,he,hT _ _ ht⟩
 | halt x w'=>exact h.elim
def GoesD (P:Program) (D:Deferred→Prop) (o:Oper) (a:Act) (w:World) (K:Act→World→Prop):Prop :=
 Goes P o a w (fun v w'=>K (a.put o.dst v) w') ∨ ∃ d,(execOp a.eval o).run P w=.ok (.defer d) w∧D d∧K ({ a with defers:=d :: a.defers }.put o.dst undef) w
theorem GoesD.mono {P:Program} {D:Deferred→Prop} {o:Oper} {a:Act} {w:World} {K K':Act→World→Prop} (h:GoesD P D o a w K) (hK:∀ a w,K a w→K' a w):GoesD P D o a w K':=by
 rcases h with h | ⟨d,h1,h2,h3⟩
 ·exact .inl (h.mono fun v w'=>hK _ _)
 ·exact .inr ⟨d,h1,h2,hK _ _ h3⟩
theorem GoesD.wp {P:Program} {D:Deferred→Prop} {o:Oper} {a:Act} {w:World} {K:Act→World→Prop} {Q:Exit→Act→World→Prop} (h:GoesD P D o a w K):o.wp P a w K Q:=by
 rcases h with h | ⟨d,h1,_,h2⟩
 ·exact h.wp fun v w' ht=>ht
 ·unfold Oper.wp;rw [h1];exact h2
def Sim (P:Program) (E:Env) (C:Cx) (ops:Array Oper):Prop:=∀ (o:Oper) (σ:St) (r:Eff × List RV) (a:Act) (w:World),qJU C ops o σ=some r→Rel E C.n σ a w →
 (if Region.wanted o (yielded ops a.tmps) then GoesD P E.D o a w (fun a' w'=>Rel E C.n (σ.apply r.1 o.dst) a' w') else Rel E C.n (σ.apply r.1 o.dst) (a.put o.dst undef) w)
variable {P:Program} {E:Env} {Q:Exit→Act→World→Prop}
theorem sim_wpOp (hs:Sim P E C ops) {i:Nat} {o:Oper} {σ:St} {r:Eff × List RV} {a:Act} {w:World} (ho:ops[i]? = some o) (h:qJU C ops o σ=some r) (hr:Rel E C.n σ a w) :
  wpOp P ops Q i (fun a' w'=>Rel E C.n (σ.apply r.1 o.dst) a' w') a w:=by
 unfold wpOp;rw [ho]
 have:=hs o σ r a w h hr
 simp only;split
 ·rename_i hw;rw [if_pos hw] at this;exact .inl this.wp
 ·rename_i hw;rw [if_neg hw] at this;exact this
theorem yJJ {l:Array Bool} {i:Nat} (hl:i < l.size):l.getD i true=l.getD i false:=by simp [hl]
theorem qXU {ops:Array Oper} {listed:Array Bool} (hc:∀ i o,listed.getD i false=true→ops[i]? = some o→∀ e ∈ o.after,Region.binds .any e=true→listed.getD e.on false=true):∀ (n j i:Nat),zKD ops n j i=true→listed.getD j false=true→listed.getD i false=true:=by
 have direct:∀ j i,Region.waitsFor .any ops j i=true→listed.getD j false=true→listed.getD i false=true:=fun j i h hj=>by
  obtain ⟨o',ho',e,he,hb,hon⟩:=Region.waitsFor_spec h
  have:=hc j o' hj ho' e he hb
  rwa [hon] at this
 intro n;induction n with
 | zero=>exact direct
 | succ n ih =>
  intro j i h hj;simp only [zKD,Bool.or_eq_true] at h;rcases h with h | h
  ·exact direct j i h hj
  ·split at h
   ·rename_i o ho;obtain ⟨e,he,hb⟩:=Array.any_eq_true'.1 h;rw [vQJ] at hb;exact ih e.on i hb.2 (hc j o hj ho e he hb.1)
   ·cases h
theorem waitsU_listed {ops:Array Oper} {listed:Array Bool} (hc:∀ i o,listed.getD i false=true→ops[i]? = some o→∀ e ∈ o.after,Region.binds .any e=true→listed.getD e.on false=true) {j i:Nat} (h:zWB ops j i=true) (hj:listed.getD j false=true):listed.getD i false=true:=by
 unfold zWB at h;rw [Bool.or_eq_true,Bool.or_eq_true] at h;rcases h with (h | h) | h
 ·exact qXU hc 3 _ _ h hj
 ·exact qXU hc 5 _ _ h hj
 ·exact qXU hc 9 _ _ h hj
theorem region_any {L:List Done} {σ0 τ:St} (hs:Sim P E C ops) (hL:Runs C ops L σ0 τ) (hlen:L.length=ops.size) (hidx:∀ (i:Nat) (x:Done),L[i]? = some x→x.1=i) (hp:zJK ops L=true) (hback:backB ops=true)
  (hK:∀ a w,Rel E C.n τ a w→Q .normal a w) :
  ∀ (f:Nat) (listed:Array Bool) (a:Act) (w:World),listed.size=ops.size→qYH listed ops.size=f →
   (∀ i o,listed.getD i false=true→ops[i]? = some o→∀ e ∈ o.after,Region.binds .any e=true→listed.getD e.on false=true) →
   (∃ υ,Runs C ops (L.filter fun x=>listed.getD x.1 false) σ0 υ∧Rel E C.n υ a w)→wpAny P .any ops Q f listed a w:=by
 have hpw:L.Pairwise fun x y=>zWB ops y.1 x.1=true ∨ yKE ops x y:=by
  have ho:∀ x ∈ L,∃ o,ops[x.1]? = some o:=fun x hx=>by
   obtain ⟨i,hi⟩:=List.mem_iff_getElem?.1 hx;rw [hidx i x hi]
   have:=(List.getElem?_eq_some_iff.1 hi).1
   exact ⟨_,vZU (by omega)⟩
  clear hL hlen hidx
  induction L with
  | nil=>exact List.Pairwise.nil
  | cons x L ih =>
   simp only [zJK,vQJ] at hp;refine List.pairwise_cons.2 ⟨fun y hy => ?_,ih hp.2 fun z hz=>ho z (vQH _ hz)⟩
   have:=List.all_eq_true.1 hp.1 y hy
   rw [Bool.or_eq_true,Bool.or_eq_true] at this;rcases this with h | h | h
   ·exact .inl (by simp only [zWB,zKD,h,Bool.true_or])
   ·obtain ⟨ox,hox⟩:=ho x vZQ;obtain ⟨oy,hoy⟩:=ho y (vQH _ hy);exact .inr ⟨ox,oy,hox,hoy,indepB_spec hox hoy h⟩
   ·exact .inl h
 intro f;induction f with
 | zero =>
  intro listed a w hsz hu hcl ⟨υ,hr,hrel⟩;have hall:=qXX hu;refine ⟨List.eq_nil_iff_forall_not_mem.2 fun i hi => ?_,hK a w ?_⟩
  ·obtain ⟨hun,o,ho,_⟩:=mem_ready.1 hi;rw [hall i (Array.getElem?_eq_some_iff.1 ho).1] at hun;cases hun
  ·have:L.filter (fun x=>listed.getD x.1 false)=L:=List.filter_eq_self.2 fun x hx=>by
    obtain ⟨i,hi⟩:=List.mem_iff_getElem?.1 hx;have hil:=(List.getElem?_eq_some_iff.1 hi).1;rw [hidx i x hi];have h1:=hall i (by omega)
    rwa [yJJ (by omega)] at h1
   rw [this] at hr;rw [← hr.det hL]; exact hrel
 | succ f ih =>
  intro listed a w hsz hu hcl ⟨υ,hr,hrel⟩;obtain ⟨i0,hi0,hun0,hbefore⟩:=qWF (listed:=listed) (N:=ops.size) (by omega);have hready:i0 ∈ Region.ready .any ops listed:=by
   refine mem_ready.2 ⟨hun0,ops[i0],vZU hi0,fun e he hb => ?_⟩;have h1:=List.all_eq_true.1 hback i0 (List.mem_range.2 hi0);simp only [vZU hi0] at h1;have h2:=Array.all_eq_true_iff_forall_mem.1 h1 e he;simp only [hb,Bool.not_true,Bool.false_or,decide_eq_true_eq] at h2;have h3:=hbefore e.on h2
   rwa [yJJ (by omega)] at h3
  refine ⟨fun h0=>(by rw [h0] at hready; cases hready),fun i hi => ?_⟩;obtain ⟨hun,o,ho,hpre⟩:=mem_ready.1 hi;have hiN:=(Array.getElem?_eq_some_iff.1 ho).1;have hil:i < L.length:=by omega
  have hLi:L[i]? = some L[i]:=vQK hil;generalize hx:L[i]=x at hLi;have hxi:x.1=i:=hidx i x hLi;have hun':listed.getD i false=false:=by rw [← yJJ (by omega)]; exact hun
  have hset:∀ j,(listed.setIfInBounds i true).getD j false=if i=j then true else listed.getD j false:=fun j=>by
   by_cases e:i=j
   ·subst e
    have:i < listed.size:=by omega
    simp [this]
   ·rw [if_neg e,getD_set_ne false e]
  -- the list, parted at i
  have hsplit:L=L.take i ++ x :: L.drop (i + 1):=by
   have:=List.take_append_drop i L
   rw [List.drop_eq_getElem_cons hil,hx] at this;exact this.symm
  have hlow:∀ y ∈ L.take i,y.1 ≠ i:=fun y hy=>by
   obtain ⟨k,hk⟩:=List.mem_iff_getElem?.1 hy;rw [vZV] at hk;split at hk
   ·rw [hidx k y hk]; omega
   ·cases hk
  have hhigh:∀ y ∈ L.drop (i + 1),y.1 ≠ i:=fun y hy=>by
   obtain ⟨k,hk⟩:=List.mem_iff_getElem?.1 hy;rw [List.getElem?_drop] at hk;rw [hidx _ y hk]; omega
  have hcl':∀ j o',(listed.setIfInBounds i true).getD j false=true→ops[j]? = some o'→∀ e ∈ o'.after,Region.binds .any e=true→(listed.setIfInBounds i true).getD e.on false=true:=fun j o' hj ho' e he hb=>by
   rw [hset] at hj ⊢;by_cases e1:i=e.on
   ·rw [if_pos e1]
   ·rw [if_neg e1];by_cases e2:i=j
    ·subst e2; rw [ho] at ho'; cases ho'; exact hpre e he hb
    ·rw [if_neg e2] at hj; exact hcl j o' hj ho' e he hb
  have hcly:∀ y:Done,(listed.setIfInBounds i true).getD y.1 false=true→∀ o',ops[y.1]? = some o'→∀ e ∈ o'.after,Region.binds .any e=true→(listed.setIfInBounds i true).getD e.on false=true:=fun y hy o' ho'=>hcl' y.1 o' hy ho'
  obtain ⟨τ',hp1,_⟩:=Runs.part (d:=fun x=>(listed.setIfInBounds i true).getD x.1 false) hL (hpw.imp fun {u v} h hu hv=>by
   rcases h with h | h
   ·have:=waitsU_listed hcl' h hv
    rw [hu] at this; cases this
   ·exact h)
  obtain ⟨υ',hD',_⟩:=hp1.split
  -- D' is D with i in its place
  have e1:L.filter (fun x=>(listed.setIfInBounds i true).getD x.1 false)=(L.take i).filter (fun x=>listed.getD x.1 false) ++ x :: (L.drop (i + 1)).filter (fun x=>listed.getD x.1 false):=by
   conv=>lhs; rw [hsplit]
   rw [List.filter_append,List.filter_cons];have hxt:(listed.setIfInBounds i true).getD x.1 false=true:=by rw [hset,hxi,if_pos rfl]
   rw [if_pos hxt]
   congr 1
   ·exact List.filter_congr fun y hy=>by rw [hset,if_neg (Ne.symm (hlow y hy))]
   ·congr 1
    exact List.filter_congr fun y hy=>by rw [hset,if_neg (Ne.symm (hhigh y hy))]
  have e2:L.filter (fun x=>listed.getD x.1 false)=(L.take i).filter (fun x=>listed.getD x.1 false) ++ (L.drop (i + 1)).filter (fun x=>listed.getD x.1 false):=by
   conv=>lhs; rw [hsplit]
   rw [List.filter_append,List.filter_cons];rw [if_neg (by rw [hxi,hun']; simp)]
  rw [e1] at hD';obtain ⟨α,hA,hB⟩:=hD'.split;have hpair:∀ y ∈ L.drop (i + 1),zWB ops y.1 x.1=true ∨ yKE ops x y:=by
   rw [hsplit] at hpw;exact (List.pairwise_cons.1 (List.pairwise_append.1 hpw).2.1).1
  obtain ⟨υ2,hB2,hev⟩:=Runs.right hB (fun y hy=>by
   obtain ⟨hy1,hy2⟩:=List.mem_filter.1 hy;rcases hpair y hy1 with h | h
   ·have:=waitsU_listed hcl h hy2
    rw [hxi,hun'] at this; cases this
   ·exact h)
  obtain ⟨β,hB3,hB4⟩:=hB2.split;have hυ:υ=β:=by
   rw [e2] at hr;exact hr.det (hA.append hB3)
  subst hυ;cases hB4 with
  | cons ho2 hs2 hn =>
   rw [hxi,ho] at ho2;cases ho2;cases hn;refine wpOp_mono (fun a' w' h => ?_) (sim_wpOp hs ho hs2 hrel)
   have:=zZH hun hiN
   refine ih _ a' w' (by simpa using hsz) (by omega) hcl' ⟨υ',?_,h.eqv hev.symm⟩;rw [e1]; exact hA.append hB
theorem runDraw_spec {K:St→Option (Ret × Mem)} {r:Ret × Mem}:∀ (l:List Oper) (i:Nat) (acc:List Done) (σ:St),qYZ C ops i l acc K σ=some r→(∀ j o,l[j]? = some o→ops[i + j]? = some o) →
  ∃ L τ,Runs C ops L σ τ∧L.length=l.length∧(∀ (j:Nat) (x:Done),L[j]? = some x→x.1=i + j)∧zJK ops (acc.reverse ++ L)=true∧backB ops=true∧K τ=some r
 | [],i,acc,σ,h,_=>by
  simp only [qYZ] at h;cases hb:(zJK ops acc.reverse && backB ops) with
  | false=>rw [hb] at h; simp at h
  | true =>
   rw [hb] at h;rw [vQJ] at hb;exact ⟨[],σ,.nil σ,rfl,fun j x hx=>by simp at hx,by simpa using hb.1,hb.2,h⟩
 | o :: l,i,acc,σ,h,ho=>by
  simp only [qYZ,vQQ] at h;obtain ⟨x,hx,h⟩:=h;obtain ⟨L,τ,h1,h2,h3,h4,h5,h6⟩:=runDraw_spec l (i + 1) _ _ h (fun j o' hj=>by
   have:=ho (j + 1) o' (by simpa using hj)
   rw [show i + 1 + j=i + (j + 1) by omega]; exact this)
  refine ⟨(i,x) :: L,τ,.cons (by simpa using ho 0 o rfl) hx h1,by simp [h2],fun j y hy => ?_,by simpa using h4,h5,h6⟩;cases j with
  | zero=>simp at hy; subst hy; rfl
  | succ j=>simp at hy; rw [h3 j y hy]; omega
theorem wp_draw {id:Nat} {K:St→Option (Ret × Mem)} {r:Ret × Mem} {σ:St} {a:Act} {w:World} (hm:P.follows .mixedOrders=true) (hs:Sim P E C ops) (h:qYZ C ops 0 ops.toList [] K σ=some r) (hr:Rel E C.n σ a w)
  (hd:∀ {σ a w},Rel E C.n σ a w→Rel E C.n σ a { w with drawn:=w.drawn + 1 }) (hK:∀ τ a w,K τ=some r→Rel E C.n τ a w→Q .normal a w):(Code.region id ops true).wp P Q a w:=by
 obtain ⟨L,τ,h1,h2,h3,h4,h5,h6⟩:=runDraw_spec ops.toList 0 [] σ h (fun j o hj=>by simpa using hj);refine wp_region_any hm (region_any hs h1 (by simpa using h2) (fun i x hx=>by simpa using h3 i x hx) (by simpa using h4) h5 (fun a w=>hK τ a w h6) ops.size _ a _ (by simp) ?_ (fun i o hi => ?_) ⟨σ,?_,hd hr⟩)
 ·have:∀ N,N≤ops.size→qYH (Array.replicate ops.size false) N=N:=by
   intro N;induction N with
   | zero=>intro _; rfl
   | succ N ih=>intro hN; simp only [qYH]; rw [ih (by omega)]; simp [show N < ops.size by omega]
  exact this _ (Nat.le_refl _)
 ·rcases Nat.lt_or_ge i ops.size with hl | hl <;> simp [hl] at hi
 ·have:L.filter (fun x=>(Array.replicate ops.size false).getD x.1 false)=[]:=List.filter_eq_nil_iff.2 fun x hx=>by
   rcases Nat.lt_or_ge x.1 ops.size with hl | hl <;> simp [hl]
  rw [this]; exact .nil σ
theorem yZG {K:St→Option (Ret × Mem)} {r:Ret × Mem} (hs:Sim P E C ops) (hK:∀ τ a w,K τ=some r→Rel E C.n τ a w→Q .normal a w):∀ (l:List Oper) (σ:St) (a:Act) (w:World),qVZ C ops l K σ=some r→Rel E C.n σ a w→wpList P ops Q l a w
 | [],σ,a,w,h,hr=>hK σ a w h hr
 | o :: l,σ,a,w,h,hr=>by
  simp only [qVZ,vQQ] at h;obtain ⟨x,hx,h⟩:=h
  have:=hs o σ x a w hx hr
  unfold wpList;split
  ·rename_i hw;rw [if_pos hw] at this;exact .inl (this.mono fun a' w' ht=>yZG hs hK l _ _ _ h ht).wp
  ·rename_i hw;rw [if_neg hw] at this;exact yZG hs hK l _ _ _ h this
end
end Go.Rx
namespace Go.Sx
open Go.RowKit
section
variable {P:Program} {w0:Base} {S:yU} {H:Heap} {ty:TypeId} {pos:String} {af:Array Edge} {g:Option (Nat × Bool)}
theorem opV_eqlS {dd:Option Tmp} {x y:Operand} {t t':TypeId} {p q:ByteArray} (_:P.underlying t=some .string) (hx:ev S x=some (.string p)) (hy:ev S y=some (.string q)):OpV P w0 S H ⟨dd,.binOp .eql t x y t',ty,pos,af,g⟩ (.bool (p.toList == q.toList)) :=
 jX (by simp [jQ,Op.operands,hx,hy]) rfl fun w _=>by simp [execOp,zV hx,zV hy,eqGuard,binOp,Op.stringOp]
end
end Go.Sx
namespace Go.Rx
open Go.RowKit Go.Sx
def Harm (P:Program) (d:Deferred):Prop:=∃ f cap,d.target=.fn (.func f) cap∧uQ P f∧∀ (args:Array Value) (w:World),CallsD P f args .returning w fun e u w'=>(∃ v,e=.returned v)∧u=.returning∧w'=w
theorem qGE {P:Program} {fn:Func} {tmps:Array Value} {R:Ending→World→Prop} {v:Value} {w:World} (hv:(results fn tmps).run P w=.ok v w) (hR:R (.returned v) w):∀ (ds:List Deferred),(∀ d ∈ ds,Harm P d)→Leaves P fn tmps R ds .returning w
 | [],_=>⟨v,hv,hR⟩
 | d :: ds,h=>by
  obtain ⟨f,cap,htar,hent,hc⟩:=h d vZQ;refine ⟨by simp,.func f,cap,f,d.args ++ cap,htar,by rw [htar]; exact hent _ _,CallsD.mono (hc (d.args ++ cap) w) ?_⟩
  rintro e u' w' ⟨⟨x,rfl⟩,rfl,rfl⟩
  exact qGE hv hR ds fun d hd=>h d (vQH _ hd)
structure TabOk (P:Program) (T:Tab):Prop where
 sz:∀ t b k,T.sz t=some (b,k)→tyB P t b k=true∧(b=false→k=1)
 zr:∀ t ps,T.zr t=some ps→∃ z,qYV P t z∧Al (fun p v=>(∀ F w,RP F w p v)∧v.oneCell'=true) ps z.cells.toList
 zh:∀ t hs,T.zh t=some hs→∃ z,qYV P t z∧Al (fun x v=>(∀ ρ F w,RH ρ F w x v)∧v.oneCell'=true) hs z.cells.toList
 fd:∀ t f o,T.fd t f=some o→zQC P t f o=true
 fx:∀ t f o b k,T.fx t f=some (o,b,k)→∃ fields fld,P.underlying t=some (.struct fields)∧fields[f]? = some fld∧fld.offset=o∧tyB P fld.type b k=true∧(b=false→k=1)
 ar:∀ t n k b,T.ar t=some (n,k,b)→arrB P t n k=true∧∃ e,P.underlying t=some (.array n e)∧tyB P e b k=true∧(b=false→k=1)
 sl:∀ t e k,T.sl t=some (e,k)→slcB P t e k=true∧0 < k∧k≤1000∧∃ bytes,appB P t e k bytes=true∧bytes≤100000∧T.bd e * bytes≤140737488355328∧T.bd e≤17592186044416
 ly:∀ t pl,T.ly t=some pl→∃ z,qJL P t=some (z,pl)∧∀ ps,T.zr t=some ps→Al (fun p v=>(∀ F w,RP F w p v)∧v.oneCell'=true) ps z
 ik:∀ t k,T.ik t=some k→P.underlying t=some (.int k)
 str:∀ t,T.str t=true→P.underlying t=some .string
 bo:∀ t,T.bo t=true→P.underlying t=some .bool
 eqK:∀ t ks,T.eqK t=some ks→aggB P t=true∧∀ vs:List Value,(∃ ps F w,qGW ks ps=true∧Al (RP F w) ps vs)→qZC P 12 t vs=true
 dd:∀ f,T.dd f=true→uQ P f∧∀ (args:Array Value) (w:World),CallsD P f args .returning w fun e u w'=>(∃ v,e=.returned v)∧u=.returning∧w'=w
 fn:∀ f fi,T.fn f=some fi→uQ P f∧∃ fn,P.funcs[f]? = some fn∧fn.body=some fi.body∧fn.ntmps=fi.ntmps∧fn.results=fi.results.toArray
def actS (a:Act):yU:=Sx.initS 0 a.tmps.toList
theorem look_init {vs:List Value} {k t:Nat} {v:Value} (h:vs[t]? = some v):Sx.look (Sx.initS k vs) (k + t)=some v:=by
 induction vs generalizing k t with
 | nil=>simp at h
 | cons u vs ih =>
  cases t with
  | zero=>simp at h; subst h; exact uX _ _ _
  | succ t =>
   simp at h;simp only [Sx.initS];rw [qQU _ _ (by omega),show k + (t + 1)=(k + 1) + t by omega];exact ih h
theorem fits_act {n:Nat} {a:Act} (hs:a.tmps.size=n):Fits n (actS a) { a with defers:=[] }:=⟨hs,rfl,fun t v h=>by
 obtain ⟨_,h2⟩:=look_initS h
 simpa using h2⟩
theorem ev_act {a:Act} {t:Nat} {v:Value} (h:a.tmps[t]? = some v):ev (actS a) (.tmp t)=some v:=by
 have:=look_init (vs:=a.tmps.toList) (k:=0) (t:=t) (v:=v) (by simpa using h)
 rw [Nat.zero_add] at this;exact this
section
variable {P:Program} {E:Env} {n:Nat} {ρ:Own} {F:Nat→Prop} {σ:St} {a:Act} {w:World}
theorem yJY (hs:a.tmps.size=n) {o:Oper} {v:Value} (h:OpV P ⟨w,[]⟩ (actS a) [] o v):Goes P o a w (fun u w'=>u=v∧Grow w w'):=by
 have hy:=h.run w (Knows.nil (Grow.refl w));unfold Goes;rw [show a.eval=({ a with defers:=[] }:Act).eval from rfl,zQE (fits_act hs) h.known h.nosel];generalize (execOp (evD (actS a)) o).run P w=r at *;cases r with
 | ok x w' =>
  cases x <;> first | exact hy.elim | exact ⟨hy.2,hy.1⟩ | skip
  exact Calls.mono hy.2 fun e w'' ⟨v,he,hg,ht⟩=>⟨v,he,ht,hy.1.trans hg⟩
 | halt x w'=>exact hy.elim
theorem qXQ {W:Nat→Prop} {w0 w w':World} (h:GrowB W w0 w) (g:Grow w w'):GrowB W w0 w':=h.trans (GrowB.of g)
theorem Rel'.val (h:Rel' E n ρ F σ a w) {F':Nat→Prop} {w':World} (g:Grow w w') (hF:∀ k,F k→F' k) (hF':∀ k,F' k→F k ∨ (w.heap.size≤k∧k < w'.heap.size)) {x:HV} {v:Value} (hx:RH ρ F' w' x v) {dst:Option Nat} (hd:dstB n dst=true) :
  Rel' E n ρ F' (σ.apply (.val x) dst) (a.put dst v) w':=by
 have hlt:∀ k,F k→k < w.heap.size:=fun k hk=>(h.mem.fz k hk).1
 refine h.apply (.val x) dst v (fun d e=>by subst e; simpa [dstB] using hd) ⟨fun id b h=>h,fun id L h _ _=>h,fun _ _ _ _ _ _ _ h _ _=>h,fun id rows a c k sz _ hs=>by simp [Eff.val,jZ] at hs,fun k hk=>⟨hF k hk,g.block k (hlt k hk)⟩⟩ hx
  (fun id L b _ hL hb=>g.block b (h.mem.off id L b hL hb).2.1) (fun _ _=>rfl) (fun id x hu=>by simp [Eff.val,yG] at hu) (fun _ _=>rfl) (fun id x hu=>by simp [Eff.val,yG] at hu) h.mem.apart
  (fun id L b hL hb=>⟨fun hf => ?_,vZK (h.mem.off id L b hL hb).2.1 g.size,(h.mem.off id L b hL hb).2.2⟩)
  (fun k hk => ?_) (qXQ h.mem.grow g) (fun _ _=>rfl)
 ·have:=h.mem.off id L b hL hb
  rcases hF' b hf with h1 | h1
  ·exact this.1 h1
  ·omega
 ·rcases hF' k hk with h1 | h1
  ·exact ⟨vZK (hlt k h1) g.size,(h.mem.fz k h1).2⟩
  ·exact ⟨h1.2,.inr (.inl (Nat.le_trans h.mem.grow.size h1.1))⟩
theorem yW (h:Rel' E n ρ F σ a w) {o:Oper} {x:HV} {v:Value} (hop:OpV P ⟨w,[]⟩ (actS a) [] o v) (hx:RH ρ F w x v) (hd:dstB n o.dst=true):Goes P o a w (fun u w'=>Rel E n (σ.apply (.val x) o.dst) (a.put o.dst u) w') :=
 (yJY h.size hop).mono fun u w' ⟨hu,g⟩=>by
  subst hu;exact ⟨ρ,F,h.val g (fun _ h=>h) (fun _ h=>.inl h) (hx.mono (fun _ _ h=>h) fun k hk=>⟨hk,g.block k (h.mem.fz k hk).1⟩) hd⟩
theorem Rel'.grow (h:Rel' E n ρ F σ a w) {w':World} (g:Grow w w'):Rel' E n ρ F σ a w':=by
 have hF:∀ k,F k→F k∧w'.heap[k]? = w.heap[k]?:=fun k hk=>⟨hk,g.block k (h.mem.fz k hk).1⟩
 refine ⟨h.size,h.defers,fun t x hx => ?_,⟨fun id e hl => ?_,h.mem.dom,h.mem.ord,h.mem.inr,h.mem.apart,fun id L b hL hb=>⟨(h.mem.off id L b hL hb).1,vZK (h.mem.off id L b hL hb).2.1 g.size,(h.mem.off id L b hL hb).2.2⟩,
  fun k hk=>⟨vZK (h.mem.fz k hk).1 g.size,(h.mem.fz k hk).2⟩,h.mem.fz0,qXQ h.mem.grow g,h.mem.pin,fun b hb=>⟨(h.mem.rd b hb).1,(g.block b (h.mem.off pid2 _ b (h.mem.rd b hb).1 rfl).2.1).trans (h.mem.rd b hb).2⟩⟩⟩
 ·obtain ⟨v,h1,h2⟩:=h.slots t x hx;exact ⟨v,h1,h2.mono (fun _ _ h=>h) hF⟩
 ·have:=EntOk.sub (sb:=[]) (ρ':=ρ) (F':=F) (w':=w') ⟨fun id b h=>h,fun id L h _ _=>h,fun _ _ _ _ _ _ _ h _ _=>h,fun id rows a c k sz _ hs=>by simp [jZ] at hs,hF⟩ (h.mem.ent id e hl) rfl rfl (fun L b hL hb=>g.block b (h.mem.off id L b hL hb).2.1) (fun j L b hL hb=>g.block b (h.mem.off _ L b hL hb).2.1)
  rwa [Ent.sub_nil] at this
theorem Rel.grow (h:Rel E n σ a w) {w':World} (g:Grow w w'):Rel E n σ a w':=by
 obtain ⟨ρ,F,h⟩:=h; exact ⟨ρ,F,h.grow g⟩
def RCs (M:Mem):RC→Prop
 | .v _=>True
 | .p id _ cells=>∃ hc,zG M id=some (.blk hc)∧mapO (cvOf M) hc=some cells
def RRes (M:Mem):RV→Prop
 | .o id e sz rows=>zG M id=some (.reg e sz rows)
 | .p id _ cells=>∃ hc,zG M id=some (.blk hc)∧mapO (cvOf M) hc=some cells
 | .q id _ _ e sz rows=>zG M id=some (.reg e sz rows)
 | .i id _ s pos=>zG M id=some (.itr s pos)
 | .no id e n=>∃ ie isz rows pd,n=rows.len∧zG M id=some (.nst e ie isz rows pd)
 | .nq id _ _ e ie isz rows pd=>zG M id=some (.nst e ie isz rows pd)
 | .mi id _ e ie isz rows pd=>zG M id=some (.nst e ie isz rows pd)
 | .ld id i=>zG M id=some (.blk [.o i])
 | .g _ _ cap=>∀ c ∈ cap,RCs M c
 | _=>True
theorem qXC {M:Mem} {x:HV} {r:RV} (h:res M x=some r):r.back=x∧RRes M r:=by
 cases x with
 | o id =>
  simp only [res] at h;split at h
  ·rename_i e sz rows hl; cases h; exact ⟨rfl,hl⟩
  ·rename_i e ie isz rows pd hl; cases h; exact ⟨rfl,_,_,_,_,rfl,hl⟩
  ·cases h
 | m id j =>
  simp only [res] at h;split at h
  ·rename_i e ie isz rows pd hl; cases h; exact ⟨rfl,hl⟩
  ·cases h
 | mp id j=>cases h; exact ⟨rfl,trivial⟩
 | p id off =>
  simp only [res] at h;split at h
  ·rename_i cells hl;simp only [vQQ,vQZ] at h;obtain ⟨cs,hcs,rfl⟩:=h;exact ⟨rfl,cells,hl,hcs⟩
  ·rename_i s pos hl; cases h; exact ⟨rfl,hl⟩
  ·cases h
 | q id j off =>
  simp only [res] at h;split at h
  ·rename_i e sz rows hl; cases h; exact ⟨rfl,hl⟩
  ·rename_i e ie isz rows pd hl; cases h; exact ⟨rfl,hl⟩
  ·cases h
 | g fn first cap =>
  simp only [res,vQQ,vQZ] at h;obtain ⟨cs,hcs,rfl⟩:=h;have h1:=jJ hcs;refine ⟨?_,fun c hc => ?_⟩
  ·simp only [RV.back]
   congr 1
   refine List.ext_getElem? fun i => ?_
   rw [vZY];cases hi:cap[i]? with
   | none =>
    have:cs[i]? = none:=by rw [List.getElem?_eq_none_iff] at hi ⊢; rw [← h1.1]; exact hi
    rw [this]; rfl
   | some x =>
    obtain ⟨y,hy,hr⟩:=h1.get hi;rw [hy,Option.map_some]
    congr 1
    cases x with
    | v x=>simp only [rcOf,vQZ] at hr; subst hr; rfl
    | p id off =>
     simp only [rcOf] at hr;split at hr
     ·simp only [vQQ,vQZ] at hr; obtain ⟨_,_,rfl⟩:=hr; rfl
     ·cases hr
  ·obtain ⟨i,hi⟩:=List.mem_iff_getElem?.1 hc;have hil:=(List.getElem?_eq_some_iff.1 hi).1;have hcap:i < cap.length:=by rw [h1.1]; exact hil
   have hr:=h1.2 i _ c (vQK hcap) hi;generalize cap[i]=x at hr;cases x with
   | v x=>simp only [rcOf,vQZ] at hr; subst hr; trivial
   | p id off =>
    simp only [rcOf] at hr;split at hr
    ·rename_i cells hl;simp only [vQQ,vQZ] at hr;obtain ⟨cc,hcc,rfl⟩:=hr;exact ⟨cells,hl,hcc⟩
    ·cases hr
 | v x=>cases h; exact ⟨rfl,trivial⟩
 | nl=>cases h; exact ⟨rfl,trivial⟩
 | un=>cases h; exact ⟨rfl,trivial⟩
 | ag cs=>cases h; exact ⟨rfl,trivial⟩
theorem sh_spec (M:Mem) (x:HV):(sh x).back=x∧RRes M (sh x):=by cases x <;> exact ⟨rfl,trivial⟩
theorem resM_spec {m:Nat} {M:Mem} {x:HV} {r:RV} (h:resM m M x=some r):r.back=x∧RRes M r:=by
 match m with
 | 0=>exact qXC h
 | 1=>simp only [resM,vQZ] at h; subst h; exact sh_spec M x
 | 2 =>
  cases x with
  | o id=>exact qXC (by simpa only [resM] using h)
  | _=>simp only [resM,vQZ] at h; subst h; exact sh_spec M _
 | m + 3 =>
  cases x with
  | p id off =>
   cases off with
   | succ off=>exact qXC (by simpa only [resM] using h)
   | zero =>
    simp only [resM] at h;split at h
    ·rename_i i2 hl; cases h; exact ⟨rfl,hl⟩
    ·exact qXC h
  | _=>exact qXC (by simpa only [resM] using h)
theorem qZZ {v:Value} {p:PV} (h:zJZ v=some p):RP F w p v∧v.oneCell'=true:=by
 unfold zJZ at h;split at h <;> first | (cases h; done) | (cases h; exact ⟨by constructor,rfl⟩)
theorem zUX {p:PV} {v:Value} (h:RP F w p v):RH ρ F w p.toH v:=by
 cases p with
 | zs=>cases h; rfl
 | _=>exact h
theorem jY (h:Rel' E n ρ F σ a w) {m:Nat} {x:Operand} {r:RV} (hx:opv m σ x=some r):∃ v,ev (actS a) x=some v∧RH ρ F w r.back v∧RRes σ.M r:=by
 cases x with
 | tmp t =>
  simp only [opv,vQQ] at hx;obtain ⟨z,hz,hr⟩:=hx;obtain ⟨v,hv,hrh⟩:=h.slots t z hz;obtain ⟨e,hres⟩:=resM_spec hr;exact ⟨v,ev_act hv,by rw [e]; exact hrh,hres⟩
 | const v =>
  refine ⟨v,rfl,?_⟩;simp only [opv] at hx;unfold yJW at hx;split at hx
  ·cases hx; exact ⟨rfl,trivial⟩
  ·rename_i cs;simp only [vQQ,vQZ] at hx;obtain ⟨l,hl,rfl⟩:=hx;have ha:=jJ hl;refine ⟨?_,trivial⟩;show RP F w (.a l) (.agg cs)
   have:=RP.a (F:=F) (w:=w) l cs.toList ha.1.symm (fun v hv => ?_) (fun i p v hp hv=>(qZZ (ha.2 i v p hv hp)).1)
   ·simpa using this
   ·obtain ⟨i,hi⟩:=List.mem_iff_getElem?.1 hv;obtain ⟨y,hy,hr⟩:=ha.get hi;exact (qZZ (F:=F) (w:=w) hr).2
  ·simp only [vQQ,vQZ] at hx;obtain ⟨y,hy,rfl⟩:=hx;exact ⟨(qZZ hy).1,trivial⟩
 | func f =>
  simp only [opv,vQZ] at hx;subst hx;exact ⟨.func (.func f) #[] #[],rfl,.f f [] [] [] [] rfl rfl (fun i p v hp=>by simp at hp) (fun i p v hp=>by simp at hp),trivial⟩
 | global g=>cases hx
theorem zKZ (h:Rel' E n ρ F σ a w) {m:Nat} {xs:List Operand} {rs:List RV} (hx:mapO (opv m σ) xs=some rs):∃ vs,evs (actS a) xs=some vs∧Al (fun r v=>RH ρ F w r.back v) rs vs∧∀ r ∈ rs,RRes σ.M r:=by
 induction xs generalizing rs with
 | nil=>simp [mapO] at hx; subst hx; exact ⟨[],rfl,Al.nil,fun r hr=>by cases hr⟩
 | cons x xs ih =>
  simp only [mapO,vQQ,vQZ] at hx;obtain ⟨r,hr,rs',hrs,rfl⟩:=hx;obtain ⟨v,h1,h2,h3⟩:=jY h hr;obtain ⟨vs,h4,h5,h6⟩:=ih hrs;refine ⟨v :: vs,by simp [evs,h1,h4,qVW],Al.cons h2 h5,fun r' hr' => ?_⟩;rcases List.mem_cons.1 hr' with rfl | hr'
  ·exact h3
  ·exact h6 r' hr'
end
end Go.Rx
namespace Go.Rx
open Go.RowKit Go.Sx
theorem qGK {α β:Type} {f:α→Option β} {x:α} {ys:List β} (h:mapO f [x]=some ys):∃ y,f x=some y∧ys=[y]:=by
 simp only [mapO,vQQ,vQZ] at h;obtain ⟨y,hy,zs,rfl,rfl⟩:=h;exact ⟨y,hy,rfl⟩
theorem yUX {α β:Type} {f:α→Option β} {x x':α} {ys:List β} (h:mapO f [x,x']=some ys):∃ y y',f x=some y∧f x'=some y'∧ys=[y,y']:=by
 simp only [mapO,vQQ,vQZ] at h;obtain ⟨y,hy,zs,⟨y',hy',zs',rfl,rfl⟩,rfl⟩:=h;exact ⟨y,y',hy,hy',rfl⟩
theorem mapO3 {α β:Type} {f:α→Option β} {x x' x'':α} {ys:List β} (h:mapO f [x,x',x'']=some ys):∃ y y' y'',f x=some y∧f x'=some y'∧f x''=some y''∧ys=[y,y',y'']:=by
 simp only [mapO,vQQ,vQZ] at h;obtain ⟨y,hy,zs,⟨y',hy',zs',⟨y'',hy'',zs'',rfl,rfl⟩,rfl⟩,rfl⟩:=h;exact ⟨y,y',y'',hy,hy',hy'',rfl⟩
theorem qQ {α:Type} {c:Bool} {x:Option α} {y:α} (h:(bif c then x else none)=some y):c=true∧x=some y:=by
 cases c with
 | true=>exact ⟨rfl,h⟩
 | false=>cases h
section
variable {P:Program} {E:Env} {C:Cx} {ρ:Own} {F:Nat→Prop} {σ:St} {a:Act} {w:World} {vs:List RV} {e:Eff}
variable {d:Option Tmp} {ty:TypeId} {pos:String} {af:Array Edge} {g:Option (Nat × Bool)}
theorem rp_lf_some {F:Nat→Prop} {w:World} {n:Nat} {f:Nat→List PV} {v:Value} (h:RP F w (.lf (n + 1) f) v):∃ ad c,v=.slice (some ad) (n + 1) c:=by
 obtain ⟨rows,hr,h1⟩:∃ rows,(List.range (n + 1)).map f=rows∧RP F w (.l rows) v:=by
  cases h with | lf _ _ _ h=>exact ⟨_,rfl,h⟩
 have hl:rows.length=n + 1:=by rw [← hr,List.length_map,List.length_range]
 cases h1 with
 | l0 ad c=>simp at hl
 | l _ b off n' c sz g hn=>exact ⟨_,c,by rw [hn,hl]⟩
def OK (P:Program) (E:Env) (C:Cx) (σ:St) (a:Act) (w:World) (e:Eff) (o:Oper):Prop:=Goes P o a w (fun u w'=>Rel E C.n (σ.apply e o.dst) (a.put o.dst u) w')
theorem ok_move {x:Operand} (h:Rel' E C.n ρ F σ a w) (hd:dstB C.n d=true) (hvs:mapO (opv 1 σ) [x]=some vs) (he:zU C.T C.cA C.cB C.me (d.getD 0) (.move x) vs=some e):OK P E C σ a w e ⟨d,.move x,ty,pos,af,g⟩:=by
 obtain ⟨r,hr,rfl⟩:=qGK hvs;obtain ⟨v,h1,h2,h3⟩:=jY h hr;cases he;exact yW h (qV h1) h2 hd
theorem ok_assign {x:Operand} (h:Rel' E C.n ρ F σ a w) (hd:dstB C.n d=true) (hvs:mapO (opv 1 σ) [x]=some vs) (he:zU C.T C.cA C.cB C.me (d.getD 0) (.assign x) vs=some e):OK P E C σ a w e ⟨d,.assign x,ty,pos,af,g⟩:=by
 obtain ⟨r,hr,rfl⟩:=qGK hvs;obtain ⟨v,h1,h2,h3⟩:=jY h hr;cases he;exact yW h (zQ h1) h2 hd
theorem qUB {x:Bool} {v:Value} (h:RP F w (.b x) v):v=.bool x:=by cases h; rfl
theorem qQL {k:IntKind} {x:Int} {v:Value} (h:RP F w (.n k x) v):v=.int k x:=by cases h; rfl
theorem qGX {x:ByteArray} {v:Value} (h:RP F w (.s x) v):v=.string x:=by cases h; rfl
theorem qHG {cs:List PV} {v:Value} (h:RP F w (.a cs) v):∃ vs:List Value,v=.agg vs.toArray∧Al (RP F w) cs vs∧∀ u ∈ vs,u.oneCell'=true:=by
 cases h with
 | a _ vs hl h1 h=>exact ⟨vs,rfl,⟨hl,h⟩,h1⟩
theorem rp_tup {cs:List PV} {v:Value} (h:RP F w (.t cs) v):∃ vs:List Value,v=.tuple vs.toArray∧Al (RP F w) cs vs:=by
 cases h with
 | t _ vs hl h=>exact ⟨vs,rfl,hl,h⟩
theorem ok_pick {c x y:Operand} (h:Rel' E C.n ρ F σ a w) (hd:dstB C.n d=true) (hvs:mapO (opv 1 σ) [c,x,y]=some vs) (he:zU C.T C.cA C.cB C.me (d.getD 0) (.pick c x y) vs=some e):OK P E C σ a w e ⟨d,.pick c x y,ty,pos,af,g⟩:=by
 obtain ⟨rc,rx,ry,hc,hx,hy,rfl⟩:=mapO3 hvs;obtain ⟨vc,c1,c2,_⟩:=jY h hc;obtain ⟨vx,x1,x2,_⟩:=jY h hx;obtain ⟨vy,y1,y2,_⟩:=jY h hy;cases rc with
 | v p =>
  cases p with
  | b t =>
   cases he;rw [qUB c2] at c1;cases t with
   | true=>exact yW h (opV_pick_t c1 rfl x1 y1) x2 hd
   | false=>exact yW h (opV_pick_f c1 rfl x1 y1) y2 hd
  | _=>cases he
 | _=>cases he
theorem ok_not {t:TypeId} {x:Operand} (h:Rel' E C.n ρ F σ a w) (hd:dstB C.n d=true) (hvs:mapO (opv 0 σ) [x]=some vs) (he:zU C.T C.cA C.cB C.me (d.getD 0) (.unOp .not t x) vs=some e):OK P E C σ a w e ⟨d,.unOp .not t x,ty,pos,af,g⟩:=by
 obtain ⟨r,hr,rfl⟩:=qGK hvs;obtain ⟨v,h1,h2,h3⟩:=jY h hr;cases r with
 | v p =>
  cases p with
  | b b =>
   cases he;rw [qUB h2] at h1;exact yW h (zVL h1) (.b _) hd
  | _=>cases he
 | _=>cases he
theorem ok_neg {t:TypeId} {x:Operand} (h:Rel' E C.n ρ F σ a w) (hd:dstB C.n d=true) (hvs:mapO (opv 0 σ) [x]=some vs) (he:zU C.T C.cA C.cB C.me (d.getD 0) (.unOp .neg t x) vs=some e):OK P E C σ a w e ⟨d,.unOp .neg t x,ty,pos,af,g⟩:=by
 obtain ⟨r,hr,rfl⟩:=qGK hvs;obtain ⟨v,h1,h2,h3⟩:=jY h hr;cases r with
 | v p =>
  cases p with
  | n k b =>
   cases he;rw [qQL h2] at h1;exact yW h (opV_neg h1 rfl) (.n _ _) hd
  | _=>cases he
 | _=>cases he
theorem opV_neqB {S:yU} {H:Heap} {w0:Base} {x y:Operand} {t t':TypeId} {p q:Bool} (hb:P.underlying t=some .bool) (hx:ev S x=some (.bool p)) (hy:ev S y=some (.bool q)):OpV P w0 S H ⟨d,.binOp .neq t x y t',ty,pos,af,g⟩ (.bool (!(p == q))) :=
 jX (by simp [jQ,Op.operands,hx,hy]) rfl fun w _=>by
  have:=run_neq_bool (P:=P) (w:=w) t p q hb
  simp [execOp,zV hx,zV hy,eqGuard,this]
theorem opV_neqS {S:yU} {H:Heap} {w0:Base} {x y:Operand} {t t':TypeId} {p q:ByteArray} (_:P.underlying t=some .string) (hx:ev S x=some (.string p)) (hy:ev S y=some (.string q)):OpV P w0 S H ⟨d,.binOp .neq t x y t',ty,pos,af,g⟩ (.bool (!(p.toList == q.toList))) :=
 jX (by simp [jQ,Op.operands,hx,hy]) rfl fun w _=>by simp [execOp,zV hx,zV hy,eqGuard,binOp,Op.stringOp]
theorem zYZ {S:yU} {H:Heap} {w0:Base} {x y:Operand} {t t' el:TypeId} {ad:Option Addr} {n c:Nat} {op:BinOp} {r:Bool} (hu:P.underlying t=some (.slice el)) (hx:ev S x=some (.slice ad n c)) (hy:ev S y=some (.slice none 0 0)) (hop:(op=.eql∧r=ad.isNone) ∨ (op=.neq∧r = !ad.isNone)) :
  OpV P w0 S H ⟨d,.binOp op t x y t',ty,pos,af,g⟩ (.bool r) :=
 jX (by simp [jQ,Op.operands,hx,hy]) rfl fun w _=>by
  rcases hop with ⟨rfl,rfl⟩ | ⟨rfl,rfl⟩
  ·have:=run_equal_slice_nil (P:=P) w t el ad n c hu
   simp [execOp,zV hx,zV hy,eqGuard,binOp,this]
  ·have:=run_neq_slice_nil (P:=P) w t el ad n c hu
   simp [execOp,zV hx,zV hy,eqGuard,this]
theorem binI_spec {op:BinOp} {k:IntKind} {x y:Int} {r:PV} {S:yU} {H:Heap} {w0:Base} {p q:Operand} {t t':TypeId} (hr:binI op k x y=some r) (hx:ev S p=some (.int k x)) (hy:ev S q=some (.int k y)) :
  ∃ v,OpV P w0 S H ⟨d,.binOp op t p q t',ty,pos,af,g⟩ v∧RP F w r v:=by
 cases op <;> first | (cases hr; done) | skip
 all_goals first
  | (cases hr; exact ⟨_,qYA hx hy rfl,.n _ _⟩)
  | (cases hr; exact ⟨_,zUC hx hy rfl,.n _ _⟩)
  | (cases hr; exact ⟨_,qXF hx hy rfl,.n _ _⟩)
  | (cases hr; exact ⟨_,opV_and hx hy rfl,.n _ _⟩)
  | (cases hr; exact ⟨_,qKW hx hy,.b _⟩)
  | (cases hr; exact ⟨_,opV_leq hx hy,.b _⟩)
  | (cases hr; exact ⟨_,opV_gtr hx hy,.b _⟩)
  | (cases hr; exact ⟨_,opV_geq hx hy,.b _⟩)
  | (cases hr; exact ⟨_,opV_eql hx hy,.b _⟩)
  | (cases hr; exact ⟨_,yYJ hx hy,.b _⟩)
  | (simp only [binI] at hr
     cases hz:decide (y=0) with
     | true=>rw [hz] at hr; cases hr
     | false =>
      rw [hz] at hr; cases hr
      have:y ≠ 0:=vJY hz
      first | exact ⟨_,zVI hx hy this rfl,.n _ _⟩ | exact ⟨_,zYQ hx hy this rfl,.n _ _⟩)
theorem qGI {F:Nat→Prop} {w:World} {ks:List Kd}:∀ {xs ys:List PV} {us vs:List Value} {e:Bool},zWQ xs ys=some e→Al (RP F w) xs us→Al (RP F w) ys vs→eqCells us vs=e
 | [],[],us,vs,e,h,hx,hy=>by rw [hx.nil_left,hy.nil_left]; cases h; rfl
 | x :: xs,y :: ys,us,vs,e,h,hx,hy=>by
  simp only [zWQ,vQQ,vQZ] at h;obtain ⟨e1,h1,e2,h2,rfl⟩:=h;obtain ⟨u,us',rfl,hu,hx'⟩:=hx.cons_left;obtain ⟨v,vs',rfl,hv,hy'⟩:=hy.cons_left;simp only [eqCells,qGI (ks:=ks) h2 hx' hy']
  congr 1
  cases x <;> cases y <;> first | (cases h1; done) | skip
  ·rw [qQL hu,qQL hv]; cases h1; rfl
  ·rw [qUB hu,qUB hv]; cases h1; rfl
  ·rw [qGX hu,qGX hv]; cases h1; rfl
 | [],_ :: _,_,_,_,h,_,_=>by cases h
 | _ :: _,[],_,_,_,h,_,_=>by cases h
theorem ok_bin {op:BinOp} {t t':TypeId} {x y:Operand} (hT:TabOk P C.T) (h:Rel' E C.n ρ F σ a w) (hd:dstB C.n d=true) (hvs:mapO (opv 0 σ) [x,y]=some vs) (he:zU C.T C.cA C.cB C.me (d.getD 0) (.binOp op t x y t') vs=some e):OK P E C σ a w e ⟨d,.binOp op t x y t',ty,pos,af,g⟩:=by
 obtain ⟨rx,ry,hx,hy,rfl⟩:=yUX hvs;obtain ⟨vx,x1,x2,_⟩:=jY h hx;obtain ⟨vy,y1,y2,_⟩:=jY h hy;cases rx with
 | v p =>
  cases ry with
  | v q =>
   have he:((binP C.T op t p q).bind fun r=>some (Eff.val (.v r)))=some e:=he;simp only [vQQ,vQZ] at he;obtain ⟨r,hr,rfl⟩:=he;have x2:RP F w p vx:=x2;have y2:RP F w q vy:=y2
   suffices hs:∃ v,OpV P ⟨w,[]⟩ (actS a) [] ⟨d,.binOp op t x y t',ty,pos,af,g⟩ v∧RP F w r v by
    obtain ⟨v,h1,h2⟩:=hs;exact yW h h1 h2 hd
   unfold binP at hr;split at hr
   ·obtain ⟨hb,hr⟩:=qQ hr;cases hr;rw [qQL x2] at x1; rw [qQL y2] at y1;exact ⟨_,opV_shl x1 y1 (vJZ hb) rfl,.n _ _⟩
   ·obtain ⟨hb,hr⟩:=qQ hr;cases hr;rw [qQL x2] at x1; rw [qQL y2] at y1;exact ⟨_,yYY x1 y1 (vJZ hb) rfl,.n _ _⟩
   ·obtain ⟨hb,hr2⟩:=qQ hr
    have:=vJZ hb
    subst this;rw [qQL x2] at x1; rw [qQL y2] at y1;exact binI_spec hr2 x1 y1
   ·obtain ⟨hb,hr⟩:=qQ hr;cases hr;rw [qGX x2] at x1; rw [qGX y2] at y1;exact ⟨_,opV_eqlS (hT.str t hb) x1 y1,.b _⟩
   ·obtain ⟨hb,hr⟩:=qQ hr;cases hr;rw [qGX x2] at x1; rw [qGX y2] at y1;exact ⟨_,opV_neqS (hT.str t hb) x1 y1,.b _⟩
   ·obtain ⟨hb,hr⟩:=qQ hr;cases hr;rw [qUB x2] at x1; rw [qUB y2] at y1;exact ⟨_,opV_eqlB (hT.bo t hb) x1 y1,.b _⟩
   ·obtain ⟨hb,hr⟩:=qQ hr;cases hr;rw [qUB x2] at x1; rw [qUB y2] at y1;exact ⟨_,opV_neqB (hT.bo t hb) x1 y1,.b _⟩
   ·simp only [vQQ] at hr;obtain ⟨ks,hks,hr⟩:=hr;obtain ⟨hb,hr⟩:=qQ hr;simp only [vQQ,vQZ] at hr;obtain ⟨b,hb2,rfl⟩:=hr;rw [vQJ] at hb;obtain ⟨us,rfl,hu,_⟩:=qHG x2;obtain ⟨ws,rfl,hw,_⟩:=qHG y2;obtain ⟨hag,hce⟩:=hT.eqK t ks hks;refine ⟨_,opV_eqA 12 rfl hag x1 y1 (hce us ⟨_,F,w,hb.1,hu⟩) (hce ws ⟨_,F,w,hb.2,hw⟩),?_⟩;rw [qGI (ks:=ks) hb2 hu hw]; exact .b _
   ·simp only [vQQ] at hr;obtain ⟨ks,hks,hr⟩:=hr;obtain ⟨hb,hr⟩:=qQ hr;simp only [vQQ,vQZ] at hr;obtain ⟨b,hb2,rfl⟩:=hr;rw [vQJ] at hb;obtain ⟨us,rfl,hu,_⟩:=qHG x2;obtain ⟨ws,rfl,hw,_⟩:=qHG y2;obtain ⟨hag,hce⟩:=hT.eqK t ks hks;refine ⟨_,opV_neA 12 rfl hag x1 y1 (hce us ⟨_,F,w,hb.1,hu⟩) (hce ws ⟨_,F,w,hb.2,hw⟩),?_⟩;rw [qGI (ks:=ks) hb2 hu hw]; exact .b _
   ·cases hr
  | nl =>
   simp only [zU,vQQ,vQZ] at he;obtain ⟨⟨el,sz⟩,hsl,r,hr,rfl⟩:=he;obtain ⟨hslc,_⟩:=hT.sl t el sz hsl;have hu:P.underlying t=some (.slice el):=by
    unfold slcB at hslc;split at hslc
    ·rename_i e' hu;rw [vQJ] at hslc
     have:e'=el:=by simpa using hslc.1
     rw [hu,this]
    ·cases hslc
   have y2:vy=.slice none 0 0:=y2;subst y2;have x2:RP F w p vx:=x2;unfold nilCmp at hr;split at hr
   ·cases hr;cases x2 with
    | l=>exact yW h (zYZ hu x1 y1 (.inl ⟨rfl,rfl⟩)) (RP.b _) hd
   ·cases hr;cases x2 with
    | l=>exact yW h (zYZ hu x1 y1 (.inr ⟨rfl,rfl⟩)) (RP.b _) hd
   ·cases hr;cases x2 with
    | nz=>exact yW h (zYZ hu x1 y1 (.inl ⟨rfl,rfl⟩)) (RP.b _) hd
   ·cases hr;cases x2 with
    | ne=>exact yW h (zYZ hu x1 y1 (.inl ⟨rfl,rfl⟩)) (RP.b _) hd
   ·cases hr;obtain ⟨ad,c,rfl⟩:=rp_lf_some x2;exact yW h (zYZ hu x1 y1 (.inl ⟨rfl,rfl⟩)) (RP.b _) hd
   ·cases hr;obtain ⟨ad,c,rfl⟩:=rp_lf_some x2;exact yW h (zYZ hu x1 y1 (.inr ⟨rfl,rfl⟩)) (RP.b _) hd
   ·cases hr
  | _=>cases he
 | _=>cases he
end
end Go.Rx
namespace Go.Sx
open Go.RowKit
theorem splice_take {ys rest vs:List Value} {p s:Nat} (h:p + s≤ys.length) (_:vs.length=s):((ys ++ rest).take p ++ vs ++ (ys ++ rest).drop (p + s)).take ys.length=ys.take p ++ vs ++ ys.drop (p + s):=by
 have e1:(ys ++ rest).take p=ys.take p:=List.take_append_of_le_length (by omega);have e2:(ys ++ rest).drop (p + s)=ys.drop (p + s) ++ rest:=List.drop_append_of_le_length h;have hl:(ys.take p ++ vs ++ ys.drop (p + s)).length=ys.length:=by simp; omega
 rw [e1,e2,← List.append_assoc,← hl,List.take_left]
section
variable {P:Program} {n:Nat} {w0:Base} {ops:Array Oper} {Q:Exit→Act→World→Prop} {S:yU} {H:Heap}
variable {ty:TypeId} {pos:String} {af:Array Edge} {g:Option (Nat × Bool)} {rest:List Oper}
end
end Go.Sx

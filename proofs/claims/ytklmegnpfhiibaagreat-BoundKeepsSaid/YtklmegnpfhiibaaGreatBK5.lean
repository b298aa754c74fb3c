/- Part 5 of the texts behind the last one: rules and contracts. No condition. -/
import Derived.Test.YtklmegnpfhiibaaGreatBK4
open Option renaming map_eq_some_iff → vZK
open Option.some renaming injEq → vQZ
open List renaming getElem?_eq_getElem → vQK, mem_of_getElem? → vQW, getElem?_map → vQH, getElem?_take → vZU
open Nat renaming eq_of_beq_eq_true → vQU, le_of_ble_eq_true → vZJ
namespace Go.Rx
open Go.RowKit Go.Sx
def Al {α β:Type} (R:α→β→Prop) (xs:List α) (ys:List β):Prop:=xs.length=ys.length∧∀ (i:Nat) x y,xs[i]? = some x→ys[i]? = some y→R x y
section
variable {α β:Type} {R R':α→β→Prop} {xs:List α} {ys:List β}
theorem Al.nil:Al R [] []:=⟨rfl,fun i x y h=>by simp at h⟩
theorem Al.cons {x:α} {y:β} (h:R x y) (hs:Al R xs ys):Al R (x :: xs) (y :: ys):=⟨by simp [hs.1],fun i a b ha hb=>by
 cases i with
 | zero=>simp at ha hb; subst ha; subst hb; exact h
 | succ i=>simp at ha hb; exact hs.2 i a b ha hb⟩
theorem Al.nil_left (h:Al R [] ys):ys=[]:=List.eq_nil_of_length_eq_zero h.1.symm
theorem Al.cons_left {x:α} (h:Al R (x :: xs) ys):∃ y ys',ys=y :: ys'∧R x y∧Al R xs ys':=by
 cases ys with
 | nil=>have:=h.1; simp at this
 | cons y ys'=>exact ⟨y,ys',rfl,h.2 0 x y rfl rfl,by have:=h.1; simpa using this,fun i a b ha hb=>h.2 (i + 1) a b (by simpa using ha) (by simpa using hb)⟩
theorem Al.imp (h:Al R xs ys) (hi:∀ x y,x ∈ xs→R x y→R' x y):Al R' xs ys:=⟨h.1,fun i x y hx hy=>hi x y (vQW hx) (h.2 i x y hx hy)⟩
theorem Al.get (h:Al R xs ys) {i:Nat} {x:α} (hx:xs[i]? = some x):∃ y,ys[i]? = some y∧R x y:=by
 have hl:=(List.getElem?_eq_some_iff.1 hx).1
 have:i < ys.length:=by rw [← h.1]; exact hl
 exact ⟨ys[i],vQK this,h.2 i x _ hx (vQK this)⟩
theorem Al.append {xs':List α} {ys':List β} (h:Al R xs ys) (h':Al R xs' ys'):Al R (xs ++ xs') (ys ++ ys'):=⟨by simp [h.1,h'.1],fun i x y hx hy=>by
 rw [List.getElem?_append] at hx hy;rw [h.1] at hx;split at hx
 ·rename_i hl;rw [if_pos hl] at hy; exact h.2 i x y hx hy
 ·rename_i hl;rw [if_neg hl] at hy; exact h'.2 _ x y hx hy⟩
theorem Al.take (h:Al R xs ys) (k:Nat):Al R (xs.take k) (ys.take k):=⟨by simp [h.1],fun i x y hx hy=>by
 rw [vZU] at hx hy;split at hx
 ·rename_i hl;rw [if_pos hl] at hy; exact h.2 i x y hx hy
 ·cases hx⟩
theorem Al.drop (h:Al R xs ys) (k:Nat):Al R (xs.drop k) (ys.drop k):=⟨by simp [h.1],fun i x y hx hy=>by
 rw [List.getElem?_drop] at hx hy; exact h.2 _ x y hx hy⟩
theorem Al.set (h:Al R xs ys) {x:α} {y:β} (hxy:R x y) (k:Nat):Al R (xs.set k x) (ys.set k y):=⟨by simp [h.1],fun i a b ha hb=>by
 rw [List.getElem?_set] at ha hb;split at ha
 ·rename_i e;rw [if_pos e] at hb;split at ha
  ·split at hb
   ·cases ha; cases hb; exact hxy
   ·cases hb
  ·cases ha
 ·rename_i e;rw [if_neg e] at hb; exact h.2 i a b ha hb⟩
theorem Al.repl {x:α} {y:β} (h:R x y) (k:Nat):Al R (qJE x k) (List.replicate k y):=by
 induction k with
 | zero=>exact Al.nil
 | succ k ih=>exact Al.cons h ih
theorem Al.map_left {γ:Type} {f:γ→α} {zs:List γ} (h:Al (fun z y=>R (f z) y) zs ys):Al R (zs.map f) ys:=⟨by simp [h.1],fun i x y hx hy=>by
 rw [vQH,vZK] at hx;obtain ⟨z,hz,rfl⟩:=hx;exact h.2 i z y hz hy⟩
theorem Al.map_left_inv {γ:Type} {f:γ→α} {zs:List γ} (h:Al R (zs.map f) ys):Al (fun z y=>R (f z) y) zs ys:=⟨by have:=h.1; simpa using this,fun i z y hz hy=>h.2 i (f z) y (by rw [vQH,hz]; rfl) hy⟩
end
theorem uW {i j:Nat} (h:i ≠ j):Nat.beq i j=false:=by
 cases hb:Nat.beq i j with
 | false=>rfl
 | true=>exact absurd (vQU hb) h
theorem zQI (x y:PV):zQJ true x y=x:=by
 unfold zQJ;split
 ·split <;> rfl
 all_goals rfl
theorem zQL (x y:PV):zQJ false x y=y:=by
 unfold zQJ;split
 ·split
  ·rename_i h; rw [vYU h]; rfl
  ·rfl
 all_goals rfl
theorem zQE {m:PV→PV→PV} (h:∀ x y,m x y=x):∀ xs ys,zQY m true xs ys=xs
 | [],[]=>rfl
 | x :: xs,y :: ys=>by rw [zQY,h,zQE h xs ys]
 | [],_ :: _=>rfl
 | _ :: _,[]=>rfl
theorem zQF {m:PV→PV→PV} (h:∀ x y,m x y=y):∀ xs ys,zQY m false xs ys=ys
 | [],[]=>rfl
 | x :: xs,y :: ys=>by rw [zQY,h,zQF h xs ys]
 | [],_ :: _=>rfl
 | _ :: _,[]=>rfl
theorem merge1_t (x y:PV):zXV true x y=x:=by
 unfold zXV;split
 ·simp only [zQE zQI,vYZ]
 ·exact zQI _ _
theorem merge1_f (x y:PV):zXV false x y=y:=by
 unfold zXV;split
 ·simp only [zQF zQL,vYY]
 ·exact zQL _ _
theorem merge2_t (x y:PV):qZL true x y=x:=by
 unfold qZL;split
 ·simp only [zQE merge1_t,vYZ]
 ·exact zQI _ _
theorem merge2_f (x y:PV):qZL false x y=y:=by
 unfold qZL;split
 ·simp only [zQF merge1_f,vYY]
 ·exact zQL _ _
theorem qKJ (xs ys:List PV):qW true xs ys=xs:=zQE merge2_t xs ys
theorem qKK (xs ys:List PV):qW false xs ys=ys:=zQF merge2_f xs ys
theorem kU (c:Bool) (xs ys:List PV):qW c xs ys=bif c then xs else ys:=by
 cases c
 ·exact qKK xs ys
 ·exact qKJ xs ys
theorem Rows.len_L (r:Rows):r.L.length=r.len:=by cases r <;> simp [Rows.L,Rows.len]
theorem uU {α:Type} (f:Nat→α) {n j:Nat} (h:j < n):((List.range n).map f)[j]? = some (f j):=by rw [vQH,List.getElem?_range h]; rfl
theorem Rows.at_L {r:Rows} {j:Nat} {x:List PV} (h:r.at j=some x) (hj:j < r.len):r.L[j]? = some x:=by
 cases r with
 | l rows=>exact h
 | fo n f=>cases h; exact uU f hj
theorem qJH (v j:Nat):Nat.beq v j=decide (v=j):=by
 by_cases h:v=j
 ·subst h; simp
 ·rw [vYJ h];cases hb:Nat.beq v j with
  | false=>rfl
  | true=>exact absurd (vQU hb) h
theorem Rows.set_L (r:Rows) (j:Nat) (x:List PV):(r.set j x).L=r.L.set j x:=by
 cases r with
 | l rows=>rfl
 | fo n f =>
  simp only [Rows.set,Rows.L];refine List.ext_getElem? fun i => ?_
  by_cases hi:i < n
  ·rw [uU _ hi,List.getElem?_set,kU,qJH];by_cases e:j=i
   ·subst e; simp [hi]
   ·rw [if_neg e,uU _ hi,vYJ (fun h=>e h.symm)]; rfl
  ·rw [List.getElem?_eq_none (by simp; omega),List.getElem?_eq_none (by simp; omega)]
theorem blt_t {i n:Nat} (h:i < n):Nat.blt i n=true:=Nat.ble_eq_true_of_le h
theorem blt_f {i n:Nat} (_:¬ i < n):Nat.blt i n=false:=by
 cases hb:Nat.blt i n with
 | false=>rfl
 | true=>exact absurd (vZJ hb) (by omega)
theorem fnOf_get:∀ (l:List (List PV)) (i:Nat),i < l.length→l[i]? = some (fnOf l i)
 | [],i,h=>by simp at h
 | [r],i,h=>by
  have:i=0:=by simpa using h
  subst this; rfl
 | r :: s :: l,0,_=>by simp only [fnOf,kU]; rfl
 | r :: s :: l,i + 1,h=>by
  have:=fnOf_get (s :: l) i (by simpa using h)
  simp only [fnOf,kU,Nat.add_sub_cancel];rw [List.getElem?_cons_succ,this]; rfl
theorem fnOf_map (l:List (List PV)):(List.range l.length).map (fnOf l)=l:=by
 refine List.ext_getElem? fun i => ?_
 by_cases hi:i < l.length
 ·rw [uU _ hi,fnOf_get l i hi]
 ·rw [List.getElem?_eq_none (by simp; omega),List.getElem?_eq_none (by omega)]
theorem map_two {n m:Nat} (f g h:Nat→List PV) (h1:∀ i,i < n→h i=f i) (h2:∀ i,n≤i→h i=g (i - n)):(List.range (n + m)).map h=(List.range n).map f ++ (List.range m).map g:=by
 refine List.ext_getElem? fun i => ?_
 by_cases hi:i < n
 ·rw [uU _ (by omega),List.getElem?_append_left (by simpa using hi),uU _ hi,h1 i hi]
 ·rw [List.getElem?_append_right (by simp; omega)];simp only [List.length_map,List.length_range];by_cases hj:i < n + m
  ·rw [uU _ hj,uU _ (by omega),h2 i (by omega)]
  ·rw [List.getElem?_eq_none (by simp; omega),List.getElem?_eq_none (by simp; omega)]
theorem snocF_L:∀ (b:List (List PV)) (n:Nat) (f:Nat→List PV),(zHI n f b).L=(List.range n).map f ++ b
 | [],n,f=>by simp [zHI,Rows.L]
 | r :: b,n,f=>by
  simp only [zHI];rw [snocF_L b (n + 1) _,List.range_succ,List.map_append,List.append_assoc]
  congr 1
  ·exact List.map_congr_left fun i hi=>by rw [kU,uW (by have:=List.mem_range.1 hi; omega)]; rfl
  ·simp [kU]
theorem Rows.app_L (a b:Rows):(a.app b).L=a.L ++ b.L:=by
 cases a with
 | l a =>
  cases b with
  | l b=>rfl
  | fo m g =>
   cases a with
   | nil=>rfl
   | cons r a =>
    simp only [Rows.app,Rows.L];rw [map_two (n:=a.length + 1) (fnOf (r :: a)) g _ (fun i hi => ?_) (fun i hi => ?_),show a.length + 1=(r :: a).length from rfl,fnOf_map]
    ·rw [kU,blt_t hi]; rfl
    ·rw [kU,blt_f (by omega)]; rfl
 | fo n f =>
  cases b with
  | l b=>exact snocF_L b n f
  | fo m g =>
   simp only [Rows.app,Rows.L];refine map_two f g _ (fun i hi => ?_) (fun i hi => ?_)
   ·rw [kU,blt_t hi]; rfl
   ·rw [kU,blt_f (by omega)]; rfl
theorem Rows.take_L {r:Rows} {j:Nat} (h:j≤r.len):(r.take j).L=r.L.take j:=by
 cases r with
 | l rows=>rfl
 | fo n f =>
  have hj:j≤n:=h;simp only [Rows.take,Rows.L];rw [← List.map_take,List.take_range,Nat.min_eq_left hj]
theorem Rows.toF_L (z:List PV) (r:Rows):(r.toF z).L=r.L:=by
 cases r with
 | l rows =>
  cases rows with
  | nil=>rfl
  | cons r a=>exact fnOf_map (r :: a)
 | fo n f=>rfl
theorem Rows.ok_L {r:Rows} {k:Nat} (h:r.ok k=true):zYA r.L 0 k=true:=by
 cases r with
 | l rows=>exact h
 | fo n f =>
  cases n with
  | zero=>rfl
  | succ n =>
   simp only [Rows.L,zYA];rw [uU f (Nat.succ_pos n)];exact h
inductive Loc where
 | blk (b:Nat)
 | reg (a:Option Addr) (cap len sz:Nat)
 | inn (a:Option Addr) (cap len sz:Nat)    -- an own slice within an own slice
def Loc.bl:Loc→Option Nat
 | .blk b=>some b
 | .reg a _ _ _=>a.map (·.block)
 | .inn a _ _ _=>a.map (·.block)
def Loc.inner:Loc→Bool
 | .inn .. => true
 | _=>false
abbrev Own:=Nat→Option Loc
def nid (id j:Nat):Nat:=2000000 + (id + 3000000 * j)
theorem zZI {i j i' j':Nat} (_:i < 2000000) (_:i' < 2000000) (e:nid i j=nid i' j'):i=i'∧j=j':=by
 unfold nid at e; omega
theorem qKI (i j:Nat):2000000≤nid i j:=by unfold nid; omega
inductive RP (F:Nat→Prop) (w:World):PV→Value→Prop
 | n (k:IntKind) (x:Int):RP F w (.n k x) (.int k x)
 | b (x:Bool):RP F w (.b x) (.bool x)
 | s (x:ByteArray):RP F w (.s x) (.string x)
 | ni:RP F w .ni .nilIface
 | np:RP F w .np (.pointer none)
 | nf:RP F w .nf .nilFunc
 | zs:RP F w .zs (.slice none 0 0)
 | ze (ad:Option Addr):RP F w .ze (.slice ad 0 0)
 | nz (c:Nat):RP F w .nz (.slice none 0 c)
 | ne (ad:Addr) (c:Nat):RP F w .ne (.slice (some ad) 0 c)
 | a (cs:List PV) (vs:List Value) (hl:cs.length=vs.length) (h1:∀ v ∈ vs,v.oneCell'=true) (h:∀ (i:Nat) p v,cs[i]? = some p→vs[i]? = some v→RP F w p v):RP F w (.a cs) (.agg vs.toArray)
 | t (cs:List PV) (vs:List Value) (hl:cs.length=vs.length) (h:∀ (i:Nat) p v,cs[i]? = some p→vs[i]? = some v→RP F w p v):RP F w (.t cs) (.tuple vs.toArray)
 | l0 (ad:Option Addr) (c:Nat):RP F w (.l []) (.slice ad 0 c)
 | l (rows:List (List PV)) (b off n c sz:Nat) (g:Nat→Nat→Value) (hn:n=rows.length) (hcap:n≤c) (hs:∀ r ∈ rows,r.length=sz) (hF:F b)
   (hc:∀ j t,j < n→t < sz→w.cell? ⟨b,off + (j * sz + t),none⟩=some (g j t)∧(g j t).oneCell'=true)
   (h:∀ (j:Nat) r (t:Nat) p,rows[j]? = some r→r[t]? = some p→RP F w p (g j t)):RP F w (.l rows) (.slice (some ⟨b,off,none⟩) n c)
 | z (rows:List (List PV)) (b off sz j o:Nat) (g:Nat→Nat→Value) (hs:∀ r ∈ rows,r.length=sz) (hF:F b)
   (hc:∀ j t,j < rows.length→t < sz→w.cell? ⟨b,off + (j * sz + t),none⟩=some (g j t)∧(g j t).oneCell'=true)
   (h:∀ (j:Nat) r (t:Nat) p,rows[j]? = some r→r[t]? = some p→RP F w p (g j t)):RP F w (.z rows j o) (.pointer (some ⟨b,off + (j * sz + o),none⟩))
 | c (cells:List PV) (vs:List Value) (b o:Nat) (ty:TypeId) (hF:F b) (hb:w.heap[b]? = some (.cells vs.toArray ty)) (hl:cells.length=vs.length) (h1:∀ v ∈ vs,v.oneCell'=true)
   (h:∀ (i:Nat) p v,cells[i]? = some p→vs[i]? = some v→RP F w p v):RP F w (.c cells o) (.pointer (some ⟨b,o,none⟩))
 | f (fn:Nat) (first cap:List PV) (fs cs:List Value) (hl:first.length=fs.length) (hm:cap.length=cs.length) (h:∀ (i:Nat) p v,first[i]? = some p→fs[i]? = some v→RP F w p v)
   (h':∀ (i:Nat) p v,cap[i]? = some p→cs[i]? = some v→RP F w p v):RP F w (.f fn first cap) (.func (.func fn) fs.toArray cs.toArray)
 | lf (n:Nat) (f:Nat→List PV) (v:Value) (h:RP F w (.l ((List.range n).map f)) v):RP F w (.lf n f) v
 | zf (n:Nat) (f:Nat→List PV) (j o:Nat) (v:Value) (hj:j < n) (h:RP F w (.z ((List.range n).map f) j o) v):RP F w (.zf n f j o) v
theorem cell_same {w w':World} {b o:Nat} (h:w'.heap[b]? = w.heap[b]?):w'.cell? ⟨b,o,none⟩=w.cell? ⟨b,o,none⟩:=World.cell?_of_block (a:=⟨b,o,none⟩) h
theorem RP.mono {F F':Nat→Prop} {w w':World} (hF:∀ k,F k→F' k∧w'.heap[k]? = w.heap[k]?) {p:PV} {v:Value} (h:RP F w p v):RP F' w' p v:=by
 induction h with
 | n k x=>exact .n k x
 | b x=>exact .b x
 | s x=>exact .s x
 | ni=>exact .ni
 | np=>exact .np
 | nf=>exact .nf
 | zs=>exact .zs
 | ze ad=>exact .ze ad
 | nz c=>exact .nz c
 | ne ad c=>exact .ne ad c
 | a cs vs hl h1 _ ih=>exact .a cs vs hl h1 ih
 | t cs vs hl _ ih=>exact .t cs vs hl ih
 | l0 ad c=>exact .l0 ad c
 | l rows b off n c sz g hn hcap hs hf hc _ ih=>exact .l rows b off n c sz g hn hcap hs (hF b hf).1 (fun j t hj ht=>by rw [cell_same (hF b hf).2]; exact hc j t hj ht) ih
 | z rows b off sz j o g hs hf hc _ ih=>exact .z rows b off sz j o g hs (hF b hf).1 (fun j t hj ht=>by rw [cell_same (hF b hf).2]; exact hc j t hj ht) ih
 | c cells vs b o ty hf hb hl h1 _ ih=>exact .c cells vs b o ty (hF b hf).1 (by rw [(hF b hf).2]; exact hb) hl h1 ih
 | f fn first cap fs cs hl hm _ _ ih ih'=>exact .f fn first cap fs cs hl hm ih ih'
 | lf n f v _ ih=>exact .lf n f v ih
 | zf n f j o v hj _ ih=>exact .zf n f j o v hj ih
theorem RP.flat1 {F F':Nat→Prop} {w w':World} {p:PV} {v:Value} (h:RP F w p v) (hp:p.flat1=true):RP F' w' p v:=by
 cases h <;> first | (simp [PV.flat1] at hp; done) | constructor
theorem RP.flat2 {F F':Nat→Prop} {w w':World} {p:PV} {v:Value} (h:RP F w p v) (hp:p.flat2=true):RP F' w' p v:=by
 cases p with
 | a cs =>
  cases h with
  | a _ vs hl h1 h =>
   exact .a cs vs hl h1 fun i p v hi hv=>(h i p v hi hv).flat1 (List.all_eq_true.1 hp p (vQW hi))
 | _=>exact h.flat1 hp
theorem RP.flat {F F':Nat→Prop} {w w':World} {p:PV} {v:Value} (h:RP F w p v) (hp:p.flat=true):RP F' w' p v:=by
 cases p with
 | t cs =>
  cases h with
  | t _ vs hl h =>
   exact .t cs vs hl fun i p v hi hv=>(h i p v hi hv).flat2 (List.all_eq_true.1 hp p (vQW hi))
 | _=>exact h.flat2 hp
def RCp (ρ:Own) (F:Nat→Prop) (w:World):Cap→Value→Prop
 | .v x,v=>RP F w x v
 | .p id off,v=>∃ b,ρ id=some (.blk b)∧v=.pointer (some ⟨b,off,none⟩)
def RHc (ρ:Own) (F:Nat→Prop) (w:World):HC→Value→Prop
 | .v x,v=>RP F w x v
 | .nl,v=>v=.slice none 0 0
 | .o id,v=>∃ a c k sz,ρ id=some (.reg a c k sz)∧v=.slice a k c
 | .un,_=>True
def RH (ρ:Own) (F:Nat→Prop) (w:World):HV→Value→Prop
 | .v x,v=>RP F w x v
 | .nl,v=>v=.slice none 0 0
 | .o id,v=>∃ a c k sz,ρ id=some (.reg a c k sz)∧v=.slice a k c
 | .p id off,v=>∃ b,ρ id=some (.blk b)∧v=.pointer (some ⟨b,off,none⟩)
 | .q id j off,v=>∃ b c k sz,ρ id=some (.reg (some ⟨b,0,none⟩) c k sz)∧j < k∧v=.pointer (some ⟨b,j * sz + off,none⟩)
 | .g fn first cap,v=>∃ fs cs,v=.func (.func fn) fs.toArray cs.toArray∧Al (RP F w) first fs∧Al (RCp ρ F w) cap cs
 | .un,_=>True
 | .ag cs,v=>∃ vs,v=.agg vs.toArray∧Al (RHc ρ F w) cs vs∧∀ u ∈ vs,u.oneCell'=true
 | .m id j,v=>∃ a c k sz,(ρ (nid id j)=some (.inn a c k sz)∧v=.slice a k c)∧id < 2000000∧∃ a0 c0 k0 s0,ρ id=some (.reg a0 c0 k0 s0)∧j < k0
 | .mp id j,v=>∃ a c k sz,(ρ (nid id j)=some (.inn a c k sz)∧v=.slice a k c)∧id < 2000000∧∃ a0 c0 k0 s0,ρ id=some (.reg a0 c0 k0 s0)∧j < k0
def yQY (rows:NR) (pd:Option (Nat × Rows)) (v:Nat):Option Rows:=match pd with
 | some (j,r)=>if v=j then some r else rows.at v
 | none=>rows.at v
def EntOk (ρ:Own) (F:Nat→Prop) (w:World) (id:Nat):Ent→Prop
 | .blk cells=>∃ b vs ty,ρ id=some (.blk b)∧w.heap[b]? = some (.cells vs.toArray ty)∧Al (RH ρ F w) cells vs∧∀ v ∈ vs,v.oneCell'=true
 | .reg e sz rows=>∃ a c vr,ρ id=some (.reg a c rows.len sz)∧0 < sz∧Al (Al (RP F w)) rows.L vr∧(∀ r ∈ rows.L,r.length=sz)∧(∀ v ∈ vr,∀ u ∈ v,u.oneCell'=true)∧w.ownsRow 0 e sz (.slice a rows.len c) rows.len vr.flatten
 | .itr s pos=>∃ b,ρ id=some (.blk b)∧w.heap[b]? = some (.stringIter s pos)
 | .nst e ie isz rows pd=>∃ (a:Option Addr) (c:Nat) (H:Nat→Value),ρ id=some (.reg a c rows.len 1)∧(id < 2000000∧0 < isz)∧w.ownsRow 0 e 1 (.slice a rows.len c) rows.len ((List.range rows.len).map H)∧(∀ v,v < rows.len→(H v).oneCell'=true)∧(∀ j r,pd=some (j,r)→j < rows.len) ∧
   ∀ v,v < rows.len→∃ r av cv vr,yQY rows pd v=some r∧ρ (nid id v)=some (.inn av cv r.len isz)∧((∀ r',pd ≠ some (v,r'))→H v=.slice av r.len cv)∧Al (Al (RP F w)) r.L vr∧(∀ x ∈ r.L,x.length=isz)∧(∀ x ∈ vr,∀ u ∈ x,u.oneCell'=true)∧w.ownsRow 0 ie isz (.slice av r.len cv) r.len vr.flatten
structure Env where
 w0:World
 F0:Nat→Prop
 W:Nat→Prop
 D:Deferred→Prop
 Q:Nat→Prop:=fun _=>False              -- where the growing slice lay that was handed over in the block
 R:Nat→Prop:=fun _=>False              -- the block that is only read
structure MemOk (E:Env) (ρ:Own) (F:Nat→Prop) (M:Mem) (w:World):Prop where
 ent:∀ id e,qV M id=some e→EntOk ρ F w id e
 dom:∀ id L,ρ id=some L→L.inner=false→∃ e,qV M id=some e
 ord:∀ id e,qV M id=some e→id < 2000000
 inr:∀ id L,ρ id=some L→L.inner=true→2000000≤id
 apart:∀ id id' L L' b,ρ id=some L→ρ id'=some L'→L.bl=some b→L'.bl=some b→id=id'
 off:∀ id L b,ρ id=some L→L.bl=some b→¬ F b∧b < w.heap.size∧(E.w0.heap.size≤b ∨ E.W b)
 fz:∀ k,F k→k < w.heap.size∧(E.F0 k ∨ E.w0.heap.size≤k ∨ E.W k)
 fz0:∀ k,E.F0 k→F k
 grow:GrowB E.W E.w0 w
 pin:∀ b,E.W b→ρ pid=some (.blk b) ∨ E.Q b
 rd:∀ b,E.R b→ρ pid2=some (.blk b)∧w.heap[b]? = E.w0.heap[b]?
structure Rel' (E:Env) (n:Nat) (ρ:Own) (F:Nat→Prop) (σ:St) (a:Act) (w:World):Prop where
 size:a.tmps.size=n
 defers:∀ d ∈ a.defers,E.D d
 slots:∀ t x,kH σ.S t=some x→∃ v,a.tmps[t]? = some v∧RH ρ F w x v
 mem:MemOk E ρ F σ.M w
def Rel (E:Env) (n:Nat) (σ:St) (a:Act) (w:World):Prop:=∃ ρ F,Rel' E n ρ F σ a w
theorem RCp.mono {ρ ρ':Own} {F F':Nat→Prop} {w w':World} (hρ:∀ id b,ρ id=some (.blk b)→ρ' id=some (.blk b)) (hF:∀ k,F k→F' k∧w'.heap[k]? = w.heap[k]?) {x:Cap} {v:Value} (h:RCp ρ F w x v):RCp ρ' F' w' x v:=by
 cases x with
 | v x=>exact RP.mono hF h
 | p id off=>obtain ⟨b,h1,h2⟩:=h; exact ⟨b,hρ id b h1,h2⟩
structure Turns (sb:List (Nat × Option Rows)) (ρ ρ':Own) (F F':Nat→Prop) (w w':World):Prop where
 blk:∀ id b,ρ id=some (.blk b)→ρ' id=some (.blk b)
 keep:∀ id L,ρ id=some L→yK sb id=none→L.inner=false→ρ' id=some L
 keepN:∀ id j a c k s,id < 2000000→ρ (nid id j)=some (.inn a c k s)→yK sb id=none→yK sb (mid id)=none→ρ' (nid id j)=some (.inn a c k s)
 thaw:∀ id rows a c k sz,ρ id=some (.reg a c k sz)→yK sb id=some (some rows)→RP F' w' rows.pv (.slice a k c)∧∀ b j off,a=some ⟨b,0,none⟩→j < k→RP F' w' (rows.pz j off) (.pointer (some ⟨b,j * sz + off,none⟩))
 fz:∀ k,F k→F' k∧w'.heap[k]? = w.heap[k]?
theorem RHc.sub {sb:List (Nat × Option Rows)} {ρ ρ':Own} {F F':Nat→Prop} {w w':World} (ht:Turns sb ρ ρ' F F' w w') {x:HC} {v:Value} (h:RHc ρ F w x v):RHc ρ' F' w' (x.sub sb) v:=by
 cases x with
 | v x=>exact RP.mono ht.fz h
 | nl=>exact h
 | un=>trivial
 | o id =>
  obtain ⟨a,c,k,sz,h1,h2⟩:=h;simp only [HC.sub];split
  ·rename_i hs; exact ⟨a,c,k,sz,ht.keep id _ h1 hs rfl,h2⟩
  ·trivial
  ·rename_i rows hs; rw [h2]; exact (ht.thaw id rows a c k sz h1 hs).1
theorem RHc.h {ρ:Own} {F:Nat→Prop} {w:World} {x:HC} {v:Value} (h:RHc ρ F w x v):RH ρ F w x.h v:=by cases x <;> exact h
theorem RH.sub {sb:List (Nat × Option Rows)} {ρ ρ':Own} {F F':Nat→Prop} {w w':World} (ht:Turns sb ρ ρ' F F' w w') {x:HV} {v:Value} (h:RH ρ F w x v):RH ρ' F' w' (x.sub sb) v:=by
 cases x with
 | v x=>exact RP.mono ht.fz h
 | nl=>exact h
 | un=>trivial
 | p id off=>obtain ⟨b,h1,h2⟩:=h; exact ⟨b,ht.blk id b h1,h2⟩
 | g fn first cap =>
  obtain ⟨fs,cs,h1,h2,h3⟩:=h;exact ⟨fs,cs,h1,h2.imp fun _ _ _ h=>h.mono ht.fz,h3.imp fun _ _ _ h=>h.mono ht.blk ht.fz⟩
 | ag cs =>
  obtain ⟨vs,h1,h2,h3⟩:=h;exact ⟨vs,h1,Al.map_left (h2.imp fun _ _ _ h=>h.sub ht),h3⟩
 | o id =>
  obtain ⟨a,c,k,sz,h1,h2⟩:=h;simp only [HV.sub];split
  ·rename_i hs; exact ⟨a,c,k,sz,ht.keep id _ h1 hs rfl,h2⟩
  ·trivial
  ·rename_i rows hs; rw [h2]; exact (ht.thaw id rows a c k sz h1 hs).1
 | q id j off =>
  obtain ⟨b,c,k,sz,h1,hj,h2⟩:=h;simp only [HV.sub];split
  ·rename_i hs; exact ⟨b,c,k,sz,ht.keep id _ h1 hs rfl,hj,h2⟩
  ·trivial
  ·rename_i rows hs; rw [h2]; exact (ht.thaw id rows _ c k sz h1 hs).2 b j off rfl hj
 | m id j =>
  obtain ⟨a,c,k,sz,⟨h1,h2⟩,h3,a0,c0,k0,s0,h4,h5⟩:=h;simp only [HV.sub];split
  ·rename_i hs hs'; exact ⟨a,c,k,sz,⟨ht.keepN id j _ _ _ _ h3 h1 hs hs',h2⟩,h3,a0,c0,k0,s0,ht.keep id _ h4 hs rfl,h5⟩
  ·trivial
 | mp id j =>
  obtain ⟨a,c,k,sz,⟨h1,h2⟩,h3,a0,c0,k0,s0,h4,h5⟩:=h;simp only [HV.sub];split
  ·rename_i hs hs'; exact ⟨a,c,k,sz,⟨ht.keepN id j _ _ _ _ h3 h1 hs hs',h2⟩,h3,a0,c0,k0,s0,ht.keep id _ h4 hs rfl,h5⟩
  ·trivial
theorem HC.sub_nil (x:HC):x.sub []=x:=by cases x <;> rfl
theorem HV.sub_nil (x:HV):x.sub []=x:=by
 cases x with
 | ag cs=>exact congrArg HV.ag ((List.map_congr_left fun c _=>HC.sub_nil c).trans (List.map_id cs))
 | _=>rfl
theorem RH.mono {ρ ρ':Own} {F F':Nat→Prop} {w w':World} (hρ:∀ id L,ρ id=some L→ρ' id=some L) (hF:∀ k,F k→F' k∧w'.heap[k]? = w.heap[k]?) {x:HV} {v:Value} (h:RH ρ F w x v):RH ρ' F' w' x v:=by
 have:=RH.sub (sb:=[]) ⟨fun id b=>hρ id _,fun id L h _ _=>hρ id L h,fun id j a c k s _ h _ _=>hρ _ _ h,fun id rows a c k sz _ h=>by simp [yK] at h,hF⟩ h
 rwa [HV.sub_nil] at this
theorem qZK {w w':World} {m e sz:Nat} {a:Option Addr} {n c:Nat} {xs:List Value} (h:w.ownsRow m e sz (.slice a n c) n xs) (hb:∀ b,a.map (·.block)=some b→w'.heap[b]? = w.heap[b]?):w'.ownsRow m e sz (.slice a n c) n xs:=by
 refine ⟨h.1,?_⟩;rcases h.2 with h | ⟨g,cap,cur,h1,h2,h3,h4⟩
 ·exact .inl h
 ·refine .inr ⟨g,cap,cur,h1,h2,?_,h4⟩;simp only [Value.slice.injEq] at h1;rw [hb g (by rw [h1.1]; rfl)]; exact h3
theorem EntOk.sub {sb:List (Nat × Option Rows)} {ρ ρ':Own} {F F':Nat→Prop} {w w':World} (ht:Turns sb ρ ρ' F F' w w') {id:Nat} {e:Ent} (h:EntOk ρ F w id e) (hk:yK sb id=none) (hk2:yK sb (mid id)=none) (hb:∀ L b,ρ id=some L→L.bl=some b→w'.heap[b]? = w.heap[b]?) (hbn:∀ j L b,ρ (nid id j)=some L→L.bl=some b→w'.heap[b]? = w.heap[b]?):EntOk ρ' F' w' id (e.sub sb):=by
 cases e with
 | blk cells =>
  obtain ⟨b,vs,ty,h1,h2,h3,h4⟩:=h;refine ⟨b,vs,ty,ht.keep id _ h1 hk rfl,by rw [hb _ b h1 rfl]; exact h2,Al.map_left (h3.imp fun _ _ _ h=>RH.sub ht h),h4⟩
 | reg e sz rows =>
  obtain ⟨a,c,vr,h1,h2,h3,h4,h5,h6⟩:=h;exact ⟨a,c,vr,ht.keep id _ h1 hk rfl,h2,h3.imp fun _ _ _ h=>h.imp fun _ _ _ h=>h.mono ht.fz,h4,h5,qZK h6 fun b hb'=>hb _ b h1 hb'⟩
 | itr s pos =>
  obtain ⟨b,h1,h2⟩:=h;exact ⟨b,ht.keep id _ h1 hk rfl,by rw [hb _ b h1 rfl]; exact h2⟩
 | nst e ie isz rows pd =>
  obtain ⟨a,c,H,h1,h2,h3,h4,h5,h6⟩:=h;refine ⟨a,c,H,ht.keep id _ h1 hk rfl,h2,qZK h3 fun b hb'=>hb _ b h1 hb',h4,h5,fun v hv => ?_⟩;obtain ⟨r,av,cv,vr,q1,q2,q3,q4,q5,q6,q7⟩:=h6 v hv;exact ⟨r,av,cv,vr,q1,ht.keepN id v _ _ _ _ h2.1 q2 hk hk2,q3,q4.imp fun _ _ _ h=>h.imp fun _ _ _ h=>h.mono ht.fz,q5,q6,qZK q7 fun b hb'=>hbn v _ b q2 hb'⟩
theorem qGV {f:Ent→Ent} {M:Mem} {i:Nat}:qV (M.map fun x=>(x.1,f x.2)) i=(qV M i).map f:=by
 induction M with
 | nil=>rfl
 | cons x M ih=>simp only [List.map_cons,qV]; cases Nat.beq x.1 i <;> simp [ih]
theorem lookS_map {f:HV→HV} {S:List (Nat × HV)} {i:Nat}:kH (S.map fun x=>(x.1,f x.2)) i=(kH S i).map f:=by
 induction S with
 | nil=>rfl
 | cons x M ih=>simp only [List.map_cons,kH]; cases Nat.beq x.1 i <;> simp [ih]
theorem beq_self (i:Nat):Nat.beq i i=true:=Nat.beq_refl i
theorem lookS_same (S:List (Nat × HV)) (i:Nat) (x:HV):kH ((i,x) :: S) i=some x:=by simp [kH]
theorem zKA {S:List (Nat × HV)} {i j:Nat} {x:HV} (h:i ≠ j):kH ((i,x) :: S) j=kH S j:=by simp [kH,uW h]
theorem lookM_rem {M:Mem} {i j:Nat}:qV (remM i M) j=if i=j then none else qV M j:=by
 induction M with
 | nil=>simp [remM,qV]
 | cons x M ih =>
  obtain ⟨k,x⟩:=x;simp only [remM];by_cases e:k=i
  ·subst e;rw [beq_self,vYZ,ih];by_cases e2:k=j
   ·simp [e2]
   ·simp [e2,qV,uW e2]
  ·rw [uW e,vYY];simp only [qV];by_cases e2:k=j
   ·subst e2; simp [Ne.symm e]
   ·rw [uW e2,vYY,vYY,ih]
theorem qUQ {M:Mem} {i j:Nat} {e:Ent}:qV (putM i e M) j=if i=j then some e else qV M j:=by
 induction M with
 | nil =>
  simp only [putM,qV];by_cases h:i=j
  ·subst h; simp
  ·simp [h,uW h]
 | cons x M ih =>
  obtain ⟨k,x⟩:=x;simp only [putM];by_cases e:k=i
  ·subst e;rw [beq_self,vYZ];simp only [qV];by_cases e2:k=j
   ·subst e2; simp
   ·rw [uW e2]; simp [e2]
  ·rw [uW e,vYY];simp only [qV];by_cases e2:k=j
   ·subst e2; simp [Ne.symm e]
   ·rw [uW e2,vYY,vYY,ih]
def yZ:List (Nat × Option Ent)→Nat→Option (Option Ent)
 | [],_=>none
 | (k,x) :: l,i=>match yZ l i with
  | some y=>some y
  | none=>bif Nat.beq k i then some x else none
theorem lookM_ups {l:List (Nat × Option Ent)}:∀ {M:Mem} {j:Nat},qV (ups l M) j=match yZ l j with | some x=>x | none=>qV M j:=by
 induction l with
 | nil=>intro M j; rfl
 | cons x l ih =>
  intro M j;obtain ⟨i,x⟩:=x;cases x with
  | none =>
   simp only [ups,yZ,ih];cases hu:yZ l j with
   | some y=>rfl
   | none =>
    simp only [lookM_rem];by_cases e:i=j
    ·subst e; simp
    ·simp [e,uW e]
  | some y =>
   simp only [ups,yZ,ih];cases hu:yZ l j with
   | some y=>rfl
   | none =>
    simp only [qUQ];by_cases e:i=j
    ·subst e; simp
    ·simp [e,uW e]
theorem lookS_sub (sb:List (Nat × Option Rows)) (S:List (Nat × HV)) (t:Nat):kH (subS sb S) t=(kH S t).map (HV.sub sb):=by
 cases sb with
 | nil=>simp only [subS]; cases kH S t <;> simp [HV.sub_nil]
 | cons y ys=>exact lookS_map (f:=HV.sub (y :: ys))
theorem Ent.sub_nil (x:Ent):x.sub []=x:=by
 cases x with
 | blk cells=>simp only [Ent.sub]; congr 1; exact (List.map_congr_left fun a _=>HV.sub_nil a).trans (List.map_id _)
 | _=>rfl
theorem lookM_sub (sb:List (Nat × Option Rows)) (M:Mem) (t:Nat):qV (subM sb M) t=(qV M t).map (Ent.sub sb):=by
 cases sb with
 | nil=>simp only [subM]; cases qV M t <;> simp [Ent.sub_nil]
 | cons y ys=>exact qGV (f:=Ent.sub (y :: ys))
theorem qYV (σ:St) (e:Eff) (dst:Option Nat) (t:Nat):kH (σ.apply e dst).S t=if dst=some t then some e.x else (kH σ.S t).map (HV.sub e.sb):=by
 unfold St.apply;cases dst with
 | none=>simpa using lookS_sub _ _ _
 | some d =>
  by_cases hd:d=t
  ·subst hd; simp [kH]
  ·simp only [zKA hd,vQZ,hd,if_false]; exact lookS_sub _ _ _
theorem qQY (σ:St) (e:Eff) (dst:Option Nat) (i:Nat):qV (σ.apply e dst).M i=match yZ e.up i with | some x=>x | none=>(qV σ.M i).map (Ent.sub e.sb):=by
 show qV (ups e.up _) i=_;rw [lookM_ups];cases yZ e.up i with
 | some x=>rfl
 | none=>exact lookM_sub _ _ _
theorem EntOk.own {ρ:Own} {F:Nat→Prop} {w:World} {id:Nat} {e:Ent} (h:EntOk ρ F w id e):∃ L,ρ id=some L∧L.inner=false:=by
 cases e with
 | blk cells=>obtain ⟨b,_,_,h1,_⟩:=h; exact ⟨_,h1,rfl⟩
 | reg e sz rows=>obtain ⟨a,c,vr,h1,_⟩:=h; exact ⟨_,h1,rfl⟩
 | itr s pos=>obtain ⟨b,h1,_⟩:=h; exact ⟨_,h1,rfl⟩
 | nst e ie isz rows pd=>obtain ⟨a,c,H,h1,_⟩:=h; exact ⟨_,h1,rfl⟩
theorem Rel'.apply2 {E:Env} {n:Nat} {ρ ρ':Own} {F F':Nat→Prop} {σ:St} {a:Act} {w w':World} (h:Rel' E n ρ F σ a w) (e:Eff) (dst:Option Nat) (v:Value)
  (hd:∀ d,dst=some d→d < n) (ht:Turns e.sb ρ ρ' F F' w w') (hx:RH ρ' F' w' e.x v)
  (hsame:∀ id L b,yZ e.up id=none→(∀ k j,id=nid k j→yZ e.up k=none)→ρ id=some L→L.bl=some b→w'.heap[b]? = w.heap[b]?)
  (hsb:∀ id,id < 2000000→yZ e.up id=none→yK e.sb id=none)
  (hsb2:∀ id,id < 2000000→yZ e.up id=none→yK e.sb (mid id)=none)
  (hord:∀ id x,yZ e.up id=some x→id < 2000000)
  (hold:∀ id L,yZ e.up id=none→ρ' id=some L→L.inner=false→ρ id=some L)
  (hup:∀ id x,yZ e.up id=some x→match x with
   | some ent=>EntOk ρ' F' w' id ent
   | none=>ρ' id=none)
  (hinr:∀ id L,ρ' id=some L→L.inner=true→2000000≤id)
  (hap:∀ id id' L L' b,ρ' id=some L→ρ' id'=some L'→L.bl=some b→L'.bl=some b→id=id')
  (hoff:∀ id L b,ρ' id=some L→L.bl=some b→¬ F' b∧b < w'.heap.size∧(E.w0.heap.size≤b ∨ E.W b))
  (hfz:∀ k,F' k→k < w'.heap.size∧(E.F0 k ∨ E.w0.heap.size≤k ∨ E.W k)) (hg:GrowB E.W E.w0 w') (hp2:∀ b,ρ pid2=some (.blk b)→yZ e.up pid2=none):Rel' E n ρ' F' (σ.apply e dst) (a.put dst v) w':=by
 have nnone:∀ k j,yZ e.up (nid k j)=none:=fun k j=>by
  cases hc:yZ e.up (nid k j) with
  | none=>rfl
  | some x=>exact absurd (hord _ x hc) (by have:=qKI k j; omega)
 refine ⟨?_,?_,fun t x hx' => ?_,⟨fun id ent hl => ?_,fun id L hL hi => ?_,fun id ent hl => ?_,hinr,hap,hoff,hfz,fun k hk=>(ht.fz k (h.mem.fz0 k hk)).1,hg,fun b hb=>(h.mem.pin b hb).imp (ht.blk pid b) fun h=>h,fun b hb => ?_⟩⟩
 ·unfold Act.put; cases dst <;> simp [h.size]
 ·unfold Act.put; cases dst <;> exact h.defers
 ·rw [qYV] at hx';by_cases e1:dst=some t
  ·rw [if_pos e1] at hx';cases hx';subst e1
   have:=hd t rfl
   exact ⟨v,by simp [Act.put,h.size,this],hx⟩
  ·rw [if_neg e1,vZK] at hx';obtain ⟨y,hy,rfl⟩:=hx';obtain ⟨u,hu,hr⟩:=h.slots t y hy;refine ⟨u,?_,RH.sub ht hr⟩;cases dst with
   | none=>exact hu
   | some d =>
    have:d ≠ t:=fun e=>e1 (by rw [e])
    simp [Act.put,Array.getElem?_setIfInBounds_ne this,hu]
 ·rw [qQY] at hl;cases hu:yZ e.up id with
  | some x =>
   rw [hu] at hl;simp only at hl;subst hl;exact hup id _ hu
  | none =>
   rw [hu] at hl;simp only [vZK] at hl;obtain ⟨y,hy,rfl⟩:=hl;have hid:=h.mem.ord id y hy;refine EntOk.sub ht (h.mem.ent id y hy) (hsb id hid hu) (hsb2 id hid hu) (fun L b hL hb=>hsame id L b hu (fun k j e => ?_) hL hb) (fun j L b hL hb=>hsame _ L b (nnone id j) (fun k i e2 => ?_) hL hb)
   ·have:=qKI k j; omega
   ·by_cases hk:k < 2000000
    ·obtain ⟨rfl,_⟩:=zZI hid hk e2; exact hu
    ·cases hc:yZ e.up k with
     | none=>rfl
     | some x=>exact absurd (hord _ x hc) hk
 ·rw [qQY];cases hu:yZ e.up id with
  | some x =>
   have:=hup id x hu
   cases x with
   | none=>simp only at this; rw [this] at hL; cases hL
   | some ent=>exact ⟨ent,rfl⟩
  | none =>
   obtain ⟨y,hy⟩:=h.mem.dom id L (hold id L hu hL hi) hi;exact ⟨_,by simp [hy]; rfl⟩
 ·rw [qQY] at hl;cases hu:yZ e.up id with
  | some x=>exact hord id x hu
  | none =>
   rw [hu] at hl;simp only [vZK] at hl;obtain ⟨y,hy,rfl⟩:=hl;exact h.mem.ord id y hy
 ·obtain ⟨h1,h2⟩:=h.mem.rd b hb;exact ⟨ht.blk _ _ h1,(hsame pid2 (.blk b) b (hp2 b h1) (fun k j e=>absurd e (by have:=qKI k j; unfold pid2; omega)) h1 rfl).trans h2⟩
theorem Rel'.apply {E:Env} {n:Nat} {ρ ρ':Own} {F F':Nat→Prop} {σ:St} {a:Act} {w w':World} (h:Rel' E n ρ F σ a w) (e:Eff) (dst:Option Nat) (v:Value)
  (hd:∀ d,dst=some d→d < n) (ht:Turns e.sb ρ ρ' F F' w w') (hx:RH ρ' F' w' e.x v)
  (hsame:∀ id L b,yZ e.up id=none→ρ id=some L→L.bl=some b→w'.heap[b]? = w.heap[b]?)
  (hsb:∀ id,yZ e.up id=none→yK e.sb id=none)
  (hord:∀ id x,yZ e.up id=some x→id < 2000000)
  (hold:∀ id,yZ e.up id=none→ρ' id=ρ id)
  (hup:∀ id x,yZ e.up id=some x→match x with
   | some ent=>EntOk ρ' F' w' id ent
   | none=>ρ' id=none)
  (hap:∀ id id' L L' b,ρ' id=some L→ρ' id'=some L'→L.bl=some b→L'.bl=some b→id=id')
  (hoff:∀ id L b,ρ' id=some L→L.bl=some b→¬ F' b∧b < w'.heap.size∧(E.w0.heap.size≤b ∨ E.W b))
  (hfz:∀ k,F' k→k < w'.heap.size∧(E.F0 k ∨ E.w0.heap.size≤k ∨ E.W k)) (hg:GrowB E.W E.w0 w') (hp2:∀ b,ρ pid2=some (.blk b)→yZ e.up pid2=none):Rel' E n ρ' F' (σ.apply e dst) (a.put dst v) w':=by
 refine h.apply2 e dst v hd ht hx (fun id L b hu _=>hsame id L b hu) (fun id _=>hsb id) (fun id _ _ => ?_) hord (fun id L hu hL _=>by rw [← hold id hu]; exact hL) hup (fun id L hL hi => ?_) hap hoff hfz hg hp2
 ·refine hsb (mid id) ?_;cases hc:yZ e.up (mid id) with
  | none=>rfl
  | some x=>exact absurd (hord _ x hc) (by unfold mid; omega)
 ·cases hu:yZ e.up id with
  | none=>rw [hold id hu] at hL; exact h.mem.inr id L hL hi
  | some x =>
   have:=hup id x hu
   cases x with
   | none=>simp only at this; rw [this] at hL; cases hL
   | some ent =>
    obtain ⟨L',h1,h2⟩:=EntOk.own this;rw [hL] at h1;cases h1;rw [hi] at h2; cases h2
def qJB (M:Mem) (id:Nat):Prop:=qV M id=none∧id < 2000000
theorem MemOk.fresh {E:Env} {ρ:Own} {F:Nat→Prop} {M:Mem} {w:World} (h:MemOk E ρ F M w) {id:Nat} (hid:qJB M id):ρ id=none:=by
 cases hc:ρ id with
 | none=>rfl
 | some L =>
  cases hi:L.inner with
  | true=>exact absurd (h.inr id L hc hi) (by have:=hid.2; omega)
  | false=>obtain ⟨e,he⟩:=h.dom id L hc hi; rw [hid.1] at he; cases he
theorem MemOk.lt {E:Env} {ρ:Own} {F:Nat→Prop} {M:Mem} {w:World} (h:MemOk E ρ F M w) {id:Nat} {L:Loc} (hL:ρ id=some L) (hi:L.inner=false):id < 2000000:=by
 obtain ⟨e,he⟩:=h.dom id L hL hi;exact h.ord id e he
end Go.Rx

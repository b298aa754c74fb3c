/- Part 4 of the texts behind the last one: rules and contracts. No condition. -/
import Derived.Test.YtklmegnpfhiibaaGreatBK3
namespace Go.Rx
open Go.RowKit
inductive PV where
 | n (k:IntKind) (x:Int)
 | b (x:Bool)
 | s (x:ByteArray)
 | a (cs:List PV)
 | t (cs:List PV)
 | l (rows:List (List PV))
 | z (rows:List (List PV)) (j off:Nat)
 | c (cells:List PV) (off:Nat)
 | f (fn:Nat) (first cap:List PV)
 | ni
 | np
 | nf
 | zs
 | ze                                          -- nothing, with no room for more
 | nz                                          -- a nil slice, whatever its room
 | ne                                          -- nothing, not nil
 | lf (n:Nat) (f:Nat→List PV)
 | zf (n:Nat) (f:Nat→List PV) (j off:Nat)
 | gs (e sz:Nat) (x:PV)                    -- a growing slice in a block that is handed to a callee
inductive Cap where
 | v (x:PV)
 | p (id off:Nat)
def zQJ (c:Bool):PV→PV→PV
 | .n k x,.n k' y=>match decide (k=k') with
  | true=>.n k (bif c then x else y)
  | false=>bif c then .n k x else .n k' y
 | .b x,.b y=>.b (bif c then x else y)
 | .s x,.s y=>.s (bif c then x else y)
 | .l [],.l []=>.l []
 | x,y=>bif c then x else y
def zQY (m:PV→PV→PV) (c:Bool):List PV→List PV→List PV
 | [],[]=>[]
 | x :: xs,y :: ys=>m x y :: zQY m c xs ys
 | xs,ys=>bif c then xs else ys
def zXV (c:Bool):PV→PV→PV
 | .lf n f,.lf m g=>.lf (bif c then n else m) (fun v=>zQY (zQJ c) c (f v) (g v))
 | x,y=>zQJ c x y
def qZL (c:Bool):PV→PV→PV
 | .lf n f,.lf m g=>.lf (bif c then n else m) (fun v=>zQY (zXV c) c (f v) (g v))
 | x,y=>zQJ c x y
def qW (c:Bool):List PV→List PV→List PV:=zQY (qZL c) c
inductive Rows where
 | l (rows:List (List PV))
 | fo (n:Nat) (f:Nat→List PV)
instance:Coe (List (List PV)) Rows:=⟨.l⟩
def Rows.L:Rows→List (List PV)
 | .l rows=>rows
 | .fo n f=>(List.range n).map f
def Rows.len:Rows→Nat
 | .l rows=>rows.length
 | .fo n _=>n
def Rows.pv:Rows→PV
 | .l rows=>.l rows
 | .fo n f=>.lf n f
def Rows.pz:Rows→Nat→Nat→PV
 | .l rows,j,off=>.z rows j off
 | .fo n f,j,off=>.zf n f j off
def Rows.at (j:Nat):Rows→Option (List PV)
 | .l rows=>rows[j]?
 | .fo _ f=>some (f j)
def Rows.set (j:Nat) (r:List PV):Rows→Rows
 | .l rows=>.l (rows.set j r)
 | .fo n f=>.fo n fun v=>qW (Nat.beq v j) r (f v)
def fnOf:List (List PV)→Nat→List PV
 | [],_=>[]
 | [r],_=>r
 | r :: s :: l,v=>qW (Nat.beq v 0) r (fnOf (s :: l) (v - 1))
def zHI:Nat→(Nat→List PV)→List (List PV)→Rows
 | n,f,[]=>.fo n f
 | n,f,r :: l=>zHI (n + 1) (fun v=>qW (Nat.beq v n) r (f v)) l
def Rows.app:Rows→Rows→Rows
 | .l a,.l b=>.l (a ++ b)
 | .l [],.fo m g=>.fo m g
 | .l (r :: a),.fo m g=>.fo (a.length + 1 + m) fun v=>qW (Nat.blt v (a.length + 1)) (fnOf (r :: a) v) (g (v - (a.length + 1)))
 | .fo n f,.l b=>zHI n f b
 | .fo n f,.fo m g=>.fo (n + m) fun v=>qW (Nat.blt v n) (f v) (g (v - n))
def Rows.take (j:Nat):Rows→Rows
 | .l rows=>.l (rows.take j)
 | .fo _ f=>.fo j f
def Rows.toF (z:List PV):Rows→Rows
 | .l []=>.fo 0 fun _=>z
 | .l (r :: a)=>.fo (a.length + 1) (fnOf (r :: a))
 | r=>r
def PV.rowsO:PV→Option Rows
 | .l rows=>some (.l rows)
 | .lf m g=>some (.fo m g)
 | _=>none
def qGW (c:Bool):Rows→Rows→Rows
 | .fo n f,.fo m g=>.fo (bif c then n else m) fun v=>qW c (f v) (g v)
 | x,y=>bif c then x else y
inductive NR where
 | l (rows:List Rows)
 | fo (n:Nat) (f:Nat→Rows)
def NR.len:NR→Nat
 | .l rows=>rows.length
 | .fo n _=>n
def NR.at (j:Nat):NR→Option Rows
 | .l rows=>rows[j]?
 | .fo _ f=>some (f j)
def NR.set (j:Nat) (r:Rows):NR→NR
 | .l rows=>.l (rows.set j r)
 | .fo n f=>.fo n fun v=>qGW (Nat.beq v j) r (f v)
def NR.rows:NR→Rows
 | .l rows=>.l (rows.map fun r=>[r.pv])
 | .fo n f=>.fo n fun v=>[(f v).pv]
inductive HC where
 | v (x:PV)
 | nl
 | o (id:Nat)
 | un
inductive HV where
 | v (x:PV)
 | nl
 | o (id:Nat)
 | p (id off:Nat)
 | q (id j off:Nat)
 | g (fn:Nat) (first:List PV) (cap:List Cap)
 | un
 | ag (cs:List HC)                           -- a struct that holds own slices
 | m (id j:Nat)                              -- an own slice within an own slice, as it lies there
 | mp (id j:Nat)                             -- .. grown, not stored yet
inductive Ent where
 | blk (cells:List HV)
 | reg (e sz:Nat) (rows:Rows)
 | itr (s:ByteArray) (pos:Nat)
 | nst (e ie isz:Nat) (rows:NR) (pd:Option (Nat × Rows))
abbrev Mem:=List (Nat × Ent)
def qV:Mem→Nat→Option Ent
 | [],_=>none
 | (k,x) :: M,i=>bif Nat.beq k i then some x else qV M i
def kH:List (Nat × HV)→Nat→Option HV
 | [],_=>none
 | (k,x) :: M,i=>bif Nat.beq k i then some x else kH M i
inductive CV where
 | h (x:HV)
 | o (id e sz:Nat) (rows:Rows)
inductive RC where
 | v (x:PV)
 | p (id off:Nat) (cells:List CV)
inductive RV where
 | v (x:PV)
 | nl
 | o (id e sz:Nat) (rows:Rows)
 | p (id off:Nat) (cells:List CV)
 | q (id j off e sz:Nat) (rows:Rows)
 | i (id off:Nat) (s:ByteArray) (pos:Nat)
 | g (fn:Nat) (first:List PV) (cap:List RC)
 | w (x:HV)
 | un
 | no (id e n:Nat)
 | nq (id j off e ie isz:Nat) (rows:NR) (pd:Option (Nat × Rows))
 | mi (id j e ie isz:Nat) (rows:NR) (pd:Option (Nat × Rows))
 | ld (id i:Nat)                             -- a block whose only cell holds the own slice i, not looked at
def mapO {α β:Type} (f:α→Option β):List α→Option (List β)
 | []=>some []
 | x :: xs=>(f x).bind fun y=>(mapO f xs).bind fun ys=>some (y :: ys)
def cvOf (M:Mem):HV→Option CV
 | .o id=>match qV M id with
  | some (.reg e sz rows)=>some (.o id e sz rows)
  | _=>none
 | x=>some (.h x)
def rcOf (M:Mem):Cap→Option RC
 | .v x=>some (.v x)
 | .p id off=>match qV M id with
  | some (.blk cells)=>(mapO (cvOf M) cells).bind fun cs=>some (.p id off cs)
  | _=>none
def res (M:Mem):HV→Option RV
 | .v x=>some (.v x)
 | .nl=>some .nl
 | .un=>some .un
 | .o id=>match qV M id with
  | some (.reg e sz rows)=>some (.o id e sz rows)
  | some (.nst e _ _ rows _)=>some (.no id e rows.len)
  | _=>none
 | .p id off=>match qV M id with
  | some (.blk cells)=>(mapO (cvOf M) cells).bind fun cs=>some (.p id off cs)
  | some (.itr s pos)=>some (.i id off s pos)
  | _=>none
 | .q id j off=>match qV M id with
  | some (.reg e sz rows)=>some (.q id j off e sz rows)
  | some (.nst e ie isz rows pd)=>some (.nq id j off e ie isz rows pd)
  | _=>none
 | .g fn first cap=>(mapO (rcOf M) cap).bind fun cs=>some (.g fn first cs)
 | .ag cs=>some (.w (.ag cs))
 | .m id j=>match qV M id with
  | some (.nst e ie isz rows pd)=>some (.mi id j e ie isz rows pd)
  | _=>none
 | .mp id j=>some (.w (.mp id j))
def sh:HV→RV
 | .v x=>.v x
 | .nl=>.nl
 | .un=>.un
 | x=>.w x
def mode:Op→Nat
 | .move _ | .assign _ | .pick .. | .fieldAddr .. | .nilCheck _ | .makeFunc .. | .box .. => 1
 | .indexAddr .. => 2
 | .load .. => 3
 | _=>0
def resM:Nat→Mem→HV→Option RV
 | 0,M,x=>res M x
 | 1,_,x=>some (sh x)
 | 2,M,.o id=>res M (.o id)
 | 2,_,x=>some (sh x)
 | _ + 3,M,.p id 0=>(match qV M id with
  | some (.blk [.o i2])=>some (.ld id i2)
  | _=>res M (.p id 0))
 | _ + 3,M,x=>res M x
def CV.back:CV→HV
 | .h x=>x
 | .o id _ _ _=>.o id
def RC.back:RC→Cap
 | .v x=>.v x
 | .p id off _=>.p id off
def RV.back:RV→HV
 | .v x=>.v x
 | .nl=>.nl
 | .o id _ _ _=>.o id
 | .p id off _=>.p id off
 | .q id j off _ _ _=>.q id j off
 | .i id off _ _=>.p id off
 | .g fn first cap=>.g fn first (cap.map RC.back)
 | .w x=>x
 | .un=>.un
 | .no id _ _=>.o id
 | .nq id j off _ _ _ _ _=>.q id j off
 | .mi id j _ _ _ _ _=>.m id j
 | .ld id _=>.p id 0
def CV.fz:CV→Option PV
 | .h (.v x)=>some x
 | .h .nl=>some (.l [])
 | .o _ _ _ rows=>some rows.pv
 | _=>none
def CV.hc:CV→Option HC
 | .h (.v x)=>some (.v x)
 | .h .nl=>some .nl
 | .o id _ _ _=>some (.o id)
 | _=>none
def RC.fz:RC→Option PV
 | .v x=>some x
 | .p _ off cells=>(mapO CV.fz cells).bind fun cs=>some (.c cs off)
def RV.fz:RV→Option PV
 | .v x=>some x
 | .nl=>some (.l [])
 | .o _ _ _ rows=>some rows.pv
 | .p _ off cells=>(mapO CV.fz cells).bind fun cs=>some (.c cs off)
 | .q _ j off _ _ rows=>some (rows.pz j off)
 | .g fn first cap=>(mapO RC.fz cap).bind fun cs=>some (.f fn first cs)
 | _=>none
abbrev Regs:=List (Nat × Rows)
def CV.regs:CV→Regs
 | .o id _ _ rows=>[(id,rows)]
 | _=>[]
def catR {α:Type} (f:α→Regs):List α→Regs
 | []=>[]
 | x :: xs=>match f x with
  | []=>catR f xs
  | ys=>ys ++ catR f xs
def RV.regs:RV→Regs
 | .o id _ _ rows=>[(id,rows)]
 | .q id _ _ _ _ rows=>[(id,rows)]
 | _=>[]
def RV.still:RV→Bool
 | .p .. => false
 | .i .. => false
 | .w _=>false
 | .g _ _ cap=>cap.all fun c=>match c with | .v _=>true | .p .. => false
 | _=>true
structure Eff where
 up:List (Nat × Option Ent)
 sb:List (Nat × Option Rows)
 x:HV
 nw:List Nat
def Eff.val (x:HV):Eff:=⟨[],[],x,[]⟩
def Eff.new (id:Nat) (e:Ent) (x:HV):Eff:=⟨[(id,some e)],[],x,[id]⟩
def Eff.set (id:Nat) (e:Ent) (x:HV):Eff:=⟨[(id,some e)],[],x,[]⟩
def Eff.app (id:Nat) (e:Ent) (x:HV):Eff:=⟨[(id,some e)],[(id,none)],x,[]⟩
def Eff.and (e:Eff) (rs:Regs):Eff:=match rs with
 | []=>e
 | rs=>⟨e.up ++ rs.map fun r=>(r.1,none),e.sb ++ rs.map fun r=>(r.1,some r.2),e.x,e.nw⟩
def Eff.frz (rs:Regs) (x:HV):Eff:=(Eff.val x).and rs
def mid (id:Nat):Nat:=id + 3000000
def catL {α:Type} (f:α→List Nat):List α→List Nat
 | []=>[]
 | x :: xs=>match f x with
  | []=>catL f xs
  | ys=>ys ++ catL f xs
def HC.ids:HC→List Nat
 | .o id=>[id]
 | _=>[]
def HV.ids:HV→List Nat
 | .o id=>[id]
 | .q id _ _=>[id]
 | .ag cs=>catL HC.ids cs
 | .m id _=>[id,mid id]
 | .mp id _=>[id,mid id]
 | _=>[]
def Cap.every:Cap→List Nat
 | .v _=>[]
 | .p id _=>[id]
def HV.every:HV→List Nat
 | .o id=>[id]
 | .p id _=>[id]
 | .q id _ _=>[id]
 | .g _ _ cap=>catL Cap.every cap
 | .ag cs=>catL HC.ids cs
 | .m id _=>[id]
 | .mp id _=>[id]
 | _=>[]
def CV.fol:CV→List Nat
 | .h _=>[]
 | .o id _ _ _=>[id]
def RC.fol:RC→List Nat
 | .v _=>[]
 | .p id _ cells=>id :: catL CV.fol cells
def RV.fol:RV→List Nat
 | .o id _ _ _=>[id]
 | .p id _ cells=>id :: catL CV.fol cells
 | .q id _ _ _ _ _=>[id]
 | .i id _ _ _=>[id]
 | .g _ _ cap=>catL RC.fol cap
 | .no id _ _=>[id]
 | .nq id .. => [id]
 | .mi id .. => [id]
 | .ld id _=>[id]
 | _=>[]
def CV.ids:CV→List Nat
 | .h x=>x.ids
 | .o id _ _ _=>[id]
def RC.ids:RC→List Nat
 | .v _=>[]
 | .p id _ cells=>id :: catL CV.ids cells
def RV.ids:RV→List Nat
 | .o id _ _ _=>[id]
 | .p id _ cells=>id :: catL CV.ids cells
 | .q id _ _ _ _ _=>[id]
 | .i id _ _ _=>[id]
 | .g _ _ cap=>catL RC.ids cap
 | .w x=>x.ids
 | .no id _ _=>[id]
 | .nq id .. => [id]
 | .mi id .. => [id,mid id]
 | .ld id k=>[id,k]
 | _=>[]
def Ent.ids:Ent→List Nat
 | .blk cells=>catL HV.ids cells
 | _=>[]
def yYI (u:Nat × Option Ent):List Nat:=match u.2 with
 | some e=>u.1 :: e.ids
 | none=>[u.1]
def Eff.wr (e:Eff):List Nat:=e.up.map (·.1) ++ e.sb.map (·.1)
def Eff.all (e:Eff):List Nat:=catL yYI e.up ++ e.x.ids ++ e.nw
def yK:List (Nat × Option Rows)→Nat→Option (Option Rows)
 | [],_=>none
 | (k,x) :: M,i=>bif Nat.beq k i then some x else yK M i
def HC.sub (sb:List (Nat × Option Rows)):HC→HC
 | .o id=>match yK sb id with
  | none=>.o id
  | some none=>.un
  | some (some rows)=>.v rows.pv
 | x=>x
def HC.h:HC→HV
 | .v x=>.v x
 | .nl=>.nl
 | .o id=>.o id
 | .un=>.un
def HV.sub (sb:List (Nat × Option Rows)):HV→HV
 | .o id=>match yK sb id with
  | none=>.o id
  | some none=>.un
  | some (some rows)=>.v rows.pv
 | .q id j off=>match yK sb id with
  | none=>.q id j off
  | some none=>.un
  | some (some rows)=>.v (rows.pz j off)
 | .ag cs=>.ag (cs.map (HC.sub sb))
 | .m id j=>match yK sb id,yK sb (mid id) with
  | none,none=>.m id j
  | _,_=>.un
 | .mp id j=>match yK sb id,yK sb (mid id) with
  | none,none=>.mp id j
  | _,_=>.un
 | x=>x
def Ent.sub (sb:List (Nat × Option Rows)):Ent→Ent
 | .blk cells=>.blk (cells.map (HV.sub sb))
 | x=>x
def remM (i:Nat):Mem→Mem
 | []=>[]
 | (k,x) :: M=>bif Nat.beq k i then remM i M else (k,x) :: remM i M
def putM (i:Nat) (e:Ent):Mem→Mem
 | []=>[(i,e)]
 | (k,x) :: M=>bif Nat.beq k i then (i,e) :: M else (k,x) :: putM i e M
def ups:List (Nat × Option Ent)→Mem→Mem
 | [],M=>M
 | (i,some e) :: l,M=>ups l (putM i e M)
 | (i,none) :: l,M=>ups l (remM i M)
structure St where
 S:List (Nat × HV)
 M:Mem
def subS (sb:List (Nat × Option Rows)) (S:List (Nat × HV)):List (Nat × HV):=match sb with
 | []=>S
 | y :: ys=>S.map fun x=>(x.1,x.2.sub (y :: ys))
def subM (sb:List (Nat × Option Rows)) (M:Mem):Mem:=match sb with
 | []=>M
 | y :: ys=>M.map fun x=>(x.1,x.2.sub (y :: ys))
def St.apply (σ:St) (e:Eff) (dst:Option Nat):St :=
 ⟨match dst with | some d=>(d,e.x) :: subS e.sb σ.S | none=>subS e.sb σ.S,ups e.up (subM e.sb σ.M)⟩
structure FnI where
 body:Code
 ntmps:Nat
 results:List ResultVar
structure Hint where
 keep:List Nat:=[]
 ids:List Nat:=[]
 own:List (Nat × Nat × Nat × Nat):=[]      -- slot, id, elem, size
 frz:List Nat:=[]
 out:Option (List Nat × List Nat):=none    -- behind the loop: slots, ids
 fun_:List (Nat × List PV):=[]             -- own slices that become functions: id, zero row
 ownB:List (Nat × Nat × Nat × Nat × Nat):=[]   -- nil slices in a block: block, cell, id, elem, size
 frzB:List (Nat × Nat):=[]                 -- own slices in a block that are frozen: block, cell
 unn:List Nat:=[]                          -- behind the loop: own slices within own slices are frozen
inductive Kd where
 | i (k:IntKind)
 | b
 | s
 deriving DecidableEq
structure Tab where
 sz:Nat→Option (Bool × Nat)
 zr:Nat→Option (List PV)
 zh:Nat→Option (List HV)
 fd:Nat→Nat→Option Nat
 fx:Nat→Nat→Option (Nat × Bool × Nat)
 ar:Nat→Option (Nat × Nat × Bool)
 sl:Nat→Option (Nat × Nat)
 ly:Nat→Option (List (Nat × Nat))
 ik:Nat→Option IntKind
 str:Nat→Bool
 bo:Nat→Bool
 eqK:Nat→Option (List Kd)
 fn:Nat→Option FnI
 hint:Nat→Nat→Hint
 rw:Nat→Bool
 dd:Nat→Bool
 ownR:Nat→Nat→Bool
 ff:Nat→Bool:=fun _=>false             -- functions whose slices are kept as functions
 bd:Nat→Nat:=fun _=>1000000            -- how long a slice of these elements may grow
 zf:Nat→Bool:=fun _=>false             -- functions in which a slice made without room is .ze
 bf:Nat→Bool:=fun _=>false             -- functions whose built slices are functions
 agf:Nat→Bool:=fun _=>false            -- functions in which a struct may hold own slices
 sf:Nat→Bool:=fun _=>false             -- functions that freeze the own slices that they store in a block
 nf:Nat→Bool:=fun _=>false             -- functions in which a slice of slices that is made holds own slices
 gq:Nat→Bool:=fun _=>false             -- functions that write a block with a growing slice
 gk:Nat→Bool:=fun _=>false             -- .. that write only in the slice
 la:Nat→Nat→Bool:=fun _ _=>false     -- loads of a struct that keep its own slices own
 oa:Nat→Bool:=fun _=>false             -- structs that are handed back with an own slice as their last cell
 dr:Nat→Nat→Option Hint:=fun _ _=>none -- what stays alive where a region begins
inductive Ret where
 | v (x:PV)
 | ow (e sz:Nat) (rows:Rows)
 | pb (cells:List PV)
 | oa (xs:List PV) (e sz:Nat) (rows:Rows)  -- a struct whose last cell is an own slice
def zGH {α:Type}:List α→Nat→Option (List α)
 | _,0=>some []
 | c :: cs,k + 1=>(zGH cs k).bind fun l=>some (c :: l)
 | [],_ + 1=>none
def qKG {α:Type}:List α→Nat→Nat→Option (List α)
 | cs,0,k=>zGH cs k
 | _ :: cs,off + 1,k=>qKG cs off k
 | [],_ + 1,_=>none
def qZY {α:Type}:List α→Nat→List α→Option (List α)
 | cs,0,[]=>some cs
 | _ :: cs,0,v :: vs=>(qZY cs 0 vs).bind fun l=>some (v :: l)
 | c :: cs,off + 1,vs=>(qZY cs off vs).bind fun l=>some (c :: l)
 | [],0,_ :: _=>none
 | [],_ + 1,_=>none
def PV.cells:PV→List PV
 | .a cs=>cs
 | x=>[x]
def PV.flat1:PV→Bool
 | .n .. => true
 | .b _=>true
 | .s _=>true
 | _=>false
def PV.flat2:PV→Bool
 | .a cs=>cs.all PV.flat1
 | x=>x.flat1
def PV.flat:PV→Bool
 | .t cs=>cs.all PV.flat2
 | x=>x.flat2
def kdIs:Kd→PV→Bool
 | .i k,.n k' _=>decide (k=k')
 | .b,.b _=>true
 | .s,.s _=>true
 | _,_=>false
def qVJ:List Kd→List PV→Bool
 | [],[]=>true
 | k :: ks,p :: ps=>kdIs k p && qVJ ks ps
 | _,_=>false
def cellEq:PV→PV→Option Bool
 | .n _ x,.n _ y=>some (decide (x=y))
 | .b x,.b y=>some (x == y)
 | .s x,.s y=>some (x == y)
 | _,_=>none
def zYV:List PV→List PV→Option Bool
 | [],[]=>some true
 | x :: xs,y :: ys=>(cellEq x y).bind fun e=>(zYV xs ys).bind fun es=>some (e && es)
 | _,_=>none
def qHF:Value→Option PV
 | .int k x=>some (.n k x)
 | .bool x=>some (.b x)
 | .string x=>some (.s x)
 | .nilIface=>some .ni
 | .pointer none=>some .np
 | .nilFunc=>some .nf
 | .slice none 0 0=>some .zs
 | _=>none
def zVW:Value→Option RV
 | .slice none 0 0=>some .nl
 | .agg cs=>(mapO qHF cs.toList).bind fun l=>some (.v (.a l))
 | x=>(qHF x).bind fun y=>some (.v y)
def opv (m:Nat) (σ:St):Operand→Option RV
 | .tmp t=>(kH σ.S t).bind (resM m σ.M)
 | .const v=>zVW v
 | .func f=>some (.v (.f f [] []))
 | .global _=>none
def binI (op:BinOp) (k:IntKind) (x y:Int):Option PV :=
 match op with
 | .add=>some (.n k (k.wrap (x + y)))
 | .sub=>some (.n k (k.wrap (x - y)))
 | .mul=>some (.n k (k.wrap (x * y)))
 | .quo=>bif decide (y=0) then none else some (.n k (k.wrap (x.tdiv y)))
 | .rem=>bif decide (y=0) then none else some (.n k (x.tmod y))
 | .and=>some (.n k (k.wrap ((BitVec.ofInt k.bits x &&& BitVec.ofInt k.bits y).toNat)))
 | .lss=>some (.b (decide (x < y)))
 | .leq=>some (.b (decide (x≤y)))
 | .gtr=>some (.b (decide (y < x)))
 | .geq=>some (.b (decide (y≤x)))
 | .eql=>some (.b (decide (x=y)))
 | .neq=>some (.b (!decide (x=y)))
 | _=>none
def binP (T:Tab) (op:BinOp) (t:Nat) (x y:PV):Option PV :=
 match op,x,y with
 | .shl,.n k x,.n _ y=>bif decide (0≤y) then some (.n k (k.wrap (x * 2 ^ (min y.toNat k.bits)))) else none
 | .shr,.n k x,.n _ y=>bif decide (0≤y) then some (.n k (x.fdiv (2 ^ (min y.toNat k.bits)))) else none
 | op,.n k x,.n k' y=>bif decide (k=k') then binI op k x y else none
 | .eql,.s x,.s y=>bif T.str t then some (.b (x.toList == y.toList)) else none
 | .neq,.s x,.s y=>bif T.str t then some (.b (!(x.toList == y.toList))) else none
 | .eql,.b x,.b y=>bif T.bo t then some (.b (x == y)) else none
 | .neq,.b x,.b y=>bif T.bo t then some (.b (!(x == y))) else none
 | .eql,.a x,.a y=>(T.eqK t).bind fun ks=>bif qVJ ks x && qVJ ks y then (zYV x y).bind fun e=>some (.b e) else none
 | .neq,.a x,.a y=>(T.eqK t).bind fun ks=>bif qVJ ks x && qVJ ks y then (zYV x y).bind fun e=>some (.b (!e)) else none
 | _,_,_=>none
def nilCmp:BinOp→PV→Option PV
 | .eql,.l (_ :: _)=>some (.b false)
 | .neq,.l (_ :: _)=>some (.b true)
 | .eql,.nz=>some (.b true)
 | .eql,.ne=>some (.b false)
 | .eql,.lf (_ + 1) _=>some (.b false)
 | .neq,.lf (_ + 1) _=>some (.b true)
 | _,_=>none
def RV.pv:RV→Option PV
 | .v x=>some x
 | _=>none
def yYD:RV→Option Cap
 | .v y=>some (.v y)
 | .w (.p id off)=>some (.p id off)
 | _=>none
def PV.toH:PV→HV
 | .zs=>.nl
 | x=>.v x
def RV.hcells:RV→Option (List HV)
 | .v (.a cs)=>some (cs.map PV.toH)
 | .v (.t _)=>none
 | .un=>none
 | .w (.v _)=>none
 | .w .un=>none
 | .w (.ag cs)=>some (cs.map HC.h)
 | x=>some [x.back]
def RV.pcells:RV→Option (List PV × Regs)
 | .v (.t _)=>none
 | .v x=>some (x.cells,[])
 | .nl=>some ([.l []],[])
 | .o id _ _ rows=>some ([rows.pv],[(id,rows)])
 | _=>none
def zUD:List RV→Option (List (List PV) × Regs)
 | []=>some ([],[])
 | x :: xs=>x.pcells.bind fun c=>(zUD xs).bind fun r=>some (c.1 :: r.1,match c.2 with | []=>r.2 | q=>q ++ r.2)
def PV.toC:PV→HC
 | .zs=>.nl
 | x=>.v x
def RV.ccells:RV→Option (List HC)
 | .v (.t _)=>none
 | .v x=>some (x.cells.map PV.toC)
 | .nl=>some [.nl]
 | .o id _ _ _=>some [.o id]
 | .w (.ag cs)=>some cs
 | _=>none
def RV.isO:RV→Bool
 | .o .. => true
 | .w (.ag _)=>true
 | _=>false
def yQE {α:Type} (pl:List (Nat × Nat)):List α→List Nat→List (List α)→Option (List α)
 | cells,[],[]=>some cells
 | cells,i :: is,v :: vs=>(pl[i]?).bind fun x=>bif Nat.beq v.length x.2 then (qZY cells x.1 v).bind fun cs=>yQE pl cs is vs else none
 | _,_,_=>none
def yYB (sz:Nat):List (List PV)→List Nat→List (List PV)→Option (List (List PV))
 | rows,[],[]=>some rows
 | rows,i :: is,v :: vs=>bif Nat.blt i rows.length && Nat.beq v.length sz then yYB sz (rows.set i v) is vs else none
 | _,_,_=>none
def qJE {α:Type} (x:α):Nat→List α
 | 0=>[]
 | k + 1=>x :: qJE x k
def disj:List Nat→List Nat→Bool
 | [],_=>true
 | x :: xs,ys => !(ys.any (Nat.beq x)) && disj xs ys
def zJX (lo hi:Option Operand) (vs:List RV):Option (Option Int × Option Int):=match lo,hi,vs with
 | some _,some _,[.v (.n _ i),.v (.n _ j)]=>some (some i,some j)
 | none,some _,[.v (.n _ j)]=>some (none,some j)
 | some _,none,[.v (.n _ i)]=>some (some i,none)
 | _,_,_=>none
def loOf:Option Int→Nat
 | some i=>i.toNat
 | none=>0
def hiOf (j:Option Int) (n:Nat):Nat:=match j with
 | some j=>j.toNat
 | none=>n
def inS (i j:Option Int) (n:Nat):Bool:=(match i with | some i=>decide (0≤i) | none=>true) && (match j with | some j=>decide (0≤j) | none=>true) && decide (loOf i≤hiOf j n) && decide (hiOf j n≤n)
def zYA (rows:List (List PV)) (l k:Nat):Bool:=(rows[l]?).all fun r=>Nat.beq r.length k
def Rows.ok (k:Nat):Rows→Bool
 | .l rows=>zYA rows 0 k
 | .fo _ f=>Nat.beq (f 0).length k
def zXW:RV→Option Rows
 | .v (.l rows)=>some (.l rows)
 | .v (.lf n f)=>some (.fo n f)
 | .v .ne=>some (.l [])
 | .o _ _ _ rows=>some rows
 | .nl=>some (.l [])
 | _=>none
def inB (i:Int) (n:Nat):Bool:=decide (0≤i) && decide (i.toNat < n)
abbrev yZZ:=Nat→List PV→Option Ret
abbrev zVB:=Nat→List HV→List PV→Option (PV × List PV)
def pid:Nat:=1000000
def pid2:Nat:=1000002
def zZG (T:Tab) (fnid dst:Nat) (hs:Regs):Ret→Option Eff
 | .v x=>match hs with
  | []=>some (.val (.v x))
  | hs=>bif x.flat then some (.val (.v x)) else some (.frz hs (.v x))
 | .ow e sz rows=>bif T.ownR fnid dst then
   (match hs with
     | []=>some (.new dst (.reg e sz rows) (.o dst))
     | _=>none)
  else (match hs with
     | []=>some (.val (.v rows.pv))
     | hs=>some (.frz hs (.v rows.pv)))
 | .pb cells=>match hs with
  | []=>some (.new dst (.blk (cells.map .v)) (.p dst 0))
  | _=>none
 | .oa xs e sz rows=>bif T.ownR fnid dst then
   (match hs with
     | []=>some (.new dst (.reg e sz rows) (.ag (xs.map HC.v ++ [.o dst])))
     | _=>none)
  else none
def yJD (g:Nat→List PV):Bool:=(List.range 16).all fun v=>(g v).all PV.flat1
def qHI (T:Tab) (qJG:yZZ) (me dst:Nat) (f:Nat) (args:List RV):Option Eff :=
 (mapO RV.fz args).bind fun ps=>(qJG f ps).bind fun r =>
  bif args.all RV.still then zZG T me dst (catR RV.regs args) r
  else match r with
   | .v x=>bif x.flat then some (.val (.v x)) else none
   | .ow _ _ (.l rows)=>bif rows.all (fun r=>r.all PV.flat1) then some (.val (.v (.l rows))) else none
   | .ow _ _ (.fo n g)=>bif yJD g then (bif decide (n≤16) then some (.val (.v (.lf n g))) else none) else none
   | _=>none
def CV.pv:CV→Option PV
 | .h (.v x)=>some x
 | .h .nl=>some .zs
 | _=>none
def zUY:List RV→Option (Nat × List CV)
 | []=>none
 | x :: xs=>match x with
  | .p id _ cells=>some (id,cells)
  | _=>zUY xs
def RV.toB (id:Nat):RV→Option HV
 | .p id' off _=>bif Nat.beq id' id then some (.p pid off) else none
 | x=>bif x.still then x.fz.bind fun y=>some (.v y) else none
def CV.pvq:CV→Option PV
 | .h (.v x)=>some x
 | .h .nl=>some .zs
 | .o _ e sz rows=>some (.gs e sz rows.pv)
 | _=>none
def qXL:List CV→Option Nat
 | []=>none
 | .o id _ _ _ :: _=>some id
 | _ :: cs=>qXL cs
def qWQ:List PV→Option (Nat × Nat × PV)
 | []=>none
 | .gs e sz x :: _=>some (e,sz,x)
 | _ :: ps=>qWQ ps
def oneG:List PV→Bool
 | []=>true
 | .gs .. :: ps=>(qWQ ps).isNone
 | _ :: ps=>oneG ps
def PV.toQ (id:Nat):PV→HV
 | .gs .. => .o id
 | .zs=>.nl
 | x=>.v x
def gEnt:Option (Nat × Nat × PV)→Option (Option Ent)
 | none=>some none
 | some (e,sz,x)=>x.rowsO.bind fun rows=>some (some (.reg e sz rows))
def qXE (qYI:zVB) (dst f:Nat) (args:List RV):Option Eff :=
 (zUY args).bind fun p=>(mapO CV.pvq p.2).bind fun ps=>(mapO (RV.toB p.1) args).bind fun hs=>(qYI f hs ps).bind fun r =>
  (gEnt (qWQ r.2)).bind fun ent=>bif oneG ps && oneG r.2 && (catR RV.regs args).isEmpty && !(Nat.beq p.1 ((qXL p.2).getD (100000 + dst))) && r.1.flat && !(Nat.beq p.1 pid2) then
   some ⟨[(p.1,some (.blk (r.2.map (PV.toQ ((qXL p.2).getD (100000 + dst)))))),((qXL p.2).getD (100000 + dst),ent)],[((qXL p.2).getD (100000 + dst),none)],.v r.1,match qXL p.2 with | some _=>[] | none=>[100000 + dst]⟩ else none
def zZY (qYI:zVB) (f:Nat) (args:List RV):Option Eff :=
 (zUY args).bind fun p=>(mapO CV.pv p.2).bind fun ps=>(mapO (RV.toB p.1) args).bind fun hs=>(qYI f hs ps).bind fun r =>
  bif Nat.beq p.1 pid2 then none else some (Eff.and (.set p.1 (.blk (r.2.map PV.toH)) (.v r.1)) (catR RV.regs args))
def qUV (qYI:zVB) (f:Nat) (args:List RV):Option Eff :=
 (zUY args).bind fun p=>match p.2 with
  | [.o m e sz rows]=>(mapO (RV.toB p.1) args).bind fun hs=>(qYI f hs [.gs e sz rows.pv]).bind fun r=>match r.2 with
   | [.gs e2 sz2 y]=>y.rowsO.bind fun zQV=>bif Nat.beq sz2 sz && (catR RV.regs args).isEmpty && !(Nat.beq p.1 m) && r.1.flat then some ⟨[(m,some (.reg e2 sz2 zQV))],[],.v r.1,[]⟩ else none
   | _=>none
  | _=>none
def qU (T:Tab) (qJG:yZZ) (qYI:zVB) (me dst:Nat) (op:Op) (vs:List RV):Option Eff :=
 match op,vs with
 | .move _,[x]=>some (.val x.back)
 | .assign _,[x]=>some (.val x.back)
 | .pick ..,[.v (.b c),x,y]=>some (.val (bif c then x.back else y.back))
 | .alloc t,[]=>(T.zh t).bind fun cs=>some (.new dst (.blk cs) (.p dst 0))
 | .box _ _,[x]=>x.hcells.bind fun hs=>some (.new dst (.blk hs) (.p dst 0))
 | .build t ps,vs=>(T.zr t).bind fun zs=>(T.ly t).bind fun pl=>bif T.agf me && vs.any RV.isO then (mapO RV.ccells vs).bind fun r =>
   (yQE pl (zs.map PV.toC) (ps.toList.map (·.1)) r).bind fun cs=>some (.val (.ag cs)) else (zUD vs).bind fun r =>
   (yQE pl zs (ps.toList.map (·.1)) r.1).bind fun cs=>some (.frz r.2 (.v (.a cs)))
 | .buildSlice t len ps,vs=>(T.sl t).bind fun e=>(T.zr e.1).bind fun zs=>(zUD vs).bind fun r =>
   bif Nat.ble (len * e.2) 16777216 then (yYB e.2 (qJE zs len) (ps.toList.map (·.1)) r.1).bind fun rows=>some ((Eff.new dst (.reg e.1 e.2 (bif T.bf me then (Rows.l rows).toF zs else .l rows)) (.o dst)).and r.2) else none
 | .load t _,[x]=>(T.sz t).bind fun k=>match x with
   | .p _ off cells=>bif k.1 then
     bif T.la me dst then (qKG cells off k.2).bind fun cs=>(mapO CV.hc cs).bind fun hs=>some (.val (.ag hs))
     else (qKG cells off k.2).bind fun cs=>(mapO CV.fz cs).bind fun ps=>some (.frz (catR CV.regs cs) (.v (.a ps)))
    else (cells[off]?).bind fun c=>some (.val c.back)
   | .q _ j off _ _ rows=>(rows.at j).bind fun r=>bif k.1 then (qKG r off k.2).bind fun cs=>some (.val (.v (.a cs))) else (r[off]?).bind fun c=>some (.val c.toH)
   | .v (.z rows j off)=>(rows[j]?).bind fun r=>bif k.1 then (qKG r off k.2).bind fun cs=>some (.val (.v (.a cs))) else (r[off]?).bind fun c=>some (.val c.toH)
   | .v (.c cells off)=>bif k.1 then (qKG cells off k.2).bind fun cs=>some (.val (.v (.a cs))) else (cells[off]?).bind fun c=>some (.val c.toH)
   | .v (.zf _ f j off)=>bif k.1 then (qKG (f j) off k.2).bind fun cs=>some (.val (.v (.a cs))) else ((f j)[off]?).bind fun c=>some (.val c.toH)
   | .nq id j 0 _ _ _ _ none=>bif k.1 then none else some (.val (.m id j))
   | .ld _ i=>bif k.1 then none else some (.val (.o i))
   | _=>none
 | .store t _ _,[x,y]=>(T.sz t).bind fun k=>match x with
   | .p id off cells=>bif Nat.beq id pid2 then none else bif T.sf me && y.isO then y.pcells.bind fun c=>(bif Nat.beq c.1.length k.2 && disj [id] (c.2.map (·.1)) then
      (qZY ((cells.map CV.back).map (HV.sub (c.2.map fun r=>(r.1,some r.2)))) off (c.1.map HV.v)).bind fun cs=>some ((Eff.set id (.blk cs) .un).and c.2) else none)
     else y.hcells.bind fun hs=>bif Nat.beq hs.length k.2 then (qZY (cells.map CV.back) off hs).bind fun cs=>some (.set id (.blk cs) .un) else none
   | .q id j off e sz rows=>y.pcells.bind fun c=>(rows.at j).bind fun r=>bif Nat.beq c.1.length k.2 && disj [id] (c.2.map (·.1)) then (qZY r off c.1).bind fun r'=>some ((Eff.set id (.reg e sz (rows.set j r')) .un).and c.2) else none
   | .nq id j 0 e ie isz rows (some (j',r))=>match y with
    | .w (.mp id' j'')=>bif !k.1 && Nat.beq id' id && Nat.beq j' j && Nat.beq j'' j then some ⟨[(id,some (.nst e ie isz (rows.set j r) none))],[(mid id,none)],.un,[]⟩ else none
    | _=>none
   | _=>none
 | .nilCheck _,[x]=>match x with
   | .w (.p ..)=>some (.val x.back)
   | .w (.q ..)=>some (.val x.back)
   | .v (.z ..)=>some (.val x.back)
   | .v (.c ..)=>some (.val x.back)
   | .v (.zf ..)=>some (.val x.back)
   | _=>none
 | .binOp op t _ _ _,[.v x,.v y]=>(binP T op t x y).bind fun r=>some (.val (.v r))
 | .binOp op t _ _ _,[.v x,.nl]=>(T.sl t).bind fun _=>(nilCmp op x).bind fun r=>some (.val (.v r))
 | .unOp .not _ _,[.v (.b x)]=>some (.val (.v (.b (!x))))
 | .unOp .neg _ _,[.v (.n k x)]=>some (.val (.v (.n k (k.wrap (0 - x)))))
 | .convert s d _,[.v (.n k x)]=>(T.ik s).bind fun k1=>(T.ik d).bind fun k2=>bif decide (k=k1) then some (.val (.v (.n k2 (k2.wrap x)))) else none
 | .makeFunc (.func fn) first _,vs=>(mapO RV.pv (vs.take first.size)).bind fun fs =>
   (match mapO RV.pv (vs.drop first.size) with
     | some cs=>some (.val (.v (.f fn fs cs)))
     | none=>(mapO yYD (vs.drop first.size)).bind fun cs=>some (.val (.g fn fs cs)))
 | .makeSlice t _ _,[.v (.n _ n),.v (.n _ c)]=>(T.sl t).bind fun e=>(T.zr e.1).bind fun zs =>
   bif T.zf me && (decide (n=0) && decide (c=0)) then some (.val (.v .ze)) else
   bif T.nf me then (T.sl e.1).bind fun q=>(T.zr q.1).bind fun z2=>(match zs with
    | [.zs]=>bif decide (0≤n) && decide (n≤c) && decide (c≤1000000) && Nat.beq e.2 1 then some ⟨[(dst,some (.nst e.1 q.1 q.2 (bif T.ff me then .fo n.toNat (fun _=>.fo 0 (fun _=>z2)) else .l (qJE (.l []) n.toNat)) none))],[(mid dst,none)],.o dst,[dst]⟩ else none
    | _=>none) else
   bif decide (0≤n) && decide (n≤c) && decide (c≤1000000) then some (.new dst (.reg e.1 e.2 (bif T.ff me then .fo n.toNat (fun _=>zs) else .l (qJE zs n.toNat))) (.o dst)) else none
 | .slice t _ lo hi none,x :: vs=>(zJX lo hi vs).bind fun b=>(match x with
   | .v (.s s)=>bif T.str t && inS b.1 b.2 s.size then some (.val (.v (.s (s.extract (loOf b.1) (hiOf b.2 s.size))))) else none
   | .v (.lf n f)=>(T.sl t).bind fun e=>bif inS b.1 b.2 n then (bif Nat.beq (f (loOf b.1)).length e.2 then some (.val (.v (.lf (hiOf b.2 n - loOf b.1) fun v=>f (v + loOf b.1)))) else none) else none
   | .v (.l rows)=>(T.sl t).bind fun e=>bif inS b.1 b.2 rows.length && zYA rows (loOf b.1) e.2 then some (.val (.v (.l ((rows.take (hiOf b.2 rows.length)).drop (loOf b.1))))) else none
   | .o id e' sz rows=>(match b with
     | (none,some j)=>(T.sl t).bind fun e=>bif Nat.beq sz e.2 && decide (0≤j) && decide (j.toNat≤rows.len) then some (.app id (.reg e' sz (rows.take j.toNat)) (.o id)) else none
     | _=>none)
   | _=>none)
 | .fieldAddr t _ f,[x]=>(T.fd t f).bind fun o=>match x with
   | .w (.p id off)=>some (.val (.p id (off + o)))
   | .w (.q id j off)=>some (.val (.q id j (off + o)))
   | .v (.z rows j off)=>some (.val (.v (.z rows j (off + o))))
   | .v (.c cells off)=>some (.val (.v (.c cells (off + o))))
   | .v (.zf n f j off)=>some (.val (.v (.zf n f j (off + o))))
   | _=>none
 | .field t _ f,[.v (.a cs)]=>(T.fx t f).bind fun o=>bif o.2.1 then (qKG cs o.1 o.2.2).bind fun r=>some (.val (.v (.a r))) else (cs[o.1]?).bind fun r=>some (.val r.toH)
 | .indexAddr t _ _,[x,.v (.n _ i)]=>match x with
   | .w (.p id off)=>(T.ar t).bind fun k=>bif inB i k.1 then some (.val (.p id (off + i.toNat * k.2.1))) else none
   | .w (.q id j off)=>(T.ar t).bind fun k=>bif inB i k.1 then some (.val (.q id j (off + i.toNat * k.2.1))) else none
   | .v (.c cells off)=>(T.ar t).bind fun k=>bif inB i k.1 then some (.val (.v (.c cells (off + i.toNat * k.2.1)))) else none
   | .v (.z rows j off)=>(T.ar t).bind fun k=>bif inB i k.1 then some (.val (.v (.z rows j (off + i.toNat * k.2.1)))) else none
   | .o id _ sz rows=>(T.sl t).bind fun e=>bif inB i rows.len && Nat.beq sz e.2 then some (.val (.q id i.toNat 0)) else none
   | .no id _ n=>(T.sl t).bind fun e=>bif inB i n && Nat.beq 1 e.2 then some (.val (.q id i.toNat 0)) else none
   | .v (.zf n f j off)=>(T.ar t).bind fun k=>bif inB i k.1 then some (.val (.v (.zf n f j (off + i.toNat * k.2.1)))) else none
   | .v (.lf n f)=>(T.sl t).bind fun e=>bif inB i n && Nat.beq (f i.toNat).length e.2 then some (.val (.v (.zf n f i.toNat 0))) else none
   | .v (.l rows)=>(T.sl t).bind fun e=>(rows[i.toNat]?).bind fun r=>bif decide (0≤i) && Nat.beq r.length e.2 then some (.val (.v (.z rows i.toNat 0))) else none
   | _=>none
 | .index t _ _,[x,.v (.n _ i)]=>match x with
   | .v (.a cs)=>(T.ar t).bind fun k=>bif inB i k.1 then (bif k.2.2 then (qKG cs (i.toNat * k.2.1) k.2.1).bind fun r=>some (.val (.v (.a r))) else (cs[i.toNat]?).bind fun r=>some (.val r.toH)) else none
   | .v (.s s)=>bif T.str t && decide (0≤i) then (s[i.toNat]?).bind fun b=>some (.val (.v (.n .u8 (b.toNat:Int)))) else none
   | _=>none
 | .range t _,[.v (.s s)]=>bif T.str t then some (.new dst (.itr s 0) (.p dst 0)) else none
 | .next _ true,[.i id 0 s pos] =>
   bif Nat.beq id pid2 then none else bif decide (pos < s.size) then
    let r:=Utf8.decode s pos
    some (.set id (.itr s (pos + r.2)) (.v (.t [.b true,.n .i64 (pos:Int),.n .i32 (r.1:Int)])))
   else some (.val (.v (.t [.b false])))
 | .extract _ i,[.v (.t cs)]=>(cs[i]?).bind fun r=>some (.val r.toH)
 | .call ⟨.builtin b,_,ats⟩,vs=>match b,vs with
   | .len,[x]=>(match x with
     | .v (.s s)=>(match ats[0]? with | some t=>bif T.str t then some (.val (.v (.n .i64 (s.size:Int)))) else none | none=>none)
     | .v (.l rows)=>(match ats[0]? with | some t=>(T.sl t).bind fun _=>some (.val (.v (.n .i64 (rows.length:Int)))) | none=>none)
     | .v (.lf n _)=>(match ats[0]? with | some t=>(T.sl t).bind fun _=>some (.val (.v (.n .i64 (n:Int)))) | none=>none)
     | .nl=>(match ats[0]? with | some t=>(T.sl t).bind fun _=>some (.val (.v (.n .i64 0))) | none=>none)
     | .o _ _ _ rows=>(match ats[0]? with | some t=>(T.sl t).bind fun _=>some (.val (.v (.n .i64 (rows.len:Int)))) | none=>none)
     | _=>none)
   | .min,[.v (.n k x),.v (.n k' y)]=>bif decide (k=k') then some (.val (.v (.n k (min x y)))) else none
   | .max,[.v (.n k x),.v (.n k' y)]=>bif decide (k=k') then some (.val (.v (.n k (max x y)))) else none
   | .append,[x,y]=>(match ats.toList with
     | [t,t']=>bif Nat.beq t t' then (T.sl t).bind fun e=>(zXW y).bind fun news=>bif news.ok e.2 then (match x with
       | .nl=>bif decide (news.len≤T.bd e.1) then some (.new dst (.reg e.1 e.2 news) (.o dst)) else none
       | .v .ze=>bif decide (news.len≤T.bd e.1) && decide (0 < news.len) then some (.new dst (.reg e.1 e.2 news) (.o dst)) else none
       | .mi id j e' ie isz rows none=>bif Nat.beq ie e.1 && Nat.beq isz e.2 && !(y.ids.any (Nat.beq id)) then (rows.at j).bind fun r=>bif decide (r.len + news.len≤T.bd e.1) then some ⟨[(id,some (.nst e' ie isz rows (some (j,r.app news))))],[(mid id,none)],.mp id j,[]⟩ else none else none
       | .o id e' sz rows=>bif Nat.beq e' e.1 && Nat.beq sz e.2 && decide (rows.len + news.len≤T.bd e.1) && !(y.ids.any (Nat.beq id)) then some (.app id (.reg e' sz (rows.app news)) (.o id)) else none
       | _=>none) else none else none
     | _=>none)
   | _,_=>none
 | .call ⟨.value _,_,_⟩,x :: vs=>match x with
   | .v (.f f first cap)=>bif T.rw f then (bif T.gk f then qUV qYI f (first.map .v ++ vs ++ cap.map .v) else bif T.gq f then qXE qYI dst f (first.map .v ++ vs ++ cap.map .v) else zZY qYI f (first.map .v ++ vs ++ cap.map .v)) else qHI T qJG me dst f (first.map .v ++ vs ++ cap.map .v)
   | .g f first cap=>bif T.rw f then (bif T.gk f then qUV qYI f (first.map .v ++ vs ++ cap.map fun c=>match c with | .v x=>.v x | .p id off cells=>.p id off cells) else bif T.gq f then qXE qYI dst f (first.map .v ++ vs ++ cap.map fun c=>match c with | .v x=>.v x | .p id off cells=>.p id off cells) else none) else qHI T qJG me dst f (first.map .v ++ vs ++ cap.map fun c=>match c with | .v x=>.v x | .p id off cells=>.p id off cells)
   | _=>none
 | .defer ⟨.value _,args,_⟩,x :: _=>bif args.isEmpty then (match x with
   | .v (.f f _ _)=>bif T.dd f then some (.val .un) else none
   | .g f _ _=>bif T.dd f then some (.val .un) else none
   | _=>none) else none
 | _,_=>none
def uK (ops:Array Oper) (σ:St) (o:Oper):Option Bool :=
 match o.guard with
 | none=>some true
 | some (j,b)=>match (ops[j]?).bind (·.dst) with
  | some d=>match kH σ.S d with
   | some (.v (.b c))=>some (c == b)
   | some (.v (.t []))=>some false
   | _=>none
  | none=>none
structure Cx where
 T:Tab
 cA:yZZ
 cB:zVB
 me:Nat
 n:Nat
def dstB (n:Nat):Option Nat→Bool
 | some d=>Nat.blt d n
 | none=>true
def qJK (C:Cx) (ops:Array Oper) (o:Oper) (σ:St):Option (Eff × List RV) :=
 (uK ops σ o).bind fun g=>bif dstB C.n o.dst then
  bif g then
   (mapO (opv (mode o.op) σ) o.op.operands.toList).bind fun vs=>(qU C.T C.cA C.cB C.me (o.dst.getD 0) o.op vs).bind fun e =>
    bif e.nw.all (fun id=>(qV σ.M id).isNone && Nat.blt id 2000000) then some (e,vs) else none
  else some (.val (.v (.t [])),[])
 else none
abbrev Done:=Nat × Eff × List RV
def yQH (ops:Array Oper) (x y:Done):Bool :=
 match ops[x.1]?,ops[y.1]? with
 | some ox,some oy =>
  (match x.2.1.sb with | []=>true | _=>false) && (match ox.dst with | some d => !((oy.looksAt ops).any (Nat.beq d)) | none=>true) &&
  (match oy.dst with | some d => !((ox.looksAt ops).any (Nat.beq d)) | none=>true) && (match ox.dst,oy.dst with | some d,some d' => !(Nat.beq d d') | _,_=>true) &&
  disj x.2.1.wr (catL RV.ids y.2.2 ++ y.2.1.all) && (disj (y.2.1.up.map (·.1)) (catL RV.fol x.2.2 ++ x.2.1.nw) && disj (y.2.1.sb.map (·.1)) (catL RV.ids x.2.2 ++ x.2.1.all))
 | _,_=>false
def zZJ (ops:Array Oper):Nat→Nat→Nat→Bool
 | 0,j,i=>Region.waitsFor .any ops j i
 | n + 1,j,i=>Region.waitsFor .any ops j i || (match ops[j]? with
  | some o=>o.after.any fun e=>Region.binds .any e && zZJ ops n e.on i
  | none=>false)
def zYD (ops:Array Oper) (j i:Nat):Bool:=zZJ ops 3 j i || zZJ ops 5 j i || zZJ ops 9 j i
def zQZ (ops:Array Oper):List Done→Bool
 | []=>true
 | x :: l=>(l.all fun y=>Region.waitsFor .any ops y.1 x.1 || (yQH ops x y || zYD ops y.1 x.1)) && zQZ ops l
def qXF (C:Cx) (ops:Array Oper):List Oper→(St→Option (Ret × Mem))→St→Option (Ret × Mem)
 | [],K,σ=>K σ
 | o :: l,K,σ=>(qJK C ops o σ).bind fun r=>qXF C ops l K (σ.apply r.1 o.dst)
def qZA (C:Cx) (ops:Array Oper):Nat→List Oper→List Done→(St→Option (Ret × Mem))→St→Option (Ret × Mem)
 | _,[],acc,K,σ=>bif zQZ ops acc.reverse && Sx.backB ops then K σ else none
 | i,o :: l,acc,K,σ=>(qJK C ops o σ).bind fun r=>qZA C ops (i + 1) l ((i,r) :: acc) K (σ.apply r.1 o.dst)
inductive Ex where
 | normal
 | exit (id:Nat)
 | ret
def yQV (σ:St):List Nat→List (Nat × HV)
 | []=>[]
 | t :: ts=>match kH σ.S t with
  | some x=>(t,x) :: yQV σ ts
  | none=>yQV σ ts
def zWF (M:Mem):List Nat→Mem
 | []=>[]
 | t :: ts=>match qV M t with
  | some x=>(t,x) :: zWF M ts
  | none=>zWF M ts
def ownL:List (Nat × Nat × Nat × Nat)→St→St
 | [],σ=>σ
 | (t,id,e,sz) :: l,σ=>match kH σ.S t,qV σ.M id with
  | some .nl,none=>bif Nat.blt 0 sz && Nat.blt id 2000000 then ownL l (σ.apply (.new id (.reg e sz (.l [])) (.o id)) (some t)) else ownL l σ
  | _,_=>ownL l σ
def frzL:List Nat→St→St
 | [],σ=>σ
 | t :: l,σ=>match kH σ.S t with
  | some .nl=>frzL l (σ.apply (.val (.v (.l []))) (some t))
  | some (.o id)=>match qV σ.M id with
   | some (.reg _ _ rows)=>frzL l (σ.apply (.frz [(id,rows)] .un) none)
   | _=>frzL l σ
  | _=>frzL l σ
def zUE:List (Nat × Nat × Nat × Nat × Nat)→St→St
 | [],σ=>σ
 | (b,k,id,e,sz) :: l,σ=>match qV σ.M b,qV σ.M id with
  | some (.blk cells),none=>(match cells[k]? with
   | some .nl=>bif Nat.blt 0 sz && Nat.blt id 2000000 then zUE l ⟨σ.S,putM id (.reg e sz (.l [])) (putM b (.blk (cells.set k (.o id))) σ.M)⟩ else zUE l σ
   | _=>zUE l σ)
  | _,_=>zUE l σ
def zXH:List (Nat × Nat)→St→St
 | [],σ=>σ
 | (b,k) :: l,σ=>match qV σ.M b with
  | some (.blk cells)=>(match cells[k]? with
   | some (.o id)=>(match qV σ.M id with
    | some (.reg _ _ rows)=>zXH l (σ.apply (.frz [(id,rows)] .un) none)
    | _=>zXH l σ)
   | _=>zXH l σ)
  | _=>zXH l σ
def funL:List (Nat × List PV)→Mem→Mem
 | [],M=>M
 | (id,z) :: l,M=>match qV M id with
  | some (.reg e sz rows)=>funL l (putM id (.reg e sz (rows.toF z)) M)
  | _=>funL l M
def HV.only (ids:List Nat) (x:HV):HV:=bif x.every.all (fun i=>ids.any (Nat.beq i)) then x else .un
def Ent.only (ids:List Nat):Ent→Ent
 | .blk cells=>.blk (cells.map (HV.only ids))
 | x=>x
def qZB (h:Hint) (σ:St):St :=
 let σ:=zUE h.ownB (ownL h.own (frzL h.frz (zXH h.frzB σ)))
 ⟨(yQV σ h.keep).map fun x=>(x.1,x.2.only (pid :: pid2 :: h.ids)),funL h.fun_ ((zWF σ.M (pid :: pid2 :: h.ids)).map fun x=>(x.1,x.2.only (pid :: pid2 :: h.ids)))⟩
def unnL:List Nat→St→St
 | [],σ=>σ
 | id :: l,σ=>match qV σ.M id with
  | some (.nst e _ _ rows none)=>unnL l (σ.apply ⟨[(id,some (.reg e 1 rows.rows))],[(mid id,none)],.un,[]⟩ none)
  | _=>unnL l σ
def qQE (h:Hint) (σ:St):St:=match h.out with
 | none=>σ
 | some o=>qZB { keep:=o.1,ids:=o.2 } (unnL h.unn σ)
def preR (C:Cx) (id:Nat) (σ:St):St:=match C.T.dr C.me id with
 | none=>σ
 | some h=>qZB h σ
def preK {α:Type} (C:Cx) (id:Nat) (F:St→α) (σ:St):α:=match C.T.dr C.me id with
 | none=>F σ
 | some h=>F (qZB h σ)
theorem preK_eq {α:Type} {C:Cx} {id:Nat} {F:St→α} {σ:St}:preK C id F σ=F (preR C id σ):=by
 unfold preK preR; cases C.T.dr C.me id <;> rfl
def qWL {α:Type} (step:(St→Option α)→St→Option α):Nat→St→Option α
 | 0=>fun _=>none
 | n + 1=>step (qWL step n)
def zZ:Code→Nat
 | .region id _ _=>id
 | .seq a _=>zZ a
 | .block _ a=>zZ a
 | .loop a=>zZ a
 | .scope a=>zZ a
 | _=>0
def runC (N:Nat) (C:Cx):Code→(Ex→St→Option (Ret × Mem))→St→Option (Ret × Mem)
 | .skip,K,σ=>K .normal σ
 | .label _,K,σ=>K .normal σ
 | .scope x,K,σ=>runC N C x K σ
 | .ret,K,σ=>K .ret σ
 | .exit id,K,σ=>K (.exit id) σ
 | .region id ops d,K,σ=>preK C id (fun σ=>bif d then qZA C ops 0 ops.toList [] (K .normal) σ else qXF C ops ops.toList (K .normal) σ) σ
 | .seq x y,K,σ=>runC N C x (fun e σ=>match e with
   | .normal=>runC N C y K σ
   | e=>K e σ) σ
 | .cond c x y,K,σ=>(opv 1 σ c).bind fun v=>match v with
   | .v (.b t)=>bif t then runC N C x K σ else runC N C y K σ
   | _=>none
 | .block id x,K,σ=>runC N C x (fun e σ=>match e with
   | .exit id'=>bif Nat.beq id' id then K .normal σ else K (.exit id') σ
   | e=>K e σ) σ
 | .loop x,K,σ=>qWL (fun again σ=>runC N C x (fun e σ=>match e with
   | .normal=>again σ
   | e=>K e (qQE (C.T.hint C.me (zZ x)) σ)) (qZB (C.T.hint C.me (zZ x)) σ)) N σ
 | _,_,_=>none
def zWW (T:Tab) (σ:St):ResultVar→Option RV
 | .tmp t=>(kH σ.S t).bind (res σ.M)
 | .cell x t=>(kH σ.S x).bind fun p=>(res σ.M p).bind fun p=>(T.sz t).bind fun k=>match p with
  | .p _ off cells=>bif k.1 then (qKG cells off k.2).bind fun cs=>(mapO CV.fz cs).bind fun ps=>some (.v (.a ps)) else (cells[off]?).bind fun c=>c.fz.bind fun p=>some (.v p)
  | _=>none
def zZV:List RV→Option Ret
 | [.o _ e sz rows]=>some (.ow e sz rows)
 | [.p _ 0 cells]=>(mapO CV.fz cells).bind fun cs=>some (.pb cs)
 | [x]=>x.fz.bind fun y=>some (.v y)
 | xs=>(mapO RV.fz xs).bind fun ys=>some (.v (.t ys))
def initS:Nat→List HV→List (Nat × HV)
 | _,[]=>[]
 | k,v :: vs=>(k,v) :: initS (k + 1) vs
structure Orc where
 a:Nat→Option (List PV→Option Ret)
 b:Nat→Option (List HV→List PV→Option (PV × List PV))
def Orc.none:Orc:=⟨fun _=>.none,fun _=>.none⟩
def HV.pv:HV→Option PV
 | .v x=>some x
 | _=>none
def HV.pz (M:Mem):HV→Option PV
 | .v x=>some x
 | .nl=>some .zs
 | .o id=>match qV M id with
  | some (.reg _ _ rows)=>some rows.pv
  | _=>none
 | _=>none
def HV.pq (M:Mem):HV→Option PV
 | .v x=>some x
 | .nl=>some .zs
 | .o id=>match qV M id with
  | some (.reg e sz rows)=>some (.gs e sz rows.pv)
  | _=>none
 | _=>none
def qKD (q:Bool) (M:Mem):Option (List PV):=match qV M pid with
 | some (.blk hs)=>bif q then (mapO (HV.pq M) hs).bind fun ps=>bif oneG ps then some ps else none else mapO (HV.pz M) hs
 | _=>none
def memB (q:Bool) (ps:List PV):Mem:=bif q then (pid,.blk (ps.map (PV.toQ (pid + 1)))) :: (match gEnt (qWQ ps) with
  | some (some e)=>[(pid + 1,e)]
  | _=>[]) else [(pid,.blk (ps.map PV.toH))]
def zVU (q:Bool) (x:PV):Option PV:=bif q then (bif x.flat then some x else none) else some x
def zGF:Ret→Option PV
 | .v x=>some x
 | .ow _ _ rows=>some rows.pv
 | .pb _=>none
 | .oa .. => none
def qJG (orc:Orc) (r:Nat→List HV→Mem→Option (Ret × Mem)):yZZ:=fun g ps=>match orc.a g with
 | some o=>o ps
 | none=>(r g (ps.map .v) []).bind fun r=>some r.1
def qYI (T:Tab) (orc:Orc) (r:Nat→List HV→Mem→Option (Ret × Mem)):zVB:=fun g hs ps=>match orc.b g with
 | some o=>o hs ps
 | none=>bif T.gk g then none else (r g hs (memB (T.gq g) ps)).bind fun r=>(qKD (T.gq g) r.2).bind fun ps'=>(zGF r.1).bind fun x=>(zVU (T.gq g) x).bind fun x=>some (x,ps')
def qKW:List CV→Option Ret
 | []=>none
 | .o _ e sz rows :: cs=>match cs with
  | []=>some (.oa [] e sz rows)
  | _=>none
 | .h x :: cs=>match x with
  | .v x=>(match qKW cs with
   | some (.oa xs e sz rows)=>some (.oa (x :: xs) e sz rows)
   | _=>none)
  | _=>none
def oaOf (T:Tab) (σ:St):List ResultVar→Option Ret
 | [.cell x t]=>bif T.oa t then (kH σ.S x).bind fun p=>(res σ.M p).bind fun p=>(T.sz t).bind fun k=>match p with
  | .p _ 0 cells=>bif k.1 && Nat.beq k.2 cells.length then qKW cells else none
  | _=>none
  else none
 | _=>none
def endK (T:Tab) (M:Mem) (res:List ResultVar) (e:Ex) (σ:St):Option (Ret × Mem):=match e with
 | .exit _=>none
 | _=>match oaOf T σ res with
  | some r=>bif M.isEmpty then some (r,σ.M) else none
  | none=>(mapO (zWW T σ) res).bind fun rs=>(zZV rs).bind fun r=>bif M.isEmpty || rs.all RV.still then some (r,σ.M) else none
def runF (T:Tab) (orc:Orc):Nat→Nat→List HV→Mem→Option (Ret × Mem)
 | 0,_,_,_=>none
 | N + 1,f,args,M=>match T.fn f with
  | none=>none
  | some fi=>bif Nat.ble args.length fi.ntmps then runC N ⟨T,qJG orc (runF T orc N),qYI T orc (runF T orc N),f,fi.ntmps⟩ fi.body (endK T M fi.results) ⟨initS 0 args,M⟩ else none
def run (T:Tab) (orc:Orc) (N f:Nat) (ps:List PV):Option Ret:=(runF T orc N f (ps.map .v) []).bind fun r=>some r.1
def runB (T:Tab) (orc:Orc) (N f:Nat) (hs:List HV) (ps:List PV):Option (PV × List PV):=(runF T orc N f hs (memB (T.gq f) ps)).bind fun r=>(qKD (T.gq f) r.2).bind fun ps'=>(zGF r.1).bind fun x=>(zVU (T.gq f) x).bind fun x=>some (x,ps')
end Go.Rx

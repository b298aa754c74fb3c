/- Part 2 of the texts behind the last one: rules and contracts. No condition. -/
import Derived.Test.YtglkkhpdbfacfaaBE1
open Option renaming map_eq_some_iff → vZK
open Option.some renaming injEq → vQZ
open List renaming getElem?_eq_getElem → vQK, mem_of_getElem? → vQW, getElem?_map → vQH, getElem?_take → vZU
open Nat renaming eq_of_beq_eq_true → vQU, le_of_ble_eq_true → vZJ
namespace Go.Rx
open Go.RowKit
inductive PV where
 | n (k:IntKind) (x:Int)
 | b (x:Bool)
 | s (x:ByteArray)
 | a (cs:List PV)
 | t (cs:List PV)
 | l (rows:List (List PV))
 | z (rows:List (List PV)) (j off:Nat)
 | c (cells:List PV) (off:Nat)
 | f (fn:Nat) (first cap:List PV)
 | ni
 | np
 | nf
 | zs
 | ze                                          -- nothing, with no room for more
 | nz                                          -- a nil slice, whatever its room
 | ne                                          -- nothing, not nil
 | lf (n:Nat) (f:Nat→List PV)
 | zf (n:Nat) (f:Nat→List PV) (j off:Nat)
 | gs (e sz:Nat) (x:PV)                    -- a growing slice in a block that is handed to a callee
inductive Cap where
 | v (x:PV)
 | p (id off:Nat)
def qWH (c:Bool):PV→PV→PV
 | .n k x,.n k' y=>match decide (k=k') with
  | true=>.n k (bif c then x else y)
  | false=>bif c then .n k x else .n k' y
 | .b x,.b y=>.b (bif c then x else y)
 | .s x,.s y=>.s (bif c then x else y)
 | x,y=>bif c then x else y
def qWG (m:PV→PV→PV) (c:Bool):List PV→List PV→List PV
 | [],[]=>[]
 | x :: xs,y :: ys=>m x y :: qWG m c xs ys
 | xs,ys=>bif c then xs else ys
def zUK (c:Bool):PV→PV→PV
 | .lf n f,.lf m g=>.lf (bif c then n else m) (fun v=>qWG (qWH c) c (f v) (g v))
 | x,y=>qWH c x y
def zUJ (c:Bool):PV→PV→PV
 | .lf n f,.lf m g=>.lf (bif c then n else m) (fun v=>qWG (zUK c) c (f v) (g v))
 | x,y=>qWH c x y
def kV (c:Bool):List PV→List PV→List PV:=qWG (zUJ c) c
inductive Rows where
 | l (rows:List (List PV))
 | fo (n:Nat) (f:Nat→List PV)
instance:Coe (List (List PV)) Rows:=⟨.l⟩
def Rows.L:Rows→List (List PV)
 | .l rows=>rows
 | .fo n f=>(List.range n).map f
def Rows.len:Rows→Nat
 | .l rows=>rows.length
 | .fo n _=>n
def Rows.pv:Rows→PV
 | .l rows=>.l rows
 | .fo n f=>.lf n f
def Rows.pz:Rows→Nat→Nat→PV
 | .l rows,j,off=>.z rows j off
 | .fo n f,j,off=>.zf n f j off
def Rows.at (j:Nat):Rows→Option (List PV)
 | .l rows=>rows[j]?
 | .fo _ f=>some (f j)
def Rows.set (j:Nat) (r:List PV):Rows→Rows
 | .l rows=>.l (rows.set j r)
 | .fo n f=>.fo n fun v=>kV (Nat.beq v j) r (f v)
def fnOf:List (List PV)→Nat→List PV
 | [],_=>[]
 | [r],_=>r
 | r :: s :: l,v=>kV (Nat.beq v 0) r (fnOf (s :: l) (v - 1))
def yZE:Nat→(Nat→List PV)→List (List PV)→Rows
 | n,f,[]=>.fo n f
 | n,f,r :: l=>yZE (n + 1) (fun v=>kV (Nat.beq v n) r (f v)) l
def Rows.app:Rows→Rows→Rows
 | .l a,.l b=>.l (a ++ b)
 | .l [],.fo m g=>.fo m g
 | .l (r :: a),.fo m g=>.fo (a.length + 1 + m) fun v=>kV (Nat.blt v (a.length + 1)) (fnOf (r :: a) v) (g (v - (a.length + 1)))
 | .fo n f,.l b=>yZE n f b
 | .fo n f,.fo m g=>.fo (n + m) fun v=>kV (Nat.blt v n) (f v) (g (v - n))
def Rows.take (j:Nat):Rows→Rows
 | .l rows=>.l (rows.take j)
 | .fo _ f=>.fo j f
def Rows.toF (z:List PV):Rows→Rows
 | .l []=>.fo 0 fun _=>z
 | .l (r :: a)=>.fo (a.length + 1) (fnOf (r :: a))
 | r=>r
def PV.rowsO:PV→Option Rows
 | .l rows=>some (.l rows)
 | .lf m g=>some (.fo m g)
 | _=>none
def qUK (c:Bool):Rows→Rows→Rows
 | .fo n f,.fo m g=>.fo (bif c then n else m) fun v=>kV c (f v) (g v)
 | x,y=>bif c then x else y
inductive NR where
 | l (rows:List Rows)
 | fo (n:Nat) (f:Nat→Rows)
def NR.len:NR→Nat
 | .l rows=>rows.length
 | .fo n _=>n
def NR.at (j:Nat):NR→Option Rows
 | .l rows=>rows[j]?
 | .fo _ f=>some (f j)
def NR.set (j:Nat) (r:Rows):NR→NR
 | .l rows=>.l (rows.set j r)
 | .fo n f=>.fo n fun v=>qUK (Nat.beq v j) r (f v)
def NR.rows:NR→Rows
 | .l rows=>.l (rows.map fun r=>[r.pv])
 | .fo n f=>.fo n fun v=>[(f v).pv]
inductive HC where
 | v (x:PV)
 | nl
 | o (id:Nat)
 | un
inductive HV where
 | v (x:PV)
 | nl
 | o (id:Nat)
 | p (id off:Nat)
 | q (id j off:Nat)
 | g (fn:Nat) (first:List PV) (cap:List Cap)
 | un
 | ag (cs:List HC)                           -- a struct that holds own slices
 | m (id j:Nat)                              -- an own slice within an own slice, as it lies there
 | mp (id j:Nat)                             -- .. grown, not stored yet
inductive Ent where
 | blk (cells:List HV)
 | reg (e sz:Nat) (rows:Rows)
 | itr (s:ByteArray) (pos:Nat)
 | nst (e ie isz:Nat) (rows:NR) (pd:Option (Nat × Rows))
abbrev Mem:=List (Nat × Ent)
def qX:Mem→Nat→Option Ent
 | [],_=>none
 | (k,x) :: M,i=>bif Nat.beq k i then some x else qX M i
def jJ:List (Nat × HV)→Nat→Option HV
 | [],_=>none
 | (k,x) :: M,i=>bif Nat.beq k i then some x else jJ M i
inductive CV where
 | h (x:HV)
 | o (id e sz:Nat) (rows:Rows)
inductive RC where
 | v (x:PV)
 | p (id off:Nat) (cells:List CV)
inductive RV where
 | v (x:PV)
 | nl
 | o (id e sz:Nat) (rows:Rows)
 | p (id off:Nat) (cells:List CV)
 | q (id j off e sz:Nat) (rows:Rows)
 | i (id off:Nat) (s:ByteArray) (pos:Nat)
 | g (fn:Nat) (first:List PV) (cap:List RC)
 | w (x:HV)
 | un
 | no (id e n:Nat)
 | nq (id j off e ie isz:Nat) (rows:NR) (pd:Option (Nat × Rows))
 | mi (id j e ie isz:Nat) (rows:NR) (pd:Option (Nat × Rows))
 | ld (id i:Nat)                             -- a block whose only cell holds the own slice i, not looked at
def mapO {α β:Type} (f:α→Option β):List α→Option (List β)
 | []=>some []
 | x :: xs=>(f x).bind fun y=>(mapO f xs).bind fun ys=>some (y :: ys)
def cvOf (M:Mem):HV→Option CV
 | .o id=>match qX M id with
  | some (.reg e sz rows)=>some (.o id e sz rows)
  | _=>none
 | x=>some (.h x)
def rcOf (M:Mem):Cap→Option RC
 | .v x=>some (.v x)
 | .p id off=>match qX M id with
  | some (.blk cells)=>(mapO (cvOf M) cells).bind fun cs=>some (.p id off cs)
  | _=>none
def res (M:Mem):HV→Option RV
 | .v x=>some (.v x)
 | .nl=>some .nl
 | .un=>some .un
 | .o id=>match qX M id with
  | some (.reg e sz rows)=>some (.o id e sz rows)
  | some (.nst e _ _ rows _)=>some (.no id e rows.len)
  | _=>none
 | .p id off=>match qX M id with
  | some (.blk cells)=>(mapO (cvOf M) cells).bind fun cs=>some (.p id off cs)
  | some (.itr s pos)=>some (.i id off s pos)
  | _=>none
 | .q id j off=>match qX M id with
  | some (.reg e sz rows)=>some (.q id j off e sz rows)
  | some (.nst e ie isz rows pd)=>some (.nq id j off e ie isz rows pd)
  | _=>none
 | .g fn first cap=>(mapO (rcOf M) cap).bind fun cs=>some (.g fn first cs)
 | .ag cs=>some (.w (.ag cs))
 | .m id j=>match qX M id with
  | some (.nst e ie isz rows pd)=>some (.mi id j e ie isz rows pd)
  | _=>none
 | .mp id j=>some (.w (.mp id j))
def sh:HV→RV
 | .v x=>.v x
 | .nl=>.nl
 | .un=>.un
 | x=>.w x
def mode:Op→Nat
 | .move _ | .assign _ | .pick .. | .fieldAddr .. | .nilCheck _ | .makeFunc .. | .box .. => 1
 | .indexAddr .. => 2
 | .load .. => 3
 | _=>0
def resM:Nat→Mem→HV→Option RV
 | 0,M,x=>res M x
 | 1,_,x=>some (sh x)
 | 2,M,.o id=>res M (.o id)
 | 2,_,x=>some (sh x)
 | _ + 3,M,.p id 0=>(match qX M id with
  | some (.blk [.o i2])=>some (.ld id i2)
  | _=>res M (.p id 0))
 | _ + 3,M,x=>res M x
def CV.back:CV→HV
 | .h x=>x
 | .o id _ _ _=>.o id
def RC.back:RC→Cap
 | .v x=>.v x
 | .p id off _=>.p id off
def RV.back:RV→HV
 | .v x=>.v x
 | .nl=>.nl
 | .o id _ _ _=>.o id
 | .p id off _=>.p id off
 | .q id j off _ _ _=>.q id j off
 | .i id off _ _=>.p id off
 | .g fn first cap=>.g fn first (cap.map RC.back)
 | .w x=>x
 | .un=>.un
 | .no id _ _=>.o id
 | .nq id j off _ _ _ _ _=>.q id j off
 | .mi id j _ _ _ _ _=>.m id j
 | .ld id _=>.p id 0
def CV.fz:CV→Option PV
 | .h (.v x)=>some x
 | .h .nl=>some (.l [])
 | .o _ _ _ rows=>some rows.pv
 | _=>none
def RC.fz:RC→Option PV
 | .v x=>some x
 | .p _ off cells=>(mapO CV.fz cells).bind fun cs=>some (.c cs off)
def RV.fz:RV→Option PV
 | .v x=>some x
 | .nl=>some (.l [])
 | .o _ _ _ rows=>some rows.pv
 | .p _ off cells=>(mapO CV.fz cells).bind fun cs=>some (.c cs off)
 | .q _ j off _ _ rows=>some (rows.pz j off)
 | .g fn first cap=>(mapO RC.fz cap).bind fun cs=>some (.f fn first cs)
 | _=>none
abbrev Regs:=List (Nat × Rows)
def CV.regs:CV→Regs
 | .o id _ _ rows=>[(id,rows)]
 | _=>[]
def catR {α:Type} (f:α→Regs):List α→Regs
 | []=>[]
 | x :: xs=>match f x with
  | []=>catR f xs
  | ys=>ys ++ catR f xs
def RV.regs:RV→Regs
 | .o id _ _ rows=>[(id,rows)]
 | .q id _ _ _ _ rows=>[(id,rows)]
 | _=>[]
def RV.still:RV→Bool
 | .p .. => false
 | .i .. => false
 | .w _=>false
 | .g _ _ cap=>cap.all fun c=>match c with | .v _=>true | .p .. => false
 | _=>true
structure Eff where
 up:List (Nat × Option Ent)
 sb:List (Nat × Option Rows)
 x:HV
 nw:List Nat
def Eff.val (x:HV):Eff:=⟨[],[],x,[]⟩
def Eff.new (id:Nat) (e:Ent) (x:HV):Eff:=⟨[(id,some e)],[],x,[id]⟩
def Eff.set (id:Nat) (e:Ent) (x:HV):Eff:=⟨[(id,some e)],[],x,[]⟩
def Eff.app (id:Nat) (e:Ent) (x:HV):Eff:=⟨[(id,some e)],[(id,none)],x,[]⟩
def Eff.and (e:Eff) (rs:Regs):Eff:=match rs with
 | []=>e
 | rs=>⟨e.up ++ rs.map fun r=>(r.1,none),e.sb ++ rs.map fun r=>(r.1,some r.2),e.x,e.nw⟩
def Eff.frz (rs:Regs) (x:HV):Eff:=(Eff.val x).and rs
def mid (id:Nat):Nat:=id + 3000000
def catL {α:Type} (f:α→List Nat):List α→List Nat
 | []=>[]
 | x :: xs=>match f x with
  | []=>catL f xs
  | ys=>ys ++ catL f xs
def HC.ids:HC→List Nat
 | .o id=>[id]
 | _=>[]
def HV.ids:HV→List Nat
 | .o id=>[id]
 | .q id _ _=>[id]
 | .ag cs=>catL HC.ids cs
 | .m id _=>[id,mid id]
 | .mp id _=>[id,mid id]
 | _=>[]
def Cap.every:Cap→List Nat
 | .v _=>[]
 | .p id _=>[id]
def HV.every:HV→List Nat
 | .o id=>[id]
 | .p id _=>[id]
 | .q id _ _=>[id]
 | .g _ _ cap=>catL Cap.every cap
 | .ag cs=>catL HC.ids cs
 | .m id _=>[id]
 | .mp id _=>[id]
 | _=>[]
def CV.fol:CV→List Nat
 | .h _=>[]
 | .o id _ _ _=>[id]
def RC.fol:RC→List Nat
 | .v _=>[]
 | .p id _ cells=>id :: catL CV.fol cells
def RV.fol:RV→List Nat
 | .o id _ _ _=>[id]
 | .p id _ cells=>id :: catL CV.fol cells
 | .q id _ _ _ _ _=>[id]
 | .i id _ _ _=>[id]
 | .g _ _ cap=>catL RC.fol cap
 | .no id _ _=>[id]
 | .nq id .. => [id]
 | .mi id .. => [id]
 | .ld id _=>[id]
 | _=>[]
def CV.ids:CV→List Nat
 | .h x=>x.ids
 | .o id _ _ _=>[id]
def RC.ids:RC→List Nat
 | .v _=>[]
 | .p id _ cells=>id :: catL CV.ids cells
def RV.ids:RV→List Nat
 | .o id _ _ _=>[id]
 | .p id _ cells=>id :: catL CV.ids cells
 | .q id _ _ _ _ _=>[id]
 | .i id _ _ _=>[id]
 | .g _ _ cap=>catL RC.ids cap
 | .w x=>x.ids
 | .no id _ _=>[id]
 | .nq id .. => [id]
 | .mi id .. => [id,mid id]
 | .ld id k=>[id,k]
 | _=>[]
def Ent.ids:Ent→List Nat
 | .blk cells=>catL HV.ids cells
 | _=>[]
def jQX (u:Nat × Option Ent):List Nat:=match u.2 with
 | some e=>u.1 :: e.ids
 | none=>[u.1]
def Eff.wr (e:Eff):List Nat:=e.up.map (·.1) ++ e.sb.map (·.1)
def Eff.all (e:Eff):List Nat:=catL jQX e.up ++ e.x.ids ++ e.nw
def zZ:List (Nat × Option Rows)→Nat→Option (Option Rows)
 | [],_=>none
 | (k,x) :: M,i=>bif Nat.beq k i then some x else zZ M i
def HC.sub (sb:List (Nat × Option Rows)):HC→HC
 | .o id=>match zZ sb id with
  | none=>.o id
  | some none=>.un
  | some (some rows)=>.v rows.pv
 | x=>x
def HC.h:HC→HV
 | .v x=>.v x
 | .nl=>.nl
 | .o id=>.o id
 | .un=>.un
def HV.sub (sb:List (Nat × Option Rows)):HV→HV
 | .o id=>match zZ sb id with
  | none=>.o id
  | some none=>.un
  | some (some rows)=>.v rows.pv
 | .q id j off=>match zZ sb id with
  | none=>.q id j off
  | some none=>.un
  | some (some rows)=>.v (rows.pz j off)
 | .ag cs=>.ag (cs.map (HC.sub sb))
 | .m id j=>match zZ sb id,zZ sb (mid id) with
  | none,none=>.m id j
  | _,_=>.un
 | .mp id j=>match zZ sb id,zZ sb (mid id) with
  | none,none=>.mp id j
  | _,_=>.un
 | x=>x
def Ent.sub (sb:List (Nat × Option Rows)):Ent→Ent
 | .blk cells=>.blk (cells.map (HV.sub sb))
 | x=>x
def remM (i:Nat):Mem→Mem
 | []=>[]
 | (k,x) :: M=>bif Nat.beq k i then remM i M else (k,x) :: remM i M
def putM (i:Nat) (e:Ent):Mem→Mem
 | []=>[(i,e)]
 | (k,x) :: M=>bif Nat.beq k i then (i,e) :: M else (k,x) :: putM i e M
def ups:List (Nat × Option Ent)→Mem→Mem
 | [],M=>M
 | (i,some e) :: l,M=>ups l (putM i e M)
 | (i,none) :: l,M=>ups l (remM i M)
structure St where
 S:List (Nat × HV)
 M:Mem
def subS (sb:List (Nat × Option Rows)) (S:List (Nat × HV)):List (Nat × HV):=match sb with
 | []=>S
 | y :: ys=>S.map fun x=>(x.1,x.2.sub (y :: ys))
def subM (sb:List (Nat × Option Rows)) (M:Mem):Mem:=match sb with
 | []=>M
 | y :: ys=>M.map fun x=>(x.1,x.2.sub (y :: ys))
def St.apply (σ:St) (e:Eff) (dst:Option Nat):St :=
 ⟨match dst with | some d=>(d,e.x) :: subS e.sb σ.S | none=>subS e.sb σ.S,ups e.up (subM e.sb σ.M)⟩
structure FnI where
 body:Code
 ntmps:Nat
 results:List ResultVar
structure Hint where
 keep:List Nat:=[]
 ids:List Nat:=[]
 own:List (Nat × Nat × Nat × Nat):=[]      -- slot, id, elem, size
 frz:List Nat:=[]
 out:Option (List Nat × List Nat):=none    -- behind the loop: slots, ids
 fun_:List (Nat × List PV):=[]             -- own slices that become functions: id, zero row
 ownB:List (Nat × Nat × Nat × Nat × Nat):=[]   -- nil slices in a block: block, cell, id, elem, size
 unn:List Nat:=[]                          -- behind the loop: own slices within own slices are frozen
inductive Kd where
 | i (k:IntKind)
 | b
 | s
 deriving DecidableEq
structure Tab where
 sz:Nat→Option (Bool × Nat)
 zr:Nat→Option (List PV)
 zh:Nat→Option (List HV)
 fd:Nat→Nat→Option Nat
 fx:Nat→Nat→Option (Nat × Bool × Nat)
 ar:Nat→Option (Nat × Nat × Bool)
 sl:Nat→Option (Nat × Nat)
 ly:Nat→Option (List (Nat × Nat))
 ik:Nat→Option IntKind
 str:Nat→Bool
 bo:Nat→Bool
 eqK:Nat→Option (List Kd)
 fn:Nat→Option FnI
 hint:Nat→Nat→Hint
 rw:Nat→Bool
 dd:Nat→Bool
 ownR:Nat→Nat→Bool
 ff:Nat→Bool:=fun _=>false             -- functions whose slices are kept as functions
 bd:Nat→Nat:=fun _=>1000000            -- how long a slice of these elements may grow
 zf:Nat→Bool:=fun _=>false             -- functions in which a slice made without room is .ze
 bf:Nat→Bool:=fun _=>false             -- functions whose built slices are functions
 agf:Nat→Bool:=fun _=>false            -- functions in which a struct may hold own slices
 sf:Nat→Bool:=fun _=>false             -- functions that freeze the own slices that they store in a block
 nf:Nat→Bool:=fun _=>false             -- functions in which a slice of slices that is made holds own slices
 gq:Nat→Bool:=fun _=>false             -- functions that write a block with a growing slice
 gk:Nat→Bool:=fun _=>false             -- .. that write only in the slice
 dr:Nat→Nat→Option Hint:=fun _ _=>none -- what stays alive where a region begins
inductive Ret where
 | v (x:PV)
 | ow (e sz:Nat) (rows:Rows)
 | pb (cells:List PV)
def zHW {α:Type}:List α→Nat→Option (List α)
 | _,0=>some []
 | c :: cs,k + 1=>(zHW cs k).bind fun l=>some (c :: l)
 | [],_ + 1=>none
def qZC {α:Type}:List α→Nat→Nat→Option (List α)
 | cs,0,k=>zHW cs k
 | _ :: cs,off + 1,k=>qZC cs off k
 | [],_ + 1,_=>none
def uQ {α:Type}:List α→Nat→List α→Option (List α)
 | cs,0,[]=>some cs
 | _ :: cs,0,v :: vs=>(uQ cs 0 vs).bind fun l=>some (v :: l)
 | c :: cs,off + 1,vs=>(uQ cs off vs).bind fun l=>some (c :: l)
 | [],0,_ :: _=>none
 | [],_ + 1,_=>none
def PV.cells:PV→List PV
 | .a cs=>cs
 | x=>[x]
def PV.flat1:PV→Bool
 | .n .. => true
 | .b _=>true
 | .s _=>true
 | _=>false
def PV.flat2:PV→Bool
 | .a cs=>cs.all PV.flat1
 | x=>x.flat1
def PV.flat:PV→Bool
 | .t cs=>cs.all PV.flat2
 | x=>x.flat2
def kdIs:Kd→PV→Bool
 | .i k,.n k' _=>decide (k=k')
 | .b,.b _=>true
 | .s,.s _=>true
 | _,_=>false
def qJB:List Kd→List PV→Bool
 | [],[]=>true
 | k :: ks,p :: ps=>kdIs k p && qJB ks ps
 | _,_=>false
def jGJ:PV→PV→Option Bool
 | .n _ x,.n _ y=>some (decide (x=y))
 | .b x,.b y=>some (x == y)
 | .s x,.s y=>some (x == y)
 | _,_=>none
def qHK:List PV→List PV→Option Bool
 | [],[]=>some true
 | x :: xs,y :: ys=>(jGJ x y).bind fun e=>(qHK xs ys).bind fun es=>some (e && es)
 | _,_=>none
def qXD:Value→Option PV
 | .int k x=>some (.n k x)
 | .bool x=>some (.b x)
 | .string x=>some (.s x)
 | .nilIface=>some .ni
 | .pointer none=>some .np
 | .nilFunc=>some .nf
 | .slice none 0 0=>some .zs
 | _=>none
def zVY:Value→Option RV
 | .slice none 0 0=>some .nl
 | .agg cs=>(mapO qXD cs.toList).bind fun l=>some (.v (.a l))
 | x=>(qXD x).bind fun y=>some (.v y)
def opv (m:Nat) (σ:St):Operand→Option RV
 | .tmp t=>(jJ σ.S t).bind (resM m σ.M)
 | .const v=>zVY v
 | .func f=>some (.v (.f f [] []))
 | .global _=>none
def binI (op:BinOp) (k:IntKind) (x y:Int):Option PV :=
 match op with
 | .add=>some (.n k (k.wrap (x + y)))
 | .sub=>some (.n k (k.wrap (x - y)))
 | .mul=>some (.n k (k.wrap (x * y)))
 | .quo=>bif decide (y=0) then none else some (.n k (k.wrap (x.tdiv y)))
 | .rem=>bif decide (y=0) then none else some (.n k (x.tmod y))
 | .and=>some (.n k (k.wrap ((BitVec.ofInt k.bits x &&& BitVec.ofInt k.bits y).toNat)))
 | .lss=>some (.b (decide (x < y)))
 | .leq=>some (.b (decide (x≤y)))
 | .gtr=>some (.b (decide (y < x)))
 | .geq=>some (.b (decide (y≤x)))
 | .eql=>some (.b (decide (x=y)))
 | .neq=>some (.b (!decide (x=y)))
 | _=>none
def binP (T:Tab) (op:BinOp) (t:Nat) (x y:PV):Option PV :=
 match op,x,y with
 | .shl,.n k x,.n _ y=>bif decide (0≤y) then some (.n k (k.wrap (x * 2 ^ (min y.toNat k.bits)))) else none
 | .shr,.n k x,.n _ y=>bif decide (0≤y) then some (.n k (x.fdiv (2 ^ (min y.toNat k.bits)))) else none
 | op,.n k x,.n k' y=>bif decide (k=k') then binI op k x y else none
 | .eql,.s x,.s y=>bif T.str t then some (.b (x.toList == y.toList)) else none
 | .neq,.s x,.s y=>bif T.str t then some (.b (!(x.toList == y.toList))) else none
 | .eql,.b x,.b y=>bif T.bo t then some (.b (x == y)) else none
 | .neq,.b x,.b y=>bif T.bo t then some (.b (!(x == y))) else none
 | .eql,.a x,.a y=>(T.eqK t).bind fun ks=>bif qJB ks x && qJB ks y then (qHK x y).bind fun e=>some (.b e) else none
 | .neq,.a x,.a y=>(T.eqK t).bind fun ks=>bif qJB ks x && qJB ks y then (qHK x y).bind fun e=>some (.b (!e)) else none
 | _,_,_=>none
def yHH:BinOp→PV→Option PV
 | .eql,.l (_ :: _)=>some (.b false)
 | .neq,.l (_ :: _)=>some (.b true)
 | .eql,.nz=>some (.b true)
 | .eql,.ne=>some (.b false)
 | .eql,.lf (_ + 1) _=>some (.b false)
 | .neq,.lf (_ + 1) _=>some (.b true)
 | _,_=>none
def RV.pv:RV→Option PV
 | .v x=>some x
 | _=>none
def yHQ:RV→Option Cap
 | .v y=>some (.v y)
 | .w (.p id off)=>some (.p id off)
 | _=>none
def PV.toH:PV→HV
 | .zs=>.nl
 | x=>.v x
def RV.hcells:RV→Option (List HV)
 | .v (.a cs)=>some (cs.map PV.toH)
 | .v (.t _)=>none
 | .un=>none
 | .w (.v _)=>none
 | .w .un=>none
 | .w (.ag cs)=>some (cs.map HC.h)
 | x=>some [x.back]
def RV.pcells:RV→Option (List PV × Regs)
 | .v (.t _)=>none
 | .v x=>some (x.cells,[])
 | .nl=>some ([.l []],[])
 | .o id _ _ rows=>some ([rows.pv],[(id,rows)])
 | _=>none
def zKU:List RV→Option (List (List PV) × Regs)
 | []=>some ([],[])
 | x :: xs=>x.pcells.bind fun c=>(zKU xs).bind fun r=>some (c.1 :: r.1,match c.2 with | []=>r.2 | q=>q ++ r.2)
def PV.toC:PV→HC
 | .zs=>.nl
 | x=>.v x
def RV.ccells:RV→Option (List HC)
 | .v (.t _)=>none
 | .v x=>some (x.cells.map PV.toC)
 | .nl=>some [.nl]
 | .o id _ _ _=>some [.o id]
 | .w (.ag cs)=>some cs
 | _=>none
def RV.isO:RV→Bool
 | .o .. => true
 | .w (.ag _)=>true
 | _=>false
def yKX {α:Type} (pl:List (Nat × Nat)):List α→List Nat→List (List α)→Option (List α)
 | cells,[],[]=>some cells
 | cells,i :: is,v :: vs=>(pl[i]?).bind fun x=>bif Nat.beq v.length x.2 then (uQ cells x.1 v).bind fun cs=>yKX pl cs is vs else none
 | _,_,_=>none
def yGJ (sz:Nat):List (List PV)→List Nat→List (List PV)→Option (List (List PV))
 | rows,[],[]=>some rows
 | rows,i :: is,v :: vs=>bif Nat.blt i rows.length && Nat.beq v.length sz then yGJ sz (rows.set i v) is vs else none
 | _,_,_=>none
def qZQ {α:Type} (x:α):Nat→List α
 | 0=>[]
 | k + 1=>x :: qZQ x k
def disj:List Nat→List Nat→Bool
 | [],_=>true
 | x :: xs,ys => !(ys.any (Nat.beq x)) && disj xs ys
def zQF (lo hi:Option Operand) (vs:List RV):Option (Option Int × Option Int):=match lo,hi,vs with
 | some _,some _,[.v (.n _ i),.v (.n _ j)]=>some (some i,some j)
 | none,some _,[.v (.n _ j)]=>some (none,some j)
 | some _,none,[.v (.n _ i)]=>some (some i,none)
 | _,_,_=>none
def loOf:Option Int→Nat
 | some i=>i.toNat
 | none=>0
def hiOf (j:Option Int) (n:Nat):Nat:=match j with
 | some j=>j.toNat
 | none=>n
def inS (i j:Option Int) (n:Nat):Bool:=(match i with | some i=>decide (0≤i) | none=>true) && (match j with | some j=>decide (0≤j) | none=>true) && decide (loOf i≤hiOf j n) && decide (hiOf j n≤n)
def qHX (rows:List (List PV)) (l k:Nat):Bool:=(rows[l]?).all fun r=>Nat.beq r.length k
def Rows.ok (k:Nat):Rows→Bool
 | .l rows=>qHX rows 0 k
 | .fo _ f=>Nat.beq (f 0).length k
def zUZ:RV→Option Rows
 | .v (.l rows)=>some (.l rows)
 | .v (.lf n f)=>some (.fo n f)
 | .v .ne=>some (.l [])
 | .o _ _ _ rows=>some rows
 | .nl=>some (.l [])
 | _=>none
def inB (i:Int) (n:Nat):Bool:=decide (0≤i) && decide (i.toNat < n)
abbrev yUL:=Nat→List PV→Option Ret
abbrev zVG:=Nat→List HV→List PV→Option (PV × List PV)
def pid:Nat:=1000000
def pid2:Nat:=1000002
def zKZ (T:Tab) (fnid dst:Nat) (hs:Regs):Ret→Option Eff
 | .v x=>match hs with
  | []=>some (.val (.v x))
  | hs=>bif x.flat then some (.val (.v x)) else some (.frz hs (.v x))
 | .ow e sz rows=>bif T.ownR fnid dst then
   (match hs with
     | []=>some (.new dst (.reg e sz rows) (.o dst))
     | _=>none)
  else (match hs with
     | []=>some (.val (.v rows.pv))
     | hs=>some (.frz hs (.v rows.pv)))
 | .pb cells=>match hs with
  | []=>some (.new dst (.blk (cells.map .v)) (.p dst 0))
  | _=>none
def qXE (T:Tab) (qYE:yUL) (me dst:Nat) (f:Nat) (args:List RV):Option Eff :=
 (mapO RV.fz args).bind fun ps=>(qYE f ps).bind fun r =>
  bif args.all RV.still then zKZ T me dst (catR RV.regs args) r
  else match r with
   | .v x=>bif x.flat then some (.val (.v x)) else none
   | .ow _ _ (.l rows)=>bif rows.all (fun r=>r.all PV.flat1) then some (.val (.v (.l rows))) else none
   | _=>none
def CV.pv:CV→Option PV
 | .h (.v x)=>some x
 | .h .nl=>some .zs
 | _=>none
def zYA:List RV→Option (Nat × List CV)
 | []=>none
 | x :: xs=>match x with
  | .p id _ cells=>some (id,cells)
  | _=>zYA xs
def RV.toB (id:Nat):RV→Option HV
 | .p id' off _=>bif Nat.beq id' id then some (.p pid off) else none
 | x=>bif x.still then x.fz.bind fun y=>some (.v y) else none
def CV.pvq:CV→Option PV
 | .h (.v x)=>some x
 | .h .nl=>some .zs
 | .o _ e sz rows=>some (.gs e sz rows.pv)
 | _=>none
def qJQ:List CV→Option Nat
 | []=>none
 | .o id _ _ _ :: _=>some id
 | _ :: cs=>qJQ cs
def qJZ:List PV→Option (Nat × Nat × PV)
 | []=>none
 | .gs e sz x :: _=>some (e,sz,x)
 | _ :: ps=>qJZ ps
def oneG:List PV→Bool
 | []=>true
 | .gs .. :: ps=>(qJZ ps).isNone
 | _ :: ps=>oneG ps
def PV.toQ (id:Nat):PV→HV
 | .gs .. => .o id
 | .zs=>.nl
 | x=>.v x
def gEnt:Option (Nat × Nat × PV)→Option (Option Ent)
 | none=>some none
 | some (e,sz,x)=>x.rowsO.bind fun rows=>some (some (.reg e sz rows))
def qYD (qQC:zVG) (dst f:Nat) (args:List RV):Option Eff :=
 (zYA args).bind fun p=>(mapO CV.pvq p.2).bind fun ps=>(mapO (RV.toB p.1) args).bind fun hs=>(qQC f hs ps).bind fun r =>
  (gEnt (qJZ r.2)).bind fun ent=>bif oneG ps && oneG r.2 && (catR RV.regs args).isEmpty && !(Nat.beq p.1 ((qJQ p.2).getD (100000 + dst))) && r.1.flat && !(Nat.beq p.1 pid2) then
   some ⟨[(p.1,some (.blk (r.2.map (PV.toQ ((qJQ p.2).getD (100000 + dst)))))),((qJQ p.2).getD (100000 + dst),ent)],[((qJQ p.2).getD (100000 + dst),none)],.v r.1,match qJQ p.2 with | some _=>[] | none=>[100000 + dst]⟩ else none
def qVE (qQC:zVG) (f:Nat) (args:List RV):Option Eff :=
 (zYA args).bind fun p=>(mapO CV.pv p.2).bind fun ps=>(mapO (RV.toB p.1) args).bind fun hs=>(qQC f hs ps).bind fun r =>
  bif Nat.beq p.1 pid2 then none else some (Eff.and (.set p.1 (.blk (r.2.map PV.toH)) (.v r.1)) (catR RV.regs args))
def qZE (qQC:zVG) (f:Nat) (args:List RV):Option Eff :=
 (zYA args).bind fun p=>match p.2 with
  | [.o m e sz rows]=>(mapO (RV.toB p.1) args).bind fun hs=>(qQC f hs [.gs e sz rows.pv]).bind fun r=>match r.2 with
   | [.gs e2 sz2 y]=>y.rowsO.bind fun rows2=>bif Nat.beq sz2 sz && (catR RV.regs args).isEmpty && !(Nat.beq p.1 m) && r.1.flat then some ⟨[(m,some (.reg e2 sz2 rows2))],[],.v r.1,[]⟩ else none
   | _=>none
  | _=>none
def qK (T:Tab) (qYE:yUL) (qQC:zVG) (me dst:Nat) (op:Op) (vs:List RV):Option Eff :=
 match op,vs with
 | .move _,[x]=>some (.val x.back)
 | .assign _,[x]=>some (.val x.back)
 | .pick ..,[.v (.b c),x,y]=>some (.val (bif c then x.back else y.back))
 | .alloc t,[]=>(T.zh t).bind fun cs=>some (.new dst (.blk cs) (.p dst 0))
 | .box _ _,[x]=>x.hcells.bind fun hs=>some (.new dst (.blk hs) (.p dst 0))
 | .build t ps,vs=>(T.zr t).bind fun zs=>(T.ly t).bind fun pl=>bif T.agf me && vs.any RV.isO then (mapO RV.ccells vs).bind fun r =>
   (yKX pl (zs.map PV.toC) (ps.toList.map (·.1)) r).bind fun cs=>some (.val (.ag cs)) else (zKU vs).bind fun r =>
   (yKX pl zs (ps.toList.map (·.1)) r.1).bind fun cs=>some (.frz r.2 (.v (.a cs)))
 | .buildSlice t len ps,vs=>(T.sl t).bind fun e=>(T.zr e.1).bind fun zs=>(zKU vs).bind fun r =>
   bif Nat.ble (len * e.2) 16777216 then (yGJ e.2 (qZQ zs len) (ps.toList.map (·.1)) r.1).bind fun rows=>some ((Eff.new dst (.reg e.1 e.2 (bif T.bf me then (Rows.l rows).toF zs else .l rows)) (.o dst)).and r.2) else none
 | .load t _,[x]=>(T.sz t).bind fun k=>match x with
   | .p _ off cells=>bif k.1 then
     (qZC cells off k.2).bind fun cs=>(mapO CV.fz cs).bind fun ps=>some (.frz (catR CV.regs cs) (.v (.a ps)))
    else (cells[off]?).bind fun c=>some (.val c.back)
   | .q _ j off _ _ rows=>(rows.at j).bind fun r=>bif k.1 then (qZC r off k.2).bind fun cs=>some (.val (.v (.a cs))) else (r[off]?).bind fun c=>some (.val c.toH)
   | .v (.z rows j off)=>(rows[j]?).bind fun r=>bif k.1 then (qZC r off k.2).bind fun cs=>some (.val (.v (.a cs))) else (r[off]?).bind fun c=>some (.val c.toH)
   | .v (.c cells off)=>bif k.1 then (qZC cells off k.2).bind fun cs=>some (.val (.v (.a cs))) else (cells[off]?).bind fun c=>some (.val c.toH)
   | .v (.zf _ f j off)=>bif k.1 then (qZC (f j) off k.2).bind fun cs=>some (.val (.v (.a cs))) else ((f j)[off]?).bind fun c=>some (.val c.toH)
   | .nq id j 0 _ _ _ _ none=>bif k.1 then none else some (.val (.m id j))
   | .ld _ i=>bif k.1 then none else some (.val (.o i))
   | _=>none
 | .store t _ _,[x,y]=>(T.sz t).bind fun k=>match x with
   | .p id off cells=>bif Nat.beq id pid2 then none else bif T.sf me && y.isO then y.pcells.bind fun c=>(bif Nat.beq c.1.length k.2 && disj [id] (c.2.map (·.1)) then
      (uQ ((cells.map CV.back).map (HV.sub (c.2.map fun r=>(r.1,some r.2)))) off (c.1.map HV.v)).bind fun cs=>some ((Eff.set id (.blk cs) .un).and c.2) else none)
     else y.hcells.bind fun hs=>bif Nat.beq hs.length k.2 then (uQ (cells.map CV.back) off hs).bind fun cs=>some (.set id (.blk cs) .un) else none
   | .q id j off e sz rows=>y.pcells.bind fun c=>(rows.at j).bind fun r=>bif Nat.beq c.1.length k.2 && disj [id] (c.2.map (·.1)) then (uQ r off c.1).bind fun r'=>some ((Eff.set id (.reg e sz (rows.set j r')) .un).and c.2) else none
   | .nq id j 0 e ie isz rows (some (j',r))=>match y with
    | .w (.mp id' j'')=>bif !k.1 && Nat.beq id' id && Nat.beq j' j && Nat.beq j'' j then some ⟨[(id,some (.nst e ie isz (rows.set j r) none))],[(mid id,none)],.un,[]⟩ else none
    | _=>none
   | _=>none
 | .nilCheck _,[x]=>match x with
   | .w (.p ..)=>some (.val x.back)
   | .w (.q ..)=>some (.val x.back)
   | .v (.z ..)=>some (.val x.back)
   | .v (.c ..)=>some (.val x.back)
   | .v (.zf ..)=>some (.val x.back)
   | _=>none
 | .binOp op t _ _ _,[.v x,.v y]=>(binP T op t x y).bind fun r=>some (.val (.v r))
 | .binOp op t _ _ _,[.v x,.nl]=>(T.sl t).bind fun _=>(yHH op x).bind fun r=>some (.val (.v r))
 | .unOp .not _ _,[.v (.b x)]=>some (.val (.v (.b (!x))))
 | .unOp .neg _ _,[.v (.n k x)]=>some (.val (.v (.n k (k.wrap (0 - x)))))
 | .convert s d _,[.v (.n k x)]=>(T.ik s).bind fun k1=>(T.ik d).bind fun k2=>bif decide (k=k1) then some (.val (.v (.n k2 (k2.wrap x)))) else none
 | .makeFunc (.func fn) first _,vs=>(mapO RV.pv (vs.take first.size)).bind fun fs =>
   (match mapO RV.pv (vs.drop first.size) with
     | some cs=>some (.val (.v (.f fn fs cs)))
     | none=>(mapO yHQ (vs.drop first.size)).bind fun cs=>some (.val (.g fn fs cs)))
 | .makeSlice t _ _,[.v (.n _ n),.v (.n _ c)]=>(T.sl t).bind fun e=>(T.zr e.1).bind fun zs =>
   bif T.zf me && (decide (n=0) && decide (c=0)) then some (.val (.v .ze)) else
   bif T.nf me then (T.sl e.1).bind fun q=>(T.zr q.1).bind fun z2=>(match zs with
    | [.zs]=>bif decide (0≤n) && decide (n≤c) && decide (c≤1000000) && Nat.beq e.2 1 then some ⟨[(dst,some (.nst e.1 q.1 q.2 (bif T.ff me then .fo n.toNat (fun _=>.fo 0 (fun _=>z2)) else .l (qZQ (.l []) n.toNat)) none))],[(mid dst,none)],.o dst,[dst]⟩ else none
    | _=>none) else
   bif decide (0≤n) && decide (n≤c) && decide (c≤1000000) then some (.new dst (.reg e.1 e.2 (bif T.ff me then .fo n.toNat (fun _=>zs) else .l (qZQ zs n.toNat))) (.o dst)) else none
 | .slice t _ lo hi none,x :: vs=>(zQF lo hi vs).bind fun b=>(match x with
   | .v (.s s)=>bif T.str t && inS b.1 b.2 s.size then some (.val (.v (.s (s.extract (loOf b.1) (hiOf b.2 s.size))))) else none
   | .v (.lf n f)=>(T.sl t).bind fun e=>bif inS b.1 b.2 n then (bif Nat.beq (f (loOf b.1)).length e.2 then some (.val (.v (.lf (hiOf b.2 n - loOf b.1) fun v=>f (v + loOf b.1)))) else none) else none
   | .v (.l rows)=>(T.sl t).bind fun e=>bif inS b.1 b.2 rows.length && qHX rows (loOf b.1) e.2 then some (.val (.v (.l ((rows.take (hiOf b.2 rows.length)).drop (loOf b.1))))) else none
   | .o id e' sz rows=>(match b with
     | (none,some j)=>(T.sl t).bind fun e=>bif Nat.beq sz e.2 && decide (0≤j) && decide (j.toNat≤rows.len) then some (.app id (.reg e' sz (rows.take j.toNat)) (.o id)) else none
     | _=>none)
   | _=>none)
 | .fieldAddr t _ f,[x]=>(T.fd t f).bind fun o=>match x with
   | .w (.p id off)=>some (.val (.p id (off + o)))
   | .w (.q id j off)=>some (.val (.q id j (off + o)))
   | .v (.z rows j off)=>some (.val (.v (.z rows j (off + o))))
   | .v (.c cells off)=>some (.val (.v (.c cells (off + o))))
   | .v (.zf n f j off)=>some (.val (.v (.zf n f j (off + o))))
   | _=>none
 | .field t _ f,[.v (.a cs)]=>(T.fx t f).bind fun o=>bif o.2.1 then (qZC cs o.1 o.2.2).bind fun r=>some (.val (.v (.a r))) else (cs[o.1]?).bind fun r=>some (.val r.toH)
 | .indexAddr t _ _,[x,.v (.n _ i)]=>match x with
   | .w (.p id off)=>(T.ar t).bind fun k=>bif inB i k.1 then some (.val (.p id (off + i.toNat * k.2.1))) else none
   | .w (.q id j off)=>(T.ar t).bind fun k=>bif inB i k.1 then some (.val (.q id j (off + i.toNat * k.2.1))) else none
   | .v (.c cells off)=>(T.ar t).bind fun k=>bif inB i k.1 then some (.val (.v (.c cells (off + i.toNat * k.2.1)))) else none
   | .v (.z rows j off)=>(T.ar t).bind fun k=>bif inB i k.1 then some (.val (.v (.z rows j (off + i.toNat * k.2.1)))) else none
   | .o id _ sz rows=>(T.sl t).bind fun e=>bif inB i rows.len && Nat.beq sz e.2 then some (.val (.q id i.toNat 0)) else none
   | .no id _ n=>(T.sl t).bind fun e=>bif inB i n && Nat.beq 1 e.2 then some (.val (.q id i.toNat 0)) else none
   | .v (.zf n f j off)=>(T.ar t).bind fun k=>bif inB i k.1 then some (.val (.v (.zf n f j (off + i.toNat * k.2.1)))) else none
   | .v (.lf n f)=>(T.sl t).bind fun e=>bif inB i n && Nat.beq (f i.toNat).length e.2 then some (.val (.v (.zf n f i.toNat 0))) else none
   | .v (.l rows)=>(T.sl t).bind fun e=>(rows[i.toNat]?).bind fun r=>bif decide (0≤i) && Nat.beq r.length e.2 then some (.val (.v (.z rows i.toNat 0))) else none
   | _=>none
 | .index t _ _,[x,.v (.n _ i)]=>match x with
   | .v (.a cs)=>(T.ar t).bind fun k=>bif inB i k.1 then (bif k.2.2 then (qZC cs (i.toNat * k.2.1) k.2.1).bind fun r=>some (.val (.v (.a r))) else (cs[i.toNat]?).bind fun r=>some (.val r.toH)) else none
   | .v (.s s)=>bif T.str t && decide (0≤i) then (s[i.toNat]?).bind fun b=>some (.val (.v (.n .u8 (b.toNat:Int)))) else none
   | _=>none
 | .range t _,[.v (.s s)]=>bif T.str t then some (.new dst (.itr s 0) (.p dst 0)) else none
 | .next _ true,[.i id 0 s pos] =>
   bif Nat.beq id pid2 then none else bif decide (pos < s.size) then
    let r:=Utf8.decode s pos
    some (.set id (.itr s (pos + r.2)) (.v (.t [.b true,.n .i64 (pos:Int),.n .i32 (r.1:Int)])))
   else some (.val (.v (.t [.b false])))
 | .extract _ i,[.v (.t cs)]=>(cs[i]?).bind fun r=>some (.val r.toH)
 | .call ⟨.builtin b,_,ats⟩,vs=>match b,vs with
   | .len,[x]=>(match x with
     | .v (.s s)=>(match ats[0]? with | some t=>bif T.str t then some (.val (.v (.n .i64 (s.size:Int)))) else none | none=>none)
     | .v (.l rows)=>(match ats[0]? with | some t=>(T.sl t).bind fun _=>some (.val (.v (.n .i64 (rows.length:Int)))) | none=>none)
     | .v (.lf n _)=>(match ats[0]? with | some t=>(T.sl t).bind fun _=>some (.val (.v (.n .i64 (n:Int)))) | none=>none)
     | .nl=>(match ats[0]? with | some t=>(T.sl t).bind fun _=>some (.val (.v (.n .i64 0))) | none=>none)
     | .o _ _ _ rows=>(match ats[0]? with | some t=>(T.sl t).bind fun _=>some (.val (.v (.n .i64 (rows.len:Int)))) | none=>none)
     | _=>none)
   | .min,[.v (.n k x),.v (.n k' y)]=>bif decide (k=k') then some (.val (.v (.n k (min x y)))) else none
   | .max,[.v (.n k x),.v (.n k' y)]=>bif decide (k=k') then some (.val (.v (.n k (max x y)))) else none
   | .append,[x,y]=>(match ats.toList with
     | [t,t']=>bif Nat.beq t t' then (T.sl t).bind fun e=>(zUZ y).bind fun news=>bif news.ok e.2 then (match x with
       | .nl=>bif decide (news.len≤T.bd e.1) then some (.new dst (.reg e.1 e.2 news) (.o dst)) else none
       | .v .ze=>bif decide (news.len≤T.bd e.1) && decide (0 < news.len) then some (.new dst (.reg e.1 e.2 news) (.o dst)) else none
       | .mi id j e' ie isz rows none=>bif Nat.beq ie e.1 && Nat.beq isz e.2 && !(y.ids.any (Nat.beq id)) then (rows.at j).bind fun r=>bif decide (r.len + news.len≤T.bd e.1) then some ⟨[(id,some (.nst e' ie isz rows (some (j,r.app news))))],[(mid id,none)],.mp id j,[]⟩ else none else none
       | .o id e' sz rows=>bif Nat.beq e' e.1 && Nat.beq sz e.2 && decide (rows.len + news.len≤T.bd e.1) && !(y.ids.any (Nat.beq id)) then some (.app id (.reg e' sz (rows.app news)) (.o id)) else none
       | _=>none) else none else none
     | _=>none)
   | _,_=>none
 | .call ⟨.value _,_,_⟩,x :: vs=>match x with
   | .v (.f f first cap)=>bif T.rw f then (bif T.gk f then qZE qQC f (first.map .v ++ vs ++ cap.map .v) else bif T.gq f then qYD qQC dst f (first.map .v ++ vs ++ cap.map .v) else qVE qQC f (first.map .v ++ vs ++ cap.map .v)) else qXE T qYE me dst f (first.map .v ++ vs ++ cap.map .v)
   | .g f first cap=>bif T.rw f then (bif T.gk f then qZE qQC f (first.map .v ++ vs ++ cap.map fun c=>match c with | .v x=>.v x | .p id off cells=>.p id off cells) else bif T.gq f then qYD qQC dst f (first.map .v ++ vs ++ cap.map fun c=>match c with | .v x=>.v x | .p id off cells=>.p id off cells) else none) else qXE T qYE me dst f (first.map .v ++ vs ++ cap.map fun c=>match c with | .v x=>.v x | .p id off cells=>.p id off cells)
   | _=>none
 | .defer ⟨.value _,args,_⟩,x :: _=>bif args.isEmpty then (match x with
   | .v (.f f _ _)=>bif T.dd f then some (.val .un) else none
   | .g f _ _=>bif T.dd f then some (.val .un) else none
   | _=>none) else none
 | _,_=>none
def uY (ops:Array Oper) (σ:St) (o:Oper):Option Bool :=
 match o.guard with
 | none=>some true
 | some (j,b)=>match (ops[j]?).bind (·.dst) with
  | some d=>match jJ σ.S d with
   | some (.v (.b c))=>some (c == b)
   | some (.v (.t []))=>some false
   | _=>none
  | none=>none
structure Cx where
 T:Tab
 cA:yUL
 cB:zVG
 me:Nat
 n:Nat
def dstB (n:Nat):Option Nat→Bool
 | some d=>Nat.blt d n
 | none=>true
def qQL (C:Cx) (ops:Array Oper) (o:Oper) (σ:St):Option (Eff × List RV) :=
 (uY ops σ o).bind fun g=>bif dstB C.n o.dst then
  bif g then
   (mapO (opv (mode o.op) σ) o.op.operands.toList).bind fun vs=>(qK C.T C.cA C.cB C.me (o.dst.getD 0) o.op vs).bind fun e =>
    bif e.nw.all (fun id=>(qX σ.M id).isNone && Nat.blt id 2000000) then some (e,vs) else none
  else some (.val (.v (.t [])),[])
 else none
abbrev Done:=Nat × Eff × List RV
def yJD (ops:Array Oper) (x y:Done):Bool :=
 match ops[x.1]?,ops[y.1]? with
 | some ox,some oy =>
  (match x.2.1.sb with | []=>true | _=>false) && (match ox.dst with | some d => !((oy.looksAt ops).any (Nat.beq d)) | none=>true) &&
  (match oy.dst with | some d => !((ox.looksAt ops).any (Nat.beq d)) | none=>true) && (match ox.dst,oy.dst with | some d,some d' => !(Nat.beq d d') | _,_=>true) &&
  disj x.2.1.wr (catL RV.ids y.2.2 ++ y.2.1.all) && (disj (y.2.1.up.map (·.1)) (catL RV.fol x.2.2 ++ x.2.1.nw) && disj (y.2.1.sb.map (·.1)) (catL RV.ids x.2.2 ++ x.2.1.all))
 | _,_=>false
def qVF (ops:Array Oper):Nat→Nat→Nat→Bool
 | 0,j,i=>Region.waitsFor .any ops j i
 | n + 1,j,i=>Region.waitsFor .any ops j i || (match ops[j]? with
  | some o=>o.after.any fun e=>Region.binds .any e && qVF ops n e.on i
  | none=>false)
def qHD (ops:Array Oper) (j i:Nat):Bool:=qVF ops 3 j i || qVF ops 5 j i || qVF ops 9 j i
def qGH (ops:Array Oper):List Done→Bool
 | []=>true
 | x :: l=>(l.all fun y=>Region.waitsFor .any ops y.1 x.1 || (yJD ops x y || qHD ops y.1 x.1)) && qGH ops l
def qGJ (C:Cx) (ops:Array Oper):List Oper→(St→Option (Ret × Mem))→St→Option (Ret × Mem)
 | [],K,σ=>K σ
 | o :: l,K,σ=>(qQL C ops o σ).bind fun r=>qGJ C ops l K (σ.apply r.1 o.dst)
def qZF (C:Cx) (ops:Array Oper):Nat→List Oper→List Done→(St→Option (Ret × Mem))→St→Option (Ret × Mem)
 | _,[],acc,K,σ=>bif qGH ops acc.reverse && Sx.backB ops then K σ else none
 | i,o :: l,acc,K,σ=>(qQL C ops o σ).bind fun r=>qZF C ops (i + 1) l ((i,r) :: acc) K (σ.apply r.1 o.dst)
inductive Ex where
 | normal
 | exit (id:Nat)
 | ret
def yJG (σ:St):List Nat→List (Nat × HV)
 | []=>[]
 | t :: ts=>match jJ σ.S t with
  | some x=>(t,x) :: yJG σ ts
  | none=>yJG σ ts
def zWD (M:Mem):List Nat→Mem
 | []=>[]
 | t :: ts=>match qX M t with
  | some x=>(t,x) :: zWD M ts
  | none=>zWD M ts
def ownL:List (Nat × Nat × Nat × Nat)→St→St
 | [],σ=>σ
 | (t,id,e,sz) :: l,σ=>match jJ σ.S t,qX σ.M id with
  | some .nl,none=>bif Nat.blt 0 sz && Nat.blt id 2000000 then ownL l (σ.apply (.new id (.reg e sz (.l [])) (.o id)) (some t)) else ownL l σ
  | _,_=>ownL l σ
def frzL:List Nat→St→St
 | [],σ=>σ
 | t :: l,σ=>match jJ σ.S t with
  | some .nl=>frzL l (σ.apply (.val (.v (.l []))) (some t))
  | some (.o id)=>match qX σ.M id with
   | some (.reg _ _ rows)=>frzL l (σ.apply (.frz [(id,rows)] .un) none)
   | _=>frzL l σ
  | _=>frzL l σ
def zKX:List (Nat × Nat × Nat × Nat × Nat)→St→St
 | [],σ=>σ
 | (b,k,id,e,sz) :: l,σ=>match qX σ.M b,qX σ.M id with
  | some (.blk cells),none=>(match cells[k]? with
   | some .nl=>bif Nat.blt 0 sz && Nat.blt id 2000000 then zKX l ⟨σ.S,putM id (.reg e sz (.l [])) (putM b (.blk (cells.set k (.o id))) σ.M)⟩ else zKX l σ
   | _=>zKX l σ)
  | _,_=>zKX l σ
def funL:List (Nat × List PV)→Mem→Mem
 | [],M=>M
 | (id,z) :: l,M=>match qX M id with
  | some (.reg e sz rows)=>funL l (putM id (.reg e sz (rows.toF z)) M)
  | _=>funL l M
def HV.only (ids:List Nat) (x:HV):HV:=bif x.every.all (fun i=>ids.any (Nat.beq i)) then x else .un
def Ent.only (ids:List Nat):Ent→Ent
 | .blk cells=>.blk (cells.map (HV.only ids))
 | x=>x
def qUQ (h:Hint) (σ:St):St :=
 let σ:=zKX h.ownB (ownL h.own (frzL h.frz σ))
 ⟨(yJG σ h.keep).map fun x=>(x.1,x.2.only (pid :: pid2 :: h.ids)),funL h.fun_ ((zWD σ.M (pid :: pid2 :: h.ids)).map fun x=>(x.1,x.2.only (pid :: pid2 :: h.ids)))⟩
def unnL:List Nat→St→St
 | [],σ=>σ
 | id :: l,σ=>match qX σ.M id with
  | some (.nst e _ _ rows none)=>unnL l (σ.apply ⟨[(id,some (.reg e 1 rows.rows))],[(mid id,none)],.un,[]⟩ none)
  | _=>unnL l σ
def qWV (h:Hint) (σ:St):St:=match h.out with
 | none=>σ
 | some o=>qUQ { keep:=o.1,ids:=o.2 } (unnL h.unn σ)
def preR (C:Cx) (id:Nat) (σ:St):St:=match C.T.dr C.me id with
 | none=>σ
 | some h=>qUQ h σ
def preK {α:Type} (C:Cx) (id:Nat) (F:St→α) (σ:St):α:=match C.T.dr C.me id with
 | none=>F σ
 | some h=>F (qUQ h σ)
theorem preK_eq {α:Type} {C:Cx} {id:Nat} {F:St→α} {σ:St}:preK C id F σ=F (preR C id σ):=by
 unfold preK preR; cases C.T.dr C.me id <;> rfl
def zYZ {α:Type} (step:(St→Option α)→St→Option α):Nat→St→Option α
 | 0=>fun _=>none
 | n + 1=>step (zYZ step n)
def qJ:Code→Nat
 | .region id _ _=>id
 | .seq a _=>qJ a
 | .block _ a=>qJ a
 | .loop a=>qJ a
 | .scope a=>qJ a
 | _=>0
def runC (N:Nat) (C:Cx):Code→(Ex→St→Option (Ret × Mem))→St→Option (Ret × Mem)
 | .skip,K,σ=>K .normal σ
 | .label _,K,σ=>K .normal σ
 | .scope x,K,σ=>runC N C x K σ
 | .ret,K,σ=>K .ret σ
 | .exit id,K,σ=>K (.exit id) σ
 | .region id ops d,K,σ=>preK C id (fun σ=>bif d then qZF C ops 0 ops.toList [] (K .normal) σ else qGJ C ops ops.toList (K .normal) σ) σ
 | .seq x y,K,σ=>runC N C x (fun e σ=>match e with
   | .normal=>runC N C y K σ
   | e=>K e σ) σ
 | .cond c x y,K,σ=>(opv 1 σ c).bind fun v=>match v with
   | .v (.b t)=>bif t then runC N C x K σ else runC N C y K σ
   | _=>none
 | .block id x,K,σ=>runC N C x (fun e σ=>match e with
   | .exit id'=>bif Nat.beq id' id then K .normal σ else K (.exit id') σ
   | e=>K e σ) σ
 | .loop x,K,σ=>zYZ (fun again σ=>runC N C x (fun e σ=>match e with
   | .normal=>again σ
   | e=>K e (qWV (C.T.hint C.me (qJ x)) σ)) (qUQ (C.T.hint C.me (qJ x)) σ)) N σ
 | _,_,_=>none
def zHI (T:Tab) (σ:St):ResultVar→Option RV
 | .tmp t=>(jJ σ.S t).bind (res σ.M)
 | .cell x t=>(jJ σ.S x).bind fun p=>(res σ.M p).bind fun p=>(T.sz t).bind fun k=>match p with
  | .p _ off cells=>bif k.1 then (qZC cells off k.2).bind fun cs=>(mapO CV.fz cs).bind fun ps=>some (.v (.a ps)) else (cells[off]?).bind fun c=>c.fz.bind fun p=>some (.v p)
  | _=>none
def qHW:List RV→Option Ret
 | [.o _ e sz rows]=>some (.ow e sz rows)
 | [.p _ 0 cells]=>(mapO CV.fz cells).bind fun cs=>some (.pb cs)
 | [x]=>x.fz.bind fun y=>some (.v y)
 | xs=>(mapO RV.fz xs).bind fun ys=>some (.v (.t ys))
def initS:Nat→List HV→List (Nat × HV)
 | _,[]=>[]
 | k,v :: vs=>(k,v) :: initS (k + 1) vs
structure Orc where
 a:Nat→Option (List PV→Option Ret)
 b:Nat→Option (List HV→List PV→Option (PV × List PV))
def Orc.none:Orc:=⟨fun _=>.none,fun _=>.none⟩
def HV.pv:HV→Option PV
 | .v x=>some x
 | _=>none
def HV.pz (M:Mem):HV→Option PV
 | .v x=>some x
 | .nl=>some .zs
 | .o id=>match qX M id with
  | some (.reg _ _ rows)=>some rows.pv
  | _=>none
 | _=>none
def HV.pq (M:Mem):HV→Option PV
 | .v x=>some x
 | .nl=>some .zs
 | .o id=>match qX M id with
  | some (.reg e sz rows)=>some (.gs e sz rows.pv)
  | _=>none
 | _=>none
def qZX (q:Bool) (M:Mem):Option (List PV):=match qX M pid with
 | some (.blk hs)=>bif q then (mapO (HV.pq M) hs).bind fun ps=>bif oneG ps then some ps else none else mapO (HV.pz M) hs
 | _=>none
def memB (q:Bool) (ps:List PV):Mem:=bif q then (pid,.blk (ps.map (PV.toQ (pid + 1)))) :: (match gEnt (qJZ ps) with
  | some (some e)=>[(pid + 1,e)]
  | _=>[]) else [(pid,.blk (ps.map PV.toH))]
def memK:List PV→Option Mem
 | [.gs e sz x]=>x.rowsO.bind fun rows=>some [(pid2,.blk [.o (pid + 1)]),(pid + 1,.reg e sz rows)]
 | _=>none
def jZD (M:Mem):Option (List PV):=match qX M pid2 with
 | some (.blk [.o id])=>(match qX M id with
  | some (.reg e sz rows)=>some [.gs e sz rows.pv]
  | _=>none)
 | _=>none
def HV.toK:HV→HV
 | .p _ off=>.p pid2 off
 | h=>h
def zVQ (q:Bool) (x:PV):Option PV:=bif q then (bif x.flat then some x else none) else some x
def zKQ:Ret→Option PV
 | .v x=>some x
 | .ow _ _ rows=>some rows.pv
 | .pb _=>none
def qYE (orc:Orc) (r:Nat→List HV→Mem→Option (Ret × Mem)):yUL:=fun g ps=>match orc.a g with
 | some o=>o ps
 | none=>(r g (ps.map .v) []).bind fun r=>some r.1
def qQC (T:Tab) (orc:Orc) (r:Nat→List HV→Mem→Option (Ret × Mem)):zVG:=fun g hs ps=>match orc.b g with
 | some o=>o hs ps
 | none=>bif T.gk g then none else (r g hs (memB (T.gq g) ps)).bind fun r=>(qZX (T.gq g) r.2).bind fun ps'=>(zKQ r.1).bind fun x=>(zVQ (T.gq g) x).bind fun x=>some (x,ps')
def endK (T:Tab) (M:Mem) (res:List ResultVar) (e:Ex) (σ:St):Option (Ret × Mem):=match e with
 | .exit _=>none
 | _=>(mapO (zHI T σ) res).bind fun rs=>(qHW rs).bind fun r=>bif M.isEmpty || rs.all RV.still then some (r,σ.M) else none
def runF (T:Tab) (orc:Orc):Nat→Nat→List HV→Mem→Option (Ret × Mem)
 | 0,_,_,_=>none
 | N + 1,f,args,M=>match T.fn f with
  | none=>none
  | some fi=>bif Nat.ble args.length fi.ntmps then runC N ⟨T,qYE orc (runF T orc N),qQC T orc (runF T orc N),f,fi.ntmps⟩ fi.body (endK T M fi.results) ⟨initS 0 args,M⟩ else none
def run (T:Tab) (orc:Orc) (N f:Nat) (ps:List PV):Option Ret:=(runF T orc N f (ps.map .v) []).bind fun r=>some r.1
def runB (T:Tab) (orc:Orc) (N f:Nat) (hs:List HV) (ps:List PV):Option (PV × List PV):=(runF T orc N f hs (memB (T.gq f) ps)).bind fun r=>(qZX (T.gq f) r.2).bind fun ps'=>(zKQ r.1).bind fun x=>(zVQ (T.gq f) x).bind fun x=>some (x,ps')
def runW (T:Tab) (orc:Orc) (N f:Nat) (hs:List HV) (ps:List PV):Option (PV × List PV):=(memK ps).bind fun M=>(runF T orc N f (hs.map HV.toK) M).bind fun r=>(jZD r.2).bind fun ps'=>(zKQ r.1).bind fun x=>bif x.flat then some (x,ps') else none
end Go.Rx
namespace Go.Rx
open Go.RowKit Go.Sx
def Al {α β:Type} (R:α→β→Prop) (xs:List α) (ys:List β):Prop:=xs.length=ys.length∧∀ (i:Nat) x y,xs[i]? = some x→ys[i]? = some y→R x y
section
variable {α β:Type} {R R':α→β→Prop} {xs:List α} {ys:List β}
theorem Al.nil:Al R [] []:=⟨rfl,fun i x y h=>by simp at h⟩
theorem Al.cons {x:α} {y:β} (h:R x y) (hs:Al R xs ys):Al R (x :: xs) (y :: ys):=⟨by simp [hs.1],fun i a b ha hb=>by
 cases i with
 | zero=>simp at ha hb; subst ha; subst hb; exact h
 | succ i=>simp at ha hb; exact hs.2 i a b ha hb⟩
theorem Al.nil_left (h:Al R [] ys):ys=[]:=List.eq_nil_of_length_eq_zero h.1.symm
theorem Al.cons_left {x:α} (h:Al R (x :: xs) ys):∃ y ys',ys=y :: ys'∧R x y∧Al R xs ys':=by
 cases ys with
 | nil=>have:=h.1; simp at this
 | cons y ys'=>exact ⟨y,ys',rfl,h.2 0 x y rfl rfl,by have:=h.1; simpa using this,fun i a b ha hb=>h.2 (i + 1) a b (by simpa using ha) (by simpa using hb)⟩
theorem Al.imp (h:Al R xs ys) (hi:∀ x y,x ∈ xs→R x y→R' x y):Al R' xs ys:=⟨h.1,fun i x y hx hy=>hi x y (vQW hx) (h.2 i x y hx hy)⟩
theorem Al.get (h:Al R xs ys) {i:Nat} {x:α} (hx:xs[i]? = some x):∃ y,ys[i]? = some y∧R x y:=by
 have hl:=(List.getElem?_eq_some_iff.1 hx).1
 have:i < ys.length:=by rw [← h.1]; exact hl
 exact ⟨ys[i],vQK this,h.2 i x _ hx (vQK this)⟩
theorem Al.append {xs':List α} {ys':List β} (h:Al R xs ys) (h':Al R xs' ys'):Al R (xs ++ xs') (ys ++ ys'):=⟨by simp [h.1,h'.1],fun i x y hx hy=>by
 rw [List.getElem?_append] at hx hy;rw [h.1] at hx;split at hx
 ·rename_i hl;rw [if_pos hl] at hy; exact h.2 i x y hx hy
 ·rename_i hl;rw [if_neg hl] at hy; exact h'.2 _ x y hx hy⟩
theorem Al.take (h:Al R xs ys) (k:Nat):Al R (xs.take k) (ys.take k):=⟨by simp [h.1],fun i x y hx hy=>by
 rw [vZU] at hx hy;split at hx
 ·rename_i hl;rw [if_pos hl] at hy; exact h.2 i x y hx hy
 ·cases hx⟩
theorem Al.drop (h:Al R xs ys) (k:Nat):Al R (xs.drop k) (ys.drop k):=⟨by simp [h.1],fun i x y hx hy=>by
 rw [List.getElem?_drop] at hx hy; exact h.2 _ x y hx hy⟩
theorem Al.set (h:Al R xs ys) {x:α} {y:β} (hxy:R x y) (k:Nat):Al R (xs.set k x) (ys.set k y):=⟨by simp [h.1],fun i a b ha hb=>by
 rw [List.getElem?_set] at ha hb;split at ha
 ·rename_i e;rw [if_pos e] at hb;split at ha
  ·split at hb
   ·cases ha; cases hb; exact hxy
   ·cases hb
  ·cases ha
 ·rename_i e;rw [if_neg e] at hb; exact h.2 i a b ha hb⟩
theorem Al.repl {x:α} {y:β} (h:R x y) (k:Nat):Al R (qZQ x k) (List.replicate k y):=by
 induction k with
 | zero=>exact Al.nil
 | succ k ih=>exact Al.cons h ih
theorem Al.map_left {γ:Type} {f:γ→α} {zs:List γ} (h:Al (fun z y=>R (f z) y) zs ys):Al R (zs.map f) ys:=⟨by simp [h.1],fun i x y hx hy=>by
 rw [vQH,vZK] at hx;obtain ⟨z,hz,rfl⟩:=hx;exact h.2 i z y hz hy⟩
theorem Al.map_left_inv {γ:Type} {f:γ→α} {zs:List γ} (h:Al R (zs.map f) ys):Al (fun z y=>R (f z) y) zs ys:=⟨by have:=h.1; simpa using this,fun i z y hz hy=>h.2 i (f z) y (by rw [vQH,hz]; rfl) hy⟩
end
theorem jY {i j:Nat} (h:i ≠ j):Nat.beq i j=false:=by
 cases hb:Nat.beq i j with
 | false=>rfl
 | true=>exact absurd (vQU hb) h
theorem qVH (x y:PV):qWH true x y=x:=by
 unfold qWH;split
 ·split <;> rfl
 all_goals rfl
theorem qVA (x y:PV):qWH false x y=y:=by
 unfold qWH;split
 ·split
  ·rename_i h; rw [vYK h]; rfl
  ·rfl
 all_goals rfl
theorem qVV {m:PV→PV→PV} (h:∀ x y,m x y=x):∀ xs ys,qWG m true xs ys=xs
 | [],[]=>rfl
 | x :: xs,y :: ys=>by rw [qWG,h,qVV h xs ys]
 | [],_ :: _=>rfl
 | _ :: _,[]=>rfl
theorem qVG {m:PV→PV→PV} (h:∀ x y,m x y=y):∀ xs ys,qWG m false xs ys=ys
 | [],[]=>rfl
 | x :: xs,y :: ys=>by rw [qWG,h,qVG h xs ys]
 | [],_ :: _=>rfl
 | _ :: _,[]=>rfl
theorem yVQ (x y:PV):zUK true x y=x:=by
 unfold zUK;split
 ·simp only [qVV qVH,vYQ]
 ·exact qVH _ _
theorem yVZ (x y:PV):zUK false x y=y:=by
 unfold zUK;split
 ·simp only [qVG qVA,vYZ]
 ·exact qVA _ _
theorem yWI (x y:PV):zUJ true x y=x:=by
 unfold zUJ;split
 ·simp only [qVV yVQ,vYQ]
 ·exact qVH _ _
theorem yWL (x y:PV):zUJ false x y=y:=by
 unfold zUJ;split
 ·simp only [qVG yVZ,vYZ]
 ·exact qVA _ _
theorem qXA (xs ys:List PV):kV true xs ys=xs:=qVV yWI xs ys
theorem qXB (xs ys:List PV):kV false xs ys=ys:=qVG yWL xs ys
theorem kJ (c:Bool) (xs ys:List PV):kV c xs ys=bif c then xs else ys:=by
 cases c
 ·exact qXB xs ys
 ·exact qXA xs ys
theorem Rows.len_L (r:Rows):r.L.length=r.len:=by cases r <;> simp [Rows.L,Rows.len]
theorem jW {α:Type} (f:Nat→α) {n j:Nat} (h:j < n):((List.range n).map f)[j]? = some (f j):=by rw [vQH,List.getElem?_range h]; rfl
theorem Rows.at_L {r:Rows} {j:Nat} {x:List PV} (h:r.at j=some x) (hj:j < r.len):r.L[j]? = some x:=by
 cases r with
 | l rows=>exact h
 | fo n f=>cases h; exact jW f hj
theorem uH (v j:Nat):Nat.beq v j=decide (v=j):=by
 by_cases h:v=j
 ·subst h; simp
 ·rw [vYY h];cases hb:Nat.beq v j with
  | false=>rfl
  | true=>exact absurd (vQU hb) h
theorem Rows.set_L (r:Rows) (j:Nat) (x:List PV):(r.set j x).L=r.L.set j x:=by
 cases r with
 | l rows=>rfl
 | fo n f =>
  simp only [Rows.set,Rows.L];refine List.ext_getElem? fun i => ?_
  by_cases hi:i < n
  ·rw [jW _ hi,List.getElem?_set,kJ,uH];by_cases e:j=i
   ·subst e; simp [hi]
   ·rw [if_neg e,jW _ hi,vYY (fun h=>e h.symm)]; rfl
  ·rw [List.getElem?_eq_none (by simp; omega),List.getElem?_eq_none (by simp; omega)]
theorem jGX {i n:Nat} (h:i < n):Nat.blt i n=true:=Nat.ble_eq_true_of_le h
theorem jGW {i n:Nat} (_:¬ i < n):Nat.blt i n=false:=by
 cases hb:Nat.blt i n with
 | false=>rfl
 | true=>exact absurd (vZJ hb) (by omega)
theorem zGV:∀ (l:List (List PV)) (i:Nat),i < l.length→l[i]? = some (fnOf l i)
 | [],i,h=>by simp at h
 | [r],i,h=>by
  have:i=0:=by simpa using h
  subst this; rfl
 | r :: s :: l,0,_=>by simp only [fnOf,kJ]; rfl
 | r :: s :: l,i + 1,h=>by
  have:=zGV (s :: l) i (by simpa using h)
  simp only [fnOf,kJ,Nat.add_sub_cancel];rw [List.getElem?_cons_succ,this]; rfl
theorem zGW (l:List (List PV)):(List.range l.length).map (fnOf l)=l:=by
 refine List.ext_getElem? fun i => ?_
 by_cases hi:i < l.length
 ·rw [jW _ hi,zGV l i hi]
 ·rw [List.getElem?_eq_none (by simp; omega),List.getElem?_eq_none (by omega)]
theorem yJZ {n m:Nat} (f g h:Nat→List PV) (h1:∀ i,i < n→h i=f i) (h2:∀ i,n≤i→h i=g (i - n)):(List.range (n + m)).map h=(List.range n).map f ++ (List.range m).map g:=by
 refine List.ext_getElem? fun i => ?_
 by_cases hi:i < n
 ·rw [jW _ (by omega),List.getElem?_append_left (by simpa using hi),jW _ hi,h1 i hi]
 ·rw [List.getElem?_append_right (by simp; omega)];simp only [List.length_map,List.length_range];by_cases hj:i < n + m
  ·rw [jW _ hj,jW _ (by omega),h2 i (by omega)]
  ·rw [List.getElem?_eq_none (by simp; omega),List.getElem?_eq_none (by simp; omega)]
theorem yZD:∀ (b:List (List PV)) (n:Nat) (f:Nat→List PV),(yZE n f b).L=(List.range n).map f ++ b
 | [],n,f=>by simp [yZE,Rows.L]
 | r :: b,n,f=>by
  simp only [yZE];rw [yZD b (n + 1) _,List.range_succ,List.map_append,List.append_assoc]
  congr 1
  ·exact List.map_congr_left fun i hi=>by rw [kJ,jY (by have:=List.mem_range.1 hi; omega)]; rfl
  ·simp [kJ]
theorem Rows.app_L (a b:Rows):(a.app b).L=a.L ++ b.L:=by
 cases a with
 | l a =>
  cases b with
  | l b=>rfl
  | fo m g =>
   cases a with
   | nil=>rfl
   | cons r a =>
    simp only [Rows.app,Rows.L];rw [yJZ (n:=a.length + 1) (fnOf (r :: a)) g _ (fun i hi => ?_) (fun i hi => ?_),show a.length + 1=(r :: a).length from rfl,zGW]
    ·rw [kJ,jGX hi]; rfl
    ·rw [kJ,jGW (by omega)]; rfl
 | fo n f =>
  cases b with
  | l b=>exact yZD b n f
  | fo m g =>
   simp only [Rows.app,Rows.L];refine yJZ f g _ (fun i hi => ?_) (fun i hi => ?_)
   ·rw [kJ,jGX hi]; rfl
   ·rw [kJ,jGW (by omega)]; rfl
theorem Rows.take_L {r:Rows} {j:Nat} (h:j≤r.len):(r.take j).L=r.L.take j:=by
 cases r with
 | l rows=>rfl
 | fo n f =>
  have hj:j≤n:=h;simp only [Rows.take,Rows.L];rw [← List.map_take,List.take_range,Nat.min_eq_left hj]
theorem Rows.toF_L (z:List PV) (r:Rows):(r.toF z).L=r.L:=by
 cases r with
 | l rows =>
  cases rows with
  | nil=>rfl
  | cons r a=>exact zGW (r :: a)
 | fo n f=>rfl
theorem Rows.ok_L {r:Rows} {k:Nat} (h:r.ok k=true):qHX r.L 0 k=true:=by
 cases r with
 | l rows=>exact h
 | fo n f =>
  cases n with
  | zero=>rfl
  | succ n =>
   simp only [Rows.L,qHX];rw [jW f (Nat.succ_pos n)];exact h
inductive Loc where
 | blk (b:Nat)
 | reg (a:Option Addr) (cap len sz:Nat)
 | inn (a:Option Addr) (cap len sz:Nat)    -- an own slice within an own slice
def Loc.bl:Loc→Option Nat
 | .blk b=>some b
 | .reg a _ _ _=>a.map (·.block)
 | .inn a _ _ _=>a.map (·.block)
def Loc.inner:Loc→Bool
 | .inn .. => true
 | _=>false
abbrev Own:=Nat→Option Loc
def nid (id j:Nat):Nat:=2000000 + (id + 3000000 * j)
theorem qGB {i j i' j':Nat} (_:i < 2000000) (_:i' < 2000000) (e:nid i j=nid i' j'):i=i'∧j=j':=by
 unfold nid at e; omega
theorem qZW (i j:Nat):2000000≤nid i j:=by unfold nid; omega
inductive RP (F:Nat→Prop) (w:World):PV→Value→Prop
 | n (k:IntKind) (x:Int):RP F w (.n k x) (.int k x)
 | b (x:Bool):RP F w (.b x) (.bool x)
 | s (x:ByteArray):RP F w (.s x) (.string x)
 | ni:RP F w .ni .nilIface
 | np:RP F w .np (.pointer none)
 | nf:RP F w .nf .nilFunc
 | zs:RP F w .zs (.slice none 0 0)
 | ze (ad:Option Addr):RP F w .ze (.slice ad 0 0)
 | nz (c:Nat):RP F w .nz (.slice none 0 c)
 | ne (ad:Addr) (c:Nat):RP F w .ne (.slice (some ad) 0 c)
 | a (cs:List PV) (vs:List Value) (hl:cs.length=vs.length) (h1:∀ v ∈ vs,v.oneCell'=true) (h:∀ (i:Nat) p v,cs[i]? = some p→vs[i]? = some v→RP F w p v):RP F w (.a cs) (.agg vs.toArray)
 | t (cs:List PV) (vs:List Value) (hl:cs.length=vs.length) (h:∀ (i:Nat) p v,cs[i]? = some p→vs[i]? = some v→RP F w p v):RP F w (.t cs) (.tuple vs.toArray)
 | l0 (ad:Option Addr) (c:Nat):RP F w (.l []) (.slice ad 0 c)
 | l (rows:List (List PV)) (b off n c sz:Nat) (g:Nat→Nat→Value) (hn:n=rows.length) (hcap:n≤c) (hs:∀ r ∈ rows,r.length=sz) (hF:F b)
   (hc:∀ j t,j < n→t < sz→w.cell? ⟨b,off + (j * sz + t),none⟩=some (g j t)∧(g j t).oneCell'=true)
   (h:∀ (j:Nat) r (t:Nat) p,rows[j]? = some r→r[t]? = some p→RP F w p (g j t)):RP F w (.l rows) (.slice (some ⟨b,off,none⟩) n c)
 | z (rows:List (List PV)) (b off sz j o:Nat) (g:Nat→Nat→Value) (hs:∀ r ∈ rows,r.length=sz) (hF:F b)
   (hc:∀ j t,j < rows.length→t < sz→w.cell? ⟨b,off + (j * sz + t),none⟩=some (g j t)∧(g j t).oneCell'=true)
   (h:∀ (j:Nat) r (t:Nat) p,rows[j]? = some r→r[t]? = some p→RP F w p (g j t)):RP F w (.z rows j o) (.pointer (some ⟨b,off + (j * sz + o),none⟩))
 | c (cells:List PV) (vs:List Value) (b o:Nat) (ty:TypeId) (hF:F b) (hb:w.heap[b]? = some (.cells vs.toArray ty)) (hl:cells.length=vs.length) (h1:∀ v ∈ vs,v.oneCell'=true)
   (h:∀ (i:Nat) p v,cells[i]? = some p→vs[i]? = some v→RP F w p v):RP F w (.c cells o) (.pointer (some ⟨b,o,none⟩))
 | f (fn:Nat) (first cap:List PV) (fs cs:List Value) (hl:first.length=fs.length) (hm:cap.length=cs.length) (h:∀ (i:Nat) p v,first[i]? = some p→fs[i]? = some v→RP F w p v)
   (h':∀ (i:Nat) p v,cap[i]? = some p→cs[i]? = some v→RP F w p v):RP F w (.f fn first cap) (.func (.func fn) fs.toArray cs.toArray)
 | lf (n:Nat) (f:Nat→List PV) (v:Value) (h:RP F w (.l ((List.range n).map f)) v):RP F w (.lf n f) v
 | zf (n:Nat) (f:Nat→List PV) (j o:Nat) (v:Value) (hj:j < n) (h:RP F w (.z ((List.range n).map f) j o) v):RP F w (.zf n f j o) v
theorem zUE {w w':World} {b o:Nat} (h:w'.heap[b]? = w.heap[b]?):w'.cell? ⟨b,o,none⟩=w.cell? ⟨b,o,none⟩:=World.cell?_of_block (a:=⟨b,o,none⟩) h
theorem RP.mono {F F':Nat→Prop} {w w':World} (hF:∀ k,F k→F' k∧w'.heap[k]? = w.heap[k]?) {p:PV} {v:Value} (h:RP F w p v):RP F' w' p v:=by
 induction h with
 | n k x=>exact .n k x
 | b x=>exact .b x
 | s x=>exact .s x
 | ni=>exact .ni
 | np=>exact .np
 | nf=>exact .nf
 | zs=>exact .zs
 | ze ad=>exact .ze ad
 | nz c=>exact .nz c
 | ne ad c=>exact .ne ad c
 | a cs vs hl h1 _ ih=>exact .a cs vs hl h1 ih
 | t cs vs hl _ ih=>exact .t cs vs hl ih
 | l0 ad c=>exact .l0 ad c
 | l rows b off n c sz g hn hcap hs hf hc _ ih=>exact .l rows b off n c sz g hn hcap hs (hF b hf).1 (fun j t hj ht=>by rw [zUE (hF b hf).2]; exact hc j t hj ht) ih
 | z rows b off sz j o g hs hf hc _ ih=>exact .z rows b off sz j o g hs (hF b hf).1 (fun j t hj ht=>by rw [zUE (hF b hf).2]; exact hc j t hj ht) ih
 | c cells vs b o ty hf hb hl h1 _ ih=>exact .c cells vs b o ty (hF b hf).1 (by rw [(hF b hf).2]; exact hb) hl h1 ih
 | f fn first cap fs cs hl hm _ _ ih ih'=>exact .f fn first cap fs cs hl hm ih ih'
 | lf n f v _ ih=>exact .lf n f v ih
 | zf n f j o v hj _ ih=>exact .zf n f j o v hj ih
theorem RP.flat1 {F F':Nat→Prop} {w w':World} {p:PV} {v:Value} (h:RP F w p v) (hp:p.flat1=true):RP F' w' p v:=by
 cases h <;> first | (simp [PV.flat1] at hp; done) | constructor
theorem RP.flat2 {F F':Nat→Prop} {w w':World} {p:PV} {v:Value} (h:RP F w p v) (hp:p.flat2=true):RP F' w' p v:=by
 cases p with
 | a cs =>
  cases h with
  | a _ vs hl h1 h =>
   exact .a cs vs hl h1 fun i p v hi hv=>(h i p v hi hv).flat1 (List.all_eq_true.1 hp p (vQW hi))
 | _=>exact h.flat1 hp
theorem RP.flat {F F':Nat→Prop} {w w':World} {p:PV} {v:Value} (h:RP F w p v) (hp:p.flat=true):RP F' w' p v:=by
 cases p with
 | t cs =>
  cases h with
  | t _ vs hl h =>
   exact .t cs vs hl fun i p v hi hv=>(h i p v hi hv).flat2 (List.all_eq_true.1 hp p (vQW hi))
 | _=>exact h.flat2 hp
def RCp (ρ:Own) (F:Nat→Prop) (w:World):Cap→Value→Prop
 | .v x,v=>RP F w x v
 | .p id off,v=>∃ b,ρ id=some (.blk b)∧v=.pointer (some ⟨b,off,none⟩)
def RHc (ρ:Own) (F:Nat→Prop) (w:World):HC→Value→Prop
 | .v x,v=>RP F w x v
 | .nl,v=>v=.slice none 0 0
 | .o id,v=>∃ a c k sz,ρ id=some (.reg a c k sz)∧v=.slice a k c
 | .un,_=>True
def RH (ρ:Own) (F:Nat→Prop) (w:World):HV→Value→Prop
 | .v x,v=>RP F w x v
 | .nl,v=>v=.slice none 0 0
 | .o id,v=>∃ a c k sz,ρ id=some (.reg a c k sz)∧v=.slice a k c
 | .p id off,v=>∃ b,ρ id=some (.blk b)∧v=.pointer (some ⟨b,off,none⟩)
 | .q id j off,v=>∃ b c k sz,ρ id=some (.reg (some ⟨b,0,none⟩) c k sz)∧j < k∧v=.pointer (some ⟨b,j * sz + off,none⟩)
 | .g fn first cap,v=>∃ fs cs,v=.func (.func fn) fs.toArray cs.toArray∧Al (RP F w) first fs∧Al (RCp ρ F w) cap cs
 | .un,_=>True
 | .ag cs,v=>∃ vs,v=.agg vs.toArray∧Al (RHc ρ F w) cs vs∧∀ u ∈ vs,u.oneCell'=true
 | .m id j,v=>∃ a c k sz,(ρ (nid id j)=some (.inn a c k sz)∧v=.slice a k c)∧id < 2000000∧∃ a0 c0 k0 s0,ρ id=some (.reg a0 c0 k0 s0)∧j < k0
 | .mp id j,v=>∃ a c k sz,(ρ (nid id j)=some (.inn a c k sz)∧v=.slice a k c)∧id < 2000000∧∃ a0 c0 k0 s0,ρ id=some (.reg a0 c0 k0 s0)∧j < k0
def yYW (rows:NR) (pd:Option (Nat × Rows)) (v:Nat):Option Rows:=match pd with
 | some (j,r)=>if v=j then some r else rows.at v
 | none=>rows.at v
def EntOk (ρ:Own) (F:Nat→Prop) (w:World) (id:Nat):Ent→Prop
 | .blk cells=>∃ b vs ty,ρ id=some (.blk b)∧w.heap[b]? = some (.cells vs.toArray ty)∧Al (RH ρ F w) cells vs∧∀ v ∈ vs,v.oneCell'=true
 | .reg e sz rows=>∃ a c vr,ρ id=some (.reg a c rows.len sz)∧0 < sz∧Al (Al (RP F w)) rows.L vr∧(∀ r ∈ rows.L,r.length=sz)∧(∀ v ∈ vr,∀ u ∈ v,u.oneCell'=true)∧w.ownsRow 0 e sz (.slice a rows.len c) rows.len vr.flatten
 | .itr s pos=>∃ b,ρ id=some (.blk b)∧w.heap[b]? = some (.stringIter s pos)
 | .nst e ie isz rows pd=>∃ (a:Option Addr) (c:Nat) (H:Nat→Value),ρ id=some (.reg a c rows.len 1)∧(id < 2000000∧0 < isz)∧w.ownsRow 0 e 1 (.slice a rows.len c) rows.len ((List.range rows.len).map H)∧(∀ v,v < rows.len→(H v).oneCell'=true)∧(∀ j r,pd=some (j,r)→j < rows.len) ∧
   ∀ v,v < rows.len→∃ r av cv vr,yYW rows pd v=some r∧ρ (nid id v)=some (.inn av cv r.len isz)∧((∀ r',pd ≠ some (v,r'))→H v=.slice av r.len cv)∧Al (Al (RP F w)) r.L vr∧(∀ x ∈ r.L,x.length=isz)∧(∀ x ∈ vr,∀ u ∈ x,u.oneCell'=true)∧w.ownsRow 0 ie isz (.slice av r.len cv) r.len vr.flatten
structure Env where
 w0:World
 F0:Nat→Prop
 W:Nat→Prop
 D:Deferred→Prop
 Q:Nat→Prop:=fun _=>False              -- where the growing slice lay that was handed over in the block
 R:Nat→Prop:=fun _=>False              -- the block that is only read
structure MemOk (E:Env) (ρ:Own) (F:Nat→Prop) (M:Mem) (w:World):Prop where
 ent:∀ id e,qX M id=some e→EntOk ρ F w id e
 dom:∀ id L,ρ id=some L→L.inner=false→∃ e,qX M id=some e
 ord:∀ id e,qX M id=some e→id < 2000000
 inr:∀ id L,ρ id=some L→L.inner=true→2000000≤id
 apart:∀ id id' L L' b,ρ id=some L→ρ id'=some L'→L.bl=some b→L'.bl=some b→id=id'
 off:∀ id L b,ρ id=some L→L.bl=some b→¬ F b∧b < w.heap.size∧(E.w0.heap.size≤b ∨ E.W b)
 fz:∀ k,F k→k < w.heap.size∧(E.F0 k ∨ E.w0.heap.size≤k ∨ E.W k)
 fz0:∀ k,E.F0 k→F k
 grow:GrowB E.W E.w0 w
 pin:∀ b,E.W b→ρ pid=some (.blk b) ∨ E.Q b
 rd:∀ b,E.R b→ρ pid2=some (.blk b)∧w.heap[b]? = E.w0.heap[b]?
structure Rel' (E:Env) (n:Nat) (ρ:Own) (F:Nat→Prop) (σ:St) (a:Act) (w:World):Prop where
 size:a.tmps.size=n
 defers:∀ d ∈ a.defers,E.D d
 slots:∀ t x,jJ σ.S t=some x→∃ v,a.tmps[t]? = some v∧RH ρ F w x v
 mem:MemOk E ρ F σ.M w
def Rel (E:Env) (n:Nat) (σ:St) (a:Act) (w:World):Prop:=∃ ρ F,Rel' E n ρ F σ a w
theorem RCp.mono {ρ ρ':Own} {F F':Nat→Prop} {w w':World} (hρ:∀ id b,ρ id=some (.blk b)→ρ' id=some (.blk b)) (hF:∀ k,F k→F' k∧w'.heap[k]? = w.heap[k]?) {x:Cap} {v:Value} (h:RCp ρ F w x v):RCp ρ' F' w' x v:=by
 cases x with
 | v x=>exact RP.mono hF h
 | p id off=>obtain ⟨b,h1,h2⟩:=h; exact ⟨b,hρ id b h1,h2⟩
structure Turns (sb:List (Nat × Option Rows)) (ρ ρ':Own) (F F':Nat→Prop) (w w':World):Prop where
 blk:∀ id b,ρ id=some (.blk b)→ρ' id=some (.blk b)
 keep:∀ id L,ρ id=some L→zZ sb id=none→L.inner=false→ρ' id=some L
 keepN:∀ id j a c k s,id < 2000000→ρ (nid id j)=some (.inn a c k s)→zZ sb id=none→zZ sb (mid id)=none→ρ' (nid id j)=some (.inn a c k s)
 thaw:∀ id rows a c k sz,ρ id=some (.reg a c k sz)→zZ sb id=some (some rows)→RP F' w' rows.pv (.slice a k c)∧∀ b j off,a=some ⟨b,0,none⟩→j < k→RP F' w' (rows.pz j off) (.pointer (some ⟨b,j * sz + off,none⟩))
 fz:∀ k,F k→F' k∧w'.heap[k]? = w.heap[k]?
theorem RHc.sub {sb:List (Nat × Option Rows)} {ρ ρ':Own} {F F':Nat→Prop} {w w':World} (ht:Turns sb ρ ρ' F F' w w') {x:HC} {v:Value} (h:RHc ρ F w x v):RHc ρ' F' w' (x.sub sb) v:=by
 cases x with
 | v x=>exact RP.mono ht.fz h
 | nl=>exact h
 | un=>trivial
 | o id =>
  obtain ⟨a,c,k,sz,h1,h2⟩:=h;simp only [HC.sub];split
  ·rename_i hs; exact ⟨a,c,k,sz,ht.keep id _ h1 hs rfl,h2⟩
  ·trivial
  ·rename_i rows hs; rw [h2]; exact (ht.thaw id rows a c k sz h1 hs).1
theorem RHc.h {ρ:Own} {F:Nat→Prop} {w:World} {x:HC} {v:Value} (h:RHc ρ F w x v):RH ρ F w x.h v:=by cases x <;> exact h
theorem RH.sub {sb:List (Nat × Option Rows)} {ρ ρ':Own} {F F':Nat→Prop} {w w':World} (ht:Turns sb ρ ρ' F F' w w') {x:HV} {v:Value} (h:RH ρ F w x v):RH ρ' F' w' (x.sub sb) v:=by
 cases x with
 | v x=>exact RP.mono ht.fz h
 | nl=>exact h
 | un=>trivial
 | p id off=>obtain ⟨b,h1,h2⟩:=h; exact ⟨b,ht.blk id b h1,h2⟩
 | g fn first cap =>
  obtain ⟨fs,cs,h1,h2,h3⟩:=h;exact ⟨fs,cs,h1,h2.imp fun _ _ _ h=>h.mono ht.fz,h3.imp fun _ _ _ h=>h.mono ht.blk ht.fz⟩
 | ag cs =>
  obtain ⟨vs,h1,h2,h3⟩:=h;exact ⟨vs,h1,Al.map_left (h2.imp fun _ _ _ h=>h.sub ht),h3⟩
 | o id =>
  obtain ⟨a,c,k,sz,h1,h2⟩:=h;simp only [HV.sub];split
  ·rename_i hs; exact ⟨a,c,k,sz,ht.keep id _ h1 hs rfl,h2⟩
  ·trivial
  ·rename_i rows hs; rw [h2]; exact (ht.thaw id rows a c k sz h1 hs).1
 | q id j off =>
  obtain ⟨b,c,k,sz,h1,hj,h2⟩:=h;simp only [HV.sub];split
  ·rename_i hs; exact ⟨b,c,k,sz,ht.keep id _ h1 hs rfl,hj,h2⟩
  ·trivial
  ·rename_i rows hs; rw [h2]; exact (ht.thaw id rows _ c k sz h1 hs).2 b j off rfl hj
 | m id j =>
  obtain ⟨a,c,k,sz,⟨h1,h2⟩,h3,a0,c0,k0,s0,h4,h5⟩:=h;simp only [HV.sub];split
  ·rename_i hs hs'; exact ⟨a,c,k,sz,⟨ht.keepN id j _ _ _ _ h3 h1 hs hs',h2⟩,h3,a0,c0,k0,s0,ht.keep id _ h4 hs rfl,h5⟩
  ·trivial
 | mp id j =>
  obtain ⟨a,c,k,sz,⟨h1,h2⟩,h3,a0,c0,k0,s0,h4,h5⟩:=h;simp only [HV.sub];split
  ·rename_i hs hs'; exact ⟨a,c,k,sz,⟨ht.keepN id j _ _ _ _ h3 h1 hs hs',h2⟩,h3,a0,c0,k0,s0,ht.keep id _ h4 hs rfl,h5⟩
  ·trivial
theorem HC.sub_nil (x:HC):x.sub []=x:=by cases x <;> rfl
theorem HV.sub_nil (x:HV):x.sub []=x:=by
 cases x with
 | ag cs=>exact congrArg HV.ag ((List.map_congr_left fun c _=>HC.sub_nil c).trans (List.map_id cs))
 | _=>rfl
theorem RH.mono {ρ ρ':Own} {F F':Nat→Prop} {w w':World} (hρ:∀ id L,ρ id=some L→ρ' id=some L) (hF:∀ k,F k→F' k∧w'.heap[k]? = w.heap[k]?) {x:HV} {v:Value} (h:RH ρ F w x v):RH ρ' F' w' x v:=by
 have:=RH.sub (sb:=[]) ⟨fun id b=>hρ id _,fun id L h _ _=>hρ id L h,fun id j a c k s _ h _ _=>hρ _ _ h,fun id rows a c k sz _ h=>by simp [zZ] at h,hF⟩ h
 rwa [HV.sub_nil] at this
theorem uZ {w w':World} {m e sz:Nat} {a:Option Addr} {n c:Nat} {xs:List Value} (h:w.ownsRow m e sz (.slice a n c) n xs) (hb:∀ b,a.map (·.block)=some b→w'.heap[b]? = w.heap[b]?):w'.ownsRow m e sz (.slice a n c) n xs:=by
 refine ⟨h.1,?_⟩;rcases h.2 with h | ⟨g,cap,cur,h1,h2,h3,h4⟩
 ·exact .inl h
 ·refine .inr ⟨g,cap,cur,h1,h2,?_,h4⟩;simp only [Value.slice.injEq] at h1;rw [hb g (by rw [h1.1]; rfl)]; exact h3
theorem EntOk.sub {sb:List (Nat × Option Rows)} {ρ ρ':Own} {F F':Nat→Prop} {w w':World} (ht:Turns sb ρ ρ' F F' w w') {id:Nat} {e:Ent} (h:EntOk ρ F w id e) (hk:zZ sb id=none) (hk2:zZ sb (mid id)=none) (hb:∀ L b,ρ id=some L→L.bl=some b→w'.heap[b]? = w.heap[b]?) (hbn:∀ j L b,ρ (nid id j)=some L→L.bl=some b→w'.heap[b]? = w.heap[b]?):EntOk ρ' F' w' id (e.sub sb):=by
 cases e with
 | blk cells =>
  obtain ⟨b,vs,ty,h1,h2,h3,h4⟩:=h;refine ⟨b,vs,ty,ht.keep id _ h1 hk rfl,by rw [hb _ b h1 rfl]; exact h2,Al.map_left (h3.imp fun _ _ _ h=>RH.sub ht h),h4⟩
 | reg e sz rows =>
  obtain ⟨a,c,vr,h1,h2,h3,h4,h5,h6⟩:=h;exact ⟨a,c,vr,ht.keep id _ h1 hk rfl,h2,h3.imp fun _ _ _ h=>h.imp fun _ _ _ h=>h.mono ht.fz,h4,h5,uZ h6 fun b hb'=>hb _ b h1 hb'⟩
 | itr s pos =>
  obtain ⟨b,h1,h2⟩:=h;exact ⟨b,ht.keep id _ h1 hk rfl,by rw [hb _ b h1 rfl]; exact h2⟩
 | nst e ie isz rows pd =>
  obtain ⟨a,c,H,h1,h2,h3,h4,h5,h6⟩:=h;refine ⟨a,c,H,ht.keep id _ h1 hk rfl,h2,uZ h3 fun b hb'=>hb _ b h1 hb',h4,h5,fun v hv => ?_⟩;obtain ⟨r,av,cv,vr,q1,q2,q3,q4,q5,q6,q7⟩:=h6 v hv;exact ⟨r,av,cv,vr,q1,ht.keepN id v _ _ _ _ h2.1 q2 hk hk2,q3,q4.imp fun _ _ _ h=>h.imp fun _ _ _ h=>h.mono ht.fz,q5,q6,uZ q7 fun b hb'=>hbn v _ b q2 hb'⟩
theorem qUU {f:Ent→Ent} {M:Mem} {i:Nat}:qX (M.map fun x=>(x.1,f x.2)) i=(qX M i).map f:=by
 induction M with
 | nil=>rfl
 | cons x M ih=>simp only [List.map_cons,qX]; cases Nat.beq x.1 i <;> simp [ih]
theorem zUW {f:HV→HV} {S:List (Nat × HV)} {i:Nat}:jJ (S.map fun x=>(x.1,f x.2)) i=(jJ S i).map f:=by
 induction S with
 | nil=>rfl
 | cons x M ih=>simp only [List.map_cons,jJ]; cases Nat.beq x.1 i <;> simp [ih]
theorem zHY (i:Nat):Nat.beq i i=true:=Nat.beq_refl i
theorem zQX (S:List (Nat × HV)) (i:Nat) (x:HV):jJ ((i,x) :: S) i=some x:=by simp [jJ]
theorem zYY {S:List (Nat × HV)} {i j:Nat} {x:HV} (h:i ≠ j):jJ ((i,x) :: S) j=jJ S j:=by simp [jJ,jY h]
theorem yJX {M:Mem} {i j:Nat}:qX (remM i M) j=if i=j then none else qX M j:=by
 induction M with
 | nil=>simp [remM,qX]
 | cons x M ih =>
  obtain ⟨k,x⟩:=x;simp only [remM];by_cases e:k=i
  ·subst e;rw [zHY,vYQ,ih];by_cases e2:k=j
   ·simp [e2]
   ·simp [e2,qX,jY e2]
  ·rw [jY e,vYZ];simp only [qX];by_cases e2:k=j
   ·subst e2; simp [Ne.symm e]
   ·rw [jY e2,vYZ,vYZ,ih]
theorem qZV {M:Mem} {i j:Nat} {e:Ent}:qX (putM i e M) j=if i=j then some e else qX M j:=by
 induction M with
 | nil =>
  simp only [putM,qX];by_cases h:i=j
  ·subst h; simp
  ·simp [h,jY h]
 | cons x M ih =>
  obtain ⟨k,x⟩:=x;simp only [putM];by_cases e:k=i
  ·subst e;rw [zHY,vYQ];simp only [qX];by_cases e2:k=j
   ·subst e2; simp
   ·rw [jY e2]; simp [e2]
  ·rw [jY e,vYZ];simp only [qX];by_cases e2:k=j
   ·subst e2; simp [Ne.symm e]
   ·rw [jY e2,vYZ,vYZ,ih]
def zQ:List (Nat × Option Ent)→Nat→Option (Option Ent)
 | [],_=>none
 | (k,x) :: l,i=>match zQ l i with
  | some y=>some y
  | none=>bif Nat.beq k i then some x else none
theorem yJK {l:List (Nat × Option Ent)}:∀ {M:Mem} {j:Nat},qX (ups l M) j=match zQ l j with | some x=>x | none=>qX M j:=by
 induction l with
 | nil=>intro M j; rfl
 | cons x l ih =>
  intro M j;obtain ⟨i,x⟩:=x;cases x with
  | none =>
   simp only [ups,zQ,ih];cases hu:zQ l j with
   | some y=>rfl
   | none =>
    simp only [yJX];by_cases e:i=j
    ·subst e; simp
    ·simp [e,jY e]
  | some y =>
   simp only [ups,zQ,ih];cases hu:zQ l j with
   | some y=>rfl
   | none =>
    simp only [qZV];by_cases e:i=j
    ·subst e; simp
    ·simp [e,jY e]
theorem zUX (sb:List (Nat × Option Rows)) (S:List (Nat × HV)) (t:Nat):jJ (subS sb S) t=(jJ S t).map (HV.sub sb):=by
 cases sb with
 | nil=>simp only [subS]; cases jJ S t <;> simp [HV.sub_nil]
 | cons y ys=>exact zUW (f:=HV.sub (y :: ys))
theorem Ent.sub_nil (x:Ent):x.sub []=x:=by
 cases x with
 | blk cells=>simp only [Ent.sub]; congr 1; exact (List.map_congr_left fun a _=>HV.sub_nil a).trans (List.map_id _)
 | _=>rfl
theorem yJU (sb:List (Nat × Option Rows)) (M:Mem) (t:Nat):qX (subM sb M) t=(qX M t).map (Ent.sub sb):=by
 cases sb with
 | nil=>simp only [subM]; cases qX M t <;> simp [Ent.sub_nil]
 | cons y ys=>exact qUU (f:=Ent.sub (y :: ys))
theorem qQQ (σ:St) (e:Eff) (dst:Option Nat) (t:Nat):jJ (σ.apply e dst).S t=if dst=some t then some e.x else (jJ σ.S t).map (HV.sub e.sb):=by
 unfold St.apply;cases dst with
 | none=>simpa using zUX _ _ _
 | some d =>
  by_cases hd:d=t
  ·subst hd; simp [jJ]
  ·simp only [zYY hd,vQZ,hd,if_false]; exact zUX _ _ _
theorem jH (σ:St) (e:Eff) (dst:Option Nat) (i:Nat):qX (σ.apply e dst).M i=match zQ e.up i with | some x=>x | none=>(qX σ.M i).map (Ent.sub e.sb):=by
 show qX (ups e.up _) i=_;rw [yJK];cases zQ e.up i with
 | some x=>rfl
 | none=>exact yJU _ _ _
theorem EntOk.own {ρ:Own} {F:Nat→Prop} {w:World} {id:Nat} {e:Ent} (h:EntOk ρ F w id e):∃ L,ρ id=some L∧L.inner=false:=by
 cases e with
 | blk cells=>obtain ⟨b,_,_,h1,_⟩:=h; exact ⟨_,h1,rfl⟩
 | reg e sz rows=>obtain ⟨a,c,vr,h1,_⟩:=h; exact ⟨_,h1,rfl⟩
 | itr s pos=>obtain ⟨b,h1,_⟩:=h; exact ⟨_,h1,rfl⟩
 | nst e ie isz rows pd=>obtain ⟨a,c,H,h1,_⟩:=h; exact ⟨_,h1,rfl⟩
theorem Rel'.apply2 {E:Env} {n:Nat} {ρ ρ':Own} {F F':Nat→Prop} {σ:St} {a:Act} {w w':World} (h:Rel' E n ρ F σ a w) (e:Eff) (dst:Option Nat) (v:Value)
  (hd:∀ d,dst=some d→d < n) (ht:Turns e.sb ρ ρ' F F' w w') (hx:RH ρ' F' w' e.x v)
  (hsame:∀ id L b,zQ e.up id=none→(∀ k j,id=nid k j→zQ e.up k=none)→ρ id=some L→L.bl=some b→w'.heap[b]? = w.heap[b]?)
  (hsb:∀ id,id < 2000000→zQ e.up id=none→zZ e.sb id=none)
  (hsb2:∀ id,id < 2000000→zQ e.up id=none→zZ e.sb (mid id)=none)
  (hord:∀ id x,zQ e.up id=some x→id < 2000000)
  (hold:∀ id L,zQ e.up id=none→ρ' id=some L→L.inner=false→ρ id=some L)
  (hup:∀ id x,zQ e.up id=some x→match x with
   | some ent=>EntOk ρ' F' w' id ent
   | none=>ρ' id=none)
  (hinr:∀ id L,ρ' id=some L→L.inner=true→2000000≤id)
  (hap:∀ id id' L L' b,ρ' id=some L→ρ' id'=some L'→L.bl=some b→L'.bl=some b→id=id')
  (hoff:∀ id L b,ρ' id=some L→L.bl=some b→¬ F' b∧b < w'.heap.size∧(E.w0.heap.size≤b ∨ E.W b))
  (hfz:∀ k,F' k→k < w'.heap.size∧(E.F0 k ∨ E.w0.heap.size≤k ∨ E.W k)) (hg:GrowB E.W E.w0 w') (hp2:∀ b,ρ pid2=some (.blk b)→zQ e.up pid2=none):Rel' E n ρ' F' (σ.apply e dst) (a.put dst v) w':=by
 have nnone:∀ k j,zQ e.up (nid k j)=none:=fun k j=>by
  cases hc:zQ e.up (nid k j) with
  | none=>rfl
  | some x=>exact absurd (hord _ x hc) (by have:=qZW k j; omega)
 refine ⟨?_,?_,fun t x hx' => ?_,⟨fun id ent hl => ?_,fun id L hL hi => ?_,fun id ent hl => ?_,hinr,hap,hoff,hfz,fun k hk=>(ht.fz k (h.mem.fz0 k hk)).1,hg,fun b hb=>(h.mem.pin b hb).imp (ht.blk pid b) fun h=>h,fun b hb => ?_⟩⟩
 ·unfold Act.put; cases dst <;> simp [h.size]
 ·unfold Act.put; cases dst <;> exact h.defers
 ·rw [qQQ] at hx';by_cases e1:dst=some t
  ·rw [if_pos e1] at hx';cases hx';subst e1
   have:=hd t rfl
   exact ⟨v,by simp [Act.put,h.size,this],hx⟩
  ·rw [if_neg e1,vZK] at hx';obtain ⟨y,hy,rfl⟩:=hx';obtain ⟨u,hu,hr⟩:=h.slots t y hy;refine ⟨u,?_,RH.sub ht hr⟩;cases dst with
   | none=>exact hu
   | some d =>
    have:d ≠ t:=fun e=>e1 (by rw [e])
    simp [Act.put,Array.getElem?_setIfInBounds_ne this,hu]
 ·rw [jH] at hl;cases hu:zQ e.up id with
  | some x =>
   rw [hu] at hl;simp only at hl;subst hl;exact hup id _ hu
  | none =>
   rw [hu] at hl;simp only [vZK] at hl;obtain ⟨y,hy,rfl⟩:=hl;have hid:=h.mem.ord id y hy;refine EntOk.sub ht (h.mem.ent id y hy) (hsb id hid hu) (hsb2 id hid hu) (fun L b hL hb=>hsame id L b hu (fun k j e => ?_) hL hb) (fun j L b hL hb=>hsame _ L b (nnone id j) (fun k i e2 => ?_) hL hb)
   ·have:=qZW k j; omega
   ·by_cases hk:k < 2000000
    ·obtain ⟨rfl,_⟩:=qGB hid hk e2; exact hu
    ·cases hc:zQ e.up k with
     | none=>rfl
     | some x=>exact absurd (hord _ x hc) hk
 ·rw [jH];cases hu:zQ e.up id with
  | some x =>
   have:=hup id x hu
   cases x with
   | none=>simp only at this; rw [this] at hL; cases hL
   | some ent=>exact ⟨ent,rfl⟩
  | none =>
   obtain ⟨y,hy⟩:=h.mem.dom id L (hold id L hu hL hi) hi;exact ⟨_,by simp [hy]; rfl⟩
 ·rw [jH] at hl;cases hu:zQ e.up id with
  | some x=>exact hord id x hu
  | none =>
   rw [hu] at hl;simp only [vZK] at hl;obtain ⟨y,hy,rfl⟩:=hl;exact h.mem.ord id y hy
 ·obtain ⟨h1,h2⟩:=h.mem.rd b hb;exact ⟨ht.blk _ _ h1,(hsame pid2 (.blk b) b (hp2 b h1) (fun k j e=>absurd e (by have:=qZW k j; unfold pid2; omega)) h1 rfl).trans h2⟩
theorem Rel'.apply {E:Env} {n:Nat} {ρ ρ':Own} {F F':Nat→Prop} {σ:St} {a:Act} {w w':World} (h:Rel' E n ρ F σ a w) (e:Eff) (dst:Option Nat) (v:Value)
  (hd:∀ d,dst=some d→d < n) (ht:Turns e.sb ρ ρ' F F' w w') (hx:RH ρ' F' w' e.x v)
  (hsame:∀ id L b,zQ e.up id=none→ρ id=some L→L.bl=some b→w'.heap[b]? = w.heap[b]?)
  (hsb:∀ id,zQ e.up id=none→zZ e.sb id=none)
  (hord:∀ id x,zQ e.up id=some x→id < 2000000)
  (hold:∀ id,zQ e.up id=none→ρ' id=ρ id)
  (hup:∀ id x,zQ e.up id=some x→match x with
   | some ent=>EntOk ρ' F' w' id ent
   | none=>ρ' id=none)
  (hap:∀ id id' L L' b,ρ' id=some L→ρ' id'=some L'→L.bl=some b→L'.bl=some b→id=id')
  (hoff:∀ id L b,ρ' id=some L→L.bl=some b→¬ F' b∧b < w'.heap.size∧(E.w0.heap.size≤b ∨ E.W b))
  (hfz:∀ k,F' k→k < w'.heap.size∧(E.F0 k ∨ E.w0.heap.size≤k ∨ E.W k)) (hg:GrowB E.W E.w0 w') (hp2:∀ b,ρ pid2=some (.blk b)→zQ e.up pid2=none):Rel' E n ρ' F' (σ.apply e dst) (a.put dst v) w':=by
 refine h.apply2 e dst v hd ht hx (fun id L b hu _=>hsame id L b hu) (fun id _=>hsb id) (fun id _ _ => ?_) hord (fun id L hu hL _=>by rw [← hold id hu]; exact hL) hup (fun id L hL hi => ?_) hap hoff hfz hg hp2
 ·refine hsb (mid id) ?_;cases hc:zQ e.up (mid id) with
  | none=>rfl
  | some x=>exact absurd (hord _ x hc) (by unfold mid; omega)
 ·cases hu:zQ e.up id with
  | none=>rw [hold id hu] at hL; exact h.mem.inr id L hL hi
  | some x =>
   have:=hup id x hu
   cases x with
   | none=>simp only at this; rw [this] at hL; cases hL
   | some ent =>
    obtain ⟨L',h1,h2⟩:=EntOk.own this;rw [hL] at h1;cases h1;rw [hi] at h2; cases h2
def qQI (M:Mem) (id:Nat):Prop:=qX M id=none∧id < 2000000
theorem MemOk.fresh {E:Env} {ρ:Own} {F:Nat→Prop} {M:Mem} {w:World} (h:MemOk E ρ F M w) {id:Nat} (hid:qQI M id):ρ id=none:=by
 cases hc:ρ id with
 | none=>rfl
 | some L =>
  cases hi:L.inner with
  | true=>exact absurd (h.inr id L hc hi) (by have:=hid.2; omega)
  | false=>obtain ⟨e,he⟩:=h.dom id L hc hi; rw [hid.1] at he; cases he
theorem MemOk.lt {E:Env} {ρ:Own} {F:Nat→Prop} {M:Mem} {w:World} (h:MemOk E ρ F M w) {id:Nat} {L:Loc} (hL:ρ id=some L) (hi:L.inner=false):id < 2000000:=by
 obtain ⟨e,he⟩:=h.dom id L hL hi;exact h.ord id e he
end Go.Rx

/- Part 3 of the texts behind the last one: rules and contracts. No condition. -/
import Derived.Test.YtmeldddgjfocdaaGreatGL2
open Option renaming bind_eq_some_iff → vQQ, map_eq_some_iff → vZW, bind_some → vYQ
open Option.some renaming injEq → vQZ
open Bool renaming and_eq_true → vQJ
open List renaming getElem?_eq_getElem → vQK, mem_of_getElem? → vQG, mem_cons_of_mem → vQH, mem_cons_self → vZQ, all_eq_true → vZZ, getElem?_map → vZY, getElem?_take → vZV, mem_cons → vYZ
open Nat renaming eq_of_beq_eq_true → vQX, le_of_ble_eq_true → vZX
namespace Go.Rx
open Go.RowKit
inductive PV where
 | n (k:IntKind) (x:Int)
 | b (x:Bool)
 | s (x:ByteArray)
 | a (cs:List PV)
 | t (cs:List PV)
 | l (rows:List (List PV))
 | z (rows:List (List PV)) (j off:Nat)
 | c (cells:List PV) (off:Nat)
 | f (fn:Nat) (first cap:List PV)
 | ni
 | np
 | nf
 | zs
 | ze                                          -- nothing, with no room for more
 | nz                                          -- a nil slice, whatever its room
 | ne                                          -- nothing, not nil
 | lf (n:Nat) (f:Nat→List PV)
 | zf (n:Nat) (f:Nat→List PV) (j off:Nat)
inductive Cap where
 | v (x:PV)
 | p (id off:Nat)
def zJK (c:Bool):PV→PV→PV
 | .n k x,.n k' y=>match decide (k=k') with
  | true=>.n k (bif c then x else y)
  | false=>bif c then .n k x else .n k' y
 | .b x,.b y=>.b (bif c then x else y)
 | .s x,.s y=>.s (bif c then x else y)
 | x,y=>bif c then x else y
def zJJ (m:PV→PV→PV) (c:Bool):List PV→List PV→List PV
 | [],[]=>[]
 | x :: xs,y :: ys=>m x y :: zJJ m c xs ys
 | xs,ys=>bif c then xs else ys
def yJD (c:Bool):PV→PV→PV
 | .lf n f,.lf m g=>.lf (bif c then n else m) (fun v=>zJJ (zJK c) c (f v) (g v))
 | x,y=>zJK c x y
def qHL (c:Bool):PV→PV→PV
 | .lf n f,.lf m g=>.lf (bif c then n else m) (fun v=>zJJ (yJD c) c (f v) (g v))
 | x,y=>zJK c x y
def qZV (c:Bool):List PV→List PV→List PV:=zJJ (qHL c) c
inductive Rows where
 | l (rows:List (List PV))
 | fo (n:Nat) (f:Nat→List PV)
instance:Coe (List (List PV)) Rows:=⟨.l⟩
def Rows.L:Rows→List (List PV)
 | .l rows=>rows
 | .fo n f=>(List.range n).map f
def Rows.len:Rows→Nat
 | .l rows=>rows.length
 | .fo n _=>n
def Rows.pv:Rows→PV
 | .l rows=>.l rows
 | .fo n f=>.lf n f
def Rows.pz:Rows→Nat→Nat→PV
 | .l rows,j,off=>.z rows j off
 | .fo n f,j,off=>.zf n f j off
def Rows.at (j:Nat):Rows→Option (List PV)
 | .l rows=>rows[j]?
 | .fo _ f=>some (f j)
def Rows.set (j:Nat) (r:List PV):Rows→Rows
 | .l rows=>.l (rows.set j r)
 | .fo n f=>.fo n fun v=>qZV (Nat.beq v j) r (f v)
def fnOf:List (List PV)→Nat→List PV
 | [],_=>[]
 | [r],_=>r
 | r :: s :: l,v=>qZV (Nat.beq v 0) r (fnOf (s :: l) (v - 1))
def jUH:Nat→(Nat→List PV)→List (List PV)→Rows
 | n,f,[]=>.fo n f
 | n,f,r :: l=>jUH (n + 1) (fun v=>qZV (Nat.beq v n) r (f v)) l
def Rows.app:Rows→Rows→Rows
 | .l a,.l b=>.l (a ++ b)
 | .l [],.fo m g=>.fo m g
 | .l (r :: a),.fo m g=>.fo (a.length + 1 + m) fun v=>qZV (Nat.blt v (a.length + 1)) (fnOf (r :: a) v) (g (v - (a.length + 1)))
 | .fo n f,.l b=>jUH n f b
 | .fo n f,.fo m g=>.fo (n + m) fun v=>qZV (Nat.blt v n) (f v) (g (v - n))
def Rows.take (j:Nat):Rows→Rows
 | .l rows=>.l (rows.take j)
 | .fo _ f=>.fo j f
def Rows.toF (z:List PV):Rows→Rows
 | .l []=>.fo 0 fun _=>z
 | .l (r :: a)=>.fo (a.length + 1) (fnOf (r :: a))
 | r=>r
inductive HC where
 | v (x:PV)
 | nl
 | o (id:Nat)
 | un
inductive HV where
 | v (x:PV)
 | nl
 | o (id:Nat)
 | p (id off:Nat)
 | q (id j off:Nat)
 | g (fn:Nat) (first:List PV) (cap:List Cap)
 | un
 | ag (cs:List HC)                           -- a struct that holds own slices
inductive Ent where
 | blk (cells:List HV)
 | reg (e sz:Nat) (rows:Rows)
 | itr (s:ByteArray) (pos:Nat)
abbrev Mem:=List (Nat × Ent)
def yK:Mem→Nat→Option Ent
 | [],_=>none
 | (k,x) :: M,i=>bif Nat.beq k i then some x else yK M i
def qQB:List (Nat × HV)→Nat→Option HV
 | [],_=>none
 | (k,x) :: M,i=>bif Nat.beq k i then some x else qQB M i
inductive CV where
 | h (x:HV)
 | o (id e sz:Nat) (rows:Rows)
inductive RC where
 | v (x:PV)
 | p (id off:Nat) (cells:List CV)
inductive RV where
 | v (x:PV)
 | nl
 | o (id e sz:Nat) (rows:Rows)
 | p (id off:Nat) (cells:List CV)
 | q (id j off e sz:Nat) (rows:Rows)
 | i (id off:Nat) (s:ByteArray) (pos:Nat)
 | g (fn:Nat) (first:List PV) (cap:List RC)
 | w (x:HV)
 | un
def mapO {α β:Type} (f:α→Option β):List α→Option (List β)
 | []=>some []
 | x :: xs=>(f x).bind fun y=>(mapO f xs).bind fun ys=>some (y :: ys)
def cvOf (M:Mem):HV→Option CV
 | .o id=>match yK M id with
  | some (.reg e sz rows)=>some (.o id e sz rows)
  | _=>none
 | x=>some (.h x)
def rcOf (M:Mem):Cap→Option RC
 | .v x=>some (.v x)
 | .p id off=>match yK M id with
  | some (.blk cells)=>(mapO (cvOf M) cells).bind fun cs=>some (.p id off cs)
  | _=>none
def res (M:Mem):HV→Option RV
 | .v x=>some (.v x)
 | .nl=>some .nl
 | .un=>some .un
 | .o id=>match yK M id with
  | some (.reg e sz rows)=>some (.o id e sz rows)
  | _=>none
 | .p id off=>match yK M id with
  | some (.blk cells)=>(mapO (cvOf M) cells).bind fun cs=>some (.p id off cs)
  | some (.itr s pos)=>some (.i id off s pos)
  | _=>none
 | .q id j off=>match yK M id with
  | some (.reg e sz rows)=>some (.q id j off e sz rows)
  | _=>none
 | .g fn first cap=>(mapO (rcOf M) cap).bind fun cs=>some (.g fn first cs)
 | .ag cs=>some (.w (.ag cs))
def sh:HV→RV
 | .v x=>.v x
 | .nl=>.nl
 | .un=>.un
 | x=>.w x
def mode:Op→Nat
 | .move _ | .assign _ | .pick .. | .fieldAddr .. | .nilCheck _ | .makeFunc .. | .box .. => 1
 | .indexAddr .. => 2
 | _=>0
def resM:Nat→Mem→HV→Option RV
 | 0,M,x=>res M x
 | 1,_,x=>some (sh x)
 | _ + 2,M,.o id=>res M (.o id)
 | _ + 2,_,x=>some (sh x)
def CV.back:CV→HV
 | .h x=>x
 | .o id _ _ _=>.o id
def RC.back:RC→Cap
 | .v x=>.v x
 | .p id off _=>.p id off
def RV.back:RV→HV
 | .v x=>.v x
 | .nl=>.nl
 | .o id _ _ _=>.o id
 | .p id off _=>.p id off
 | .q id j off _ _ _=>.q id j off
 | .i id off _ _=>.p id off
 | .g fn first cap=>.g fn first (cap.map RC.back)
 | .w x=>x
 | .un=>.un
def CV.fz:CV→Option PV
 | .h (.v x)=>some x
 | .h .nl=>some (.l [])
 | .o _ _ _ rows=>some rows.pv
 | _=>none
def RC.fz:RC→Option PV
 | .v x=>some x
 | .p _ off cells=>(mapO CV.fz cells).bind fun cs=>some (.c cs off)
def RV.fz:RV→Option PV
 | .v x=>some x
 | .nl=>some (.l [])
 | .o _ _ _ rows=>some rows.pv
 | .p _ off cells=>(mapO CV.fz cells).bind fun cs=>some (.c cs off)
 | .q _ j off _ _ rows=>some (rows.pz j off)
 | .g fn first cap=>(mapO RC.fz cap).bind fun cs=>some (.f fn first cs)
 | _=>none
abbrev Regs:=List (Nat × Rows)
def CV.regs:CV→Regs
 | .o id _ _ rows=>[(id,rows)]
 | _=>[]
def catR {α:Type} (f:α→Regs):List α→Regs
 | []=>[]
 | x :: xs=>match f x with
  | []=>catR f xs
  | ys=>ys ++ catR f xs
def RV.regs:RV→Regs
 | .o id _ _ rows=>[(id,rows)]
 | .q id _ _ _ _ rows=>[(id,rows)]
 | _=>[]
def RV.still:RV→Bool
 | .p .. => false
 | .i .. => false
 | .w _=>false
 | .g _ _ cap=>cap.all fun c=>match c with | .v _=>true | .p .. => false
 | _=>true
structure Eff where
 up:List (Nat × Option Ent)
 sb:List (Nat × Option Rows)
 x:HV
 nw:List Nat
def Eff.val (x:HV):Eff:=⟨[],[],x,[]⟩
def Eff.new (id:Nat) (e:Ent) (x:HV):Eff:=⟨[(id,some e)],[],x,[id]⟩
def Eff.set (id:Nat) (e:Ent) (x:HV):Eff:=⟨[(id,some e)],[],x,[]⟩
def Eff.app (id:Nat) (e:Ent) (x:HV):Eff:=⟨[(id,some e)],[(id,none)],x,[]⟩
def Eff.and (e:Eff) (rs:Regs):Eff:=match rs with
 | []=>e
 | rs=>⟨e.up ++ rs.map fun r=>(r.1,none),e.sb ++ rs.map fun r=>(r.1,some r.2),e.x,e.nw⟩
def Eff.frz (rs:Regs) (x:HV):Eff:=(Eff.val x).and rs
def catL {α:Type} (f:α→List Nat):List α→List Nat
 | []=>[]
 | x :: xs=>match f x with
  | []=>catL f xs
  | ys=>ys ++ catL f xs
def HC.ids:HC→List Nat
 | .o id=>[id]
 | _=>[]
def HV.ids:HV→List Nat
 | .o id=>[id]
 | .q id _ _=>[id]
 | .ag cs=>catL HC.ids cs
 | _=>[]
def Cap.every:Cap→List Nat
 | .v _=>[]
 | .p id _=>[id]
def HV.every:HV→List Nat
 | .o id=>[id]
 | .p id _=>[id]
 | .q id _ _=>[id]
 | .g _ _ cap=>catL Cap.every cap
 | .ag cs=>catL HC.ids cs
 | _=>[]
def CV.fol:CV→List Nat
 | .h _=>[]
 | .o id _ _ _=>[id]
def RC.fol:RC→List Nat
 | .v _=>[]
 | .p id _ cells=>id :: catL CV.fol cells
def RV.fol:RV→List Nat
 | .o id _ _ _=>[id]
 | .p id _ cells=>id :: catL CV.fol cells
 | .q id _ _ _ _ _=>[id]
 | .i id _ _ _=>[id]
 | .g _ _ cap=>catL RC.fol cap
 | _=>[]
def CV.ids:CV→List Nat
 | .h x=>x.ids
 | .o id _ _ _=>[id]
def RC.ids:RC→List Nat
 | .v _=>[]
 | .p id _ cells=>id :: catL CV.ids cells
def RV.ids:RV→List Nat
 | .o id _ _ _=>[id]
 | .p id _ cells=>id :: catL CV.ids cells
 | .q id _ _ _ _ _=>[id]
 | .i id _ _ _=>[id]
 | .g _ _ cap=>catL RC.ids cap
 | .w x=>x.ids
 | _=>[]
def Ent.ids:Ent→List Nat
 | .blk cells=>catL HV.ids cells
 | _=>[]
def uYC (u:Nat × Option Ent):List Nat:=match u.2 with
 | some e=>u.1 :: e.ids
 | none=>[u.1]
def Eff.wr (e:Eff):List Nat:=e.up.map (·.1) ++ e.sb.map (·.1)
def Eff.all (e:Eff):List Nat:=catL uYC e.up ++ e.x.ids ++ e.nw
def uJ:List (Nat × Option Rows)→Nat→Option (Option Rows)
 | [],_=>none
 | (k,x) :: M,i=>bif Nat.beq k i then some x else uJ M i
def HC.sub (sb:List (Nat × Option Rows)):HC→HC
 | .o id=>match uJ sb id with
  | none=>.o id
  | some none=>.un
  | some (some rows)=>.v rows.pv
 | x=>x
def HC.h:HC→HV
 | .v x=>.v x
 | .nl=>.nl
 | .o id=>.o id
 | .un=>.un
def HV.sub (sb:List (Nat × Option Rows)):HV→HV
 | .o id=>match uJ sb id with
  | none=>.o id
  | some none=>.un
  | some (some rows)=>.v rows.pv
 | .q id j off=>match uJ sb id with
  | none=>.q id j off
  | some none=>.un
  | some (some rows)=>.v (rows.pz j off)
 | .ag cs=>.ag (cs.map (HC.sub sb))
 | x=>x
def Ent.sub (sb:List (Nat × Option Rows)):Ent→Ent
 | .blk cells=>.blk (cells.map (HV.sub sb))
 | x=>x
def remM (i:Nat):Mem→Mem
 | []=>[]
 | (k,x) :: M=>bif Nat.beq k i then remM i M else (k,x) :: remM i M
def putM (i:Nat) (e:Ent):Mem→Mem
 | []=>[(i,e)]
 | (k,x) :: M=>bif Nat.beq k i then (i,e) :: M else (k,x) :: putM i e M
def ups:List (Nat × Option Ent)→Mem→Mem
 | [],M=>M
 | (i,some e) :: l,M=>ups l (putM i e M)
 | (i,none) :: l,M=>ups l (remM i M)
structure St where
 S:List (Nat × HV)
 M:Mem
def subS (sb:List (Nat × Option Rows)) (S:List (Nat × HV)):List (Nat × HV):=match sb with
 | []=>S
 | y :: ys=>S.map fun x=>(x.1,x.2.sub (y :: ys))
def subM (sb:List (Nat × Option Rows)) (M:Mem):Mem:=match sb with
 | []=>M
 | y :: ys=>M.map fun x=>(x.1,x.2.sub (y :: ys))
def St.apply (σ:St) (e:Eff) (dst:Option Nat):St :=
 ⟨match dst with | some d=>(d,e.x) :: subS e.sb σ.S | none=>subS e.sb σ.S,ups e.up (subM e.sb σ.M)⟩
structure FnI where
 body:Code
 ntmps:Nat
 results:List ResultVar
structure Hint where
 keep:List Nat:=[]
 ids:List Nat:=[]
 own:List (Nat × Nat × Nat × Nat):=[]      -- slot, id, elem, size
 frz:List Nat:=[]
 out:Option (List Nat × List Nat):=none    -- behind the loop: slots, ids
 fun_:List (Nat × List PV):=[]             -- own slices that become functions: id, zero row
 ownB:List (Nat × Nat × Nat × Nat × Nat):=[]   -- nil slices in a block: block, cell, id, elem, size
inductive Kd where
 | i (k:IntKind)
 | b
 | s
 deriving DecidableEq
structure Tab where
 sz:Nat→Option (Bool × Nat)
 zr:Nat→Option (List PV)
 zh:Nat→Option (List HV)
 fd:Nat→Nat→Option Nat
 fx:Nat→Nat→Option (Nat × Bool × Nat)
 ar:Nat→Option (Nat × Nat × Bool)
 sl:Nat→Option (Nat × Nat)
 ly:Nat→Option (List (Nat × Nat))
 ik:Nat→Option IntKind
 str:Nat→Bool
 bo:Nat→Bool
 eqK:Nat→Option (List Kd)
 fn:Nat→Option FnI
 hint:Nat→Nat→Hint
 rw:Nat→Bool
 dd:Nat→Bool
 ownR:Nat→Nat→Bool
 ff:Nat→Bool:=fun _=>false             -- functions whose slices are kept as functions
 bd:Nat→Nat:=fun _=>1000000            -- how long a slice of these elements may grow
 zf:Nat→Bool:=fun _=>false             -- functions in which a slice made without room is .ze
 bf:Nat→Bool:=fun _=>false             -- functions whose built slices are functions
 agf:Nat→Bool:=fun _=>false            -- functions in which a struct may hold own slices
 sf:Nat→Bool:=fun _=>false             -- functions that freeze the own slices that they store in a block
inductive Ret where
 | v (x:PV)
 | ow (e sz:Nat) (rows:Rows)
 | pb (cells:List PV)
def jYA {α:Type}:List α→Nat→Option (List α)
 | _,0=>some []
 | c :: cs,k + 1=>(jYA cs k).bind fun l=>some (c :: l)
 | [],_ + 1=>none
def qUI {α:Type}:List α→Nat→Nat→Option (List α)
 | cs,0,k=>jYA cs k
 | _ :: cs,off + 1,k=>qUI cs off k
 | [],_ + 1,_=>none
def qYC {α:Type}:List α→Nat→List α→Option (List α)
 | cs,0,[]=>some cs
 | _ :: cs,0,v :: vs=>(qYC cs 0 vs).bind fun l=>some (v :: l)
 | c :: cs,off + 1,vs=>(qYC cs off vs).bind fun l=>some (c :: l)
 | [],0,_ :: _=>none
 | [],_ + 1,_=>none
def PV.cells:PV→List PV
 | .a cs=>cs
 | x=>[x]
def PV.flat1:PV→Bool
 | .n .. => true
 | .b _=>true
 | .s _=>true
 | _=>false
def PV.flat2:PV→Bool
 | .a cs=>cs.all PV.flat1
 | x=>x.flat1
def PV.flat:PV→Bool
 | .t cs=>cs.all PV.flat2
 | x=>x.flat2
def kdIs:Kd→PV→Bool
 | .i k,.n k' _=>decide (k=k')
 | .b,.b _=>true
 | .s,.s _=>true
 | _,_=>false
def qGX:List Kd→List PV→Bool
 | [],[]=>true
 | k :: ks,p :: ps=>kdIs k p && qGX ks ps
 | _,_=>false
def xHW:PV→PV→Option Bool
 | .n _ x,.n _ y=>some (decide (x=y))
 | .b x,.b y=>some (x == y)
 | .s x,.s y=>some (x == y)
 | _,_=>none
def zWU:List PV→List PV→Option Bool
 | [],[]=>some true
 | x :: xs,y :: ys=>(xHW x y).bind fun e=>(zWU xs ys).bind fun es=>some (e && es)
 | _,_=>none
def zYA:Value→Option PV
 | .int k x=>some (.n k x)
 | .bool x=>some (.b x)
 | .string x=>some (.s x)
 | .nilIface=>some .ni
 | .pointer none=>some .np
 | .nilFunc=>some .nf
 | .slice none 0 0=>some .zs
 | _=>none
def yGZ:Value→Option RV
 | .slice none 0 0=>some .nl
 | .agg cs=>(mapO zYA cs.toList).bind fun l=>some (.v (.a l))
 | x=>(zYA x).bind fun y=>some (.v y)
def opv (m:Nat) (σ:St):Operand→Option RV
 | .tmp t=>(qQB σ.S t).bind (resM m σ.M)
 | .const v=>yGZ v
 | .func f=>some (.v (.f f [] []))
 | .global _=>none
def binI (op:BinOp) (k:IntKind) (x y:Int):Option PV :=
 match op with
 | .add=>some (.n k (k.wrap (x + y)))
 | .sub=>some (.n k (k.wrap (x - y)))
 | .mul=>some (.n k (k.wrap (x * y)))
 | .quo=>bif decide (y=0) then none else some (.n k (k.wrap (x.tdiv y)))
 | .rem=>bif decide (y=0) then none else some (.n k (x.tmod y))
 | .and=>some (.n k (k.wrap ((BitVec.ofInt k.bits x &&& BitVec.ofInt k.bits y).toNat)))
 | .lss=>some (.b (decide (x < y)))
 | .leq=>some (.b (decide (x≤y)))
 | .gtr=>some (.b (decide (y < x)))
 | .geq=>some (.b (decide (y≤x)))
 | .eql=>some (.b (decide (x=y)))
 | .neq=>some (.b (!decide (x=y)))
 | _=>none
def binP (T:Tab) (op:BinOp) (t:Nat) (x y:PV):Option PV :=
 match op,x,y with
 | .shl,.n k x,.n _ y=>bif decide (0≤y) then some (.n k (k.wrap (x * 2 ^ (min y.toNat k.bits)))) else none
 | .shr,.n k x,.n _ y=>bif decide (0≤y) then some (.n k (x.fdiv (2 ^ (min y.toNat k.bits)))) else none
 | op,.n k x,.n k' y=>bif decide (k=k') then binI op k x y else none
 | .eql,.s x,.s y=>bif T.str t then some (.b (x.toList == y.toList)) else none
 | .neq,.s x,.s y=>bif T.str t then some (.b (!(x.toList == y.toList))) else none
 | .eql,.b x,.b y=>bif T.bo t then some (.b (x == y)) else none
 | .neq,.b x,.b y=>bif T.bo t then some (.b (!(x == y))) else none
 | .eql,.a x,.a y=>(T.eqK t).bind fun ks=>bif qGX ks x && qGX ks y then (zWU x y).bind fun e=>some (.b e) else none
 | .neq,.a x,.a y=>(T.eqK t).bind fun ks=>bif qGX ks x && qGX ks y then (zWU x y).bind fun e=>some (.b (!e)) else none
 | _,_,_=>none
def uZB:BinOp→PV→Option PV
 | .eql,.l (_ :: _)=>some (.b false)
 | .neq,.l (_ :: _)=>some (.b true)
 | .eql,.nz=>some (.b true)
 | .eql,.ne=>some (.b false)
 | .eql,.lf (_ + 1) _=>some (.b false)
 | .neq,.lf (_ + 1) _=>some (.b true)
 | _,_=>none
def RV.pv:RV→Option PV
 | .v x=>some x
 | _=>none
def kGL:RV→Option Cap
 | .v y=>some (.v y)
 | .w (.p id off)=>some (.p id off)
 | _=>none
def PV.toH:PV→HV
 | .zs=>.nl
 | x=>.v x
def RV.hcells:RV→Option (List HV)
 | .v (.a cs)=>some (cs.map PV.toH)
 | .v (.t _)=>none
 | .un=>none
 | .w (.v _)=>none
 | .w .un=>none
 | .w (.ag cs)=>some (cs.map HC.h)
 | x=>some [x.back]
def RV.pcells:RV→Option (List PV × Regs)
 | .v (.t _)=>none
 | .v x=>some (x.cells,[])
 | .nl=>some ([.l []],[])
 | .o id _ _ rows=>some ([rows.pv],[(id,rows)])
 | _=>none
def yJZ:List RV→Option (List (List PV) × Regs)
 | []=>some ([],[])
 | x :: xs=>x.pcells.bind fun c=>(yJZ xs).bind fun r=>some (c.1 :: r.1,match c.2 with | []=>r.2 | q=>q ++ r.2)
def PV.toC:PV→HC
 | .zs=>.nl
 | x=>.v x
def RV.ccells:RV→Option (List HC)
 | .v (.t _)=>none
 | .v x=>some (x.cells.map PV.toC)
 | .nl=>some [.nl]
 | .o id _ _ _=>some [.o id]
 | .w (.ag cs)=>some cs
 | _=>none
def RV.isO:RV→Bool
 | .o .. => true
 | .w (.ag _)=>true
 | _=>false
def kQU {α:Type} (pl:List (Nat × Nat)):List α→List Nat→List (List α)→Option (List α)
 | cells,[],[]=>some cells
 | cells,i :: is,v :: vs=>(pl[i]?).bind fun x=>bif Nat.beq v.length x.2 then (qYC cells x.1 v).bind fun cs=>kQU pl cs is vs else none
 | _,_,_=>none
def kGV (sz:Nat):List (List PV)→List Nat→List (List PV)→Option (List (List PV))
 | rows,[],[]=>some rows
 | rows,i :: is,v :: vs=>bif Nat.blt i rows.length && Nat.beq v.length sz then kGV sz (rows.set i v) is vs else none
 | _,_,_=>none
def qWB {α:Type} (x:α):Nat→List α
 | 0=>[]
 | k + 1=>x :: qWB x k
def disj:List Nat→List Nat→Bool
 | [],_=>true
 | x :: xs,ys => !(ys.any (Nat.beq x)) && disj xs ys
def zGH (lo hi:Option Operand) (vs:List RV):Option (Option Int × Option Int):=match lo,hi,vs with
 | some _,some _,[.v (.n _ i),.v (.n _ j)]=>some (some i,some j)
 | none,some _,[.v (.n _ j)]=>some (none,some j)
 | some _,none,[.v (.n _ i)]=>some (some i,none)
 | _,_,_=>none
def loOf:Option Int→Nat
 | some i=>i.toNat
 | none=>0
def hiOf (j:Option Int) (n:Nat):Nat:=match j with
 | some j=>j.toNat
 | none=>n
def inS (i j:Option Int) (n:Nat):Bool:=(match i with | some i=>decide (0≤i) | none=>true) && (match j with | some j=>decide (0≤j) | none=>true) && decide (loOf i≤hiOf j n) && decide (hiOf j n≤n)
def zWE (rows:List (List PV)) (l k:Nat):Bool:=(rows[l]?).all fun r=>Nat.beq r.length k
def Rows.ok (k:Nat):Rows→Bool
 | .l rows=>zWE rows 0 k
 | .fo _ f=>Nat.beq (f 0).length k
def yHI:RV→Option Rows
 | .v (.l rows)=>some (.l rows)
 | .v (.lf n f)=>some (.fo n f)
 | .v .ne=>some (.l [])
 | .o _ _ _ rows=>some rows
 | .nl=>some (.l [])
 | _=>none
def inB (i:Int) (n:Nat):Bool:=decide (0≤i) && decide (i.toNat < n)
abbrev kZD:=Nat→List PV→Option Ret
abbrev kZE:=Nat→List HV→List PV→Option (PV × List PV)
def pid:Nat:=1000000
def yYC (T:Tab) (fnid dst:Nat) (hs:Regs):Ret→Option Eff
 | .v x=>match hs with
  | []=>some (.val (.v x))
  | hs=>bif x.flat then some (.val (.v x)) else some (.frz hs (.v x))
 | .ow e sz rows=>bif T.ownR fnid dst then
   (match hs with
     | []=>some (.new dst (.reg e sz rows) (.o dst))
     | _=>none)
  else (match hs with
     | []=>some (.val (.v rows.pv))
     | hs=>some (.frz hs (.v rows.pv)))
 | .pb cells=>match hs with
  | []=>some (.new dst (.blk (cells.map .v)) (.p dst 0))
  | _=>none
def zWV (T:Tab) (qUB:kZD) (me dst:Nat) (f:Nat) (args:List RV):Option Eff :=
 (mapO RV.fz args).bind fun ps=>(qUB f ps).bind fun r =>
  bif args.all RV.still then yYC T me dst (catR RV.regs args) r
  else match r with
   | .v x=>bif x.flat then some (.val (.v x)) else none
   | .ow _ _ (.l rows)=>bif rows.all (fun r=>r.all PV.flat1) then some (.val (.v (.l rows))) else none
   | _=>none
def CV.pv:CV→Option PV
 | .h (.v x)=>some x
 | .h .nl=>some .zs
 | _=>none
def kQY:List RV→Option (Nat × List CV)
 | []=>none
 | x :: xs=>match x with
  | .p id _ cells=>some (id,cells)
  | _=>kQY xs
def RV.toB (id:Nat):RV→Option HV
 | .p id' off _=>bif Nat.beq id' id then some (.p pid off) else none
 | x=>bif x.still then x.fz.bind fun y=>some (.v y) else none
def zKG (qWE:kZE) (f:Nat) (args:List RV):Option Eff :=
 (kQY args).bind fun p=>(mapO CV.pv p.2).bind fun ps=>(mapO (RV.toB p.1) args).bind fun hs=>(qWE f hs ps).bind fun r =>
  some (Eff.and (.set p.1 (.blk (r.2.map PV.toH)) (.v r.1)) (catR RV.regs args))
def zH (T:Tab) (qUB:kZD) (qWE:kZE) (me dst:Nat) (op:Op) (vs:List RV):Option Eff :=
 match op,vs with
 | .move _,[x]=>some (.val x.back)
 | .assign _,[x]=>some (.val x.back)
 | .pick ..,[.v (.b c),x,y]=>some (.val (bif c then x.back else y.back))
 | .alloc t,[]=>(T.zh t).bind fun cs=>some (.new dst (.blk cs) (.p dst 0))
 | .box _ _,[x]=>x.hcells.bind fun hs=>some (.new dst (.blk hs) (.p dst 0))
 | .build t ps,vs=>(T.zr t).bind fun zs=>(T.ly t).bind fun pl=>bif T.agf me && vs.any RV.isO then (mapO RV.ccells vs).bind fun r =>
   (kQU pl (zs.map PV.toC) (ps.toList.map (·.1)) r).bind fun cs=>some (.val (.ag cs)) else (yJZ vs).bind fun r =>
   (kQU pl zs (ps.toList.map (·.1)) r.1).bind fun cs=>some (.frz r.2 (.v (.a cs)))
 | .buildSlice t len ps,vs=>(T.sl t).bind fun e=>(T.zr e.1).bind fun zs=>(yJZ vs).bind fun r =>
   bif Nat.ble (len * e.2) 16777216 then (kGV e.2 (qWB zs len) (ps.toList.map (·.1)) r.1).bind fun rows=>some ((Eff.new dst (.reg e.1 e.2 (bif T.bf me then (Rows.l rows).toF zs else .l rows)) (.o dst)).and r.2) else none
 | .load t _,[x]=>(T.sz t).bind fun k=>match x with
   | .p _ off cells=>bif k.1 then
     (qUI cells off k.2).bind fun cs=>(mapO CV.fz cs).bind fun ps=>some (.frz (catR CV.regs cs) (.v (.a ps)))
    else (cells[off]?).bind fun c=>some (.val c.back)
   | .q _ j off _ _ rows=>(rows.at j).bind fun r=>bif k.1 then (qUI r off k.2).bind fun cs=>some (.val (.v (.a cs))) else (r[off]?).bind fun c=>some (.val c.toH)
   | .v (.z rows j off)=>(rows[j]?).bind fun r=>bif k.1 then (qUI r off k.2).bind fun cs=>some (.val (.v (.a cs))) else (r[off]?).bind fun c=>some (.val c.toH)
   | .v (.c cells off)=>bif k.1 then (qUI cells off k.2).bind fun cs=>some (.val (.v (.a cs))) else (cells[off]?).bind fun c=>some (.val c.toH)
   | .v (.zf _ f j off)=>bif k.1 then (qUI (f j) off k.2).bind fun cs=>some (.val (.v (.a cs))) else ((f j)[off]?).bind fun c=>some (.val c.toH)
   | _=>none
 | .store t _ _,[x,y]=>(T.sz t).bind fun k=>match x with
   | .p id off cells=>bif T.sf me && y.isO then y.pcells.bind fun c=>(bif Nat.beq c.1.length k.2 && disj [id] (c.2.map (·.1)) then
      (qYC ((cells.map CV.back).map (HV.sub (c.2.map fun r=>(r.1,some r.2)))) off (c.1.map HV.v)).bind fun cs=>some ((Eff.set id (.blk cs) .un).and c.2) else none)
     else y.hcells.bind fun hs=>bif Nat.beq hs.length k.2 then (qYC (cells.map CV.back) off hs).bind fun cs=>some (.set id (.blk cs) .un) else none
   | .q id j off e sz rows=>y.pcells.bind fun c=>(rows.at j).bind fun r=>bif Nat.beq c.1.length k.2 && disj [id] (c.2.map (·.1)) then (qYC r off c.1).bind fun r'=>some ((Eff.set id (.reg e sz (rows.set j r')) .un).and c.2) else none
   | _=>none
 | .nilCheck _,[x]=>match x with
   | .w (.p ..)=>some (.val x.back)
   | .w (.q ..)=>some (.val x.back)
   | .v (.z ..)=>some (.val x.back)
   | .v (.c ..)=>some (.val x.back)
   | .v (.zf ..)=>some (.val x.back)
   | _=>none
 | .binOp op t _ _ _,[.v x,.v y]=>(binP T op t x y).bind fun r=>some (.val (.v r))
 | .binOp op t _ _ _,[.v x,.nl]=>(T.sl t).bind fun _=>(uZB op x).bind fun r=>some (.val (.v r))
 | .unOp .not _ _,[.v (.b x)]=>some (.val (.v (.b (!x))))
 | .unOp .neg _ _,[.v (.n k x)]=>some (.val (.v (.n k (k.wrap (0 - x)))))
 | .convert s d _,[.v (.n k x)]=>(T.ik s).bind fun k1=>(T.ik d).bind fun k2=>bif decide (k=k1) then some (.val (.v (.n k2 (k2.wrap x)))) else none
 | .makeFunc (.func fn) first _,vs=>(mapO RV.pv (vs.take first.size)).bind fun fs =>
   (match mapO RV.pv (vs.drop first.size) with
     | some cs=>some (.val (.v (.f fn fs cs)))
     | none=>(mapO kGL (vs.drop first.size)).bind fun cs=>some (.val (.g fn fs cs)))
 | .makeSlice t _ _,[.v (.n _ n),.v (.n _ c)]=>(T.sl t).bind fun e=>(T.zr e.1).bind fun zs =>
   bif T.zf me && (decide (n=0) && decide (c=0)) then some (.val (.v .ze)) else
   bif decide (0≤n) && decide (n≤c) && decide (c≤1000000) then some (.new dst (.reg e.1 e.2 (bif T.ff me then .fo n.toNat (fun _=>zs) else .l (qWB zs n.toNat))) (.o dst)) else none
 | .slice t _ lo hi none,x :: vs=>(zGH lo hi vs).bind fun b=>(match x with
   | .v (.s s)=>bif T.str t && inS b.1 b.2 s.size then some (.val (.v (.s (s.extract (loOf b.1) (hiOf b.2 s.size))))) else none
   | .v (.lf n f)=>(T.sl t).bind fun e=>bif inS b.1 b.2 n then (bif Nat.beq (f (loOf b.1)).length e.2 then some (.val (.v (.lf (hiOf b.2 n - loOf b.1) fun v=>f (v + loOf b.1)))) else none) else none
   | .v (.l rows)=>(T.sl t).bind fun e=>bif inS b.1 b.2 rows.length && zWE rows (loOf b.1) e.2 then some (.val (.v (.l ((rows.take (hiOf b.2 rows.length)).drop (loOf b.1))))) else none
   | .o id e' sz rows=>(match b with
     | (none,some j)=>(T.sl t).bind fun e=>bif Nat.beq sz e.2 && decide (0≤j) && decide (j.toNat≤rows.len) then some (.app id (.reg e' sz (rows.take j.toNat)) (.o id)) else none
     | _=>none)
   | _=>none)
 | .fieldAddr t _ f,[x]=>(T.fd t f).bind fun o=>match x with
   | .w (.p id off)=>some (.val (.p id (off + o)))
   | .w (.q id j off)=>some (.val (.q id j (off + o)))
   | .v (.z rows j off)=>some (.val (.v (.z rows j (off + o))))
   | .v (.c cells off)=>some (.val (.v (.c cells (off + o))))
   | .v (.zf n f j off)=>some (.val (.v (.zf n f j (off + o))))
   | _=>none
 | .field t _ f,[.v (.a cs)]=>(T.fx t f).bind fun o=>bif o.2.1 then (qUI cs o.1 o.2.2).bind fun r=>some (.val (.v (.a r))) else (cs[o.1]?).bind fun r=>some (.val r.toH)
 | .indexAddr t _ _,[x,.v (.n _ i)]=>match x with
   | .w (.p id off)=>(T.ar t).bind fun k=>bif inB i k.1 then some (.val (.p id (off + i.toNat * k.2.1))) else none
   | .w (.q id j off)=>(T.ar t).bind fun k=>bif inB i k.1 then some (.val (.q id j (off + i.toNat * k.2.1))) else none
   | .v (.c cells off)=>(T.ar t).bind fun k=>bif inB i k.1 then some (.val (.v (.c cells (off + i.toNat * k.2.1)))) else none
   | .v (.z rows j off)=>(T.ar t).bind fun k=>bif inB i k.1 then some (.val (.v (.z rows j (off + i.toNat * k.2.1)))) else none
   | .o id _ sz rows=>(T.sl t).bind fun e=>bif inB i rows.len && Nat.beq sz e.2 then some (.val (.q id i.toNat 0)) else none
   | .v (.zf n f j off)=>(T.ar t).bind fun k=>bif inB i k.1 then some (.val (.v (.zf n f j (off + i.toNat * k.2.1)))) else none
   | .v (.lf n f)=>(T.sl t).bind fun e=>bif inB i n && Nat.beq (f i.toNat).length e.2 then some (.val (.v (.zf n f i.toNat 0))) else none
   | .v (.l rows)=>(T.sl t).bind fun e=>(rows[i.toNat]?).bind fun r=>bif decide (0≤i) && Nat.beq r.length e.2 then some (.val (.v (.z rows i.toNat 0))) else none
   | _=>none
 | .index t _ _,[x,.v (.n _ i)]=>match x with
   | .v (.a cs)=>(T.ar t).bind fun k=>bif inB i k.1 then (bif k.2.2 then (qUI cs (i.toNat * k.2.1) k.2.1).bind fun r=>some (.val (.v (.a r))) else (cs[i.toNat]?).bind fun r=>some (.val r.toH)) else none
   | .v (.s s)=>bif T.str t && decide (0≤i) then (s[i.toNat]?).bind fun b=>some (.val (.v (.n .u8 (b.toNat:Int)))) else none
   | _=>none
 | .range t _,[.v (.s s)]=>bif T.str t then some (.new dst (.itr s 0) (.p dst 0)) else none
 | .next _ true,[.i id 0 s pos] =>
   bif decide (pos < s.size) then
    let r:=Utf8.decode s pos
    some (.set id (.itr s (pos + r.2)) (.v (.t [.b true,.n .i64 (pos:Int),.n .i32 (r.1:Int)])))
   else some (.val (.v (.t [.b false])))
 | .extract _ i,[.v (.t cs)]=>(cs[i]?).bind fun r=>some (.val r.toH)
 | .call ⟨.builtin b,_,ats⟩,vs=>match b,vs with
   | .len,[x]=>(match x with
     | .v (.s s)=>(match ats[0]? with | some t=>bif T.str t then some (.val (.v (.n .i64 (s.size:Int)))) else none | none=>none)
     | .v (.l rows)=>(match ats[0]? with | some t=>(T.sl t).bind fun _=>some (.val (.v (.n .i64 (rows.length:Int)))) | none=>none)
     | .v (.lf n _)=>(match ats[0]? with | some t=>(T.sl t).bind fun _=>some (.val (.v (.n .i64 (n:Int)))) | none=>none)
     | .nl=>(match ats[0]? with | some t=>(T.sl t).bind fun _=>some (.val (.v (.n .i64 0))) | none=>none)
     | .o _ _ _ rows=>(match ats[0]? with | some t=>(T.sl t).bind fun _=>some (.val (.v (.n .i64 (rows.len:Int)))) | none=>none)
     | _=>none)
   | .min,[.v (.n k x),.v (.n k' y)]=>bif decide (k=k') then some (.val (.v (.n k (min x y)))) else none
   | .max,[.v (.n k x),.v (.n k' y)]=>bif decide (k=k') then some (.val (.v (.n k (max x y)))) else none
   | .append,[x,y]=>(match ats.toList with
     | [t,t']=>bif Nat.beq t t' then (T.sl t).bind fun e=>(yHI y).bind fun news=>bif news.ok e.2 then (match x with
       | .nl=>bif decide (news.len≤T.bd e.1) then some (.new dst (.reg e.1 e.2 news) (.o dst)) else none
       | .v .ze=>bif decide (news.len≤T.bd e.1) && decide (0 < news.len) then some (.new dst (.reg e.1 e.2 news) (.o dst)) else none
       | .o id e' sz rows=>bif Nat.beq e' e.1 && Nat.beq sz e.2 && decide (rows.len + news.len≤T.bd e.1) && !(y.ids.any (Nat.beq id)) then some (.app id (.reg e' sz (rows.app news)) (.o id)) else none
       | _=>none) else none else none
     | _=>none)
   | _,_=>none
 | .call ⟨.value _,_,_⟩,x :: vs=>match x with
   | .v (.f f first cap)=>bif T.rw f then zKG qWE f (first.map .v ++ vs ++ cap.map .v) else zWV T qUB me dst f (first.map .v ++ vs ++ cap.map .v)
   | .g f first cap=>zWV T qUB me dst f (first.map .v ++ vs ++ cap.map fun c=>match c with | .v x=>.v x | .p id off cells=>.p id off cells)
   | _=>none
 | .defer ⟨.value _,args,_⟩,x :: _=>bif args.isEmpty then (match x with
   | .v (.f f _ _)=>bif T.dd f then some (.val .un) else none
   | .g f _ _=>bif T.dd f then some (.val .un) else none
   | _=>none) else none
 | _,_=>none
def qQI (ops:Array Oper) (σ:St) (o:Oper):Option Bool :=
 match o.guard with
 | none=>some true
 | some (j,b)=>match (ops[j]?).bind (·.dst) with
  | some d=>match qQB σ.S d with
   | some (.v (.b c))=>some (c == b)
   | some (.v (.t []))=>some false
   | _=>none
  | none=>none
structure Cx where
 T:Tab
 cA:kZD
 cB:kZE
 me:Nat
 n:Nat
def dstB (n:Nat):Option Nat→Bool
 | some d=>Nat.blt d n
 | none=>true
def qKJ (C:Cx) (ops:Array Oper) (o:Oper) (σ:St):Option (Eff × List RV) :=
 (qQI ops σ o).bind fun g=>bif dstB C.n o.dst then
  bif g then
   (mapO (opv (mode o.op) σ) o.op.operands.toList).bind fun vs=>(zH C.T C.cA C.cB C.me (o.dst.getD 0) o.op vs).bind fun e =>
    bif e.nw.all (fun id=>(yK σ.M id).isNone) then some (e,vs) else none
  else some (.val (.v (.t [])),[])
 else none
abbrev Done:=Nat × Eff × List RV
def jHG (ops:Array Oper) (x y:Done):Bool :=
 match ops[x.1]?,ops[y.1]? with
 | some ox,some oy =>
  (match x.2.1.sb with | []=>true | _=>false) && (match ox.dst with | some d => !((oy.looksAt ops).any (Nat.beq d)) | none=>true) &&
  (match oy.dst with | some d => !((ox.looksAt ops).any (Nat.beq d)) | none=>true) && (match ox.dst,oy.dst with | some d,some d' => !(Nat.beq d d') | _,_=>true) &&
  disj x.2.1.wr (catL RV.ids y.2.2 ++ y.2.1.all) && disj y.2.1.wr (catL RV.ids x.2.2 ++ x.2.1.all)
 | _,_=>false
def zKE (ops:Array Oper):Nat→Nat→Nat→Bool
 | 0,j,i=>Region.waitsFor .any ops j i
 | n + 1,j,i=>Region.waitsFor .any ops j i || (match ops[j]? with
  | some o=>o.after.any fun e=>Region.binds .any e && zKE ops n e.on i
  | none=>false)
def zWL (ops:Array Oper) (j i:Nat):Bool:=zKE ops 3 j i || zKE ops 5 j i || zKE ops 9 j i
def zJY (ops:Array Oper):List Done→Bool
 | []=>true
 | x :: l=>(l.all fun y=>Region.waitsFor .any ops y.1 x.1 || (jHG ops x y || zWL ops y.1 x.1)) && zJY ops l
def zYI (C:Cx) (ops:Array Oper):List Oper→(St→Option (Ret × Mem))→St→Option (Ret × Mem)
 | [],K,σ=>K σ
 | o :: l,K,σ=>(qKJ C ops o σ).bind fun r=>zYI C ops l K (σ.apply r.1 o.dst)
def qKA (C:Cx) (ops:Array Oper):Nat→List Oper→List Done→(St→Option (Ret × Mem))→St→Option (Ret × Mem)
 | _,[],acc,K,σ=>bif zJY ops acc.reverse && Sx.backB ops then K σ else none
 | i,o :: l,acc,K,σ=>(qKJ C ops o σ).bind fun r=>qKA C ops (i + 1) l ((i,r) :: acc) K (σ.apply r.1 o.dst)
inductive Ex where
 | normal
 | exit (id:Nat)
 | ret
def jHJ (σ:St):List Nat→List (Nat × HV)
 | []=>[]
 | t :: ts=>match qQB σ.S t with
  | some x=>(t,x) :: jHJ σ ts
  | none=>jHJ σ ts
def yVG (M:Mem):List Nat→Mem
 | []=>[]
 | t :: ts=>match yK M t with
  | some x=>(t,x) :: yVG M ts
  | none=>yVG M ts
def ownL:List (Nat × Nat × Nat × Nat)→St→St
 | [],σ=>σ
 | (t,id,e,sz) :: l,σ=>match qQB σ.S t,yK σ.M id with
  | some .nl,none=>bif Nat.blt 0 sz then ownL l (σ.apply (.new id (.reg e sz (.l [])) (.o id)) (some t)) else ownL l σ
  | _,_=>ownL l σ
def frzL:List Nat→St→St
 | [],σ=>σ
 | t :: l,σ=>match qQB σ.S t with
  | some .nl=>frzL l (σ.apply (.val (.v (.l []))) (some t))
  | some (.o id)=>match yK σ.M id with
   | some (.reg _ _ rows)=>frzL l (σ.apply (.frz [(id,rows)] .un) none)
   | _=>frzL l σ
  | _=>frzL l σ
def yJK:List (Nat × Nat × Nat × Nat × Nat)→St→St
 | [],σ=>σ
 | (b,k,id,e,sz) :: l,σ=>match yK σ.M b,yK σ.M id with
  | some (.blk cells),none=>(match cells[k]? with
   | some .nl=>bif Nat.blt 0 sz then yJK l ⟨σ.S,putM id (.reg e sz (.l [])) (putM b (.blk (cells.set k (.o id))) σ.M)⟩ else yJK l σ
   | _=>yJK l σ)
  | _,_=>yJK l σ
def funL:List (Nat × List PV)→Mem→Mem
 | [],M=>M
 | (id,z) :: l,M=>match yK M id with
  | some (.reg e sz rows)=>funL l (putM id (.reg e sz (rows.toF z)) M)
  | _=>funL l M
def HV.only (ids:List Nat) (x:HV):HV:=bif x.every.all (fun i=>ids.any (Nat.beq i)) then x else .un
def Ent.only (ids:List Nat):Ent→Ent
 | .blk cells=>.blk (cells.map (HV.only ids))
 | x=>x
def qJW (h:Hint) (σ:St):St :=
 let σ:=yJK h.ownB (ownL h.own (frzL h.frz σ))
 ⟨(jHJ σ h.keep).map fun x=>(x.1,x.2.only (pid :: h.ids)),funL h.fun_ ((yVG σ.M (pid :: h.ids)).map fun x=>(x.1,x.2.only (pid :: h.ids)))⟩
def qYB (h:Hint) (σ:St):St:=match h.out with
 | none=>σ
 | some o=>qJW { keep:=o.1,ids:=o.2 } σ
def qGJ {α:Type} (step:(St→Option α)→St→Option α):Nat→St→Option α
 | 0=>fun _=>none
 | n + 1=>step (qGJ step n)
def yZ:Code→Nat
 | .region id _ _=>id
 | .seq a _=>yZ a
 | .block _ a=>yZ a
 | .loop a=>yZ a
 | .scope a=>yZ a
 | _=>0
def runC (N:Nat) (C:Cx):Code→(Ex→St→Option (Ret × Mem))→St→Option (Ret × Mem)
 | .skip,K,σ=>K .normal σ
 | .label _,K,σ=>K .normal σ
 | .scope x,K,σ=>runC N C x K σ
 | .ret,K,σ=>K .ret σ
 | .exit id,K,σ=>K (.exit id) σ
 | .region _ ops d,K,σ=>bif d then qKA C ops 0 ops.toList [] (K .normal) σ else zYI C ops ops.toList (K .normal) σ
 | .seq x y,K,σ=>runC N C x (fun e σ=>match e with
   | .normal=>runC N C y K σ
   | e=>K e σ) σ
 | .cond c x y,K,σ=>(opv 1 σ c).bind fun v=>match v with
   | .v (.b t)=>bif t then runC N C x K σ else runC N C y K σ
   | _=>none
 | .block id x,K,σ=>runC N C x (fun e σ=>match e with
   | .exit id'=>bif Nat.beq id' id then K .normal σ else K (.exit id') σ
   | e=>K e σ) σ
 | .loop x,K,σ=>qGJ (fun again σ=>runC N C x (fun e σ=>match e with
   | .normal=>again σ
   | e=>K e (qYB (C.T.hint C.me (yZ x)) σ)) (qJW (C.T.hint C.me (yZ x)) σ)) N σ
 | _,_,_=>none
def jJW (T:Tab) (σ:St):ResultVar→Option RV
 | .tmp t=>(qQB σ.S t).bind (res σ.M)
 | .cell x t=>(qQB σ.S x).bind fun p=>(res σ.M p).bind fun p=>(T.sz t).bind fun k=>match p with
  | .p _ off cells=>bif k.1 then (qUI cells off k.2).bind fun cs=>(mapO CV.fz cs).bind fun ps=>some (.v (.a ps)) else (cells[off]?).bind fun c=>c.fz.bind fun p=>some (.v p)
  | _=>none
def jJX:List RV→Option Ret
 | [.o _ e sz rows]=>some (.ow e sz rows)
 | [.p _ 0 cells]=>(mapO CV.fz cells).bind fun cs=>some (.pb cs)
 | [x]=>x.fz.bind fun y=>some (.v y)
 | xs=>(mapO RV.fz xs).bind fun ys=>some (.v (.t ys))
def initS:Nat→List HV→List (Nat × HV)
 | _,[]=>[]
 | k,v :: vs=>(k,v) :: initS (k + 1) vs
structure Orc where
 a:Nat→Option (List PV→Option Ret)
 b:Nat→Option (List HV→List PV→Option (PV × List PV))
def Orc.none:Orc:=⟨fun _=>.none,fun _=>.none⟩
def HV.pv:HV→Option PV
 | .v x=>some x
 | _=>none
def HV.pz (M:Mem):HV→Option PV
 | .v x=>some x
 | .nl=>some .zs
 | .o id=>match yK M id with
  | some (.reg _ _ rows)=>some rows.pv
  | _=>none
 | _=>none
def qXX (M:Mem):Option (List PV):=match yK M pid with
 | some (.blk hs)=>mapO (HV.pz M) hs
 | _=>none
def jJU:Ret→Option PV
 | .v x=>some x
 | .ow _ _ rows=>some rows.pv
 | .pb _=>none
def qUB (orc:Orc) (r:Nat→List HV→Mem→Option (Ret × Mem)):kZD:=fun g ps=>match orc.a g with
 | some o=>o ps
 | none=>(r g (ps.map .v) []).bind fun r=>some r.1
def qWE (orc:Orc) (r:Nat→List HV→Mem→Option (Ret × Mem)):kZE:=fun g hs ps=>match orc.b g with
 | some o=>o hs ps
 | none=>(r g hs [(pid,.blk (ps.map PV.toH))]).bind fun r=>(qXX r.2).bind fun ps'=>(jJU r.1).bind fun x=>some (x,ps')
def endK (T:Tab) (M:Mem) (res:List ResultVar) (e:Ex) (σ:St):Option (Ret × Mem):=match e with
 | .exit _=>none
 | _=>(mapO (jJW T σ) res).bind fun rs=>(jJX rs).bind fun r=>bif M.isEmpty || rs.all RV.still then some (r,σ.M) else none
def runF (T:Tab) (orc:Orc):Nat→Nat→List HV→Mem→Option (Ret × Mem)
 | 0,_,_,_=>none
 | N + 1,f,args,M=>match T.fn f with
  | none=>none
  | some fi=>bif Nat.ble args.length fi.ntmps then runC N ⟨T,qUB orc (runF T orc N),qWE orc (runF T orc N),f,fi.ntmps⟩ fi.body (endK T M fi.results) ⟨initS 0 args,M⟩ else none
def run (T:Tab) (orc:Orc) (N f:Nat) (ps:List PV):Option Ret:=(runF T orc N f (ps.map .v) []).bind fun r=>some r.1
def runB (T:Tab) (orc:Orc) (N f:Nat) (hs:List HV) (ps:List PV):Option (PV × List PV):=(runF T orc N f hs [(pid,.blk (ps.map PV.toH))]).bind fun r=>(qXX r.2).bind fun ps'=>(jJU r.1).bind fun x=>some (x,ps')
end Go.Rx
namespace Go.Rx
open Go.RowKit Go.Sx
def Al {α β:Type} (R:α→β→Prop) (xs:List α) (ys:List β):Prop:=xs.length=ys.length∧∀ (i:Nat) x y,xs[i]? = some x→ys[i]? = some y→R x y
section
variable {α β:Type} {R R':α→β→Prop} {xs:List α} {ys:List β}
theorem Al.nil:Al R [] []:=⟨rfl,fun i x y h=>by simp at h⟩
theorem Al.cons {x:α} {y:β} (h:R x y) (hs:Al R xs ys):Al R (x :: xs) (y :: ys):=⟨by simp [hs.1],fun i a b ha hb=>by
 cases i with
 | zero=>simp at ha hb; subst ha; subst hb; exact h
 | succ i=>simp at ha hb; exact hs.2 i a b ha hb⟩
theorem Al.nil_left (h:Al R [] ys):ys=[]:=List.eq_nil_of_length_eq_zero h.1.symm
theorem Al.cons_left {x:α} (h:Al R (x :: xs) ys):∃ y ys',ys=y :: ys'∧R x y∧Al R xs ys':=by
 cases ys with
 | nil=>have:=h.1; simp at this
 | cons y ys'=>exact ⟨y,ys',rfl,h.2 0 x y rfl rfl,by have:=h.1; simpa using this,fun i a b ha hb=>h.2 (i + 1) a b (by simpa using ha) (by simpa using hb)⟩
theorem Al.imp (h:Al R xs ys) (hi:∀ x y,x ∈ xs→R x y→R' x y):Al R' xs ys:=⟨h.1,fun i x y hx hy=>hi x y (vQG hx) (h.2 i x y hx hy)⟩
theorem Al.get (h:Al R xs ys) {i:Nat} {x:α} (hx:xs[i]? = some x):∃ y,ys[i]? = some y∧R x y:=by
 have hl:=(List.getElem?_eq_some_iff.1 hx).1
 have:i < ys.length:=by rw [← h.1]; exact hl
 exact ⟨ys[i],vQK this,h.2 i x _ hx (vQK this)⟩
theorem Al.append {xs':List α} {ys':List β} (h:Al R xs ys) (h':Al R xs' ys'):Al R (xs ++ xs') (ys ++ ys'):=⟨by simp [h.1,h'.1],fun i x y hx hy=>by
 rw [List.getElem?_append] at hx hy;rw [h.1] at hx;split at hx
 ·rename_i hl;rw [if_pos hl] at hy; exact h.2 i x y hx hy
 ·rename_i hl;rw [if_neg hl] at hy; exact h'.2 _ x y hx hy⟩
theorem Al.take (h:Al R xs ys) (k:Nat):Al R (xs.take k) (ys.take k):=⟨by simp [h.1],fun i x y hx hy=>by
 rw [vZV] at hx hy;split at hx
 ·rename_i hl;rw [if_pos hl] at hy; exact h.2 i x y hx hy
 ·cases hx⟩
theorem Al.drop (h:Al R xs ys) (k:Nat):Al R (xs.drop k) (ys.drop k):=⟨by simp [h.1],fun i x y hx hy=>by
 rw [List.getElem?_drop] at hx hy; exact h.2 _ x y hx hy⟩
theorem Al.set (h:Al R xs ys) {x:α} {y:β} (hxy:R x y) (k:Nat):Al R (xs.set k x) (ys.set k y):=⟨by simp [h.1],fun i a b ha hb=>by
 rw [List.getElem?_set] at ha hb;split at ha
 ·rename_i e;rw [if_pos e] at hb;split at ha
  ·split at hb
   ·cases ha; cases hb; exact hxy
   ·cases hb
  ·cases ha
 ·rename_i e;rw [if_neg e] at hb; exact h.2 i a b ha hb⟩
theorem Al.repl {x:α} {y:β} (h:R x y) (k:Nat):Al R (qWB x k) (List.replicate k y):=by
 induction k with
 | zero=>exact Al.nil
 | succ k ih=>exact Al.cons h ih
theorem Al.map_left {γ:Type} {f:γ→α} {zs:List γ} (h:Al (fun z y=>R (f z) y) zs ys):Al R (zs.map f) ys:=⟨by simp [h.1],fun i x y hx hy=>by
 rw [vZY,vZW] at hx;obtain ⟨z,hz,rfl⟩:=hx;exact h.2 i z y hz hy⟩
theorem Al.map_left_inv {γ:Type} {f:γ→α} {zs:List γ} (h:Al R (zs.map f) ys):Al (fun z y=>R (f z) y) zs ys:=⟨by have:=h.1; simpa using this,fun i z y hz hy=>h.2 i (f z) y (by rw [vZY,hz]; rfl) hy⟩
end
theorem qYI {i j:Nat} (h:i ≠ j):Nat.beq i j=false:=by
 cases hb:Nat.beq i j with
 | false=>rfl
 | true=>exact absurd (vQX hb) h
theorem zKJ (x y:PV):zJK true x y=x:=by
 unfold zJK;split
 ·split <;> rfl
 all_goals rfl
theorem zKK (x y:PV):zJK false x y=y:=by
 unfold zJK;split
 ·split
  ·rename_i h; rw [vJZ h]; rfl
  ·rfl
 all_goals rfl
theorem zKZ {m:PV→PV→PV} (h:∀ x y,m x y=x):∀ xs ys,zJJ m true xs ys=xs
 | [],[]=>rfl
 | x :: xs,y :: ys=>by rw [zJJ,h,zKZ h xs ys]
 | [],_ :: _=>rfl
 | _ :: _,[]=>rfl
theorem zKY {m:PV→PV→PV} (h:∀ x y,m x y=y):∀ xs ys,zJJ m false xs ys=ys
 | [],[]=>rfl
 | x :: xs,y :: ys=>by rw [zJJ,h,zKY h xs ys]
 | [],_ :: _=>rfl
 | _ :: _,[]=>rfl
theorem kWZ (x y:PV):yJD true x y=x:=by
 unfold yJD;split
 ·simp only [zKZ zKJ,vYV]
 ·exact zKJ _ _
theorem kWY (x y:PV):yJD false x y=y:=by
 unfold yJD;split
 ·simp only [zKY zKK,vYG]
 ·exact zKK _ _
theorem yHL (x y:PV):qHL true x y=x:=by
 unfold qHL;split
 ·simp only [zKZ kWZ,vYV]
 ·exact zKJ _ _
theorem jQQ (x y:PV):qHL false x y=y:=by
 unfold qHL;split
 ·simp only [zKY kWY,vYG]
 ·exact zKK _ _
theorem jJI (xs ys:List PV):qZV true xs ys=xs:=zKZ yHL xs ys
theorem jJL (xs ys:List PV):qZV false xs ys=ys:=zKY jQQ xs ys
theorem qQE (c:Bool) (xs ys:List PV):qZV c xs ys=bif c then xs else ys:=by
 cases c
 ·exact jJL xs ys
 ·exact jJI xs ys
theorem Rows.len_L (r:Rows):r.L.length=r.len:=by cases r <;> simp [Rows.L,Rows.len]
theorem qYZ {α:Type} (f:Nat→α) {n j:Nat} (h:j < n):((List.range n).map f)[j]? = some (f j):=by rw [vZY,List.getElem?_range h]; rfl
theorem Rows.at_L {r:Rows} {j:Nat} {x:List PV} (h:r.at j=some x) (hj:j < r.len):r.L[j]? = some x:=by
 cases r with
 | l rows=>exact h
 | fo n f=>cases h; exact qYZ f hj
theorem qXK (v j:Nat):Nat.beq v j=decide (v=j):=by
 by_cases h:v=j
 ·subst h; simp
 ·rw [vYH h];cases hb:Nat.beq v j with
  | false=>rfl
  | true=>exact absurd (vQX hb) h
theorem Rows.set_L (r:Rows) (j:Nat) (x:List PV):(r.set j x).L=r.L.set j x:=by
 cases r with
 | l rows=>rfl
 | fo n f =>
  simp only [Rows.set,Rows.L];refine List.ext_getElem? fun i => ?_
  by_cases hi:i < n
  ·rw [qYZ _ hi,List.getElem?_set,qQE,qXK];by_cases e:j=i
   ·subst e; simp [hi]
   ·rw [if_neg e,qYZ _ hi,vYH (fun h=>e h.symm)]; rfl
  ·rw [List.getElem?_eq_none (by simp; omega),List.getElem?_eq_none (by simp; omega)]
theorem xHG {i n:Nat} (h:i < n):Nat.blt i n=true:=Nat.ble_eq_true_of_le h
theorem xHH {i n:Nat} (_:¬ i < n):Nat.blt i n=false:=by
 cases hb:Nat.blt i n with
 | false=>rfl
 | true=>exact absurd (vZX hb) (by omega)
theorem jZU:∀ (l:List (List PV)) (i:Nat),i < l.length→l[i]? = some (fnOf l i)
 | [],i,h=>by simp at h
 | [r],i,h=>by
  have:i=0:=by simpa using h
  subst this; rfl
 | r :: s :: l,0,_=>by simp only [fnOf,qQE]; rfl
 | r :: s :: l,i + 1,h=>by
  have:=jZU (s :: l) i (by simpa using h)
  simp only [fnOf,qQE,Nat.add_sub_cancel];rw [List.getElem?_cons_succ,this]; rfl
theorem jZK (l:List (List PV)):(List.range l.length).map (fnOf l)=l:=by
 refine List.ext_getElem? fun i => ?_
 by_cases hi:i < l.length
 ·rw [qYZ _ hi,jZU l i hi]
 ·rw [List.getElem?_eq_none (by simp; omega),List.getElem?_eq_none (by omega)]
theorem jGB {n m:Nat} (f g h:Nat→List PV) (h1:∀ i,i < n→h i=f i) (h2:∀ i,n≤i→h i=g (i - n)):(List.range (n + m)).map h=(List.range n).map f ++ (List.range m).map g:=by
 refine List.ext_getElem? fun i => ?_
 by_cases hi:i < n
 ·rw [qYZ _ (by omega),List.getElem?_append_left (by simpa using hi),qYZ _ hi,h1 i hi]
 ·rw [List.getElem?_append_right (by simp; omega)];simp only [List.length_map,List.length_range];by_cases hj:i < n + m
  ·rw [qYZ _ hj,qYZ _ (by omega),h2 i (by omega)]
  ·rw [List.getElem?_eq_none (by simp; omega),List.getElem?_eq_none (by simp; omega)]
theorem jUG:∀ (b:List (List PV)) (n:Nat) (f:Nat→List PV),(jUH n f b).L=(List.range n).map f ++ b
 | [],n,f=>by simp [jUH,Rows.L]
 | r :: b,n,f=>by
  simp only [jUH];rw [jUG b (n + 1) _,List.range_succ,List.map_append,List.append_assoc]
  congr 1
  ·exact List.map_congr_left fun i hi=>by rw [qQE,qYI (by have:=List.mem_range.1 hi; omega)]; rfl
  ·simp [qQE]
theorem Rows.app_L (a b:Rows):(a.app b).L=a.L ++ b.L:=by
 cases a with
 | l a =>
  cases b with
  | l b=>rfl
  | fo m g =>
   cases a with
   | nil=>rfl
   | cons r a =>
    simp only [Rows.app,Rows.L];rw [jGB (n:=a.length + 1) (fnOf (r :: a)) g _ (fun i hi => ?_) (fun i hi => ?_),show a.length + 1=(r :: a).length from rfl,jZK]
    ·rw [qQE,xHG hi]; rfl
    ·rw [qQE,xHH (by omega)]; rfl
 | fo n f =>
  cases b with
  | l b=>exact jUG b n f
  | fo m g =>
   simp only [Rows.app,Rows.L];refine jGB f g _ (fun i hi => ?_) (fun i hi => ?_)
   ·rw [qQE,xHG hi]; rfl
   ·rw [qQE,xHH (by omega)]; rfl
theorem Rows.take_L {r:Rows} {j:Nat} (h:j≤r.len):(r.take j).L=r.L.take j:=by
 cases r with
 | l rows=>rfl
 | fo n f =>
  have hj:j≤n:=h;simp only [Rows.take,Rows.L];rw [← List.map_take,List.take_range,Nat.min_eq_left hj]
theorem Rows.toF_L (z:List PV) (r:Rows):(r.toF z).L=r.L:=by
 cases r with
 | l rows =>
  cases rows with
  | nil=>rfl
  | cons r a=>exact jZK (r :: a)
 | fo n f=>rfl
theorem Rows.ok_L {r:Rows} {k:Nat} (h:r.ok k=true):zWE r.L 0 k=true:=by
 cases r with
 | l rows=>exact h
 | fo n f =>
  cases n with
  | zero=>rfl
  | succ n =>
   simp only [Rows.L,zWE];rw [qYZ f (Nat.succ_pos n)];exact h
inductive Loc where
 | blk (b:Nat)
 | reg (a:Option Addr) (cap len sz:Nat)
def Loc.bl:Loc→Option Nat
 | .blk b=>some b
 | .reg a _ _ _=>a.map (·.block)
abbrev Own:=Nat→Option Loc
inductive RP (F:Nat→Prop) (w:World):PV→Value→Prop
 | n (k:IntKind) (x:Int):RP F w (.n k x) (.int k x)
 | b (x:Bool):RP F w (.b x) (.bool x)
 | s (x:ByteArray):RP F w (.s x) (.string x)
 | ni:RP F w .ni .nilIface
 | np:RP F w .np (.pointer none)
 | nf:RP F w .nf .nilFunc
 | zs:RP F w .zs (.slice none 0 0)
 | ze (ad:Option Addr):RP F w .ze (.slice ad 0 0)
 | nz (c:Nat):RP F w .nz (.slice none 0 c)
 | ne (ad:Addr) (c:Nat):RP F w .ne (.slice (some ad) 0 c)
 | a (cs:List PV) (vs:List Value) (hl:cs.length=vs.length) (h1:∀ v ∈ vs,v.oneCell'=true) (h:∀ (i:Nat) p v,cs[i]? = some p→vs[i]? = some v→RP F w p v):RP F w (.a cs) (.agg vs.toArray)
 | t (cs:List PV) (vs:List Value) (hl:cs.length=vs.length) (h:∀ (i:Nat) p v,cs[i]? = some p→vs[i]? = some v→RP F w p v):RP F w (.t cs) (.tuple vs.toArray)
 | l0 (ad:Option Addr) (c:Nat):RP F w (.l []) (.slice ad 0 c)
 | l (rows:List (List PV)) (b off n c sz:Nat) (g:Nat→Nat→Value) (hn:n=rows.length) (hcap:n≤c) (hs:∀ r ∈ rows,r.length=sz) (hF:F b)
   (hc:∀ j t,j < n→t < sz→w.cell? ⟨b,off + (j * sz + t),none⟩=some (g j t)∧(g j t).oneCell'=true)
   (h:∀ (j:Nat) r (t:Nat) p,rows[j]? = some r→r[t]? = some p→RP F w p (g j t)):RP F w (.l rows) (.slice (some ⟨b,off,none⟩) n c)
 | z (rows:List (List PV)) (b off sz j o:Nat) (g:Nat→Nat→Value) (hs:∀ r ∈ rows,r.length=sz) (hF:F b)
   (hc:∀ j t,j < rows.length→t < sz→w.cell? ⟨b,off + (j * sz + t),none⟩=some (g j t)∧(g j t).oneCell'=true)
   (h:∀ (j:Nat) r (t:Nat) p,rows[j]? = some r→r[t]? = some p→RP F w p (g j t)):RP F w (.z rows j o) (.pointer (some ⟨b,off + (j * sz + o),none⟩))
 | c (cells:List PV) (vs:List Value) (b o:Nat) (ty:TypeId) (hF:F b) (hb:w.heap[b]? = some (.cells vs.toArray ty)) (hl:cells.length=vs.length) (h1:∀ v ∈ vs,v.oneCell'=true)
   (h:∀ (i:Nat) p v,cells[i]? = some p→vs[i]? = some v→RP F w p v):RP F w (.c cells o) (.pointer (some ⟨b,o,none⟩))
 | f (fn:Nat) (first cap:List PV) (fs cs:List Value) (hl:first.length=fs.length) (hm:cap.length=cs.length) (h:∀ (i:Nat) p v,first[i]? = some p→fs[i]? = some v→RP F w p v)
   (h':∀ (i:Nat) p v,cap[i]? = some p→cs[i]? = some v→RP F w p v):RP F w (.f fn first cap) (.func (.func fn) fs.toArray cs.toArray)
 | lf (n:Nat) (f:Nat→List PV) (v:Value) (h:RP F w (.l ((List.range n).map f)) v):RP F w (.lf n f) v
 | zf (n:Nat) (f:Nat→List PV) (j o:Nat) (v:Value) (hj:j < n) (h:RP F w (.z ((List.range n).map f) j o) v):RP F w (.zf n f j o) v
theorem yUZ {w w':World} {b o:Nat} (h:w'.heap[b]? = w.heap[b]?):w'.cell? ⟨b,o,none⟩=w.cell? ⟨b,o,none⟩:=World.cell?_of_block (a:=⟨b,o,none⟩) h
theorem RP.mono {F F':Nat→Prop} {w w':World} (hF:∀ k,F k→F' k∧w'.heap[k]? = w.heap[k]?) {p:PV} {v:Value} (h:RP F w p v):RP F' w' p v:=by
 induction h with
 | n k x=>exact .n k x
 | b x=>exact .b x
 | s x=>exact .s x
 | ni=>exact .ni
 | np=>exact .np
 | nf=>exact .nf
 | zs=>exact .zs
 | ze ad=>exact .ze ad
 | nz c=>exact .nz c
 | ne ad c=>exact .ne ad c
 | a cs vs hl h1 _ ih=>exact .a cs vs hl h1 ih
 | t cs vs hl _ ih=>exact .t cs vs hl ih
 | l0 ad c=>exact .l0 ad c
 | l rows b off n c sz g hn hcap hs hf hc _ ih=>exact .l rows b off n c sz g hn hcap hs (hF b hf).1 (fun j t hj ht=>by rw [yUZ (hF b hf).2]; exact hc j t hj ht) ih
 | z rows b off sz j o g hs hf hc _ ih=>exact .z rows b off sz j o g hs (hF b hf).1 (fun j t hj ht=>by rw [yUZ (hF b hf).2]; exact hc j t hj ht) ih
 | c cells vs b o ty hf hb hl h1 _ ih=>exact .c cells vs b o ty (hF b hf).1 (by rw [(hF b hf).2]; exact hb) hl h1 ih
 | f fn first cap fs cs hl hm _ _ ih ih'=>exact .f fn first cap fs cs hl hm ih ih'
 | lf n f v _ ih=>exact .lf n f v ih
 | zf n f j o v hj _ ih=>exact .zf n f j o v hj ih
theorem RP.flat1 {F F':Nat→Prop} {w w':World} {p:PV} {v:Value} (h:RP F w p v) (hp:p.flat1=true):RP F' w' p v:=by
 cases h <;> first | (simp [PV.flat1] at hp; done) | constructor
theorem RP.flat2 {F F':Nat→Prop} {w w':World} {p:PV} {v:Value} (h:RP F w p v) (hp:p.flat2=true):RP F' w' p v:=by
 cases p with
 | a cs =>
  cases h with
  | a _ vs hl h1 h =>
   exact .a cs vs hl h1 fun i p v hi hv=>(h i p v hi hv).flat1 (List.all_eq_true.1 hp p (vQG hi))
 | _=>exact h.flat1 hp
theorem RP.flat {F F':Nat→Prop} {w w':World} {p:PV} {v:Value} (h:RP F w p v) (hp:p.flat=true):RP F' w' p v:=by
 cases p with
 | t cs =>
  cases h with
  | t _ vs hl h =>
   exact .t cs vs hl fun i p v hi hv=>(h i p v hi hv).flat2 (List.all_eq_true.1 hp p (vQG hi))
 | _=>exact h.flat2 hp
def RCp (ρ:Own) (F:Nat→Prop) (w:World):Cap→Value→Prop
 | .v x,v=>RP F w x v
 | .p id off,v=>∃ b,ρ id=some (.blk b)∧v=.pointer (some ⟨b,off,none⟩)
def RHc (ρ:Own) (F:Nat→Prop) (w:World):HC→Value→Prop
 | .v x,v=>RP F w x v
 | .nl,v=>v=.slice none 0 0
 | .o id,v=>∃ a c k sz,ρ id=some (.reg a c k sz)∧v=.slice a k c
 | .un,_=>True
def RH (ρ:Own) (F:Nat→Prop) (w:World):HV→Value→Prop
 | .v x,v=>RP F w x v
 | .nl,v=>v=.slice none 0 0
 | .o id,v=>∃ a c k sz,ρ id=some (.reg a c k sz)∧v=.slice a k c
 | .p id off,v=>∃ b,ρ id=some (.blk b)∧v=.pointer (some ⟨b,off,none⟩)
 | .q id j off,v=>∃ b c k sz,ρ id=some (.reg (some ⟨b,0,none⟩) c k sz)∧j < k∧v=.pointer (some ⟨b,j * sz + off,none⟩)
 | .g fn first cap,v=>∃ fs cs,v=.func (.func fn) fs.toArray cs.toArray∧Al (RP F w) first fs∧Al (RCp ρ F w) cap cs
 | .un,_=>True
 | .ag cs,v=>∃ vs,v=.agg vs.toArray∧Al (RHc ρ F w) cs vs∧∀ u ∈ vs,u.oneCell'=true
def EntOk (ρ:Own) (F:Nat→Prop) (w:World) (id:Nat):Ent→Prop
 | .blk cells=>∃ b vs ty,ρ id=some (.blk b)∧w.heap[b]? = some (.cells vs.toArray ty)∧Al (RH ρ F w) cells vs∧∀ v ∈ vs,v.oneCell'=true
 | .reg e sz rows=>∃ a c vr,ρ id=some (.reg a c rows.len sz)∧0 < sz∧Al (Al (RP F w)) rows.L vr∧(∀ r ∈ rows.L,r.length=sz)∧(∀ v ∈ vr,∀ u ∈ v,u.oneCell'=true)∧w.ownsRow 0 e sz (.slice a rows.len c) rows.len vr.flatten
 | .itr s pos=>∃ b,ρ id=some (.blk b)∧w.heap[b]? = some (.stringIter s pos)
structure Env where
 w0:World
 F0:Nat→Prop
 W:Nat→Prop
 D:Deferred→Prop
structure MemOk (E:Env) (ρ:Own) (F:Nat→Prop) (M:Mem) (w:World):Prop where
 ent:∀ id e,yK M id=some e→EntOk ρ F w id e
 dom:∀ id L,ρ id=some L→∃ e,yK M id=some e
 apart:∀ id id' L L' b,ρ id=some L→ρ id'=some L'→L.bl=some b→L'.bl=some b→id=id'
 off:∀ id L b,ρ id=some L→L.bl=some b→¬ F b∧b < w.heap.size∧(E.w0.heap.size≤b ∨ E.W b)
 fz:∀ k,F k→k < w.heap.size∧(E.F0 k ∨ E.w0.heap.size≤k ∨ E.W k)
 fz0:∀ k,E.F0 k→F k
 grow:GrowB E.W E.w0 w
 pin:∀ b,E.W b→ρ pid=some (.blk b)
structure Rel' (E:Env) (n:Nat) (ρ:Own) (F:Nat→Prop) (σ:St) (a:Act) (w:World):Prop where
 size:a.tmps.size=n
 defers:∀ d ∈ a.defers,E.D d
 slots:∀ t x,qQB σ.S t=some x→∃ v,a.tmps[t]? = some v∧RH ρ F w x v
 mem:MemOk E ρ F σ.M w
def Rel (E:Env) (n:Nat) (σ:St) (a:Act) (w:World):Prop:=∃ ρ F,Rel' E n ρ F σ a w
theorem RCp.mono {ρ ρ':Own} {F F':Nat→Prop} {w w':World} (hρ:∀ id b,ρ id=some (.blk b)→ρ' id=some (.blk b)) (hF:∀ k,F k→F' k∧w'.heap[k]? = w.heap[k]?) {x:Cap} {v:Value} (h:RCp ρ F w x v):RCp ρ' F' w' x v:=by
 cases x with
 | v x=>exact RP.mono hF h
 | p id off=>obtain ⟨b,h1,h2⟩:=h; exact ⟨b,hρ id b h1,h2⟩
structure Turns (sb:List (Nat × Option Rows)) (ρ ρ':Own) (F F':Nat→Prop) (w w':World):Prop where
 blk:∀ id b,ρ id=some (.blk b)→ρ' id=some (.blk b)
 keep:∀ id L,ρ id=some L→uJ sb id=none→ρ' id=some L
 thaw:∀ id rows a c k sz,ρ id=some (.reg a c k sz)→uJ sb id=some (some rows)→RP F' w' rows.pv (.slice a k c)∧∀ b j off,a=some ⟨b,0,none⟩→j < k→RP F' w' (rows.pz j off) (.pointer (some ⟨b,j * sz + off,none⟩))
 fz:∀ k,F k→F' k∧w'.heap[k]? = w.heap[k]?
theorem RHc.sub {sb:List (Nat × Option Rows)} {ρ ρ':Own} {F F':Nat→Prop} {w w':World} (ht:Turns sb ρ ρ' F F' w w') {x:HC} {v:Value} (h:RHc ρ F w x v):RHc ρ' F' w' (x.sub sb) v:=by
 cases x with
 | v x=>exact RP.mono ht.fz h
 | nl=>exact h
 | un=>trivial
 | o id =>
  obtain ⟨a,c,k,sz,h1,h2⟩:=h;simp only [HC.sub];split
  ·rename_i hs; exact ⟨a,c,k,sz,ht.keep id _ h1 hs,h2⟩
  ·trivial
  ·rename_i rows hs; rw [h2]; exact (ht.thaw id rows a c k sz h1 hs).1
theorem RHc.h {ρ:Own} {F:Nat→Prop} {w:World} {x:HC} {v:Value} (h:RHc ρ F w x v):RH ρ F w x.h v:=by cases x <;> exact h
theorem RH.sub {sb:List (Nat × Option Rows)} {ρ ρ':Own} {F F':Nat→Prop} {w w':World} (ht:Turns sb ρ ρ' F F' w w') {x:HV} {v:Value} (h:RH ρ F w x v):RH ρ' F' w' (x.sub sb) v:=by
 cases x with
 | v x=>exact RP.mono ht.fz h
 | nl=>exact h
 | un=>trivial
 | p id off=>obtain ⟨b,h1,h2⟩:=h; exact ⟨b,ht.blk id b h1,h2⟩
 | g fn first cap =>
  obtain ⟨fs,cs,h1,h2,h3⟩:=h;exact ⟨fs,cs,h1,h2.imp fun _ _ _ h=>h.mono ht.fz,h3.imp fun _ _ _ h=>h.mono ht.blk ht.fz⟩
 | ag cs =>
  obtain ⟨vs,h1,h2,h3⟩:=h;exact ⟨vs,h1,Al.map_left (h2.imp fun _ _ _ h=>h.sub ht),h3⟩
 | o id =>
  obtain ⟨a,c,k,sz,h1,h2⟩:=h;simp only [HV.sub];split
  ·rename_i hs; exact ⟨a,c,k,sz,ht.keep id _ h1 hs,h2⟩
  ·trivial
  ·rename_i rows hs; rw [h2]; exact (ht.thaw id rows a c k sz h1 hs).1
 | q id j off =>
  obtain ⟨b,c,k,sz,h1,hj,h2⟩:=h;simp only [HV.sub];split
  ·rename_i hs; exact ⟨b,c,k,sz,ht.keep id _ h1 hs,hj,h2⟩
  ·trivial
  ·rename_i rows hs; rw [h2]; exact (ht.thaw id rows _ c k sz h1 hs).2 b j off rfl hj
theorem HC.sub_nil (x:HC):x.sub []=x:=by cases x <;> rfl
theorem HV.sub_nil (x:HV):x.sub []=x:=by
 cases x with
 | ag cs=>exact congrArg HV.ag ((List.map_congr_left fun c _=>HC.sub_nil c).trans (List.map_id cs))
 | _=>rfl
theorem RH.mono {ρ ρ':Own} {F F':Nat→Prop} {w w':World} (hρ:∀ id L,ρ id=some L→ρ' id=some L) (hF:∀ k,F k→F' k∧w'.heap[k]? = w.heap[k]?) {x:HV} {v:Value} (h:RH ρ F w x v):RH ρ' F' w' x v:=by
 have:=RH.sub (sb:=[]) ⟨fun id b=>hρ id _,fun id L h _=>hρ id L h,fun id rows a c k sz _ h=>by simp [uJ] at h,hF⟩ h
 rwa [HV.sub_nil] at this
theorem yJJ {w w':World} {m e sz:Nat} {a:Option Addr} {n c:Nat} {xs:List Value} (h:w.ownsRow m e sz (.slice a n c) n xs) (hb:∀ b,a.map (·.block)=some b→w'.heap[b]? = w.heap[b]?):w'.ownsRow m e sz (.slice a n c) n xs:=by
 refine ⟨h.1,?_⟩;rcases h.2 with h | ⟨g,cap,cur,h1,h2,h3,h4⟩
 ·exact .inl h
 ·refine .inr ⟨g,cap,cur,h1,h2,?_,h4⟩;simp only [Value.slice.injEq] at h1;rw [hb g (by rw [h1.1]; rfl)]; exact h3
theorem EntOk.sub {sb:List (Nat × Option Rows)} {ρ ρ':Own} {F F':Nat→Prop} {w w':World} (ht:Turns sb ρ ρ' F F' w w') {id:Nat} {e:Ent} (h:EntOk ρ F w id e) (hk:uJ sb id=none) (hb:∀ L b,ρ id=some L→L.bl=some b→w'.heap[b]? = w.heap[b]?):EntOk ρ' F' w' id (e.sub sb):=by
 cases e with
 | blk cells =>
  obtain ⟨b,vs,ty,h1,h2,h3,h4⟩:=h;refine ⟨b,vs,ty,ht.keep id _ h1 hk,by rw [hb _ b h1 rfl]; exact h2,Al.map_left (h3.imp fun _ _ _ h=>RH.sub ht h),h4⟩
 | reg e sz rows =>
  obtain ⟨a,c,vr,h1,h2,h3,h4,h5,h6⟩:=h;exact ⟨a,c,vr,ht.keep id _ h1 hk,h2,h3.imp fun _ _ _ h=>h.imp fun _ _ _ h=>h.mono ht.fz,h4,h5,yJJ h6 fun b hb'=>hb _ b h1 hb'⟩
 | itr s pos =>
  obtain ⟨b,h1,h2⟩:=h;exact ⟨b,ht.keep id _ h1 hk,by rw [hb _ b h1 rfl]; exact h2⟩
theorem zXH {f:Ent→Ent} {M:Mem} {i:Nat}:yK (M.map fun x=>(x.1,f x.2)) i=(yK M i).map f:=by
 induction M with
 | nil=>rfl
 | cons x M ih=>simp only [List.map_cons,yK]; cases Nat.beq x.1 i <;> simp [ih]
theorem yJI {f:HV→HV} {S:List (Nat × HV)} {i:Nat}:qQB (S.map fun x=>(x.1,f x.2)) i=(qQB S i).map f:=by
 induction S with
 | nil=>rfl
 | cons x M ih=>simp only [List.map_cons,qQB]; cases Nat.beq x.1 i <;> simp [ih]
theorem jYZ (i:Nat):Nat.beq i i=true:=Nat.beq_refl i
theorem zGQ (S:List (Nat × HV)) (i:Nat) (x:HV):qQB ((i,x) :: S) i=some x:=by simp [qQB]
theorem yQA {S:List (Nat × HV)} {i j:Nat} {x:HV} (h:i ≠ j):qQB ((i,x) :: S) j=qQB S j:=by simp [qQB,qYI h]
theorem jGI {M:Mem} {i j:Nat}:yK (remM i M) j=if i=j then none else yK M j:=by
 induction M with
 | nil=>simp [remM,yK]
 | cons x M ih =>
  obtain ⟨k,x⟩:=x;simp only [remM];by_cases e:k=i
  ·subst e;rw [jYZ,vYV,ih];by_cases e2:k=j
   ·simp [e2]
   ·simp [e2,yK,qYI e2]
  ·rw [qYI e,vYG];simp only [yK];by_cases e2:k=j
   ·subst e2; simp [Ne.symm e]
   ·rw [qYI e2,vYG,vYG,ih]
theorem qVX {M:Mem} {i j:Nat} {e:Ent}:yK (putM i e M) j=if i=j then some e else yK M j:=by
 induction M with
 | nil =>
  simp only [putM,yK];by_cases h:i=j
  ·subst h; simp
  ·simp [h,qYI h]
 | cons x M ih =>
  obtain ⟨k,x⟩:=x;simp only [putM];by_cases e:k=i
  ·subst e;rw [jYZ,vYV];simp only [yK];by_cases e2:k=j
   ·subst e2; simp
   ·rw [qYI e2]; simp [e2]
  ·rw [qYI e,vYG];simp only [yK];by_cases e2:k=j
   ·subst e2; simp [Ne.symm e]
   ·rw [qYI e2,vYG,vYG,ih]
def uQ:List (Nat × Option Ent)→Nat→Option (Option Ent)
 | [],_=>none
 | (k,x) :: l,i=>match uQ l i with
  | some y=>some y
  | none=>bif Nat.beq k i then some x else none
theorem jGE {l:List (Nat × Option Ent)}:∀ {M:Mem} {j:Nat},yK (ups l M) j=match uQ l j with | some x=>x | none=>yK M j:=by
 induction l with
 | nil=>intro M j; rfl
 | cons x l ih =>
  intro M j;obtain ⟨i,x⟩:=x;cases x with
  | none =>
   simp only [ups,uQ,ih];cases hu:uQ l j with
   | some y=>rfl
   | none =>
    simp only [jGI];by_cases e:i=j
    ·subst e; simp
    ·simp [e,qYI e]
  | some y =>
   simp only [ups,uQ,ih];cases hu:uQ l j with
   | some y=>rfl
   | none =>
    simp only [qVX];by_cases e:i=j
    ·subst e; simp
    ·simp [e,qYI e]
theorem yJF (sb:List (Nat × Option Rows)) (S:List (Nat × HV)) (t:Nat):qQB (subS sb S) t=(qQB S t).map (HV.sub sb):=by
 cases sb with
 | nil=>simp only [subS]; cases qQB S t <;> simp [HV.sub_nil]
 | cons y ys=>exact yJI (f:=HV.sub (y :: ys))
theorem Ent.sub_nil (x:Ent):x.sub []=x:=by
 cases x with
 | blk cells=>simp only [Ent.sub]; congr 1; exact (List.map_congr_left fun a _=>HV.sub_nil a).trans (List.map_id _)
 | _=>rfl
theorem jGF (sb:List (Nat × Option Rows)) (M:Mem) (t:Nat):yK (subM sb M) t=(yK M t).map (Ent.sub sb):=by
 cases sb with
 | nil=>simp only [subM]; cases yK M t <;> simp [Ent.sub_nil]
 | cons y ys=>exact zXH (f:=Ent.sub (y :: ys))
theorem qJH (σ:St) (e:Eff) (dst:Option Nat) (t:Nat):qQB (σ.apply e dst).S t=if dst=some t then some e.x else (qQB σ.S t).map (HV.sub e.sb):=by
 unfold St.apply;cases dst with
 | none=>simpa using yJF _ _ _
 | some d =>
  by_cases hd:d=t
  ·subst hd; simp [qQB]
  ·simp only [yQA hd,vQZ,hd,if_false]; exact yJF _ _ _
theorem qYQ (σ:St) (e:Eff) (dst:Option Nat) (i:Nat):yK (σ.apply e dst).M i=match uQ e.up i with | some x=>x | none=>(yK σ.M i).map (Ent.sub e.sb):=by
 show yK (ups e.up _) i=_;rw [jGE];cases uQ e.up i with
 | some x=>rfl
 | none=>exact jGF _ _ _
theorem Rel'.apply {E:Env} {n:Nat} {ρ ρ':Own} {F F':Nat→Prop} {σ:St} {a:Act} {w w':World} (h:Rel' E n ρ F σ a w) (e:Eff) (dst:Option Nat) (v:Value)
  (hd:∀ d,dst=some d→d < n) (ht:Turns e.sb ρ ρ' F F' w w') (hx:RH ρ' F' w' e.x v)
  (hsame:∀ id L b,uQ e.up id=none→ρ id=some L→L.bl=some b→w'.heap[b]? = w.heap[b]?)
  (hsb:∀ id,uQ e.up id=none→uJ e.sb id=none)
  (hold:∀ id,uQ e.up id=none→ρ' id=ρ id)
  (hup:∀ id x,uQ e.up id=some x→match x with
   | some ent=>EntOk ρ' F' w' id ent
   | none=>ρ' id=none)
  (hap:∀ id id' L L' b,ρ' id=some L→ρ' id'=some L'→L.bl=some b→L'.bl=some b→id=id')
  (hoff:∀ id L b,ρ' id=some L→L.bl=some b→¬ F' b∧b < w'.heap.size∧(E.w0.heap.size≤b ∨ E.W b))
  (hfz:∀ k,F' k→k < w'.heap.size∧(E.F0 k ∨ E.w0.heap.size≤k ∨ E.W k)) (hg:GrowB E.W E.w0 w'):Rel' E n ρ' F' (σ.apply e dst) (a.put dst v) w':=by
 refine ⟨?_,?_,fun t x hx' => ?_,⟨fun id ent hl => ?_,fun id L hL => ?_,hap,hoff,hfz,fun k hk=>(ht.fz k (h.mem.fz0 k hk)).1,hg,fun b hb=>ht.blk pid b (h.mem.pin b hb)⟩⟩
 ·unfold Act.put; cases dst <;> simp [h.size]
 ·unfold Act.put; cases dst <;> exact h.defers
 ·rw [qJH] at hx';by_cases e1:dst=some t
  ·rw [if_pos e1] at hx';cases hx';subst e1
   have:=hd t rfl
   exact ⟨v,by simp [Act.put,h.size,this],hx⟩
  ·rw [if_neg e1,vZW] at hx';obtain ⟨y,hy,rfl⟩:=hx';obtain ⟨u,hu,hr⟩:=h.slots t y hy;refine ⟨u,?_,RH.sub ht hr⟩;cases dst with
   | none=>exact hu
   | some d =>
    have:d ≠ t:=fun e=>e1 (by rw [e])
    simp [Act.put,Array.getElem?_setIfInBounds_ne this,hu]
 ·rw [qYQ] at hl;cases hu:uQ e.up id with
  | some x =>
   rw [hu] at hl;simp only at hl;subst hl;exact hup id _ hu
  | none =>
   rw [hu] at hl;simp only [vZW] at hl;obtain ⟨y,hy,rfl⟩:=hl;exact EntOk.sub ht (h.mem.ent id y hy) (hsb id hu) fun L b hL hb=>hsame id L b hu hL hb
 ·rw [qYQ];cases hu:uQ e.up id with
  | some x =>
   have:=hup id x hu
   cases x with
   | none=>simp only at this; rw [this] at hL; cases hL
   | some ent=>exact ⟨ent,rfl⟩
  | none =>
   rw [hold id hu] at hL;obtain ⟨y,hy⟩:=h.mem.dom id L hL;exact ⟨_,by simp [hy]; rfl⟩
end Go.Rx
namespace Go.Rx
open Go.RowKit Go.Sx
def Eqv (σ τ:St):Prop:=(∀ t,qQB σ.S t=qQB τ.S t)∧(∀ i,yK σ.M i=yK τ.M i)
theorem Eqv.refl (σ:St):Eqv σ σ:=⟨fun _=>rfl,fun _=>rfl⟩
theorem Eqv.symm {σ τ:St} (h:Eqv σ τ):Eqv τ σ:=⟨fun t=>(h.1 t).symm,fun i=>(h.2 i).symm⟩
theorem Eqv.trans {σ τ υ:St} (h:Eqv σ τ) (k:Eqv τ υ):Eqv σ υ:=⟨fun t=>(h.1 t).trans (k.1 t),fun i=>(h.2 i).trans (k.2 i)⟩
theorem Eqv.apply {σ τ:St} (h:Eqv σ τ) (e:Eff) (d:Option Nat):Eqv (σ.apply e d) (τ.apply e d):=⟨fun t=>by rw [qJH,qJH,h.1],fun i=>by rw [qYQ,qYQ,h.2]⟩
theorem kJ {α β:Type} {f:α→Option β} {xs:List α} {ys:List β} (h:mapO f xs=some ys):Al (fun x y=>f x=some y) xs ys:=by
 induction xs generalizing ys with
 | nil=>simp [mapO] at h; subst h; exact Al.nil
 | cons x xs ih =>
  simp only [mapO,vQQ,vQZ] at h;obtain ⟨y,hy,zs,hz,rfl⟩:=h;exact Al.cons hy (ih hz)
theorem yVV {α β:Type} {f:α→Option β} {xs:List α} {ys:List β} (h:Al (fun x y=>f x=some y) xs ys):mapO f xs=some ys:=by
 induction xs generalizing ys with
 | nil=>rw [h.nil_left]; rfl
 | cons x xs ih =>
  obtain ⟨y,zs,rfl,h1,h2⟩:=h.cons_left;simp [mapO,h1,ih h2]
theorem mem_catL {α:Type} {f:α→List Nat} {xs:List α} {i:Nat}:i ∈ catL f xs ↔ ∃ x ∈ xs,i ∈ f x:=by
 induction xs with
 | nil=>simp [catL]
 | cons x xs ih =>
  have:catL f (x :: xs)=f x ++ catL f xs:=by
   simp only [catL]; cases f x <;> simp
  simp [this,ih]
theorem kGB {M M':Mem} {x:HV} {c:CV} (h:cvOf M x=some c) (he:∀ id ∈ c.fol,yK M' id=yK M id):cvOf M' x=some c:=by
 cases x with
 | o id =>
  simp only [cvOf] at h ⊢;split at h
  ·rename_i e sz rows hl;cases h;rw [he id (by simp [CV.fol]),hl]
  ·cases h
 | _=>exact h
theorem xHQ {M:Mem} {x:HV} {c:CV} (h:cvOf M x=some c):∀ id ∈ x.ids,id ∈ c.ids:=by
 cases x with
 | o id =>
  simp only [cvOf] at h;split at h
  ·cases h; exact fun _ h=>h
  ·cases h
 | _=>simp only [cvOf,vQZ] at h; subst h; exact fun _ h=>h
theorem xHZ {c:CV}:∀ id ∈ c.fol,id ∈ c.ids:=by
 cases c with
 | h x=>intro id h; cases h
 | o id e sz rows=>exact fun _ h=>h
theorem uGI {M:Mem} {x:HV} {c:CV} (h:cvOf M x=some c):∀ id ∈ c.fol,∀ e,yK M id=some e→e.ids=[]:=by
 cases x with
 | o id =>
  simp only [cvOf] at h;split at h
  ·rename_i e sz rows hl;cases h;intro i hi e he;simp only [CV.fol,List.mem_singleton] at hi;subst hi;rw [hl] at he; cases he; rfl
  ·cases h
 | _=>simp only [cvOf,vQZ] at h; subst h; intro i hi; cases hi
section
variable {M M':Mem} {cells:List HV} {cs:List CV}
theorem yUQ (h:mapO (cvOf M) cells=some cs) (he:∀ id ∈ catL CV.fol cs,yK M' id=yK M id):mapO (cvOf M') cells=some cs:=by
 have h1:=kJ h;refine yVV ⟨h1.1,fun i x y hx hy=>kGB (h1.2 i x y hx hy) fun id hid=>he id (mem_catL.2 ⟨y,vQG hy,hid⟩)⟩
theorem kQD (h:mapO (cvOf M) cells=some cs):∀ id ∈ catL HV.ids cells,id ∈ catL CV.ids cs:=by
 have h1:=kJ h;intro id hid;obtain ⟨x,hx,hi⟩:=mem_catL.1 hid;obtain ⟨i,hi2⟩:=List.mem_iff_getElem?.1 hx;obtain ⟨y,hy,hr⟩:=h1.get hi2;exact mem_catL.2 ⟨y,vQG hy,xHQ hr id hi⟩
theorem kQE:∀ id ∈ catL CV.fol cs,id ∈ catL CV.ids cs:=fun id hid=>by
 obtain ⟨x,hx,hi⟩:=mem_catL.1 hid;exact mem_catL.2 ⟨x,hx,xHZ id hi⟩
theorem jZA (h:mapO (cvOf M) cells=some cs):∀ id ∈ catL CV.fol cs,∀ e,yK M id=some e→e.ids=[]:=by
 have h1:=kJ h;intro id hid e he;obtain ⟨y,hy,hi⟩:=mem_catL.1 hid;obtain ⟨i,hi2⟩:=List.mem_iff_getElem?.1 hy;have hil:=(List.getElem?_eq_some_iff.1 hi2).1;have hc:i < cells.length:=by rw [h1.1]; exact hil
 exact uGI (h1.2 i _ y (vQK hc) hi2) id hi e he
end
theorem kKB {M M':Mem} {x:Cap} {c:RC} (h:rcOf M x=some c) (he:∀ id ∈ c.fol,yK M' id=yK M id):rcOf M' x=some c:=by
 cases x with
 | v x=>exact h
 | p id off =>
  simp only [rcOf] at h ⊢;split at h
  ·rename_i cells hl;simp only [vQQ,vQZ] at h;obtain ⟨cc,hcc,rfl⟩:=h;rw [he id (by simp [RC.fol]),hl];simp only [yUQ hcc fun id hid=>he id (by simp [RC.fol,hid])];rfl
  ·cases h
theorem xJX {c:RC}:∀ id ∈ c.fol,id ∈ c.ids:=by
 cases c with
 | v x=>intro id h; cases h
 | p id off cells =>
  intro i hi;simp only [RC.fol,RC.ids,vYZ] at hi ⊢;exact hi.imp (fun h=>h) (kQE i)
theorem uXB {M:Mem} {x:Cap} {c:RC} (h:rcOf M x=some c):∀ i ∈ c.fol,∀ e,yK M i=some e→∀ id ∈ e.ids,id ∈ c.ids:=by
 cases x with
 | v x=>simp only [rcOf,vQZ] at h; subst h; intro i hi; cases hi
 | p id off =>
  simp only [rcOf] at h;split at h
  ·rename_i cells hl;simp only [vQQ,vQZ] at h;obtain ⟨cc,hcc,rfl⟩:=h;intro i hi e he k hk;simp only [RC.fol,vYZ] at hi;rcases hi with rfl | hi
   ·rw [hl] at he; cases he;simp only [RC.ids,vYZ];exact .inr (kQD hcc k hk)
   ·rw [jZA hcc i hi e he] at hk; cases hk
  ·cases h
theorem yYD {M M':Mem} {x:HV} {r:RV} (h:res M x=some r) (he:∀ id ∈ r.fol,yK M' id=yK M id):res M' x=some r:=by
 cases x with
 | o id =>
  simp only [res] at h ⊢;split at h
  ·rename_i e sz rows hl; cases h; rw [he id (by simp [RV.fol]),hl]
  ·cases h
 | p id off =>
  simp only [res] at h ⊢;split at h
  ·rename_i cells hl;simp only [vQQ,vQZ] at h;obtain ⟨cs,hcs,rfl⟩:=h;rw [he id (by simp [RV.fol]),hl];simp only [yUQ hcs fun id hid=>he id (by simp [RV.fol,hid])];rfl
  ·rename_i s pos hl; cases h; rw [he id (by simp [RV.fol]),hl]
  ·cases h
 | q id j off =>
  simp only [res] at h ⊢;split at h
  ·rename_i e sz rows hl; cases h; rw [he id (by simp [RV.fol]),hl]
  ·cases h
 | g fn first cap =>
  simp only [res,vQQ,vQZ] at h ⊢;obtain ⟨cs,hcs,rfl⟩:=h;have h1:=kJ hcs;exact ⟨cs,yVV ⟨h1.1,fun i x y hx hy=>kKB (h1.2 i x y hx hy) fun id hid=>he id (mem_catL.2 ⟨_,vQG hy,hid⟩)⟩,rfl⟩
 | _=>exact h
theorem jXD {M:Mem} {x:HV} {r:RV} (h:res M x=some r):∀ id ∈ x.ids,id ∈ r.ids:=by
 cases x with
 | o id =>
  simp only [res] at h;split at h
  ·cases h; exact fun _ h=>h
  ·cases h
 | q id j off =>
  simp only [res] at h;split at h
  ·cases h; exact fun _ h=>h
  ·cases h
 | ag cs=>cases h; exact fun _ h=>h
 | _=>intro id hid; simp [HV.ids] at hid
theorem yHX {M:Mem} {x:HV} {r:RV} (h:res M x=some r):(∀ i ∈ r.fol,i ∈ r.ids)∧∀ i ∈ r.fol,∀ e,yK M i=some e→∀ id ∈ e.ids,id ∈ r.ids:=by
 cases x with
 | o id =>
  simp only [res] at h;split at h
  ·rename_i e sz rows hl;cases h;refine ⟨fun _ h=>h,fun i hi e he k hk => ?_⟩;simp only [RV.fol,List.mem_singleton] at hi;subst hi;rw [hl] at he; cases he; cases hk
  ·cases h
 | p id off =>
  simp only [res] at h;split at h
  ·rename_i cells hl;simp only [vQQ,vQZ] at h;obtain ⟨cs,hcs,rfl⟩:=h;refine ⟨fun i hi => ?_,fun i hi e he k hk => ?_⟩
   ·simp only [RV.fol,RV.ids,vYZ] at hi ⊢;exact hi.imp (fun h=>h) (kQE i)
   ·simp only [RV.fol,vYZ] at hi;rcases hi with rfl | hi
    ·rw [hl] at he; cases he;simp only [RV.ids,vYZ];exact .inr (kQD hcs k hk)
    ·rw [jZA hcs i hi e he] at hk; cases hk
  ·rename_i s pos hl;cases h;refine ⟨fun _ h=>h,fun i hi e he k hk => ?_⟩;simp only [RV.fol,List.mem_singleton] at hi;subst hi;rw [hl] at he; cases he; cases hk
  ·cases h
 | q id j off =>
  simp only [res] at h;split at h
  ·rename_i e sz rows hl;cases h;refine ⟨fun _ h=>h,fun i hi e he k hk => ?_⟩;simp only [RV.fol,List.mem_singleton] at hi;subst hi;rw [hl] at he; cases he; cases hk
  ·cases h
 | g fn first cap =>
  simp only [res,vQQ,vQZ] at h;obtain ⟨cs,hcs,rfl⟩:=h;have h1:=kJ hcs;refine ⟨fun i hi => ?_,fun i hi e he k hk => ?_⟩
  ·obtain ⟨c,hc,hin⟩:=mem_catL.1 hi;exact mem_catL.2 ⟨c,hc,xJX i hin⟩
  ·obtain ⟨c,hc,hin⟩:=mem_catL.1 hi;obtain ⟨m,hm⟩:=List.mem_iff_getElem?.1 hc;have hml:=(List.getElem?_eq_some_iff.1 hm).1;have hcap:m < cap.length:=by rw [h1.1]; exact hml
   exact mem_catL.2 ⟨c,hc,uXB (h1.2 m _ c (vQK hcap) hm) i hin e he k hk⟩
 | v x=>cases h; exact ⟨fun i hi=>(by cases hi),fun i hi=>(by cases hi)⟩
 | nl=>cases h; exact ⟨fun i hi=>(by cases hi),fun i hi=>(by cases hi)⟩
 | un=>cases h; exact ⟨fun i hi=>(by cases hi),fun i hi=>(by cases hi)⟩
 | ag cs=>cases h; exact ⟨fun i hi=>(by cases hi),fun i hi=>(by cases hi)⟩
theorem jXZ (x:HV):(∀ id ∈ x.ids,id ∈ (sh x).ids)∧(sh x).fol=[]:=by
 cases x <;> exact ⟨fun _ h=>h,rfl⟩
theorem jJV {m:Nat} {M M':Mem} {x:HV} {r:RV} (h:resM m M x=some r) (he:∀ id ∈ r.fol,yK M' id=yK M id):resM m M' x=some r:=by
 match m with
 | 0=>exact yYD h he
 | 1=>exact h
 | m + 2 =>
  cases x with
  | o id=>simp only [resM] at h ⊢; exact yYD h he
  | _=>exact h
theorem kKH {m:Nat} {M:Mem} {x:HV} {r:RV} (h:resM m M x=some r):∀ id ∈ x.ids,id ∈ r.ids:=by
 match m with
 | 0=>exact jXD h
 | 1=>simp only [resM,vQZ] at h; subst h; exact (jXZ x).1
 | m + 2 =>
  cases x with
  | o id=>exact jXD (by simpa only [resM] using h)
  | _=>simp only [resM,vQZ] at h; subst h; exact (jXZ _).1
theorem jXF {m:Nat} {M:Mem} {x:HV} {r:RV} (h:resM m M x=some r):(∀ i ∈ r.fol,i ∈ r.ids)∧∀ i ∈ r.fol,∀ e,yK M i=some e→∀ id ∈ e.ids,id ∈ r.ids:=by
 have shd:∀ x:HV,(∀ i ∈ (sh x).fol,i ∈ (sh x).ids)∧∀ i ∈ (sh x).fol,∀ e,yK M i=some e→∀ id ∈ e.ids,id ∈ (sh x).ids:=fun x=>by
  rw [(jXZ x).2]; exact ⟨fun i hi=>(by cases hi),fun i hi=>(by cases hi)⟩
 match m with
 | 0=>exact yHX h
 | 1=>simp only [resM,vQZ] at h; subst h; exact shd x
 | m + 2 =>
  cases x with
  | o id=>exact yHX (by simpa only [resM] using h)
  | _=>simp only [resM,vQZ] at h; subst h; exact shd _
theorem zGF {sb:List (Nat × Option Rows)} {x:HV} (h:∀ id ∈ x.ids,uJ sb id=none):x.sub sb=x:=by
 cases x with
 | o id=>simp [HV.sub,h id (by simp [HV.ids])]
 | q id j off=>simp [HV.sub,h id (by simp [HV.ids])]
 | ag cs =>
  refine congrArg HV.ag ((List.map_congr_left fun c hc => ?_).trans (List.map_id cs));cases c with
  | o id=>simp [HC.sub,h id (mem_catL.2 ⟨_,hc,List.mem_singleton.2 rfl⟩)]
  | _=>rfl
 | _=>rfl
theorem jZH {sb:List (Nat × Option Rows)} {x:Ent} (h:∀ id ∈ x.ids,uJ sb id=none):x.sub sb=x:=by
 cases x with
 | blk cells =>
  simp only [Ent.sub]
  congr 1
  exact (List.map_congr_left fun a ha=>zGF fun id hid=>h id (mem_catL.2 ⟨a,ha,hid⟩)).trans (List.map_id _)
 | _=>rfl
theorem yYZ {l:List (Nat × Option Rows)} {id:Nat} (h:id ∉ l.map (·.1)):uJ l id=none:=by
 induction l with
 | nil=>rfl
 | cons x l ih =>
  obtain ⟨k,x⟩:=x;simp only [List.map_cons,vYZ,not_or] at h;simp only [uJ,qYI (Ne.symm h.1),vYG];exact ih h.2
theorem upFind_none {l:List (Nat × Option Ent)} {id:Nat}:uQ l id=none ↔ id ∉ l.map (·.1):=by
 induction l with
 | nil=>simp [uQ]
 | cons x l ih =>
  obtain ⟨k,x⟩:=x;simp only [uQ,List.map_cons,vYZ,not_or];cases hu:uQ l id with
  | some y =>
   simp only [reduceCtorEq,false_iff,not_and];intro _ hn;rw [ih.2 hn] at hu; cases hu
  | none =>
   by_cases e:k=id
   ·subst e; simp
   ·simp [qYI e,Ne.symm e,ih.1 hu]
theorem zQL {l:List (Nat × Option Ent)} {id:Nat} {x:Option Ent} (h:uQ l id=some x):(id,x) ∈ l:=by
 induction l with
 | nil=>simp [uQ] at h
 | cons y l ih =>
  obtain ⟨k,y⟩:=y;simp only [uQ] at h;cases hu:uQ l id with
  | some z=>rw [hu] at h; cases h; exact vQH _ (ih hu)
  | none =>
   rw [hu] at h;by_cases e:k=id
   ·subst e; simp at h; subst h; exact vZQ
   ·simp [qYI e] at h
theorem zWK {xs ys:List Nat} (h:disj xs ys=true):∀ x ∈ xs,x ∉ ys:=by
 induction xs with
 | nil=>intro x hx; cases hx
 | cons a xs ih =>
  simp only [disj,vQJ,Bool.not_eq_true'] at h;intro x hx;rcases List.mem_cons.1 hx with rfl | hx
  ·intro hm
   have:=List.any_eq_false.1 h.1 x hm
   simp at this
  ·exact ih h.2 x hx
structure Indep (ops:Array Oper) (x y:Done) (ox oy:Oper):Prop where
 sb:x.2.1.sb=[]
 d1:∀ d,ox.dst=some d→d ∉ oy.looksAt ops
 d2:∀ d,oy.dst=some d→d ∉ ox.looksAt ops
 d3:∀ d,ox.dst=some d→oy.dst ≠ some d
 w1:∀ i ∈ x.2.1.wr,i ∉ catL RV.ids y.2.2∧i ∉ y.2.1.all
 w2:∀ i ∈ y.2.1.wr,i ∉ catL RV.ids x.2.2∧i ∉ x.2.1.all
theorem kZZ {d:Nat} {l:List Nat} (h:(!(l.any (Nat.beq d)))=true):d ∉ l:=fun hm=>by
 rw [Bool.not_eq_true'] at h
 have:=List.any_eq_false.1 h d hm
 simp at this
theorem yVD {ops:Array Oper} {x y:Done} {ox oy:Oper} (hx:ops[x.1]? = some ox) (hy:ops[y.1]? = some oy) (h:jHG ops x y=true):Indep ops x y ox oy:=by
 unfold jHG at h;simp only [hx,hy,vQJ] at h;obtain ⟨⟨⟨⟨⟨h1,h2⟩,h3⟩,h4⟩,h5⟩,h6⟩:=h;refine ⟨?_,fun d hd => ?_,fun d hd => ?_,fun d hd he => ?_,fun i hi => ?_,fun i hi => ?_⟩
 ·cases hs:x.2.1.sb with
  | nil=>rfl
  | cons a b=>rw [hs] at h1; cases h1
 ·rw [hd] at h2; exact kZZ h2
 ·rw [hd] at h3; exact kZZ h3
 ·rw [hd,he] at h4; simp at h4
 ·have:=zWK h5 i hi; simpa [not_or] using this
 ·have:=zWK h6 i hi; simpa [not_or] using this
theorem kGZ {ops:Array Oper} {o:Oper} {t:Nat} (h:Operand.tmp t ∈ o.op.operands.toList):t ∈ o.looksAt ops:=by
 unfold Oper.looksAt;refine List.mem_append.2 (.inl (List.mem_filterMap.2 ⟨_,h,rfl⟩))
theorem jKY {ops:Array Oper} {o:Oper} {j:Nat} {b:Bool} {d:Nat} (hg:o.guard=some (j,b)) (hd:(ops[j]?).bind (·.dst)=some d):d ∈ o.looksAt ops:=by
 unfold Oper.looksAt;refine List.mem_append.2 (.inr ?_);simp [hg,hd]
theorem kUK {m:Nat} {σ:St} {x:Operand} {r:RV} (h:opv m σ x=some r):(∀ i ∈ r.fol,i ∈ r.ids)∧∀ i ∈ r.fol,∀ e,yK σ.M i=some e→∀ id ∈ e.ids,id ∈ r.ids:=by
 have nofol:r.fol=[]→(∀ i ∈ r.fol,i ∈ r.ids)∧∀ i ∈ r.fol,∀ e,yK σ.M i=some e→∀ id ∈ e.ids,id ∈ r.ids:=fun h=>by
  rw [h]; exact ⟨fun i hi=>(by cases hi),fun i hi=>(by cases hi)⟩
 cases x with
 | tmp t =>
  simp only [opv,vQQ] at h;obtain ⟨z,_,hr⟩:=h;exact jXF hr
 | const v =>
  simp only [opv] at h;unfold yGZ at h;split at h
  ·cases h; exact nofol rfl
  ·simp only [vQQ,vQZ] at h; obtain ⟨_,_,rfl⟩:=h; exact nofol rfl
  ·simp only [vQQ,vQZ] at h; obtain ⟨_,_,rfl⟩:=h; exact nofol rfl
 | func f=>simp only [opv,vQZ] at h; subst h; exact nofol rfl
 | global g=>cases h
section
variable {C:Cx} {ops:Array Oper}
theorem zXI {o:Oper} {σ τ:St} {g:Bool} (h:qQI ops σ o=some g) (hS:∀ t c,t ∈ o.looksAt ops→qQB σ.S t=some (.v c)→qQB τ.S t=some (.v c)):qQI ops τ o=some g:=by
 unfold qQI at h ⊢;cases hg:o.guard with
 | none=>rw [hg] at h; exact h
 | some gd =>
  obtain ⟨j,b⟩:=gd;rw [hg] at h;simp only at h ⊢;cases hd:(ops[j]?).bind (·.dst) with
  | none=>rw [hd] at h; exact h
  | some d =>
   rw [hd] at h;simp only at h ⊢;cases hl:qQB σ.S d with
   | none=>rw [hl] at h; simp at h
   | some x =>
    rw [hl] at h;cases x with
    | v p =>
     rw [hS d p (jKY hg hd) hl]; exact h
    | _=>simp at h
theorem zZY {o:Oper} {σ:St} {r:Eff × List RV} (h:qKJ C ops o σ=some r):dstB C.n o.dst=true∧((qQI ops σ o=some false∧r=(.val (.v (.t [])),[])) ∨
  (qQI ops σ o=some true∧mapO (opv (mode o.op) σ) o.op.operands.toList=some r.2∧zH C.T C.cA C.cB C.me (o.dst.getD 0) o.op r.2=some r.1∧∀ i ∈ r.1.nw,yK σ.M i=none)):=by
 unfold qKJ at h;cases hgo:qQI ops σ o with
 | none=>rw [hgo] at h; simp at h
 | some g =>
  rw [hgo] at h;simp only [vYQ] at h;cases hdd:dstB C.n o.dst with
  | false=>rw [hdd] at h; simp at h
  | true =>
   rw [hdd] at h;refine ⟨rfl,?_⟩;cases g with
   | false=>simp at h; exact .inl ⟨rfl,h.symm⟩
   | true =>
    simp only [vYV,vQQ] at h;obtain ⟨vs',hvs,e',he,hh⟩:=h;cases hn:e'.nw.all (fun id=>(yK σ.M id).isNone) with
    | false=>rw [hn] at hh; simp at hh
    | true =>
     rw [hn] at hh;simp only [vYV,vQZ] at hh;subst hh;refine .inr ⟨rfl,hvs,he,fun i hi => ?_⟩
     have:=List.all_eq_true.1 hn i hi
     simpa using this
theorem qHZ {o:Oper} {σ:St} {r:Eff × List RV} (hd:dstB C.n o.dst=true) (h:(qQI ops σ o=some false∧r=(.val (.v (.t [])),[])) ∨
  (qQI ops σ o=some true∧mapO (opv (mode o.op) σ) o.op.operands.toList=some r.2∧zH C.T C.cA C.cB C.me (o.dst.getD 0) o.op r.2=some r.1∧∀ i ∈ r.1.nw,yK σ.M i=none)):qKJ C ops o σ=some r:=by
 unfold qKJ;rcases h with ⟨h1,rfl⟩ | ⟨h1,h2,h3,h4⟩
 ·simp [h1,hd]
 ·have:r.1.nw.all (fun id=>(yK σ.M id).isNone)=true:=by
   rw [vZZ]; intro i hi; simp [h4 i hi]
  simp [h1,hd,h2,h3,this]
theorem zZJ {o:Oper} {σ τ:St} {r:Eff × List RV} (h:qKJ C ops o σ=some r) (hG:∀ t c,t ∈ o.looksAt ops→qQB σ.S t=some (.v c)→qQB τ.S t=some (.v c))
  (hS:∀ t x,t ∈ o.looksAt ops→qQB σ.S t=some x→(∀ id ∈ x.ids,id ∈ catL RV.ids r.2)→qQB τ.S t=some x) (hM:∀ i ∈ catL RV.fol r.2,yK τ.M i=yK σ.M i)
  (hN:∀ i ∈ r.1.nw,yK τ.M i=yK σ.M i):qKJ C ops o τ=some r:=by
 obtain ⟨hd,h⟩:=zZY h;refine qHZ hd ?_;rcases h with ⟨h1,h2⟩ | ⟨h1,h2,h3,h4⟩
 ·exact .inl ⟨zXI h1 hG,h2⟩
 ·refine .inr ⟨zXI h1 hG,?_,h3,fun i hi=>by rw [hN i hi]; exact h4 i hi⟩;have ha:=kJ h2;refine yVV ⟨ha.1,fun i x y hx hy => ?_⟩;have h5:=ha.2 i x y hx hy;cases x with
  | tmp t =>
   simp only [opv,vQQ] at h5 ⊢;obtain ⟨z,hz,hr⟩:=h5;exact ⟨z,hS t z (kGZ (vQG hx)) hz fun id hid=>mem_catL.2 ⟨y,vQG hy,kKH hr id hid⟩,jJV hr fun id hid=>hM id (mem_catL.2 ⟨y,vQG hy,hid⟩)⟩
  | _=>exact h5
theorem kYX {o:Oper} {σ τ:St} {r:Eff × List RV} (h:qKJ C ops o σ=some r) (he:Eqv σ τ):qKJ C ops o τ=some r :=
 zZJ h (fun t c _ h=>by rw [← he.1]; exact h) (fun t x _ h _=>by rw [← he.1]; exact h) (fun i _=>(he.2 i).symm) (fun i _=>(he.2 i).symm)
theorem jZJ {o:Oper} {σ:St} {r:Eff × List RV} (h:qKJ C ops o σ=some r):∀ i ∈ catL RV.fol r.2,i ∈ catL RV.ids r.2∧∀ e,yK σ.M i=some e→∀ id ∈ e.ids,id ∈ catL RV.ids r.2:=by
 obtain ⟨hd,hh⟩:=zZY h;rcases hh with ⟨_,hr⟩ | ⟨_,hr,_,_⟩
 ·intro i hi; rw [hr] at hi; simp [catL] at hi
 ·intro i hi;obtain ⟨rv,hrv,hin⟩:=mem_catL.1 hi;obtain ⟨k,hk⟩:=List.mem_iff_getElem?.1 hrv;have ha:=kJ hr;have hkl:=(List.getElem?_eq_some_iff.1 hk).1;have hko:k < o.op.operands.toList.length:=by rw [ha.1]; exact hkl
  have hop:=kUK (ha.2 k _ rv (vQK hko) hk);exact ⟨mem_catL.2 ⟨rv,hrv,hop.1 i hin⟩,fun e he id hid=>mem_catL.2 ⟨rv,hrv,hop.2 i hin e he id hid⟩⟩
theorem jHL {o:Oper} {σ:St} {r:Eff × List RV} (h:qKJ C ops o σ=some r):∀ i ∈ catL RV.fol r.2,i ∈ catL RV.ids r.2:=fun i hi=>(jZJ h i hi).1
theorem kGW {o:Oper} {σ:St} {r:Eff × List RV} (h:qKJ C ops o σ=some r):∀ i ∈ catL RV.fol r.2,∀ e,yK σ.M i=some e→∀ id ∈ e.ids,id ∈ catL RV.ids r.2:=fun i hi=>(jZJ h i hi).2
theorem swap {x y:Done} {ox oy:Oper} {σ:St} (ind:Indep ops x y ox oy) (h1:qKJ C ops ox σ=some x.2) (h2:qKJ C ops oy (σ.apply x.2.1 ox.dst)=some y.2) :
  qKJ C ops oy σ=some y.2∧qKJ C ops ox (σ.apply y.2.1 oy.dst)=some x.2∧Eqv ((σ.apply x.2.1 ox.dst).apply y.2.1 oy.dst) ((σ.apply y.2.1 oy.dst).apply x.2.1 ox.dst):=by
 have sid:∀ z:Option HV,z.map (HV.sub x.2.1.sb)=z:=fun z=>by rw [ind.sb]; cases z <;> simp [HV.sub_nil]
 have eid:∀ z:Option Ent,z.map (Ent.sub x.2.1.sb)=z:=fun z=>by rw [ind.sb]; cases z <;> simp [Ent.sub_nil]
 have xw:∀ i,i ∉ x.2.1.wr→uQ x.2.1.up i=none:=fun i hi=>upFind_none.2 fun h=>hi (List.mem_append.2 (.inl h))
 have yw:∀ i,i ∉ y.2.1.wr→uQ y.2.1.up i=none:=fun i hi=>upFind_none.2 fun h=>hi (List.mem_append.2 (.inl h))
 have ys:∀ i,i ∉ y.2.1.wr→uJ y.2.1.sb i=none:=fun i hi=>yYZ fun h=>hi (List.mem_append.2 (.inr h))
 have xall:∀ i,(i ∈ catL RV.ids x.2.2 ∨ i ∈ x.2.1.all)→i ∉ y.2.1.wr:=fun i hi hw=>by
  have:=ind.w2 i hw
  rcases hi with h | h
  ·exact this.1 h
  ·exact this.2 h
 have yall:∀ i,(i ∈ catL RV.ids y.2.2 ∨ i ∈ y.2.1.all)→i ∉ x.2.1.wr:=fun i hi hw=>by
  have:=ind.w1 i hw
  rcases hi with h | h
  ·exact this.1 h
  ·exact this.2 h
 have nwx:∀ i ∈ x.2.1.nw,i ∈ x.2.1.all:=fun i hi=>List.mem_append.2 (.inr hi)
 have nwy:∀ i ∈ y.2.1.nw,i ∈ y.2.1.all:=fun i hi=>List.mem_append.2 (.inr hi)
 have S1:∀ t,t ∈ oy.looksAt ops→qQB (σ.apply x.2.1 ox.dst).S t=qQB σ.S t:=fun t ht=>by
  rw [qJH,if_neg (fun e=>ind.d1 t e ht),sid]
 have M1:∀ i,i ∉ x.2.1.wr→yK (σ.apply x.2.1 ox.dst).M i=yK σ.M i:=fun i hi=>by
  rw [qYQ,xw i hi]; exact eid _
 refine ⟨zZJ h2 (fun t c ht h=>by rw [← S1 t ht]; exact h) (fun t x ht h _=>by rw [← S1 t ht]; exact h) (fun i hi=>(M1 i (yall i (.inl (jHL h2 i hi)))).symm) (fun i hi=>(M1 i (yall i (.inr (nwy i hi)))).symm),?_,?_⟩
 ·have S2:∀ t z,t ∈ ox.looksAt ops→qQB σ.S t=some z→(∀ id ∈ z.ids,id ∉ y.2.1.wr)→qQB (σ.apply y.2.1 oy.dst).S t=some z:=fun t z ht hz hi=>by
   rw [qJH,if_neg (fun e=>ind.d2 t e ht),hz,Option.map_some,zGF fun id hid=>ys id (hi id hid)]
  have hMM:∀ i,i ∉ y.2.1.wr→(∀ e,yK σ.M i=some e→∀ id ∈ e.ids,id ∉ y.2.1.wr)→yK (σ.apply y.2.1 oy.dst).M i=yK σ.M i:=fun i hi he=>by
   rw [qYQ,yw i hi];cases hl:yK σ.M i with
   | none=>rfl
   | some e=>simp only [Option.map_some]; rw [jZH fun id hid=>ys id (he e hl id hid)]
  refine zZJ h1 (fun t c ht h=>S2 t _ ht h fun id hid=>by simp [HV.ids] at hid) (fun t z ht h hi=>S2 t z ht h fun id hid=>xall id (.inl (hi id hid))) (fun i hi=>hMM i (xall i (.inl (jHL h1 i hi))) fun e he id hid=>xall id (.inl (kGW h1 i hi e he id hid))) (fun i hi => ?_)
  ·obtain ⟨hd,hh⟩:=zZY h1;rcases hh with ⟨_,hr⟩ | ⟨_,_,_,hn⟩
   ·rw [hr] at hi; cases hi
   ·refine hMM i (xall i (.inr (nwx i hi))) fun e he => ?_
    rw [hn i hi] at he; cases he
 ·refine ⟨fun t => ?_,fun i => ?_⟩
  ·rw [qJH,qJH,qJH,qJH];by_cases e1:oy.dst=some t
   ·have e2:¬ ox.dst=some t:=fun e=>ind.d3 t e e1
    rw [if_pos e1,if_neg e2,if_pos e1,sid]
   ·rw [if_neg e1,if_neg e1];by_cases e2:ox.dst=some t
    ·rw [if_pos e2,if_pos e2,Option.map_some,zGF fun id hid=>ys id (xall id (.inr (List.mem_append.2 (.inl (List.mem_append.2 (.inr hid))))))]
    ·rw [if_neg e2,if_neg e2,sid,sid]
  ·rw [qYQ,qYQ,qYQ,qYQ];cases hy:uQ y.2.1.up i with
   | some z =>
    have:uQ x.2.1.up i=none:=xw i (yall i (.inr (List.mem_append.2 (.inl (List.mem_append.2 (.inl (mem_catL.2 ⟨(i,z),zQL hy,by unfold uYC; cases z <;> simp⟩)))))))
    rw [this]; exact (eid _).symm
   | none =>
    cases hx:uQ x.2.1.up i with
    | some z =>
     simp only;cases z with
     | none=>rfl
     | some ent =>
      simp only [Option.map_some];rw [jZH fun id hid=>ys id (xall id (.inr (List.mem_append.2 (.inl (List.mem_append.2 (.inl (mem_catL.2 ⟨(i,some ent),zQL hx,by simp [uYC,hid]⟩)))))))]
    | none =>
     simp only;rw [eid,eid]
end
end Go.Rx

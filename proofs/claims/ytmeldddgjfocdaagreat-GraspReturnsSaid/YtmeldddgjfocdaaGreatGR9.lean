/- Part 9 of the texts behind the last one: rules and contracts. No condition. -/
import Derived.Test.YtmeldddgjfocdaaGreatGR8
open Option renaming bind_eq_some_iff → vQQ
open Option.some renaming injEq → vQZ
open Prod.mk renaming injEq → vQY
open List renaming length_cons → vQW, length_nil → vQV, take_succ_cons → vYK, drop_succ_cons → vYU, take_zero → vYX, drop_zero → vYW
open Nat renaming add_right_cancel_iff → vQU, eq_of_beq_eq_true → vQX
open Go.IntKind renaming wrap → vJJ
namespace Go.Rx
open Go.RowKit Go.Sx
def PV.i64:PV→Option Int
 | .n .i64 x=>some x
 | _=>none
def ints (cs:List PV):Option (List Int):=mapO PV.i64 cs
theorem zZZ:∀ {cs:List PV} {l:List Int},ints cs=some l→cs=l.map fun x=>.n .i64 x
 | [],l,h=>by cases h; rfl
 | c :: cs,l,h=>by
  simp only [ints,mapO,vQQ,vQZ] at h;obtain ⟨x,hx,ys,hys,rfl⟩:=h;rw [List.map_cons,← zZZ (cs:=cs) hys];unfold PV.i64 at hx;split at hx
  ·cases hx; rfl
  ·cases hx
def ivs:List Iv→List PV
 | []=>[]
 | p :: l=>.n .i64 p.lo :: .n .i64 p.hi :: ivs l
def ivC (p:Iv):List PV:=[.n .i64 p.lo,.n .i64 p.hi]
def ivD (cs:List PV):Option Iv:=(ints cs).bind fun l=>bif Nat.beq l.length 2 then some ⟨(l.getD 0 0),(l.getD 1 0)⟩ else none
theorem qQV {cs:List PV} {p:Iv} (h:ivD cs=some p):cs=ivC p:=by
 simp only [ivD,vQQ] at h;obtain ⟨l,hl,h⟩:=h;obtain ⟨hn,h⟩:=qY h;have hn:=vQX hn;rw [zZZ hl];cases h;obtain _ | ⟨x0,l0⟩:=l <;> simp only [vQW,vQV,vQU] at hn <;> first | (exact absurd hn (by omega)) | skip
 obtain _ | ⟨x1,l1⟩:=l0 <;> simp only [vQW,vQV,vQU] at hn <;> first | (exact absurd hn (by omega)) | skip
 obtain _ | ⟨y,l⟩:=l1 <;> simp only [vQW,vQV] at hn <;> first | (exact absurd hn (by omega)) | skip
 rfl
def z3C (p:Z3):List PV:=[.n .i64 p.x,.n .i64 p.y,.n .i64 p.z]
def z3D (cs:List PV):Option Z3:=(ints cs).bind fun l=>bif Nat.beq l.length 3 then some ⟨(l.getD 0 0),(l.getD 1 0),(l.getD 2 0)⟩ else none
theorem yWB {cs:List PV} {p:Z3} (h:z3D cs=some p):cs=z3C p:=by
 simp only [z3D,vQQ] at h;obtain ⟨l,hl,h⟩:=h;obtain ⟨hn,h⟩:=qY h;have hn:=vQX hn;rw [zZZ hl];cases h;obtain _ | ⟨x0,l0⟩:=l <;> simp only [vQW,vQV,vQU] at hn <;> first | (exact absurd hn (by omega)) | skip
 obtain _ | ⟨x1,l1⟩:=l0 <;> simp only [vQW,vQV,vQU] at hn <;> first | (exact absurd hn (by omega)) | skip
 obtain _ | ⟨x2,l2⟩:=l1 <;> simp only [vQW,vQV,vQU] at hn <;> first | (exact absurd hn (by omega)) | skip
 obtain _ | ⟨y,l⟩:=l2 <;> simp only [vQW,vQV] at hn <;> first | (exact absurd hn (by omega)) | skip
 rfl
def v3C (p:V3):List PV:=[.n .i64 p.x.lo,.n .i64 p.x.hi,.n .i64 p.y.lo,.n .i64 p.y.hi,.n .i64 p.z.lo,.n .i64 p.z.hi]
def v3D (cs:List PV):Option V3:=(ints cs).bind fun l=>bif Nat.beq l.length 6 then some ⟨⟨(l.getD 0 0),(l.getD 1 0)⟩,⟨(l.getD 2 0),(l.getD 3 0)⟩,⟨(l.getD 4 0),(l.getD 5 0)⟩⟩ else none
theorem qWK {cs:List PV} {p:V3} (h:v3D cs=some p):cs=v3C p:=by
 simp only [v3D,vQQ] at h;obtain ⟨l,hl,h⟩:=h;obtain ⟨hn,h⟩:=qY h;have hn:=vQX hn;rw [zZZ hl];cases h;obtain _ | ⟨x0,l0⟩:=l <;> simp only [vQW,vQV,vQU] at hn <;> first | (exact absurd hn (by omega)) | skip
 obtain _ | ⟨x1,l1⟩:=l0 <;> simp only [vQW,vQV,vQU] at hn <;> first | (exact absurd hn (by omega)) | skip
 obtain _ | ⟨x2,l2⟩:=l1 <;> simp only [vQW,vQV,vQU] at hn <;> first | (exact absurd hn (by omega)) | skip
 obtain _ | ⟨x3,l3⟩:=l2 <;> simp only [vQW,vQV,vQU] at hn <;> first | (exact absurd hn (by omega)) | skip
 obtain _ | ⟨x4,l4⟩:=l3 <;> simp only [vQW,vQV,vQU] at hn <;> first | (exact absurd hn (by omega)) | skip
 obtain _ | ⟨x5,l5⟩:=l4 <;> simp only [vQW,vQV,vQU] at hn <;> first | (exact absurd hn (by omega)) | skip
 obtain _ | ⟨y,l⟩:=l5 <;> simp only [vQW,vQV] at hn <;> first | (exact absurd hn (by omega)) | skip
 rfl
def m3C (p:M3):List PV:=[.n .i64 p.x.x.lo,.n .i64 p.x.x.hi,.n .i64 p.x.y.lo,.n .i64 p.x.y.hi,.n .i64 p.x.z.lo,.n .i64 p.x.z.hi,.n .i64 p.y.x.lo,.n .i64 p.y.x.hi,.n .i64 p.y.y.lo,.n .i64 p.y.y.hi,.n .i64 p.y.z.lo,.n .i64 p.y.z.hi,.n .i64 p.z.x.lo,.n .i64 p.z.x.hi,.n .i64 p.z.y.lo,.n .i64 p.z.y.hi,.n .i64 p.z.z.lo,.n .i64 p.z.z.hi]
def m3D (cs:List PV):Option M3:=(ints cs).bind fun l=>bif Nat.beq l.length 18 then some ⟨⟨⟨(l.getD 0 0),(l.getD 1 0)⟩,⟨(l.getD 2 0),(l.getD 3 0)⟩,⟨(l.getD 4 0),(l.getD 5 0)⟩⟩,⟨⟨(l.getD 6 0),(l.getD 7 0)⟩,⟨(l.getD 8 0),(l.getD 9 0)⟩,⟨(l.getD 10 0),(l.getD 11 0)⟩⟩,⟨⟨(l.getD 12 0),(l.getD 13 0)⟩,⟨(l.getD 14 0),(l.getD 15 0)⟩,⟨(l.getD 16 0),(l.getD 17 0)⟩⟩⟩ else none
theorem zKB {cs:List PV} {p:M3} (h:m3D cs=some p):cs=m3C p:=by
 simp only [m3D,vQQ] at h;obtain ⟨l,hl,h⟩:=h;obtain ⟨hn,h⟩:=qY h;have hn:=vQX hn;rw [zZZ hl];cases h;obtain _ | ⟨x0,l0⟩:=l <;> simp only [vQW,vQV,vQU] at hn <;> first | (exact absurd hn (by omega)) | skip
 obtain _ | ⟨x1,l1⟩:=l0 <;> simp only [vQW,vQV,vQU] at hn <;> first | (exact absurd hn (by omega)) | skip
 obtain _ | ⟨x2,l2⟩:=l1 <;> simp only [vQW,vQV,vQU] at hn <;> first | (exact absurd hn (by omega)) | skip
 obtain _ | ⟨x3,l3⟩:=l2 <;> simp only [vQW,vQV,vQU] at hn <;> first | (exact absurd hn (by omega)) | skip
 obtain _ | ⟨x4,l4⟩:=l3 <;> simp only [vQW,vQV,vQU] at hn <;> first | (exact absurd hn (by omega)) | skip
 obtain _ | ⟨x5,l5⟩:=l4 <;> simp only [vQW,vQV,vQU] at hn <;> first | (exact absurd hn (by omega)) | skip
 obtain _ | ⟨x6,l6⟩:=l5 <;> simp only [vQW,vQV,vQU] at hn <;> first | (exact absurd hn (by omega)) | skip
 obtain _ | ⟨x7,l7⟩:=l6 <;> simp only [vQW,vQV,vQU] at hn <;> first | (exact absurd hn (by omega)) | skip
 obtain _ | ⟨x8,l8⟩:=l7 <;> simp only [vQW,vQV,vQU] at hn <;> first | (exact absurd hn (by omega)) | skip
 obtain _ | ⟨x9,l9⟩:=l8 <;> simp only [vQW,vQV,vQU] at hn <;> first | (exact absurd hn (by omega)) | skip
 obtain _ | ⟨x10,l10⟩:=l9 <;> simp only [vQW,vQV,vQU] at hn <;> first | (exact absurd hn (by omega)) | skip
 obtain _ | ⟨x11,l11⟩:=l10 <;> simp only [vQW,vQV,vQU] at hn <;> first | (exact absurd hn (by omega)) | skip
 obtain _ | ⟨x12,l12⟩:=l11 <;> simp only [vQW,vQV,vQU] at hn <;> first | (exact absurd hn (by omega)) | skip
 obtain _ | ⟨x13,l13⟩:=l12 <;> simp only [vQW,vQV,vQU] at hn <;> first | (exact absurd hn (by omega)) | skip
 obtain _ | ⟨x14,l14⟩:=l13 <;> simp only [vQW,vQV,vQU] at hn <;> first | (exact absurd hn (by omega)) | skip
 obtain _ | ⟨x15,l15⟩:=l14 <;> simp only [vQW,vQV,vQU] at hn <;> first | (exact absurd hn (by omega)) | skip
 obtain _ | ⟨x16,l16⟩:=l15 <;> simp only [vQW,vQV,vQU] at hn <;> first | (exact absurd hn (by omega)) | skip
 obtain _ | ⟨x17,l17⟩:=l16 <;> simp only [vQW,vQV,vQU] at hn <;> first | (exact absurd hn (by omega)) | skip
 obtain _ | ⟨y,l⟩:=l17 <;> simp only [vQW,vQV] at hn <;> first | (exact absurd hn (by omega)) | skip
 rfl
def poC (p:Po):List PV:=[.n .i64 p.r.x.x.lo,.n .i64 p.r.x.x.hi,.n .i64 p.r.x.y.lo,.n .i64 p.r.x.y.hi,.n .i64 p.r.x.z.lo,.n .i64 p.r.x.z.hi,.n .i64 p.r.y.x.lo,.n .i64 p.r.y.x.hi,.n .i64 p.r.y.y.lo,.n .i64 p.r.y.y.hi,.n .i64 p.r.y.z.lo,.n .i64 p.r.y.z.hi,.n .i64 p.r.z.x.lo,.n .i64 p.r.z.x.hi,.n .i64 p.r.z.y.lo,.n .i64 p.r.z.y.hi,.n .i64 p.r.z.z.lo,.n .i64 p.r.z.z.hi,.n .i64 p.t.x.lo,.n .i64 p.t.x.hi,.n .i64 p.t.y.lo,.n .i64 p.t.y.hi,.n .i64 p.t.z.lo,.n .i64 p.t.z.hi]
def poD (cs:List PV):Option Po:=(ints cs).bind fun l=>bif Nat.beq l.length 24 then some ⟨⟨⟨⟨(l.getD 0 0),(l.getD 1 0)⟩,⟨(l.getD 2 0),(l.getD 3 0)⟩,⟨(l.getD 4 0),(l.getD 5 0)⟩⟩,⟨⟨(l.getD 6 0),(l.getD 7 0)⟩,⟨(l.getD 8 0),(l.getD 9 0)⟩,⟨(l.getD 10 0),(l.getD 11 0)⟩⟩,⟨⟨(l.getD 12 0),(l.getD 13 0)⟩,⟨(l.getD 14 0),(l.getD 15 0)⟩,⟨(l.getD 16 0),(l.getD 17 0)⟩⟩⟩,⟨⟨(l.getD 18 0),(l.getD 19 0)⟩,⟨(l.getD 20 0),(l.getD 21 0)⟩,⟨(l.getD 22 0),(l.getD 23 0)⟩⟩⟩ else none
theorem zXH {cs:List PV} {p:Po} (h:poD cs=some p):cs=poC p:=by
 simp only [poD,vQQ] at h;obtain ⟨l,hl,h⟩:=h;obtain ⟨hn,h⟩:=qY h;have hn:=vQX hn;rw [zZZ hl];cases h;obtain _ | ⟨x0,l0⟩:=l <;> simp only [vQW,vQV,vQU] at hn <;> first | (exact absurd hn (by omega)) | skip
 obtain _ | ⟨x1,l1⟩:=l0 <;> simp only [vQW,vQV,vQU] at hn <;> first | (exact absurd hn (by omega)) | skip
 obtain _ | ⟨x2,l2⟩:=l1 <;> simp only [vQW,vQV,vQU] at hn <;> first | (exact absurd hn (by omega)) | skip
 obtain _ | ⟨x3,l3⟩:=l2 <;> simp only [vQW,vQV,vQU] at hn <;> first | (exact absurd hn (by omega)) | skip
 obtain _ | ⟨x4,l4⟩:=l3 <;> simp only [vQW,vQV,vQU] at hn <;> first | (exact absurd hn (by omega)) | skip
 obtain _ | ⟨x5,l5⟩:=l4 <;> simp only [vQW,vQV,vQU] at hn <;> first | (exact absurd hn (by omega)) | skip
 obtain _ | ⟨x6,l6⟩:=l5 <;> simp only [vQW,vQV,vQU] at hn <;> first | (exact absurd hn (by omega)) | skip
 obtain _ | ⟨x7,l7⟩:=l6 <;> simp only [vQW,vQV,vQU] at hn <;> first | (exact absurd hn (by omega)) | skip
 obtain _ | ⟨x8,l8⟩:=l7 <;> simp only [vQW,vQV,vQU] at hn <;> first | (exact absurd hn (by omega)) | skip
 obtain _ | ⟨x9,l9⟩:=l8 <;> simp only [vQW,vQV,vQU] at hn <;> first | (exact absurd hn (by omega)) | skip
 obtain _ | ⟨x10,l10⟩:=l9 <;> simp only [vQW,vQV,vQU] at hn <;> first | (exact absurd hn (by omega)) | skip
 obtain _ | ⟨x11,l11⟩:=l10 <;> simp only [vQW,vQV,vQU] at hn <;> first | (exact absurd hn (by omega)) | skip
 obtain _ | ⟨x12,l12⟩:=l11 <;> simp only [vQW,vQV,vQU] at hn <;> first | (exact absurd hn (by omega)) | skip
 obtain _ | ⟨x13,l13⟩:=l12 <;> simp only [vQW,vQV,vQU] at hn <;> first | (exact absurd hn (by omega)) | skip
 obtain _ | ⟨x14,l14⟩:=l13 <;> simp only [vQW,vQV,vQU] at hn <;> first | (exact absurd hn (by omega)) | skip
 obtain _ | ⟨x15,l15⟩:=l14 <;> simp only [vQW,vQV,vQU] at hn <;> first | (exact absurd hn (by omega)) | skip
 obtain _ | ⟨x16,l16⟩:=l15 <;> simp only [vQW,vQV,vQU] at hn <;> first | (exact absurd hn (by omega)) | skip
 obtain _ | ⟨x17,l17⟩:=l16 <;> simp only [vQW,vQV,vQU] at hn <;> first | (exact absurd hn (by omega)) | skip
 obtain _ | ⟨x18,l18⟩:=l17 <;> simp only [vQW,vQV,vQU] at hn <;> first | (exact absurd hn (by omega)) | skip
 obtain _ | ⟨x19,l19⟩:=l18 <;> simp only [vQW,vQV,vQU] at hn <;> first | (exact absurd hn (by omega)) | skip
 obtain _ | ⟨x20,l20⟩:=l19 <;> simp only [vQW,vQV,vQU] at hn <;> first | (exact absurd hn (by omega)) | skip
 obtain _ | ⟨x21,l21⟩:=l20 <;> simp only [vQW,vQV,vQU] at hn <;> first | (exact absurd hn (by omega)) | skip
 obtain _ | ⟨x22,l22⟩:=l21 <;> simp only [vQW,vQV,vQU] at hn <;> first | (exact absurd hn (by omega)) | skip
 obtain _ | ⟨x23,l23⟩:=l22 <;> simp only [vQW,vQV,vQU] at hn <;> first | (exact absurd hn (by omega)) | skip
 obtain _ | ⟨y,l⟩:=l23 <;> simp only [vQW,vQV] at hn <;> first | (exact absurd hn (by omega)) | skip
 rfl
end Go.Rx
namespace Go.Proofs.YtmeldddgjfocdaaGreat
open Go.Sx Go.Rx Rt Go.RowKit
namespace Tn
end Tn
open Tn
theorem qXL:qVA Tryz.prog 62 0 0=true:=by kernel_rfl
theorem ty2:tyB Tryz.prog 2 false 1=true:=by kernel_rfl
theorem qHX:qVA Tryz.prog 62 1 1=true:=by kernel_rfl
theorem ze62:qYD Tryz.prog 62 (.agg #[.int .i64 0,.int .i64 0]):=by unfold qYD; kernel_rfl
theorem la62:qKH Tryz.prog 62=some ([.int .i64 0,.int .i64 0],[(0,1),(1,1)]):=by kernel_rfl
theorem ty62:tyB Tryz.prog 62 true 2=true:=by kernel_rfl
theorem fZA:uW Tryz.prog 156:=qW Tryz.func156 (by kernel_rfl) (by kernel_rfl)
theorem xYE:uW Tryz.prog 152:=qW Tryz.func152 (by kernel_rfl) (by kernel_rfl)
theorem fZH:uW Tryz.prog 164:=qW Tryz.func164 (by kernel_rfl) (by kernel_rfl)
theorem fZG:uW Tryz.prog 178:=qW Tryz.func178 (by kernel_rfl) (by kernel_rfl)
theorem mo:Tryz.prog.follows .mixedOrders=true:=by kernel_rfl
theorem xYD:uW Tryz.prog 165:=qW Tryz.func165 (by kernel_rfl) (by kernel_rfl)
theorem xYC:uW Tryz.prog 166:=qW Tryz.func166 (by kernel_rfl) (by kernel_rfl)
set_option maxRecDepth 100000 in
theorem kVC (a0 a1:Int) (w:World):Calls Tryz.prog 145 [.agg #[.int .i64 a0,.int .i64 a1]].toArray w (Rets (vB (Iv.valid (⟨a0,a1⟩:Iv))) (w)) :=
 zZ (x:=.b (Iv.valid ⟨a0,a1⟩)) (qH (N:=60) (ps:=[.a [.n .i64 a0,.n .i64 a1]]) yJ zV (OrL.ok (l:=([]:OrL)) trivial) ((by kernel_rfl:_=bif (decide ((-2147483648)≤a0)) then (bif (decide (a0≤a1)) then (bif (decide (a1≤2147483648)) then some (.v (.b true),[])
 else some (.v (.b false),[]))
 else some (.v (.b false),[]))
 else some (.v (.b false),[])).trans (by
 show _=some (Ret.v (.b (decide (-2147483648≤a0) && decide (a0≤a1) && decide (a1≤2147483648))),[]);cases decide (-2147483648≤a0) <;> cases decide (a0≤a1) <;> cases decide (a1≤2147483648) <;> rfl))) rfl rfl w
set_option maxRecDepth 100000 in
theorem yVJ (a0 a1:Int) (w:World):Calls Tryz.prog 152 [.agg #[.int .i64 a0,.int .i64 a1]].toArray w (Rets (vB (Iv.valid (⟨a0,a1⟩:Iv))) (w)) :=
 zZ (x:=.b (Iv.valid ⟨a0,a1⟩)) (qH (N:=60) (ps:=[.a [.n .i64 a0,.n .i64 a1]]) yJ zV (OrL.ok (l:=([]:OrL)) trivial) ((by kernel_rfl:_=bif (decide ((-2147483648)≤a0)) then (bif (decide (a0≤a1)) then (bif (decide (a1≤2147483648)) then some (.v (.b true),[])
 else some (.v (.b false),[]))
 else some (.v (.b false),[]))
 else some (.v (.b false),[])).trans (by
 show _=some (Ret.v (.b (decide (-2147483648≤a0) && decide (a0≤a1) && decide (a1≤2147483648))),[]);cases decide (-2147483648≤a0) <;> cases decide (a0≤a1) <;> cases decide (a1≤2147483648) <;> rfl))) rfl rfl w
namespace Tn
noncomputable def o_iValid:List PV→Option (Bool × Ret):=fun ps=>match ps with
 | [.a a']=>(ivD a').bind fun a=>some (true,.v (.b (Iv.valid a)))
 | _=>none
theorem ok_iValid:zJ Tryz.prog 145 o_iValid:=by
 intro ps r h;unfold o_iValid at h;split at h
 ·simp only [vQQ,vQZ,vQY] at h;obtain ⟨a,ha,hg,rfl⟩:=h;rw [qQV ha];exact qX (qW Tryz.func145 (by kernel_rfl) (by kernel_rfl)) rfl rfl (fun w=>kVC _ _ w)
 ·cases h
noncomputable def LTn1:OrL:=(145,o_iValid) :: ([]:OrL)
theorem uUD:AllP (fun x:Nat × (List PV→Option (Bool × Ret))=>zJ Tryz.prog x.1 x.2) LTn1:=⟨ok_iValid,trivial⟩
noncomputable def o_rValid:List PV→Option (Bool × Ret):=fun ps=>match ps with
 | [.a a']=>(ivD a').bind fun a=>some (true,.v (.b (Iv.valid a)))
 | _=>none
theorem ok_rValid:zJ Tryz.prog 152 o_rValid:=by
 intro ps r h;unfold o_rValid at h;split at h
 ·simp only [vQQ,vQZ,vQY] at h;obtain ⟨a,ha,hg,rfl⟩:=h;rw [qQV ha];exact qX (qW Tryz.func152 (by kernel_rfl) (by kernel_rfl)) rfl rfl (fun w=>yVJ _ _ w)
 ·cases h
noncomputable def LTn2:OrL:=(152,o_rValid) :: LTn1
theorem yWG:AllP (fun x:Nat × (List PV→Option (Bool × Ret))=>zJ Tryz.prog x.1 x.2) LTn2:=⟨ok_rValid,uUD⟩
end Tn
set_option maxRecDepth 100000 in
theorem xYU (a:Int) (w:World):Calls Tryz.prog 177 [.int .i64 a].toArray w (Rets (vI (qQG a)) (w)) :=
 zZ (x:=.n .i64 (qQG a)) (qH (N:=60) (ps:=[.n .i64 a]) yJ zV (OrL.ok (l:=LTn2) yWG) (by kernel_rfl)) rfl rfl w
set_option maxRecDepth 100000 in
theorem uVA (a:Int) (w:World):Calls Tryz.prog 100 [.int .i64 a].toArray w (Rets (vI (qQG a)) (w)) :=
 zZ (x:=.n .i64 (qQG a)) (qH (N:=60) (ps:=[.n .i64 a]) yJ zV (OrL.ok (l:=LTn2) yWG) ((by kernel_rfl:_=some (.v (.n .i64 (max (-2147483648) (min a 2147483648))),[])).trans (by
 rw [show max (-2147483648) (min a 2147483648)=qQG a by unfold qQG; omega]))) rfl rfl w
namespace Tn
noncomputable def zGU:List PV→Option (Bool × Ret):=fun ps=>match ps with
 | [.n .i64 a]=>some (true,.v (.n .i64 ((qQG a))))
 | _=>none
theorem jUX:zJ Tryz.prog 177 zGU:=by
 intro ps r h;unfold zGU at h;split at h
 ·simp only [vQZ,vQY] at h;obtain ⟨hg,rfl⟩:=h;exact qX (qW Tryz.func177 (by kernel_rfl) (by kernel_rfl)) rfl rfl (fun w=>xYU _ w)
 ·cases h
noncomputable def LTn3:OrL:=(177,zGU) :: LTn2
theorem uUC:AllP (fun x:Nat × (List PV→Option (Bool × Ret))=>zJ Tryz.prog x.1 x.2) LTn3:=⟨jUX,yWG⟩
noncomputable def zVF:List PV→Option (Bool × Ret):=fun ps=>match ps with
 | [.n .i64 a]=>some (true,.v (.n .i64 ((qQG a))))
 | _=>none
theorem jKI:zJ Tryz.prog 100 zVF:=by
 intro ps r h;unfold zVF at h;split at h
 ·simp only [vQZ,vQY] at h;obtain ⟨hg,rfl⟩:=h;exact qX (qW Tryz.func100 (by kernel_rfl) (by kernel_rfl)) rfl rfl (fun w=>uVA _ w)
 ·cases h
noncomputable def LTn4:OrL:=(100,zVF) :: LTn3
theorem yWV:AllP (fun x:Nat × (List PV→Option (Bool × Ret))=>zJ Tryz.prog x.1 x.2) LTn4:=⟨jKI,uUC⟩
end Tn
set_option maxRecDepth 100000 in
theorem yGX (lo:Int) (hi:Int) (w:World):Calls Tryz.prog 156 [.int .i64 lo,.int .i64 hi].toArray w (Rets (iv (Iv.limited lo hi)) (w)) :=
 zZ (x:=.a (ivC (Iv.limited lo hi))) (qH (N:=60) (ps:=[.n .i64 lo,.n .i64 hi]) yJ zV (OrL.ok (l:=LTn4) yWV) (by kernel_rfl)) rfl rfl w
set_option maxRecDepth 100000 in
theorem iOf (x:Int) (w:World):Calls Tryz.prog 128 [.int .i64 x].toArray w (Rets (iv (Iv.of x)) (w)) :=
 zZ (x:=.a (ivC (Iv.of x))) (qH (N:=60) (ps:=[.n .i64 x]) yJ zV (OrL.ok (l:=LTn4) yWV) (by kernel_rfl)) rfl rfl w
namespace Tn
noncomputable def zQE:List PV→Option (Bool × Ret):=fun ps=>match ps with
 | [.n .i64 a,.n .i64 b]=>some (true,.v (.a (ivC (Iv.limited a b))))
 | _=>none
theorem yUA:zJ Tryz.prog 156 zQE:=by
 intro ps r h;unfold zQE at h;split at h
 ·simp only [vQZ,vQY] at h;obtain ⟨hg,rfl⟩:=h;exact qX (qW Tryz.func156 (by kernel_rfl) (by kernel_rfl)) rfl rfl (fun w=>yGX _ _ w)
 ·cases h
noncomputable def LTn5:OrL:=(156,zQE) :: LTn4
theorem yWW:AllP (fun x:Nat × (List PV→Option (Bool × Ret))=>zJ Tryz.prog x.1 x.2) LTn5:=⟨yUA,yWV⟩
end Tn
set_option maxRecDepth 100000 in
theorem yVK (lo:Int) (hi:Int) (w:World):Calls Tryz.prog 164 [.int .i64 lo,.int .i64 hi].toArray w (Rets (iv (Iv.limited lo hi)) (w)) :=
 zZ (x:=.a (ivC (Iv.limited lo hi))) (qH (N:=60) (ps:=[.n .i64 lo,.n .i64 hi]) yJ zV (OrL.ok (l:=LTn5) yWW) (by kernel_rfl)) rfl rfl w
set_option maxRecDepth 100000 in
theorem rOf (x:Int) (w:World):Calls Tryz.prog 47 [.int .i64 x].toArray w (Rets (iv (Iv.of x)) (w)) :=
 zZ (x:=.a (ivC (Iv.of x))) (qH (N:=60) (ps:=[.n .i64 x]) yJ zV (OrL.ok (l:=LTn5) yWW) (by kernel_rfl)) rfl rfl w
namespace Tn
noncomputable def zQG:List PV→Option (Bool × Ret):=fun ps=>match ps with
 | [.n .i64 a,.n .i64 b]=>some (true,.v (.a (ivC (Iv.limited a b))))
 | _=>none
theorem yUJ:zJ Tryz.prog 164 zQG:=by
 intro ps r h;unfold zQG at h;split at h
 ·simp only [vQZ,vQY] at h;obtain ⟨hg,rfl⟩:=h;exact qX (qW Tryz.func164 (by kernel_rfl) (by kernel_rfl)) rfl rfl (fun w=>yVK _ _ w)
 ·cases h
noncomputable def LTn6:OrL:=(164,zQG) :: LTn5
theorem qXI:AllP (fun x:Nat × (List PV→Option (Bool × Ret))=>zJ Tryz.prog x.1 x.2) LTn6:=⟨yUJ,yWW⟩
end Tn
set_option maxRecDepth 100000 in
theorem iNeg (a0 a1:Int) (w:World):Calls Tryz.prog 188 [.agg #[.int .i64 a0,.int .i64 a1]].toArray w (Rets (iv (Iv.neg (⟨a0,a1⟩:Iv))) (w)) :=
 zZ (x:=.a (ivC (Iv.neg ⟨a0,a1⟩))) (qH (N:=60) (ps:=[.a [.n .i64 a0,.n .i64 a1]]) yJ zV (OrL.ok (l:=LTn6) qXI) ((by kernel_rfl:_=bif Iv.valid (Iv.mk a0 a1) then some (.v (.a [.n .i64 (vJJ .i64 (0 - a1)),.n .i64 (vJJ .i64 (0 - a0))]),[])
 else some (.v (.a [.n .i64 0,.n .i64 0]),[])).trans (by
 unfold Iv.neg;cases ha:Iv.valid (Iv.mk a0 a1) with
 | false=>rfl
 | true =>
  have va:=uV ha;rw [zQ (show -9223372036854775808≤0 - a1∧0 - a1≤9223372036854775807 by omega),zQ (show -9223372036854775808≤0 - a0∧0 - a0≤9223372036854775807 by omega),show 0 - a1 = -a1 by omega,show 0 - a0 = -a0 by omega]; rfl))) rfl rfl w
set_option maxRecDepth 100000 in
theorem rNeg (a0 a1:Int) (w:World):Calls Tryz.prog 175 [.agg #[.int .i64 a0,.int .i64 a1]].toArray w (Rets (iv (Iv.neg (⟨a0,a1⟩:Iv))) (w)) :=
 zZ (x:=.a (ivC (Iv.neg ⟨a0,a1⟩))) (qH (N:=60) (ps:=[.a [.n .i64 a0,.n .i64 a1]]) yJ zV (OrL.ok (l:=LTn6) qXI) ((by kernel_rfl:_=bif Iv.valid (Iv.mk a0 a1) then some (.v (.a [.n .i64 (vJJ .i64 (0 - a1)),.n .i64 (vJJ .i64 (0 - a0))]),[])
 else some (.v (.a [.n .i64 0,.n .i64 0]),[])).trans (by
 unfold Iv.neg;cases ha:Iv.valid (Iv.mk a0 a1) with
 | false=>rfl
 | true =>
  have va:=uV ha;rw [zQ (show -9223372036854775808≤0 - a1∧0 - a1≤9223372036854775807 by omega),zQ (show -9223372036854775808≤0 - a0∧0 - a0≤9223372036854775807 by omega),show 0 - a1 = -a1 by omega,show 0 - a0 = -a0 by omega]; rfl))) rfl rfl w
set_option maxRecDepth 100000 in
theorem uKZ (a0 a1:Int) (b0 b1:Int) (w:World):Calls Tryz.prog 178 [.agg #[.int .i64 a0,.int .i64 a1],.agg #[.int .i64 b0,.int .i64 b1]].toArray w (Rets (vB ((Iv.valid (⟨a0,a1⟩:Iv) && Iv.valid (⟨b0,b1⟩:Iv)))) (w)) :=
 zZ (x:=.b (Iv.valid ⟨a0,a1⟩ && Iv.valid ⟨b0,b1⟩)) (qH (N:=60) (ps:=[.a [.n .i64 a0,.n .i64 a1],.a [.n .i64 b0,.n .i64 b1]]) yJ zV (OrL.ok (l:=LTn6) qXI) ((by kernel_rfl:_=bif Iv.valid (Iv.mk a0 a1) then (bif Iv.valid (Iv.mk b0 b1) then some (.v (.b true),[])
 else some (.v (.b false),[]))
 else some (.v (.b false),[])).trans (by
 cases Iv.valid (Iv.mk a0 a1) <;> cases Iv.valid (Iv.mk b0 b1) <;> rfl))) rfl rfl w
set_option maxRecDepth 100000 in
theorem rAdd (a0 a1:Int) (b0 b1:Int) (w:World):Calls Tryz.prog 141 [.agg #[.int .i64 a0,.int .i64 a1],.agg #[.int .i64 b0,.int .i64 b1]].toArray w (Rets (iv (Iv.add (⟨a0,a1⟩:Iv) (⟨b0,b1⟩:Iv))) (w)) :=
 zZ (x:=.a (ivC (Iv.add ⟨a0,a1⟩ ⟨b0,b1⟩))) (qH (N:=60) (ps:=[.a [.n .i64 a0,.n .i64 a1],.a [.n .i64 b0,.n .i64 b1]]) yJ zV (OrL.ok (l:=LTn6) qXI) ((by kernel_rfl:_=bif Iv.valid (Iv.mk a0 a1) then (bif Iv.valid (Iv.mk b0 b1) then some (.v (.a (ivC (Iv.limited (vJJ .i64 (a0 + b0)) (vJJ .i64 (a1 + b1))))),[])
 else some (.v (.a [.n .i64 0,.n .i64 0]),[]))
 else some (.v (.a [.n .i64 0,.n .i64 0]),[])).trans (by
 unfold Iv.add;cases ha:Iv.valid (Iv.mk a0 a1) with
 | false=>rfl
 | true =>
  cases hb:Iv.valid (Iv.mk b0 b1) with
  | false=>rfl
  | true =>
   have va:=uV ha;have vb:=uV hb;rw [zQ (show -9223372036854775808≤a0 + b0∧a0 + b0≤9223372036854775807 by omega),zQ (show -9223372036854775808≤a1 + b1∧a1 + b1≤9223372036854775807 by omega)]; rfl))) rfl rfl w
set_option maxRecDepth 100000 in
theorem iAdd (a0 a1:Int) (b0 b1:Int) (w:World):Calls Tryz.prog 160 [.agg #[.int .i64 a0,.int .i64 a1],.agg #[.int .i64 b0,.int .i64 b1]].toArray w (Rets (iv (Iv.add (⟨a0,a1⟩:Iv) (⟨b0,b1⟩:Iv))) (w)) :=
 zZ (x:=.a (ivC (Iv.add ⟨a0,a1⟩ ⟨b0,b1⟩))) (qH (N:=60) (ps:=[.a [.n .i64 a0,.n .i64 a1],.a [.n .i64 b0,.n .i64 b1]]) yJ zV (OrL.ok (l:=LTn6) qXI) ((by kernel_rfl:_=bif Iv.valid (Iv.mk a0 a1) then (bif Iv.valid (Iv.mk b0 b1) then some (.v (.a (ivC (Iv.limited (vJJ .i64 (a0 + b0)) (vJJ .i64 (a1 + b1))))),[])
 else some (.v (.a [.n .i64 0,.n .i64 0]),[]))
 else some (.v (.a [.n .i64 0,.n .i64 0]),[])).trans (by
 unfold Iv.add;cases ha:Iv.valid (Iv.mk a0 a1) with
 | false=>rfl
 | true =>
  cases hb:Iv.valid (Iv.mk b0 b1) with
  | false=>rfl
  | true =>
   have va:=uV ha;have vb:=uV hb;rw [zQ (show -9223372036854775808≤a0 + b0∧a0 + b0≤9223372036854775807 by omega),zQ (show -9223372036854775808≤a1 + b1∧a1 + b1≤9223372036854775807 by omega)]; rfl))) rfl rfl w
set_option maxRecDepth 100000 in
theorem xUD (a0 a1:Int) (b0 b1:Int) (w:World):Calls Tryz.prog 189 [.agg #[.int .i64 a0,.int .i64 a1],.agg #[.int .i64 b0,.int .i64 b1]].toArray w (Rets (iv (Iv.hull (⟨a0,a1⟩:Iv) (⟨b0,b1⟩:Iv))) (w)) :=
 zZ (x:=.a (ivC (Iv.hull ⟨a0,a1⟩ ⟨b0,b1⟩))) (qH (N:=60) (ps:=[.a [.n .i64 a0,.n .i64 a1],.a [.n .i64 b0,.n .i64 b1]]) yJ zV (OrL.ok (l:=LTn6) qXI) ((by kernel_rfl:_=bif Iv.valid (Iv.mk a0 a1) then (bif Iv.valid (Iv.mk b0 b1) then some (.v (.a [.n .i64 (min a0 b0),.n .i64 (max a1 b1)]),[])
 else some (.v (.a [.n .i64 0,.n .i64 0]),[]))
 else some (.v (.a [.n .i64 0,.n .i64 0]),[])).trans (by
 unfold Iv.hull;cases ha:Iv.valid (Iv.mk a0 a1) with
 | false=>rfl
 | true =>
  cases hb:Iv.valid (Iv.mk b0 b1) with
  | false=>rfl
  | true =>
   have va:=uV ha;have vb:=uV hb
   rfl))) rfl rfl w
set_option maxRecDepth 100000 in
theorem fZY (a0 a1:Int) (b0 b1:Int) (w:World):Calls Tryz.prog 199 [.agg #[.int .i64 a0,.int .i64 a1],.agg #[.int .i64 b0,.int .i64 b1]].toArray w (Rets (iv (Iv.hull (⟨a0,a1⟩:Iv) (⟨b0,b1⟩:Iv))) (w)) :=
 zZ (x:=.a (ivC (Iv.hull ⟨a0,a1⟩ ⟨b0,b1⟩))) (qH (N:=60) (ps:=[.a [.n .i64 a0,.n .i64 a1],.a [.n .i64 b0,.n .i64 b1]]) yJ zV (OrL.ok (l:=LTn6) qXI) ((by kernel_rfl:_=bif Iv.valid (Iv.mk a0 a1) then (bif Iv.valid (Iv.mk b0 b1) then some (.v (.a [.n .i64 (min a0 b0),.n .i64 (max a1 b1)]),[])
 else some (.v (.a [.n .i64 0,.n .i64 0]),[]))
 else some (.v (.a [.n .i64 0,.n .i64 0]),[])).trans (by
 unfold Iv.hull;cases ha:Iv.valid (Iv.mk a0 a1) with
 | false=>rfl
 | true =>
  cases hb:Iv.valid (Iv.mk b0 b1) with
  | false=>rfl
  | true =>
   have va:=uV ha;have vb:=uV hb
   rfl))) rfl rfl w
set_option maxRecDepth 100000 in
theorem xZE (a0 a1:Int) (w:World):Calls Tryz.prog 198 [.agg #[.int .i64 a0,.int .i64 a1]].toArray w (Rets (vI (Iv.width (⟨a0,a1⟩:Iv))) (w)) :=
 zZ (x:=.n .i64 (Iv.width ⟨a0,a1⟩)) (qH (N:=60) (ps:=[.a [.n .i64 a0,.n .i64 a1]]) yJ zV (OrL.ok (l:=LTn6) qXI) ((by kernel_rfl:_=bif Iv.valid (Iv.mk a0 a1) then some (.v (.n .i64 (vJJ .i64 (a1 - a0))),[])
 else some (.v (.n .i64 0),[])).trans (by
 unfold Iv.width;cases ha:Iv.valid (Iv.mk a0 a1) with
 | false=>rfl
 | true =>
  have va:=uV ha;rw [zQ (show -9223372036854775808≤a1 - a0∧a1 - a0≤9223372036854775807 by omega)]; rfl))) rfl rfl w
set_option maxRecDepth 100000 in
theorem iHas (a0 a1:Int) (x:Int) (w:World):Calls Tryz.prog 205 [.agg #[.int .i64 a0,.int .i64 a1],.int .i64 x].toArray w (Rets (vB (Iv.has (⟨a0,a1⟩:Iv) x)) (w)) :=
 zZ (x:=.b (Iv.has ⟨a0,a1⟩ x)) (qH (N:=60) (ps:=[.a [.n .i64 a0,.n .i64 a1],.n .i64 x]) yJ zV (OrL.ok (l:=LTn6) qXI) ((by kernel_rfl:_=bif Iv.valid (Iv.mk a0 a1) then (bif (decide (a0≤x)) then (bif (decide (x≤a1)) then some (.v (.b true),[])
 else some (.v (.b false),[]))
 else some (.v (.b false),[]))
 else some (.v (.b false),[])).trans (by
 show _=some (Ret.v (.b (Iv.valid (Iv.mk a0 a1) && decide (a0≤x) && decide (x≤a1))),[]);cases Iv.valid (Iv.mk a0 a1) <;> cases decide (a0≤x) <;> cases decide (x≤a1) <;> rfl))) rfl rfl w
theorem zZJ (a:Int) (k:Int) (_:0≤k∧k≤62) (w:World):Calls Tryz.prog 184 [.int .i64 a,.int .i64 k].toArray w (Rets (vI (a / 2 ^ (k).toNat)) (w)):=by
 refine jX (n:=11) Tryz.func184 rfl rfl rfl ?_;refine zK ?_;refine qU ?_;refine qG (zY rfl) rfl rfl rfl ?_;refine zU ?_;refine qK ?_;refine zK ?_;refine zK ?_;refine qU ?_;refine qG (qV rfl) rfl rfl rfl ?_;refine qG (qKK rfl rfl) rfl rfl rfl ?_;refine zU ?_;refine qK ?_;refine qVU rfl (by simp; omega) ?_;refine qQE ?_;refine qK ?_;refine zK ?_;refine qU ?_;refine qG (qV rfl) rfl rfl rfl ?_;refine qG (qV rfl) rfl rfl rfl ?_;refine qG (yKI rfl rfl (by first | decide | omega) (kWF (by omega) (by omega))) rfl rfl rfl ?_;refine qG (zY rfl) rfl rfl rfl ?_;refine zU ?_;refine qK ?_;refine qQJ ?_;refine kJ (rs:=[.tmp 4]) rfl (resC (qQY rfl) (resN)) (congrArg (vI) (?_:_=a / 2 ^ (k).toNat))
 first | rfl | (subst_vars; rfl) | (subst_vars; simp_all)
theorem zHJ (a:Int) (k:Int) (_:0≤k∧k≤62) (ha:In64 a) (w:World):Calls Tryz.prog 185 [.int .i64 a,.int .i64 k].toArray w (Rets (vI (zX a (2 ^ (k).toNat))) (w)):=by
 refine jX (n:=20) Tryz.func185 rfl rfl rfl ?_;refine zK ?_;refine qU ?_;refine qG (zY rfl) rfl rfl rfl ?_;refine zU ?_;refine qK ?_;refine zK ?_;refine zK ?_;refine qU ?_;refine qG (qV rfl) rfl rfl rfl ?_;refine qG (qKK rfl rfl) rfl rfl rfl ?_;refine zU ?_;refine qK ?_;refine qVU rfl (by simp; omega) ?_;refine qQE ?_;refine qK ?_;refine zK ?_;refine qU ?_;refine qG (qV rfl) rfl rfl rfl ?_;refine qG (qV rfl) rfl rfl rfl ?_;refine qG (yKI rfl rfl (by first | decide | omega) (kWF (by omega) (by omega))) rfl rfl rfl ?_;refine qG (zY rfl) rfl rfl rfl ?_;refine zU ?_;refine qK ?_;refine zK ?_;refine zK ?_;refine qU ?_;refine qG (qV rfl) rfl rfl rfl ?_;refine qG (qV rfl) rfl rfl rfl ?_;refine qG (jKH rfl rfl (by first | decide | omega) (uVJ ha (by omega) (by omega))) rfl rfl rfl ?_;refine qG (qV rfl) rfl rfl rfl ?_;refine qG (zKK rfl rfl) rfl rfl rfl ?_;refine zU ?_;refine qK ?_;refine qYI rfl (fun hc16 => ?_) (fun hc16 => ?_)
 ·
  have h1:¬ a / 2 ^ k.toNat * 2 ^ k.toNat=a:=by simpa using hc16
  have h2:=jZE (Int.pow_pos (by decide)) h1;refine qU ?_;refine qG (qV rfl) rfl rfl rfl ?_;refine qG (qYB rfl rfl (zQ (yKU ha h1))) rfl rfl rfl ?_;refine qG (zY rfl) rfl rfl rfl ?_;refine zU ?_;refine qK ?_;refine zK ?_;refine qU ?_;refine qG (qV rfl) rfl rfl rfl ?_;refine qG (zY rfl) rfl rfl rfl ?_;refine zU ?_;refine qK ?_;refine qQJ ?_;refine kJ (rs:=[.tmp 4]) rfl (resC (qQY rfl) (resN)) (congrArg (vI) (?_:_=zX a (2 ^ (k).toNat)));exact h2
 ·
  have h1:a / 2 ^ k.toNat * 2 ^ k.toNat=a:=by simpa using hc16
  have h2:=yWZ (Int.pow_pos (by decide)) h1;refine qQE ?_;refine qK ?_;refine zK ?_;refine qU ?_;refine qG (qV rfl) rfl rfl rfl ?_;refine qG (zY rfl) rfl rfl rfl ?_;refine zU ?_;refine qK ?_;refine qQJ ?_;refine kJ (rs:=[.tmp 4]) rfl (resC (qQY rfl) (resN)) (congrArg (vI) (?_:_=zX a (2 ^ (k).toNat)));exact h2
theorem jKV (a:Int) (b:Int) (ha:In64 a) (hb:0 < b) (w:World):Calls Tryz.prog 165 [.int .i64 a,.int .i64 b].toArray w (Rets (vI (a / b)) (w)):=by
 refine jX (n:=16) Tryz.func165 rfl rfl rfl ?_;refine zK ?_;have hq:=zYK ha hb;refine qU ?_;refine qG (zY rfl) rfl rfl rfl ?_;refine zU ?_;refine qK ?_;refine zK ?_;refine qU ?_;refine qG (qV rfl) rfl rfl rfl ?_;refine qG (qV rfl) rfl rfl rfl ?_;refine qG (zVV rfl rfl (by first | decide | omega) (zQ hq)) rfl rfl rfl ?_;refine qG (zY rfl) rfl rfl rfl ?_;refine zU ?_;refine qK ?_;refine zK ?_;refine zK ?_;refine qU ?_;refine qG (qV rfl) rfl rfl rfl ?_;refine qG (qV rfl) rfl rfl rfl ?_;refine qG (zQK rfl rfl (by first | decide | omega) rfl) rfl rfl rfl ?_;refine qG (qKK rfl rfl) rfl rfl rfl ?_;refine zU ?_;refine qK ?_;refine qYI rfl (fun hc12 => ?_) (fun hc12 => ?_)
 ·
  refine qU ?_;refine qG (qV rfl) rfl rfl rfl ?_;refine qG (zKY rfl rfl (zQ (jVQ ha hb (by simpa using hc12)))) rfl rfl rfl ?_;refine qG (zY rfl) rfl rfl rfl ?_;refine zU ?_;refine qK ?_;refine zK ?_;refine qU ?_;refine qG (qV rfl) rfl rfl rfl ?_;refine qG (zY rfl) rfl rfl rfl ?_;refine zU ?_;refine qK ?_;refine qQJ ?_;refine kJ (rs:=[.tmp 4]) rfl (resC (qQY rfl) (resN)) (congrArg (vI) (?_:_=a / b));exact zUK hb (by simpa using hc12)
 ·
  refine qQE ?_;refine qK ?_;refine zK ?_;refine qU ?_;refine qG (qV rfl) rfl rfl rfl ?_;refine qG (zY rfl) rfl rfl rfl ?_;refine zU ?_;refine qK ?_;refine qQJ ?_;refine kJ (rs:=[.tmp 4]) rfl (resC (qQY rfl) (resN)) (congrArg (vI) (?_:_=a / b));exact yYG hb (by simpa using hc12)
theorem uZD (a:Int) (b:Int) (ha:In64 a) (hb:0 < b) (w:World):Calls Tryz.prog 166 [.int .i64 a,.int .i64 b].toArray w (Rets (vI (zX a b)) (w)):=by
 refine jX (n:=16) Tryz.func166 rfl rfl rfl ?_;refine zK ?_;have hq:=zYK ha hb;refine qU ?_;refine qG (zY rfl) rfl rfl rfl ?_;refine zU ?_;refine qK ?_;refine zK ?_;refine qU ?_;refine qG (qV rfl) rfl rfl rfl ?_;refine qG (qV rfl) rfl rfl rfl ?_;refine qG (zVV rfl rfl (by first | decide | omega) (zQ hq)) rfl rfl rfl ?_;refine qG (zY rfl) rfl rfl rfl ?_;refine zU ?_;refine qK ?_;refine zK ?_;refine zK ?_;refine qU ?_;refine qG (qV rfl) rfl rfl rfl ?_;refine qG (qV rfl) rfl rfl rfl ?_;refine qG (zQK rfl rfl (by first | decide | omega) rfl) rfl rfl rfl ?_;refine qG (jKC rfl rfl) rfl rfl rfl ?_;refine zU ?_;refine qK ?_;refine qYI rfl (fun hc12 => ?_) (fun hc12 => ?_)
 ·
  refine qU ?_;refine qG (qV rfl) rfl rfl rfl ?_;refine qG (qYB rfl rfl (zQ (kUF ha hb (by simpa using hc12)))) rfl rfl rfl ?_;refine qG (zY rfl) rfl rfl rfl ?_;refine zU ?_;refine qK ?_;refine zK ?_;refine qU ?_;refine qG (qV rfl) rfl rfl rfl ?_;refine qG (zY rfl) rfl rfl rfl ?_;refine zU ?_;refine qK ?_;refine qQJ ?_;refine kJ (rs:=[.tmp 4]) rfl (resC (qQY rfl) (resN)) (congrArg (vI) (?_:_=zX a b));exact kUD hb (by simpa using hc12)
 ·
  refine qQE ?_;refine qK ?_;refine zK ?_;refine qU ?_;refine qG (qV rfl) rfl rfl rfl ?_;refine qG (zY rfl) rfl rfl rfl ?_;refine zU ?_;refine qK ?_;refine qQJ ?_;refine kJ (rs:=[.tmp 4]) rfl (resC (qQY rfl) (resN)) (congrArg (vI) (?_:_=zX a b));exact kUE hb (by simpa using hc12)
theorem rMul (a0 a1:Int) (b0 b1:Int) (w:World):Calls Tryz.prog 142 [.agg #[.int .i64 a0,.int .i64 a1],.agg #[.int .i64 b0,.int .i64 b1]].toArray w (Rets (iv (Iv.mul (⟨a0,a1⟩:Iv) (⟨b0,b1⟩:Iv))) (w)):=by
 refine jX (n:=51) Tryz.func142 rfl rfl rfl ?_;refine zK ?_;refine qU ?_;refine qWC 2 rfl rfl rfl rfl ?_; intro b2;refine qWC 3 rfl rfl rfl rfl ?_; intro b3;refine qUY 4 ze62 rfl rfl rfl ?_; intro b4;refine zU ?_;refine qK ?_;refine zK ?_;refine zK ?_;refine qU ?_;refine qG (qZB 2 ty62 rfl rfl rfl) rfl rfl rfl ?_;refine qKX (F:=vB) (uJ xYE rfl (fun w _=>yVJ _ _  w)) rfl rfl rfl ?_; intro r10 hr10;refine qG (zKJ rfl) rfl rfl rfl ?_;refine qG (qV rfl) rfl rfl rfl ?_;refine jVV 12 rfl (fun hg12 => ?_) (fun hg12 => ?_)
 ·
  refine zHW rfl rfl rfl ?_;refine zHW rfl rfl rfl ?_;refine zHW rfl rfl rfl ?_;refine qG (zXB rfl rfl rfl rfl) rfl rfl rfl ?_;refine zU ?_;refine qK ?_;refine qUL rfl (rfl) ?_;refine zK ?_;refine qU ?_;refine qG (qJI la62 rfl rfl) rfl rfl rfl ?_;refine qZC 4 ty62 rfl rfl rfl rfl rfl rfl rfl rfl ?_;refine zU ?_;refine qK ?_;refine qQJ ?_;refine qXK ?_;refine kJ (rs:=[.cell 4 62]) rfl (resC (qJX 4 rfl rfl ty62 rfl) (resN)) (congrArg (iv) (?_:⟨_,_⟩=Iv.mul (⟨a0,a1⟩:Iv) (⟨b0,b1⟩:Iv)))
  subst_vars; first | (simp_all [Iv.mul,Iv.limited,min4,max4]; done) | (simp_all [Iv.mul,Iv.limited,min4,max4] <;> omega) | grind [Iv.mul,Iv.limited,min4,max4]
 ·
  refine qG (qZB 3 ty62 rfl rfl rfl) rfl rfl rfl ?_;refine qKX (F:=vB) (uJ xYE rfl (fun w _=>yVJ _ _  w)) rfl rfl rfl ?_; intro r14 hr14;refine qG (zKJ rfl) rfl rfl rfl ?_;refine qG (zQU rfl rfl rfl rfl) rfl rfl rfl ?_;refine zU ?_;refine qK ?_;refine qYI rfl (fun hc16 => ?_) (fun hc16 => ?_)
  ·
   refine zK ?_;refine qU ?_;refine qG (qJI la62 rfl rfl) rfl rfl rfl ?_;refine qZC 4 ty62 rfl rfl rfl rfl rfl rfl rfl rfl ?_;refine zU ?_;refine qK ?_;refine qQJ ?_;refine qXK ?_;refine kJ (rs:=[.cell 4 62]) rfl (resC (qJX 4 rfl rfl ty62 rfl) (resN)) (congrArg (iv) (?_:⟨_,_⟩=Iv.mul (⟨a0,a1⟩:Iv) (⟨b0,b1⟩:Iv)))
   subst_vars; first | (simp_all [Iv.mul,Iv.limited,min4,max4]; done) | (simp_all [Iv.mul,Iv.limited,min4,max4] <;> omega) | grind [Iv.mul,Iv.limited,min4,max4]
  ·
   refine qQE ?_;refine qK ?_;refine zK ?_;have ha:=uV (hr10.symm.trans (by simpa using hg12));have hb:=uV (hr14.symm.trans (by simpa using hc16));have m1:=qXD (a:=a0) (b:=b0) (by omega) (by omega);have m2:=qXD (a:=a0) (b:=b1) (by omega) (by omega);have m3:=qXD (a:=a1) (b:=b0) (by omega) (by omega);have m4:=qXD (a:=a1) (b:=b1) (by omega) (by omega);refine qJL 23 mo (by kernel_rfl) ?_;simp only [vYK,vYX,vYU,vYW];refine jK (zH qXL rfl) rfl rfl rfl ?_;refine jK (jZ 2 ty2 rfl rfl rfl) rfl rfl rfl ?_;refine jK (zH qXL rfl) rfl rfl rfl ?_;refine jK (jZ 3 ty2 rfl rfl rfl) rfl rfl rfl ?_;refine jK (qXX rfl rfl (by first | exact zQ ⟨by omega,by omega⟩ | rfl)) rfl rfl rfl ?_;refine jK (zH qXL rfl) rfl rfl rfl ?_;refine jK (jZ 2 ty2 rfl rfl rfl) rfl rfl rfl ?_;refine jK (zH qHX rfl) rfl rfl rfl ?_;refine jK (jZ 3 ty2 rfl rfl rfl) rfl rfl rfl ?_;refine jK (qXX rfl rfl (by first | exact zQ ⟨by omega,by omega⟩ | rfl)) rfl rfl rfl ?_;refine jK (zH qHX rfl) rfl rfl rfl ?_;refine jK (jZ 2 ty2 rfl rfl rfl) rfl rfl rfl ?_;refine jK (zH qXL rfl) rfl rfl rfl ?_;refine jK (jZ 3 ty2 rfl rfl rfl) rfl rfl rfl ?_;refine jK (qXX rfl rfl (by first | exact zQ ⟨by omega,by omega⟩ | rfl)) rfl rfl rfl ?_;refine jK (zH qHX rfl) rfl rfl rfl ?_;refine jK (jZ 2 ty2 rfl rfl rfl) rfl rfl rfl ?_;refine jK (zH qHX rfl) rfl rfl rfl ?_;refine jK (jZ 3 ty2 rfl rfl rfl) rfl rfl rfl ?_;refine jK (qXX rfl rfl (by first | exact zQ ⟨by omega,by omega⟩ | rfl)) rfl rfl rfl ?_;refine jK (zY rfl) rfl rfl rfl ?_;refine jK (zY rfl) rfl rfl rfl ?_;refine jK (zY rfl) rfl rfl rfl ?_;refine qWD ?_;refine qUW ?_;refine qG (zY rfl) rfl rfl rfl ?_;refine zU ?_;refine qK ?_;refine zK ?_;refine qU ?_;refine qG (qV rfl) rfl rfl rfl ?_;refine qG (qV rfl) rfl rfl rfl ?_;refine qG (qV rfl) rfl rfl rfl ?_;refine qG (qV rfl) rfl rfl rfl ?_;refine qG (kZW rfl rfl rfl rfl) rfl rfl rfl ?_;refine qKX (F:=vI) (uJ xYD rfl (fun w _=>jKV _ _ (by unfold In64; omega) (by omega) w)) rfl rfl rfl ?_; intro r43 hr43;refine qG (qV rfl) rfl rfl rfl ?_;refine qG (qV rfl) rfl rfl rfl ?_;refine qG (qV rfl) rfl rfl rfl ?_;refine qG (qV rfl) rfl rfl rfl ?_;refine qG (kZV rfl rfl rfl rfl) rfl rfl rfl ?_;refine qKX (F:=vI) (uJ xYC rfl (fun w _=>uZD _ _ (by unfold In64; omega) (by omega) w)) rfl rfl rfl ?_; intro r49 hr49;refine qKX (F:=iv) (uJ fZH rfl (fun w _=>yVK _ _  w)) rfl rfl rfl ?_; intro r50 hr50;refine qZC 4 ty62 rfl rfl rfl rfl rfl rfl rfl rfl ?_;refine zU ?_;refine qK ?_;refine qQJ ?_;refine kJ (rs:=[.cell 4 62]) rfl (resC (qJX 4 rfl rfl ty62 rfl) (resN)) (congrArg (iv) (?_:⟨_,_⟩=Iv.mul (⟨a0,a1⟩:Iv) (⟨b0,b1⟩:Iv)))
   subst_vars; first | (simp_all [Iv.mul,Iv.limited,min4,max4]; done) | (simp_all [Iv.mul,Iv.limited,min4,max4] <;> omega) | grind [Iv.mul,Iv.limited,min4,max4]
end Go.Proofs.YtmeldddgjfocdaaGreat

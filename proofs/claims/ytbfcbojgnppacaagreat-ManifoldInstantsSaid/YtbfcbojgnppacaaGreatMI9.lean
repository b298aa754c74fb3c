/- Part 9 of the texts behind the last one: rules and contracts. No condition. -/
import Derived.Test.YtbfcbojgnppacaaGreatMI8
open Option renaming bind_eq_some_iff → vQQ
open Option.some renaming injEq → vQZ
open Prod.mk renaming injEq → vQY
open List renaming length_cons → vQW, length_nil → vQV, take_succ_cons → vYK, drop_succ_cons → vYU, take_zero → vYX, drop_zero → vYW
open Nat renaming add_right_cancel_iff → vQU, eq_of_beq_eq_true → vQX
open Go.IntKind renaming wrap → vJJ
namespace Go.Rx
open Go.RowKit Go.Sx
def PV.i64:PV→Option Int
 | .n .i64 x=>some x
 | _=>none
def ints (cs:List PV):Option (List Int):=mapO PV.i64 cs
theorem zYD:∀ {cs:List PV} {l:List Int},ints cs=some l→cs=l.map fun x=>.n .i64 x
 | [],l,h=>by cases h; rfl
 | c :: cs,l,h=>by
  simp only [ints,mapO,vQQ,vQZ] at h;obtain ⟨x,hx,ys,hys,rfl⟩:=h;rw [List.map_cons,← zYD (cs:=cs) hys];unfold PV.i64 at hx;split at hx
  ·cases hx; rfl
  ·cases hx
def ivs:List Iv→List PV
 | []=>[]
 | p :: l=>.n .i64 p.lo :: .n .i64 p.hi :: ivs l
def ivC (p:Iv):List PV:=[.n .i64 p.lo,.n .i64 p.hi]
def ivD (cs:List PV):Option Iv:=(ints cs).bind fun l=>bif Nat.beq l.length 2 then some ⟨(l.getD 0 0),(l.getD 1 0)⟩ else none
theorem uY {cs:List PV} {p:Iv} (h:ivD cs=some p):cs=ivC p:=by
 simp only [ivD,vQQ] at h;obtain ⟨l,hl,h⟩:=h;obtain ⟨hn,h⟩:=qQ h;have hn:=vQX hn;rw [zYD hl];cases h;obtain _ | ⟨x0,l0⟩:=l <;> simp only [vQW,vQV,vQU] at hn <;> first | (exact absurd hn (by omega)) | skip
 obtain _ | ⟨x1,l1⟩:=l0 <;> simp only [vQW,vQV,vQU] at hn <;> first | (exact absurd hn (by omega)) | skip
 obtain _ | ⟨y,l⟩:=l1 <;> simp only [vQW,vQV] at hn <;> first | (exact absurd hn (by omega)) | skip
 rfl
def z3C (p:Z3):List PV:=[.n .i64 p.x,.n .i64 p.y,.n .i64 p.z]
def z3D (cs:List PV):Option Z3:=(ints cs).bind fun l=>bif Nat.beq l.length 3 then some ⟨(l.getD 0 0),(l.getD 1 0),(l.getD 2 0)⟩ else none
theorem zKC {cs:List PV} {p:Z3} (h:z3D cs=some p):cs=z3C p:=by
 simp only [z3D,vQQ] at h;obtain ⟨l,hl,h⟩:=h;obtain ⟨hn,h⟩:=qQ h;have hn:=vQX hn;rw [zYD hl];cases h;obtain _ | ⟨x0,l0⟩:=l <;> simp only [vQW,vQV,vQU] at hn <;> first | (exact absurd hn (by omega)) | skip
 obtain _ | ⟨x1,l1⟩:=l0 <;> simp only [vQW,vQV,vQU] at hn <;> first | (exact absurd hn (by omega)) | skip
 obtain _ | ⟨x2,l2⟩:=l1 <;> simp only [vQW,vQV,vQU] at hn <;> first | (exact absurd hn (by omega)) | skip
 obtain _ | ⟨y,l⟩:=l2 <;> simp only [vQW,vQV] at hn <;> first | (exact absurd hn (by omega)) | skip
 rfl
def v3C (p:V3):List PV:=[.n .i64 p.x.lo,.n .i64 p.x.hi,.n .i64 p.y.lo,.n .i64 p.y.hi,.n .i64 p.z.lo,.n .i64 p.z.hi]
def v3D (cs:List PV):Option V3:=(ints cs).bind fun l=>bif Nat.beq l.length 6 then some ⟨⟨(l.getD 0 0),(l.getD 1 0)⟩,⟨(l.getD 2 0),(l.getD 3 0)⟩,⟨(l.getD 4 0),(l.getD 5 0)⟩⟩ else none
theorem qUC {cs:List PV} {p:V3} (h:v3D cs=some p):cs=v3C p:=by
 simp only [v3D,vQQ] at h;obtain ⟨l,hl,h⟩:=h;obtain ⟨hn,h⟩:=qQ h;have hn:=vQX hn;rw [zYD hl];cases h;obtain _ | ⟨x0,l0⟩:=l <;> simp only [vQW,vQV,vQU] at hn <;> first | (exact absurd hn (by omega)) | skip
 obtain _ | ⟨x1,l1⟩:=l0 <;> simp only [vQW,vQV,vQU] at hn <;> first | (exact absurd hn (by omega)) | skip
 obtain _ | ⟨x2,l2⟩:=l1 <;> simp only [vQW,vQV,vQU] at hn <;> first | (exact absurd hn (by omega)) | skip
 obtain _ | ⟨x3,l3⟩:=l2 <;> simp only [vQW,vQV,vQU] at hn <;> first | (exact absurd hn (by omega)) | skip
 obtain _ | ⟨x4,l4⟩:=l3 <;> simp only [vQW,vQV,vQU] at hn <;> first | (exact absurd hn (by omega)) | skip
 obtain _ | ⟨x5,l5⟩:=l4 <;> simp only [vQW,vQV,vQU] at hn <;> first | (exact absurd hn (by omega)) | skip
 obtain _ | ⟨y,l⟩:=l5 <;> simp only [vQW,vQV] at hn <;> first | (exact absurd hn (by omega)) | skip
 rfl
def m3C (p:M3):List PV:=[.n .i64 p.x.x.lo,.n .i64 p.x.x.hi,.n .i64 p.x.y.lo,.n .i64 p.x.y.hi,.n .i64 p.x.z.lo,.n .i64 p.x.z.hi,.n .i64 p.y.x.lo,.n .i64 p.y.x.hi,.n .i64 p.y.y.lo,.n .i64 p.y.y.hi,.n .i64 p.y.z.lo,.n .i64 p.y.z.hi,.n .i64 p.z.x.lo,.n .i64 p.z.x.hi,.n .i64 p.z.y.lo,.n .i64 p.z.y.hi,.n .i64 p.z.z.lo,.n .i64 p.z.z.hi]
def m3D (cs:List PV):Option M3:=(ints cs).bind fun l=>bif Nat.beq l.length 18 then some ⟨⟨⟨(l.getD 0 0),(l.getD 1 0)⟩,⟨(l.getD 2 0),(l.getD 3 0)⟩,⟨(l.getD 4 0),(l.getD 5 0)⟩⟩,⟨⟨(l.getD 6 0),(l.getD 7 0)⟩,⟨(l.getD 8 0),(l.getD 9 0)⟩,⟨(l.getD 10 0),(l.getD 11 0)⟩⟩,⟨⟨(l.getD 12 0),(l.getD 13 0)⟩,⟨(l.getD 14 0),(l.getD 15 0)⟩,⟨(l.getD 16 0),(l.getD 17 0)⟩⟩⟩ else none
theorem zJV {cs:List PV} {p:M3} (h:m3D cs=some p):cs=m3C p:=by
 simp only [m3D,vQQ] at h;obtain ⟨l,hl,h⟩:=h;obtain ⟨hn,h⟩:=qQ h;have hn:=vQX hn;rw [zYD hl];cases h;obtain _ | ⟨x0,l0⟩:=l <;> simp only [vQW,vQV,vQU] at hn <;> first | (exact absurd hn (by omega)) | skip
 obtain _ | ⟨x1,l1⟩:=l0 <;> simp only [vQW,vQV,vQU] at hn <;> first | (exact absurd hn (by omega)) | skip
 obtain _ | ⟨x2,l2⟩:=l1 <;> simp only [vQW,vQV,vQU] at hn <;> first | (exact absurd hn (by omega)) | skip
 obtain _ | ⟨x3,l3⟩:=l2 <;> simp only [vQW,vQV,vQU] at hn <;> first | (exact absurd hn (by omega)) | skip
 obtain _ | ⟨x4,l4⟩:=l3 <;> simp only [vQW,vQV,vQU] at hn <;> first | (exact absurd hn (by omega)) | skip
 obtain _ | ⟨x5,l5⟩:=l4 <;> simp only [vQW,vQV,vQU] at hn <;> first | (exact absurd hn (by omega)) | skip
 obtain _ | ⟨x6,l6⟩:=l5 <;> simp only [vQW,vQV,vQU] at hn <;> first | (exact absurd hn (by omega)) | skip
 obtain _ | ⟨x7,l7⟩:=l6 <;> simp only [vQW,vQV,vQU] at hn <;> first | (exact absurd hn (by omega)) | skip
 obtain _ | ⟨x8,l8⟩:=l7 <;> simp only [vQW,vQV,vQU] at hn <;> first | (exact absurd hn (by omega)) | skip
 obtain _ | ⟨x9,l9⟩:=l8 <;> simp only [vQW,vQV,vQU] at hn <;> first | (exact absurd hn (by omega)) | skip
 obtain _ | ⟨x10,l10⟩:=l9 <;> simp only [vQW,vQV,vQU] at hn <;> first | (exact absurd hn (by omega)) | skip
 obtain _ | ⟨x11,l11⟩:=l10 <;> simp only [vQW,vQV,vQU] at hn <;> first | (exact absurd hn (by omega)) | skip
 obtain _ | ⟨x12,l12⟩:=l11 <;> simp only [vQW,vQV,vQU] at hn <;> first | (exact absurd hn (by omega)) | skip
 obtain _ | ⟨x13,l13⟩:=l12 <;> simp only [vQW,vQV,vQU] at hn <;> first | (exact absurd hn (by omega)) | skip
 obtain _ | ⟨x14,l14⟩:=l13 <;> simp only [vQW,vQV,vQU] at hn <;> first | (exact absurd hn (by omega)) | skip
 obtain _ | ⟨x15,l15⟩:=l14 <;> simp only [vQW,vQV,vQU] at hn <;> first | (exact absurd hn (by omega)) | skip
 obtain _ | ⟨x16,l16⟩:=l15 <;> simp only [vQW,vQV,vQU] at hn <;> first | (exact absurd hn (by omega)) | skip
 obtain _ | ⟨x17,l17⟩:=l16 <;> simp only [vQW,vQV,vQU] at hn <;> first | (exact absurd hn (by omega)) | skip
 obtain _ | ⟨y,l⟩:=l17 <;> simp only [vQW,vQV] at hn <;> first | (exact absurd hn (by omega)) | skip
 rfl
def poC (p:Po):List PV:=[.n .i64 p.r.x.x.lo,.n .i64 p.r.x.x.hi,.n .i64 p.r.x.y.lo,.n .i64 p.r.x.y.hi,.n .i64 p.r.x.z.lo,.n .i64 p.r.x.z.hi,.n .i64 p.r.y.x.lo,.n .i64 p.r.y.x.hi,.n .i64 p.r.y.y.lo,.n .i64 p.r.y.y.hi,.n .i64 p.r.y.z.lo,.n .i64 p.r.y.z.hi,.n .i64 p.r.z.x.lo,.n .i64 p.r.z.x.hi,.n .i64 p.r.z.y.lo,.n .i64 p.r.z.y.hi,.n .i64 p.r.z.z.lo,.n .i64 p.r.z.z.hi,.n .i64 p.t.x.lo,.n .i64 p.t.x.hi,.n .i64 p.t.y.lo,.n .i64 p.t.y.hi,.n .i64 p.t.z.lo,.n .i64 p.t.z.hi]
def poD (cs:List PV):Option Po:=(ints cs).bind fun l=>bif Nat.beq l.length 24 then some ⟨⟨⟨⟨(l.getD 0 0),(l.getD 1 0)⟩,⟨(l.getD 2 0),(l.getD 3 0)⟩,⟨(l.getD 4 0),(l.getD 5 0)⟩⟩,⟨⟨(l.getD 6 0),(l.getD 7 0)⟩,⟨(l.getD 8 0),(l.getD 9 0)⟩,⟨(l.getD 10 0),(l.getD 11 0)⟩⟩,⟨⟨(l.getD 12 0),(l.getD 13 0)⟩,⟨(l.getD 14 0),(l.getD 15 0)⟩,⟨(l.getD 16 0),(l.getD 17 0)⟩⟩⟩,⟨⟨(l.getD 18 0),(l.getD 19 0)⟩,⟨(l.getD 20 0),(l.getD 21 0)⟩,⟨(l.getD 22 0),(l.getD 23 0)⟩⟩⟩ else none
theorem yKJ {cs:List PV} {p:Po} (h:poD cs=some p):cs=poC p:=by
 simp only [poD,vQQ] at h;obtain ⟨l,hl,h⟩:=h;obtain ⟨hn,h⟩:=qQ h;have hn:=vQX hn;rw [zYD hl];cases h;obtain _ | ⟨x0,l0⟩:=l <;> simp only [vQW,vQV,vQU] at hn <;> first | (exact absurd hn (by omega)) | skip
 obtain _ | ⟨x1,l1⟩:=l0 <;> simp only [vQW,vQV,vQU] at hn <;> first | (exact absurd hn (by omega)) | skip
 obtain _ | ⟨x2,l2⟩:=l1 <;> simp only [vQW,vQV,vQU] at hn <;> first | (exact absurd hn (by omega)) | skip
 obtain _ | ⟨x3,l3⟩:=l2 <;> simp only [vQW,vQV,vQU] at hn <;> first | (exact absurd hn (by omega)) | skip
 obtain _ | ⟨x4,l4⟩:=l3 <;> simp only [vQW,vQV,vQU] at hn <;> first | (exact absurd hn (by omega)) | skip
 obtain _ | ⟨x5,l5⟩:=l4 <;> simp only [vQW,vQV,vQU] at hn <;> first | (exact absurd hn (by omega)) | skip
 obtain _ | ⟨x6,l6⟩:=l5 <;> simp only [vQW,vQV,vQU] at hn <;> first | (exact absurd hn (by omega)) | skip
 obtain _ | ⟨x7,l7⟩:=l6 <;> simp only [vQW,vQV,vQU] at hn <;> first | (exact absurd hn (by omega)) | skip
 obtain _ | ⟨x8,l8⟩:=l7 <;> simp only [vQW,vQV,vQU] at hn <;> first | (exact absurd hn (by omega)) | skip
 obtain _ | ⟨x9,l9⟩:=l8 <;> simp only [vQW,vQV,vQU] at hn <;> first | (exact absurd hn (by omega)) | skip
 obtain _ | ⟨x10,l10⟩:=l9 <;> simp only [vQW,vQV,vQU] at hn <;> first | (exact absurd hn (by omega)) | skip
 obtain _ | ⟨x11,l11⟩:=l10 <;> simp only [vQW,vQV,vQU] at hn <;> first | (exact absurd hn (by omega)) | skip
 obtain _ | ⟨x12,l12⟩:=l11 <;> simp only [vQW,vQV,vQU] at hn <;> first | (exact absurd hn (by omega)) | skip
 obtain _ | ⟨x13,l13⟩:=l12 <;> simp only [vQW,vQV,vQU] at hn <;> first | (exact absurd hn (by omega)) | skip
 obtain _ | ⟨x14,l14⟩:=l13 <;> simp only [vQW,vQV,vQU] at hn <;> first | (exact absurd hn (by omega)) | skip
 obtain _ | ⟨x15,l15⟩:=l14 <;> simp only [vQW,vQV,vQU] at hn <;> first | (exact absurd hn (by omega)) | skip
 obtain _ | ⟨x16,l16⟩:=l15 <;> simp only [vQW,vQV,vQU] at hn <;> first | (exact absurd hn (by omega)) | skip
 obtain _ | ⟨x17,l17⟩:=l16 <;> simp only [vQW,vQV,vQU] at hn <;> first | (exact absurd hn (by omega)) | skip
 obtain _ | ⟨x18,l18⟩:=l17 <;> simp only [vQW,vQV,vQU] at hn <;> first | (exact absurd hn (by omega)) | skip
 obtain _ | ⟨x19,l19⟩:=l18 <;> simp only [vQW,vQV,vQU] at hn <;> first | (exact absurd hn (by omega)) | skip
 obtain _ | ⟨x20,l20⟩:=l19 <;> simp only [vQW,vQV,vQU] at hn <;> first | (exact absurd hn (by omega)) | skip
 obtain _ | ⟨x21,l21⟩:=l20 <;> simp only [vQW,vQV,vQU] at hn <;> first | (exact absurd hn (by omega)) | skip
 obtain _ | ⟨x22,l22⟩:=l21 <;> simp only [vQW,vQV,vQU] at hn <;> first | (exact absurd hn (by omega)) | skip
 obtain _ | ⟨x23,l23⟩:=l22 <;> simp only [vQW,vQV,vQU] at hn <;> first | (exact absurd hn (by omega)) | skip
 obtain _ | ⟨y,l⟩:=l23 <;> simp only [vQW,vQV] at hn <;> first | (exact absurd hn (by omega)) | skip
 rfl
end Go.Rx
namespace Go.Proofs.YtbfcbojgnppacaaGreat
open Go.Sx Go.Rx Rt Go.RowKit
namespace Tn
end Tn
open Tn
theorem qWA:zQC Tryz.prog 65 0 0=true:=by kernel_rfl
theorem ty2:tyB Tryz.prog 2 false 1=true:=by kernel_rfl
theorem zQD:zQC Tryz.prog 65 1 1=true:=by kernel_rfl
theorem ze65:qYV Tryz.prog 65 (.agg #[.int .i64 0,.int .i64 0]):=by unfold qYV; kernel_rfl
theorem la65:qJL Tryz.prog 65=some ([.int .i64 0,.int .i64 0],[(0,1),(1,1)]):=by kernel_rfl
theorem ty65:tyB Tryz.prog 65 true 2=true:=by kernel_rfl
theorem en131:uQ Tryz.prog 131:=qU Tryz.func131 (by kernel_rfl) (by kernel_rfl)
theorem en134:uQ Tryz.prog 134:=qU Tryz.func134 (by kernel_rfl) (by kernel_rfl)
theorem en140:uQ Tryz.prog 140:=qU Tryz.func140 (by kernel_rfl) (by kernel_rfl)
theorem en103:uQ Tryz.prog 103:=qU Tryz.func103 (by kernel_rfl) (by kernel_rfl)
theorem mo:Tryz.prog.follows .mixedOrders=true:=by kernel_rfl
theorem en41:uQ Tryz.prog 41:=qU Tryz.func41 (by kernel_rfl) (by kernel_rfl)
theorem en78:uQ Tryz.prog 78:=qU Tryz.func78 (by kernel_rfl) (by kernel_rfl)
set_option maxRecDepth 100000 in
theorem iValid (a0 a1:Int) (w:World):Calls Tryz.prog 126 [.agg #[.int .i64 a0,.int .i64 a1]].toArray w (Rets (vB (Iv.valid (⟨a0,a1⟩:Iv))) (w)) :=
 qH (x:=.b (Iv.valid ⟨a0,a1⟩)) (qX (N:=60) (ps:=[.a [.n .i64 a0,.n .i64 a1]]) yH yZ (OrL.ok (l:=([]:OrL)) trivial) ((by kernel_rfl:_=bif (decide ((-2147483648)≤a0)) then (bif (decide (a0≤a1)) then (bif (decide (a1≤2147483648)) then some (.v (.b true),[])
 else some (.v (.b false),[]))
 else some (.v (.b false),[]))
 else some (.v (.b false),[])).trans (by
 show _=some (Ret.v (.b (decide (-2147483648≤a0) && decide (a0≤a1) && decide (a1≤2147483648))),[]);cases decide (-2147483648≤a0) <;> cases decide (a0≤a1) <;> cases decide (a1≤2147483648) <;> rfl))) rfl rfl w
set_option maxRecDepth 100000 in
theorem yKY (a0 a1:Int) (w:World):Calls Tryz.prog 134 [.agg #[.int .i64 a0,.int .i64 a1]].toArray w (Rets (vB (Iv.valid (⟨a0,a1⟩:Iv))) (w)) :=
 qH (x:=.b (Iv.valid ⟨a0,a1⟩)) (qX (N:=60) (ps:=[.a [.n .i64 a0,.n .i64 a1]]) yH yZ (OrL.ok (l:=([]:OrL)) trivial) ((by kernel_rfl:_=bif (decide ((-2147483648)≤a0)) then (bif (decide (a0≤a1)) then (bif (decide (a1≤2147483648)) then some (.v (.b true),[])
 else some (.v (.b false),[]))
 else some (.v (.b false),[]))
 else some (.v (.b false),[])).trans (by
 show _=some (Ret.v (.b (decide (-2147483648≤a0) && decide (a0≤a1) && decide (a1≤2147483648))),[]);cases decide (-2147483648≤a0) <;> cases decide (a0≤a1) <;> cases decide (a1≤2147483648) <;> rfl))) rfl rfl w
namespace Tn
noncomputable def o_iValid:List PV→Option (Bool × Ret):=fun ps=>match ps with
 | [.a a']=>(ivD a').bind fun a=>some (true,.v (.b (Iv.valid a)))
 | _=>none
theorem ok_iValid:zY Tryz.prog 126 o_iValid:=by
 intro ps r h;unfold o_iValid at h;split at h
 ·simp only [vQQ,vQZ,vQY] at h;obtain ⟨a,ha,hg,rfl⟩:=h;rw [uY ha];exact qY (qU Tryz.func126 (by kernel_rfl) (by kernel_rfl)) rfl rfl (fun w=>iValid _ _ w)
 ·cases h
noncomputable def LTn1:OrL:=(126,o_iValid) :: ([]:OrL)
theorem LTn1_ok:AllP (fun x:Nat × (List PV→Option (Bool × Ret))=>zY Tryz.prog x.1 x.2) LTn1:=⟨ok_iValid,trivial⟩
noncomputable def o_rValid:List PV→Option (Bool × Ret):=fun ps=>match ps with
 | [.a a']=>(ivD a').bind fun a=>some (true,.v (.b (Iv.valid a)))
 | _=>none
theorem ok_rValid:zY Tryz.prog 134 o_rValid:=by
 intro ps r h;unfold o_rValid at h;split at h
 ·simp only [vQQ,vQZ,vQY] at h;obtain ⟨a,ha,hg,rfl⟩:=h;rw [uY ha];exact qY (qU Tryz.func134 (by kernel_rfl) (by kernel_rfl)) rfl rfl (fun w=>yKY _ _ w)
 ·cases h
noncomputable def LTn2:OrL:=(134,o_rValid) :: LTn1
theorem yJE:AllP (fun x:Nat × (List PV→Option (Bool × Ret))=>zY Tryz.prog x.1 x.2) LTn2:=⟨ok_rValid,LTn1_ok⟩
end Tn
set_option maxRecDepth 100000 in
theorem fClamp (a:Int) (w:World):Calls Tryz.prog 151 [.int .i64 a].toArray w (Rets (vI (kH a)) (w)) :=
 qH (x:=.n .i64 (kH a)) (qX (N:=60) (ps:=[.n .i64 a]) yH yZ (OrL.ok (l:=LTn2) yJE) (by kernel_rfl)) rfl rfl w
set_option maxRecDepth 100000 in
theorem rClamp (a:Int) (w:World):Calls Tryz.prog 139 [.int .i64 a].toArray w (Rets (vI (kH a)) (w)) :=
 qH (x:=.n .i64 (kH a)) (qX (N:=60) (ps:=[.n .i64 a]) yH yZ (OrL.ok (l:=LTn2) yJE) ((by kernel_rfl:_=some (.v (.n .i64 (max (-2147483648) (min a 2147483648))),[])).trans (by
 rw [show max (-2147483648) (min a 2147483648)=kH a by unfold kH; omega]))) rfl rfl w
namespace Tn
noncomputable def zGA:List PV→Option (Bool × Ret):=fun ps=>match ps with
 | [.n .i64 a]=>some (true,.v (.n .i64 ((kH a))))
 | _=>none
theorem ok_fClamp:zY Tryz.prog 151 zGA:=by
 intro ps r h;unfold zGA at h;split at h
 ·simp only [vQZ,vQY] at h;obtain ⟨hg,rfl⟩:=h;exact qY (qU Tryz.func151 (by kernel_rfl) (by kernel_rfl)) rfl rfl (fun w=>fClamp _ w)
 ·cases h
noncomputable def LTn3:OrL:=(151,zGA) :: LTn2
theorem LTn3_ok:AllP (fun x:Nat × (List PV→Option (Bool × Ret))=>zY Tryz.prog x.1 x.2) LTn3:=⟨ok_fClamp,yJE⟩
noncomputable def zGX:List PV→Option (Bool × Ret):=fun ps=>match ps with
 | [.n .i64 a]=>some (true,.v (.n .i64 ((kH a))))
 | _=>none
theorem ok_rClamp:zY Tryz.prog 139 zGX:=by
 intro ps r h;unfold zGX at h;split at h
 ·simp only [vQZ,vQY] at h;obtain ⟨hg,rfl⟩:=h;exact qY (qU Tryz.func139 (by kernel_rfl) (by kernel_rfl)) rfl rfl (fun w=>rClamp _ w)
 ·cases h
noncomputable def LTn4:OrL:=(139,zGX) :: LTn3
theorem yJD:AllP (fun x:Nat × (List PV→Option (Bool × Ret))=>zY Tryz.prog x.1 x.2) LTn4:=⟨ok_rClamp,LTn3_ok⟩
end Tn
set_option maxRecDepth 100000 in
theorem iLimited (lo:Int) (hi:Int) (w:World):Calls Tryz.prog 131 [.int .i64 lo,.int .i64 hi].toArray w (Rets (iv (Iv.limited lo hi)) (w)) :=
 qH (x:=.a (ivC (Iv.limited lo hi))) (qX (N:=60) (ps:=[.n .i64 lo,.n .i64 hi]) yH yZ (OrL.ok (l:=LTn4) yJD) (by kernel_rfl)) rfl rfl w
set_option maxRecDepth 100000 in
theorem iOf (x:Int) (w:World):Calls Tryz.prog 100 [.int .i64 x].toArray w (Rets (iv (Iv.of x)) (w)) :=
 qH (x:=.a (ivC (Iv.of x))) (qX (N:=60) (ps:=[.n .i64 x]) yH yZ (OrL.ok (l:=LTn4) yJD) (by kernel_rfl)) rfl rfl w
namespace Tn
noncomputable def zYG:List PV→Option (Bool × Ret):=fun ps=>match ps with
 | [.n .i64 a,.n .i64 b]=>some (true,.v (.a (ivC (Iv.limited a b))))
 | _=>none
theorem ok_iLimited:zY Tryz.prog 131 zYG:=by
 intro ps r h;unfold zYG at h;split at h
 ·simp only [vQZ,vQY] at h;obtain ⟨hg,rfl⟩:=h;exact qY (qU Tryz.func131 (by kernel_rfl) (by kernel_rfl)) rfl rfl (fun w=>iLimited _ _ w)
 ·cases h
noncomputable def LTn5:OrL:=(131,zYG) :: LTn4
theorem yJC:AllP (fun x:Nat × (List PV→Option (Bool × Ret))=>zY Tryz.prog x.1 x.2) LTn5:=⟨ok_iLimited,yJD⟩
end Tn
set_option maxRecDepth 100000 in
theorem rLimited (lo:Int) (hi:Int) (w:World):Calls Tryz.prog 140 [.int .i64 lo,.int .i64 hi].toArray w (Rets (iv (Iv.limited lo hi)) (w)) :=
 qH (x:=.a (ivC (Iv.limited lo hi))) (qX (N:=60) (ps:=[.n .i64 lo,.n .i64 hi]) yH yZ (OrL.ok (l:=LTn5) yJC) (by kernel_rfl)) rfl rfl w
set_option maxRecDepth 100000 in
theorem rOf (x:Int) (w:World):Calls Tryz.prog 111 [.int .i64 x].toArray w (Rets (iv (Iv.of x)) (w)) :=
 qH (x:=.a (ivC (Iv.of x))) (qX (N:=60) (ps:=[.n .i64 x]) yH yZ (OrL.ok (l:=LTn5) yJC) (by kernel_rfl)) rfl rfl w
namespace Tn
noncomputable def zYK:List PV→Option (Bool × Ret):=fun ps=>match ps with
 | [.n .i64 a,.n .i64 b]=>some (true,.v (.a (ivC (Iv.limited a b))))
 | _=>none
theorem ok_rLimited:zY Tryz.prog 140 zYK:=by
 intro ps r h;unfold zYK at h;split at h
 ·simp only [vQZ,vQY] at h;obtain ⟨hg,rfl⟩:=h;exact qY (qU Tryz.func140 (by kernel_rfl) (by kernel_rfl)) rfl rfl (fun w=>rLimited _ _ w)
 ·cases h
noncomputable def LTn6:OrL:=(140,zYK) :: LTn5
theorem qKI:AllP (fun x:Nat × (List PV→Option (Bool × Ret))=>zY Tryz.prog x.1 x.2) LTn6:=⟨ok_rLimited,yJC⟩
end Tn
set_option maxRecDepth 100000 in
theorem iNeg (a0 a1:Int) (w:World):Calls Tryz.prog 180 [.agg #[.int .i64 a0,.int .i64 a1]].toArray w (Rets (iv (Iv.neg (⟨a0,a1⟩:Iv))) (w)) :=
 qH (x:=.a (ivC (Iv.neg ⟨a0,a1⟩))) (qX (N:=60) (ps:=[.a [.n .i64 a0,.n .i64 a1]]) yH yZ (OrL.ok (l:=LTn6) qKI) ((by kernel_rfl:_=bif Iv.valid (Iv.mk a0 a1) then some (.v (.a [.n .i64 (vJJ .i64 (0 - a1)),.n .i64 (vJJ .i64 (0 - a0))]),[])
 else some (.v (.a [.n .i64 0,.n .i64 0]),[])).trans (by
 unfold Iv.neg;cases ha:Iv.valid (Iv.mk a0 a1) with
 | false=>rfl
 | true =>
  have va:=uZ ha;rw [qK (show -9223372036854775808≤0 - a1∧0 - a1≤9223372036854775807 by omega),qK (show -9223372036854775808≤0 - a0∧0 - a0≤9223372036854775807 by omega),show 0 - a1 = -a1 by omega,show 0 - a0 = -a0 by omega]; rfl))) rfl rfl w
set_option maxRecDepth 100000 in
theorem rNeg (a0 a1:Int) (w:World):Calls Tryz.prog 164 [.agg #[.int .i64 a0,.int .i64 a1]].toArray w (Rets (iv (Iv.neg (⟨a0,a1⟩:Iv))) (w)) :=
 qH (x:=.a (ivC (Iv.neg ⟨a0,a1⟩))) (qX (N:=60) (ps:=[.a [.n .i64 a0,.n .i64 a1]]) yH yZ (OrL.ok (l:=LTn6) qKI) ((by kernel_rfl:_=bif Iv.valid (Iv.mk a0 a1) then some (.v (.a [.n .i64 (vJJ .i64 (0 - a1)),.n .i64 (vJJ .i64 (0 - a0))]),[])
 else some (.v (.a [.n .i64 0,.n .i64 0]),[])).trans (by
 unfold Iv.neg;cases ha:Iv.valid (Iv.mk a0 a1) with
 | false=>rfl
 | true =>
  have va:=uZ ha;rw [qK (show -9223372036854775808≤0 - a1∧0 - a1≤9223372036854775807 by omega),qK (show -9223372036854775808≤0 - a0∧0 - a0≤9223372036854775807 by omega),show 0 - a1 = -a1 by omega,show 0 - a0 = -a0 by omega]; rfl))) rfl rfl w
set_option maxRecDepth 100000 in
theorem iValid2 (a0 a1:Int) (b0 b1:Int) (w:World):Calls Tryz.prog 103 [.agg #[.int .i64 a0,.int .i64 a1],.agg #[.int .i64 b0,.int .i64 b1]].toArray w (Rets (vB ((Iv.valid (⟨a0,a1⟩:Iv) && Iv.valid (⟨b0,b1⟩:Iv)))) (w)) :=
 qH (x:=.b (Iv.valid ⟨a0,a1⟩ && Iv.valid ⟨b0,b1⟩)) (qX (N:=60) (ps:=[.a [.n .i64 a0,.n .i64 a1],.a [.n .i64 b0,.n .i64 b1]]) yH yZ (OrL.ok (l:=LTn6) qKI) ((by kernel_rfl:_=bif Iv.valid (Iv.mk a0 a1) then (bif Iv.valid (Iv.mk b0 b1) then some (.v (.b true),[])
 else some (.v (.b false),[]))
 else some (.v (.b false),[])).trans (by
 cases Iv.valid (Iv.mk a0 a1) <;> cases Iv.valid (Iv.mk b0 b1) <;> rfl))) rfl rfl w
set_option maxRecDepth 100000 in
theorem rAdd (a0 a1:Int) (b0 b1:Int) (w:World):Calls Tryz.prog 113 [.agg #[.int .i64 a0,.int .i64 a1],.agg #[.int .i64 b0,.int .i64 b1]].toArray w (Rets (iv (Iv.add (⟨a0,a1⟩:Iv) (⟨b0,b1⟩:Iv))) (w)) :=
 qH (x:=.a (ivC (Iv.add ⟨a0,a1⟩ ⟨b0,b1⟩))) (qX (N:=60) (ps:=[.a [.n .i64 a0,.n .i64 a1],.a [.n .i64 b0,.n .i64 b1]]) yH yZ (OrL.ok (l:=LTn6) qKI) ((by kernel_rfl:_=bif Iv.valid (Iv.mk a0 a1) then (bif Iv.valid (Iv.mk b0 b1) then some (.v (.a (ivC (Iv.limited (vJJ .i64 (a0 + b0)) (vJJ .i64 (a1 + b1))))),[])
 else some (.v (.a [.n .i64 0,.n .i64 0]),[]))
 else some (.v (.a [.n .i64 0,.n .i64 0]),[])).trans (by
 unfold Iv.add;cases ha:Iv.valid (Iv.mk a0 a1) with
 | false=>rfl
 | true =>
  cases hb:Iv.valid (Iv.mk b0 b1) with
  | false=>rfl
  | true =>
   have va:=uZ ha;have vb:=uZ hb;rw [qK (show -9223372036854775808≤a0 + b0∧a0 + b0≤9223372036854775807 by omega),qK (show -9223372036854775808≤a1 + b1∧a1 + b1≤9223372036854775807 by omega)]; rfl))) rfl rfl w
set_option maxRecDepth 100000 in
theorem iAdd (a0 a1:Int) (b0 b1:Int) (w:World):Calls Tryz.prog 149 [.agg #[.int .i64 a0,.int .i64 a1],.agg #[.int .i64 b0,.int .i64 b1]].toArray w (Rets (iv (Iv.add (⟨a0,a1⟩:Iv) (⟨b0,b1⟩:Iv))) (w)) :=
 qH (x:=.a (ivC (Iv.add ⟨a0,a1⟩ ⟨b0,b1⟩))) (qX (N:=60) (ps:=[.a [.n .i64 a0,.n .i64 a1],.a [.n .i64 b0,.n .i64 b1]]) yH yZ (OrL.ok (l:=LTn6) qKI) ((by kernel_rfl:_=bif Iv.valid (Iv.mk a0 a1) then (bif Iv.valid (Iv.mk b0 b1) then some (.v (.a (ivC (Iv.limited (vJJ .i64 (a0 + b0)) (vJJ .i64 (a1 + b1))))),[])
 else some (.v (.a [.n .i64 0,.n .i64 0]),[]))
 else some (.v (.a [.n .i64 0,.n .i64 0]),[])).trans (by
 unfold Iv.add;cases ha:Iv.valid (Iv.mk a0 a1) with
 | false=>rfl
 | true =>
  cases hb:Iv.valid (Iv.mk b0 b1) with
  | false=>rfl
  | true =>
   have va:=uZ ha;have vb:=uZ hb;rw [qK (show -9223372036854775808≤a0 + b0∧a0 + b0≤9223372036854775807 by omega),qK (show -9223372036854775808≤a1 + b1∧a1 + b1≤9223372036854775807 by omega)]; rfl))) rfl rfl w
set_option maxRecDepth 100000 in
theorem rHull (a0 a1:Int) (b0 b1:Int) (w:World):Calls Tryz.prog 174 [.agg #[.int .i64 a0,.int .i64 a1],.agg #[.int .i64 b0,.int .i64 b1]].toArray w (Rets (iv (Iv.hull (⟨a0,a1⟩:Iv) (⟨b0,b1⟩:Iv))) (w)) :=
 qH (x:=.a (ivC (Iv.hull ⟨a0,a1⟩ ⟨b0,b1⟩))) (qX (N:=60) (ps:=[.a [.n .i64 a0,.n .i64 a1],.a [.n .i64 b0,.n .i64 b1]]) yH yZ (OrL.ok (l:=LTn6) qKI) ((by kernel_rfl:_=bif Iv.valid (Iv.mk a0 a1) then (bif Iv.valid (Iv.mk b0 b1) then some (.v (.a [.n .i64 (min a0 b0),.n .i64 (max a1 b1)]),[])
 else some (.v (.a [.n .i64 0,.n .i64 0]),[]))
 else some (.v (.a [.n .i64 0,.n .i64 0]),[])).trans (by
 unfold Iv.hull;cases ha:Iv.valid (Iv.mk a0 a1) with
 | false=>rfl
 | true =>
  cases hb:Iv.valid (Iv.mk b0 b1) with
  | false=>rfl
  | true =>
   have va:=uZ ha;have vb:=uZ hb
   rfl))) rfl rfl w
set_option maxRecDepth 100000 in
theorem iHull (a0 a1:Int) (b0 b1:Int) (w:World):Calls Tryz.prog 189 [.agg #[.int .i64 a0,.int .i64 a1],.agg #[.int .i64 b0,.int .i64 b1]].toArray w (Rets (iv (Iv.hull (⟨a0,a1⟩:Iv) (⟨b0,b1⟩:Iv))) (w)) :=
 qH (x:=.a (ivC (Iv.hull ⟨a0,a1⟩ ⟨b0,b1⟩))) (qX (N:=60) (ps:=[.a [.n .i64 a0,.n .i64 a1],.a [.n .i64 b0,.n .i64 b1]]) yH yZ (OrL.ok (l:=LTn6) qKI) ((by kernel_rfl:_=bif Iv.valid (Iv.mk a0 a1) then (bif Iv.valid (Iv.mk b0 b1) then some (.v (.a [.n .i64 (min a0 b0),.n .i64 (max a1 b1)]),[])
 else some (.v (.a [.n .i64 0,.n .i64 0]),[]))
 else some (.v (.a [.n .i64 0,.n .i64 0]),[])).trans (by
 unfold Iv.hull;cases ha:Iv.valid (Iv.mk a0 a1) with
 | false=>rfl
 | true =>
  cases hb:Iv.valid (Iv.mk b0 b1) with
  | false=>rfl
  | true =>
   have va:=uZ ha;have vb:=uZ hb
   rfl))) rfl rfl w
set_option maxRecDepth 100000 in
theorem iWidth (a0 a1:Int) (w:World):Calls Tryz.prog 188 [.agg #[.int .i64 a0,.int .i64 a1]].toArray w (Rets (vI (Iv.width (⟨a0,a1⟩:Iv))) (w)) :=
 qH (x:=.n .i64 (Iv.width ⟨a0,a1⟩)) (qX (N:=60) (ps:=[.a [.n .i64 a0,.n .i64 a1]]) yH yZ (OrL.ok (l:=LTn6) qKI) ((by kernel_rfl:_=bif Iv.valid (Iv.mk a0 a1) then some (.v (.n .i64 (vJJ .i64 (a1 - a0))),[])
 else some (.v (.n .i64 0),[])).trans (by
 unfold Iv.width;cases ha:Iv.valid (Iv.mk a0 a1) with
 | false=>rfl
 | true =>
  have va:=uZ ha;rw [qK (show -9223372036854775808≤a1 - a0∧a1 - a0≤9223372036854775807 by omega)]; rfl))) rfl rfl w
set_option maxRecDepth 100000 in
theorem iHas (a0 a1:Int) (x:Int) (w:World):Calls Tryz.prog 193 [.agg #[.int .i64 a0,.int .i64 a1],.int .i64 x].toArray w (Rets (vB (Iv.has (⟨a0,a1⟩:Iv) x)) (w)) :=
 qH (x:=.b (Iv.has ⟨a0,a1⟩ x)) (qX (N:=60) (ps:=[.a [.n .i64 a0,.n .i64 a1],.n .i64 x]) yH yZ (OrL.ok (l:=LTn6) qKI) ((by kernel_rfl:_=bif Iv.valid (Iv.mk a0 a1) then (bif (decide (a0≤x)) then (bif (decide (x≤a1)) then some (.v (.b true),[])
 else some (.v (.b false),[]))
 else some (.v (.b false),[]))
 else some (.v (.b false),[])).trans (by
 show _=some (Ret.v (.b (Iv.valid (Iv.mk a0 a1) && decide (a0≤x) && decide (x≤a1))),[]);cases Iv.valid (Iv.mk a0 a1) <;> cases decide (a0≤x) <;> cases decide (x≤a1) <;> rfl))) rfl rfl w
set_option maxRecDepth 100000 in
theorem rWithin (a0 a1:Int) (b0 b1:Int) (w:World):Calls Tryz.prog 107 [.agg #[.int .i64 a0,.int .i64 a1],.agg #[.int .i64 b0,.int .i64 b1]].toArray w (Rets (vB (Iv.within (⟨a0,a1⟩:Iv) (⟨b0,b1⟩:Iv))) (w)) :=
 qH (x:=.b (Iv.within ⟨a0,a1⟩ ⟨b0,b1⟩)) (qX (N:=60) (ps:=[.a [.n .i64 a0,.n .i64 a1],.a [.n .i64 b0,.n .i64 b1]]) yH yZ (OrL.ok (l:=LTn6) qKI) ((by kernel_rfl:_=bif Iv.valid (Iv.mk a0 a1) then (bif Iv.valid (Iv.mk b0 b1) then (bif (decide (b0≤a0)) then (bif (decide (a1≤b1)) then some (.v (.b true),[])
 else some (.v (.b false),[]))
 else some (.v (.b false),[]))
 else some (.v (.b false),[]))
 else some (.v (.b false),[])).trans (by
 show _=some (Ret.v (.b (Iv.valid (Iv.mk a0 a1) && Iv.valid (Iv.mk b0 b1) && decide (b0≤a0) && decide (a1≤b1))),[]);cases Iv.valid (Iv.mk a0 a1) <;> cases Iv.valid (Iv.mk b0 b1) <;> cases decide (b0≤a0) <;> cases decide (a1≤b1) <;> rfl))) rfl rfl w
set_option maxRecDepth 100000 in
theorem iWithin (a0 a1:Int) (b0 b1:Int) (w:World):Calls Tryz.prog 73 [.agg #[.int .i64 a0,.int .i64 a1],.agg #[.int .i64 b0,.int .i64 b1]].toArray w (Rets (vB (Iv.within (⟨a0,a1⟩:Iv) (⟨b0,b1⟩:Iv))) (w)) :=
 qH (x:=.b (Iv.within ⟨a0,a1⟩ ⟨b0,b1⟩)) (qX (N:=60) (ps:=[.a [.n .i64 a0,.n .i64 a1],.a [.n .i64 b0,.n .i64 b1]]) yH yZ (OrL.ok (l:=LTn6) qKI) ((by kernel_rfl:_=bif Iv.valid (Iv.mk a0 a1) then (bif Iv.valid (Iv.mk b0 b1) then (bif (decide (b0≤a0)) then (bif (decide (a1≤b1)) then some (.v (.b true),[])
 else some (.v (.b false),[]))
 else some (.v (.b false),[]))
 else some (.v (.b false),[]))
 else some (.v (.b false),[])).trans (by
 show _=some (Ret.v (.b (Iv.valid (Iv.mk a0 a1) && Iv.valid (Iv.mk b0 b1) && decide (b0≤a0) && decide (a1≤b1))),[]);cases Iv.valid (Iv.mk a0 a1) <;> cases Iv.valid (Iv.mk b0 b1) <;> cases decide (b0≤a0) <;> cases decide (a1≤b1) <;> rfl))) rfl rfl w
theorem zYI (a:Int) (k:Int) (_:0≤k∧k≤62) (w:World):Calls Tryz.prog 167 [.int .i64 a,.int .i64 k].toArray w (Rets (vI (a / 2 ^ (k).toNat)) (w)):=by
 refine jW (n:=11) Tryz.func167 rfl rfl rfl ?_;refine zJ ?_;refine qJ ?_;refine qW (zQ rfl) rfl rfl rfl ?_;refine zK ?_;refine qZ ?_;refine zJ ?_;refine zJ ?_;refine qJ ?_;refine qW (qV rfl) rfl rfl rfl ?_;refine qW (qKW rfl rfl) rfl rfl rfl ?_;refine zK ?_;refine qZ ?_;refine zJQ rfl (by simp; omega) ?_;refine qZX ?_;refine qZ ?_;refine zJ ?_;refine qJ ?_;refine qW (qV rfl) rfl rfl rfl ?_;refine qW (qV rfl) rfl rfl rfl ?_;refine qW (yYY rfl rfl (by first | decide | omega) (shr_eq (by omega) (by omega))) rfl rfl rfl ?_;refine qW (zQ rfl) rfl rfl rfl ?_;refine zK ?_;refine qZ ?_;refine qQZ ?_;refine jH (rs:=[.tmp 4]) rfl (resC (uH rfl) (resN)) (congrArg (vI) (?_:_=a / 2 ^ (k).toNat))
 first | rfl | (subst_vars; rfl) | (subst_vars; simp_all)
theorem zHH (a:Int) (k:Int) (_:0≤k∧k≤62) (ha:In64 a) (w:World):Calls Tryz.prog 168 [.int .i64 a,.int .i64 k].toArray w (Rets (vI (zZ a (2 ^ (k).toNat))) (w)):=by
 refine jW (n:=20) Tryz.func168 rfl rfl rfl ?_;refine zJ ?_;refine qJ ?_;refine qW (zQ rfl) rfl rfl rfl ?_;refine zK ?_;refine qZ ?_;refine zJ ?_;refine zJ ?_;refine qJ ?_;refine qW (qV rfl) rfl rfl rfl ?_;refine qW (qKW rfl rfl) rfl rfl rfl ?_;refine zK ?_;refine qZ ?_;refine zJQ rfl (by simp; omega) ?_;refine qZX ?_;refine qZ ?_;refine zJ ?_;refine qJ ?_;refine qW (qV rfl) rfl rfl rfl ?_;refine qW (qV rfl) rfl rfl rfl ?_;refine qW (yYY rfl rfl (by first | decide | omega) (shr_eq (by omega) (by omega))) rfl rfl rfl ?_;refine qW (zQ rfl) rfl rfl rfl ?_;refine zK ?_;refine qZ ?_;refine zJ ?_;refine zJ ?_;refine qJ ?_;refine qW (qV rfl) rfl rfl rfl ?_;refine qW (qV rfl) rfl rfl rfl ?_;refine qW (opV_shl rfl rfl (by first | decide | omega) (shl_eq ha (by omega) (by omega))) rfl rfl rfl ?_;refine qW (qV rfl) rfl rfl rfl ?_;refine qW (yYJ rfl rfl) rfl rfl rfl ?_;refine zK ?_;refine qZ ?_;refine qJK rfl (fun hc16 => ?_) (fun hc16 => ?_)
 ·
  have h1:¬ a / 2 ^ k.toNat * 2 ^ k.toNat=a:=by simpa using hc16
  have h2:=ceil_of_ne (Int.pow_pos (by decide)) h1;refine qJ ?_;refine qW (qV rfl) rfl rfl rfl ?_;refine qW (qYA rfl rfl (qK (shiftUp_bnd ha h1))) rfl rfl rfl ?_;refine qW (zQ rfl) rfl rfl rfl ?_;refine zK ?_;refine qZ ?_;refine zJ ?_;refine qJ ?_;refine qW (qV rfl) rfl rfl rfl ?_;refine qW (zQ rfl) rfl rfl rfl ?_;refine zK ?_;refine qZ ?_;refine qQZ ?_;refine jH (rs:=[.tmp 4]) rfl (resC (uH rfl) (resN)) (congrArg (vI) (?_:_=zZ a (2 ^ (k).toNat)));exact h2
 ·
  have h1:a / 2 ^ k.toNat * 2 ^ k.toNat=a:=by simpa using hc16
  have h2:=ceil_of_mul (Int.pow_pos (by decide)) h1;refine qZX ?_;refine qZ ?_;refine zJ ?_;refine qJ ?_;refine qW (qV rfl) rfl rfl rfl ?_;refine qW (zQ rfl) rfl rfl rfl ?_;refine zK ?_;refine qZ ?_;refine qQZ ?_;refine jH (rs:=[.tmp 4]) rfl (resC (uH rfl) (resN)) (congrArg (vI) (?_:_=zZ a (2 ^ (k).toNat)));exact h2
theorem yXZ (a:Int) (b:Int) (ha:In64 a) (hb:0 < b) (w:World):Calls Tryz.prog 41 [.int .i64 a,.int .i64 b].toArray w (Rets (vI (a / b)) (w)):=by
 refine jW (n:=16) Tryz.func41 rfl rfl rfl ?_;refine zJ ?_;have hq:=qHY ha hb;refine qJ ?_;refine qW (zQ rfl) rfl rfl rfl ?_;refine zK ?_;refine qZ ?_;refine zJ ?_;refine qJ ?_;refine qW (qV rfl) rfl rfl rfl ?_;refine qW (qV rfl) rfl rfl rfl ?_;refine qW (zVI rfl rfl (by first | decide | omega) (qK hq)) rfl rfl rfl ?_;refine qW (zQ rfl) rfl rfl rfl ?_;refine zK ?_;refine qZ ?_;refine zJ ?_;refine zJ ?_;refine qJ ?_;refine qW (qV rfl) rfl rfl rfl ?_;refine qW (qV rfl) rfl rfl rfl ?_;refine qW (zYQ rfl rfl (by first | decide | omega) rfl) rfl rfl rfl ?_;refine qW (qKW rfl rfl) rfl rfl rfl ?_;refine zK ?_;refine qZ ?_;refine qJK rfl (fun hc12 => ?_) (fun hc12 => ?_)
 ·
  refine qJ ?_;refine qW (qV rfl) rfl rfl rfl ?_;refine qW (zUC rfl rfl (qK (floor_bnd ha hb (by simpa using hc12)))) rfl rfl rfl ?_;refine qW (zQ rfl) rfl rfl rfl ?_;refine zK ?_;refine qZ ?_;refine zJ ?_;refine qJ ?_;refine qW (qV rfl) rfl rfl rfl ?_;refine qW (zQ rfl) rfl rfl rfl ?_;refine zK ?_;refine qZ ?_;refine qQZ ?_;refine jH (rs:=[.tmp 4]) rfl (resC (uH rfl) (resN)) (congrArg (vI) (?_:_=a / b));exact zQH hb (by simpa using hc12)
 ·
  refine qZX ?_;refine qZ ?_;refine zJ ?_;refine qJ ?_;refine qW (qV rfl) rfl rfl rfl ?_;refine qW (zQ rfl) rfl rfl rfl ?_;refine zK ?_;refine qZ ?_;refine qQZ ?_;refine jH (rs:=[.tmp 4]) rfl (resC (uH rfl) (resN)) (congrArg (vI) (?_:_=a / b));exact zXF hb (by simpa using hc12)
theorem yHE (a:Int) (b:Int) (ha:In64 a) (hb:0 < b) (w:World):Calls Tryz.prog 78 [.int .i64 a,.int .i64 b].toArray w (Rets (vI (zZ a b)) (w)):=by
 refine jW (n:=16) Tryz.func78 rfl rfl rfl ?_;refine zJ ?_;have hq:=qHY ha hb;refine qJ ?_;refine qW (zQ rfl) rfl rfl rfl ?_;refine zK ?_;refine qZ ?_;refine zJ ?_;refine qJ ?_;refine qW (qV rfl) rfl rfl rfl ?_;refine qW (qV rfl) rfl rfl rfl ?_;refine qW (zVI rfl rfl (by first | decide | omega) (qK hq)) rfl rfl rfl ?_;refine qW (zQ rfl) rfl rfl rfl ?_;refine zK ?_;refine qZ ?_;refine zJ ?_;refine zJ ?_;refine qJ ?_;refine qW (qV rfl) rfl rfl rfl ?_;refine qW (qV rfl) rfl rfl rfl ?_;refine qW (zYQ rfl rfl (by first | decide | omega) rfl) rfl rfl rfl ?_;refine qW (opV_gtr rfl rfl) rfl rfl rfl ?_;refine zK ?_;refine qZ ?_;refine qJK rfl (fun hc12 => ?_) (fun hc12 => ?_)
 ·
  refine qJ ?_;refine qW (qV rfl) rfl rfl rfl ?_;refine qW (qYA rfl rfl (qK (ceil_bnd ha hb (by simpa using hc12)))) rfl rfl rfl ?_;refine qW (zQ rfl) rfl rfl rfl ?_;refine zK ?_;refine qZ ?_;refine zJ ?_;refine qJ ?_;refine qW (qV rfl) rfl rfl rfl ?_;refine qW (zQ rfl) rfl rfl rfl ?_;refine zK ?_;refine qZ ?_;refine qQZ ?_;refine jH (rs:=[.tmp 4]) rfl (resC (uH rfl) (resN)) (congrArg (vI) (?_:_=zZ a b));exact ceil_pos hb (by simpa using hc12)
 ·
  refine qZX ?_;refine qZ ?_;refine zJ ?_;refine qJ ?_;refine qW (qV rfl) rfl rfl rfl ?_;refine qW (zQ rfl) rfl rfl rfl ?_;refine zK ?_;refine qZ ?_;refine qQZ ?_;refine jH (rs:=[.tmp 4]) rfl (resC (uH rfl) (resN)) (congrArg (vI) (?_:_=zZ a b));exact ceil_neg hb (by simpa using hc12)
theorem rMul (a0 a1:Int) (b0 b1:Int) (w:World):Calls Tryz.prog 114 [.agg #[.int .i64 a0,.int .i64 a1],.agg #[.int .i64 b0,.int .i64 b1]].toArray w (Rets (iv (Iv.mul (⟨a0,a1⟩:Iv) (⟨b0,b1⟩:Iv))) (w)):=by
 refine jW (n:=51) Tryz.func114 rfl rfl rfl ?_;refine zJ ?_;refine qJ ?_;refine qGF 2 rfl rfl rfl rfl ?_; intro b2;refine qGF 3 rfl rfl rfl rfl ?_; intro b3;refine qKA 4 ze65 rfl rfl rfl ?_; intro b4;refine zK ?_;refine qZ ?_;refine zJ ?_;refine zJ ?_;refine qJ ?_;refine qW (qKV 2 ty65 rfl rfl rfl) rfl rfl rfl ?_;refine qUW (F:=vB) (uK en134 rfl (fun w _=>yKY _ _  w)) rfl rfl rfl ?_; intro r10 hr10;refine qW (zVL rfl) rfl rfl rfl ?_;refine qW (qV rfl) rfl rfl rfl ?_;refine doL_split 12 rfl (fun hg12 => ?_) (fun hg12 => ?_)
 ·
  refine zHC rfl rfl rfl ?_;refine zHC rfl rfl rfl ?_;refine zHC rfl rfl rfl ?_;refine qW (opV_pick_t rfl rfl rfl rfl) rfl rfl rfl ?_;refine zK ?_;refine qZ ?_;refine qXK rfl (rfl) ?_;refine zJ ?_;refine qJ ?_;refine qW (qJV la65 rfl rfl) rfl rfl rfl ?_;refine qZL 4 ty65 rfl rfl rfl rfl rfl rfl rfl rfl ?_;refine zK ?_;refine qZ ?_;refine qQZ ?_;refine qXD ?_;refine jH (rs:=[.cell 4 65]) rfl (resC (qYU 4 rfl rfl ty65 rfl) (resN)) (congrArg (iv) (?_:⟨_,_⟩=Iv.mul (⟨a0,a1⟩:Iv) (⟨b0,b1⟩:Iv)))
  subst_vars; first | (simp_all [Iv.mul,Iv.limited,min4,max4]; done) | (simp_all [Iv.mul,Iv.limited,min4,max4] <;> omega) | grind [Iv.mul,Iv.limited,min4,max4]
 ·
  refine qW (qKV 3 ty65 rfl rfl rfl) rfl rfl rfl ?_;refine qUW (F:=vB) (uK en134 rfl (fun w _=>yKY _ _  w)) rfl rfl rfl ?_; intro r14 hr14;refine qW (zVL rfl) rfl rfl rfl ?_;refine qW (opV_pick_f rfl rfl rfl rfl) rfl rfl rfl ?_;refine zK ?_;refine qZ ?_;refine qJK rfl (fun hc16 => ?_) (fun hc16 => ?_)
  ·
   refine zJ ?_;refine qJ ?_;refine qW (qJV la65 rfl rfl) rfl rfl rfl ?_;refine qZL 4 ty65 rfl rfl rfl rfl rfl rfl rfl rfl ?_;refine zK ?_;refine qZ ?_;refine qQZ ?_;refine qXD ?_;refine jH (rs:=[.cell 4 65]) rfl (resC (qYU 4 rfl rfl ty65 rfl) (resN)) (congrArg (iv) (?_:⟨_,_⟩=Iv.mul (⟨a0,a1⟩:Iv) (⟨b0,b1⟩:Iv)))
   subst_vars; first | (simp_all [Iv.mul,Iv.limited,min4,max4]; done) | (simp_all [Iv.mul,Iv.limited,min4,max4] <;> omega) | grind [Iv.mul,Iv.limited,min4,max4]
  ·
   refine qZX ?_;refine qZ ?_;refine zJ ?_;have ha:=uZ (hr10.symm.trans (by simpa using hg12));have hb:=uZ (hr14.symm.trans (by simpa using hc16));have m1:=qWX (a:=a0) (b:=b0) (by omega) (by omega);have m2:=qWX (a:=a0) (b:=b1) (by omega) (by omega);have m3:=qWX (a:=a1) (b:=b0) (by omega) (by omega);have m4:=qWX (a:=a1) (b:=b1) (by omega) (by omega);refine qXJ 23 mo (by kernel_rfl) ?_;simp only [vYK,vYX,vYU,vYW];refine kZ (zX qWA rfl) rfl rfl rfl ?_;refine kZ (jK 2 ty2 rfl rfl rfl) rfl rfl rfl ?_;refine kZ (zX qWA rfl) rfl rfl rfl ?_;refine kZ (jK 3 ty2 rfl rfl rfl) rfl rfl rfl ?_;refine kZ (qXF rfl rfl (by first | exact qK ⟨by omega,by omega⟩ | rfl)) rfl rfl rfl ?_;refine kZ (zX qWA rfl) rfl rfl rfl ?_;refine kZ (jK 2 ty2 rfl rfl rfl) rfl rfl rfl ?_;refine kZ (zX zQD rfl) rfl rfl rfl ?_;refine kZ (jK 3 ty2 rfl rfl rfl) rfl rfl rfl ?_;refine kZ (qXF rfl rfl (by first | exact qK ⟨by omega,by omega⟩ | rfl)) rfl rfl rfl ?_;refine kZ (zX zQD rfl) rfl rfl rfl ?_;refine kZ (jK 2 ty2 rfl rfl rfl) rfl rfl rfl ?_;refine kZ (zX qWA rfl) rfl rfl rfl ?_;refine kZ (jK 3 ty2 rfl rfl rfl) rfl rfl rfl ?_;refine kZ (qXF rfl rfl (by first | exact qK ⟨by omega,by omega⟩ | rfl)) rfl rfl rfl ?_;refine kZ (zX zQD rfl) rfl rfl rfl ?_;refine kZ (jK 2 ty2 rfl rfl rfl) rfl rfl rfl ?_;refine kZ (zX zQD rfl) rfl rfl rfl ?_;refine kZ (jK 3 ty2 rfl rfl rfl) rfl rfl rfl ?_;refine kZ (qXF rfl rfl (by first | exact qK ⟨by omega,by omega⟩ | rfl)) rfl rfl rfl ?_;refine kZ (zQ rfl) rfl rfl rfl ?_;refine kZ (zQ rfl) rfl rfl rfl ?_;refine kZ (zQ rfl) rfl rfl rfl ?_;refine zYL ?_;refine qVG ?_;refine qW (zQ rfl) rfl rfl rfl ?_;refine zK ?_;refine qZ ?_;refine zJ ?_;refine qJ ?_;refine qW (qV rfl) rfl rfl rfl ?_;refine qW (qV rfl) rfl rfl rfl ?_;refine qW (qV rfl) rfl rfl rfl ?_;refine qW (qV rfl) rfl rfl rfl ?_;refine qW (opV_min4 rfl rfl rfl rfl) rfl rfl rfl ?_;refine qUW (F:=vI) (uK en41 rfl (fun w _=>yXZ _ _ (by unfold In64; omega) (by omega) w)) rfl rfl rfl ?_; intro r43 hr43;refine qW (qV rfl) rfl rfl rfl ?_;refine qW (qV rfl) rfl rfl rfl ?_;refine qW (qV rfl) rfl rfl rfl ?_;refine qW (qV rfl) rfl rfl rfl ?_;refine qW (opV_max4 rfl rfl rfl rfl) rfl rfl rfl ?_;refine qUW (F:=vI) (uK en78 rfl (fun w _=>yHE _ _ (by unfold In64; omega) (by omega) w)) rfl rfl rfl ?_; intro r49 hr49;refine qUW (F:=iv) (uK en140 rfl (fun w _=>rLimited _ _  w)) rfl rfl rfl ?_; intro r50 hr50;refine qZL 4 ty65 rfl rfl rfl rfl rfl rfl rfl rfl ?_;refine zK ?_;refine qZ ?_;refine qQZ ?_;refine jH (rs:=[.cell 4 65]) rfl (resC (qYU 4 rfl rfl ty65 rfl) (resN)) (congrArg (iv) (?_:⟨_,_⟩=Iv.mul (⟨a0,a1⟩:Iv) (⟨b0,b1⟩:Iv)))
   subst_vars; first | (simp_all [Iv.mul,Iv.limited,min4,max4]; done) | (simp_all [Iv.mul,Iv.limited,min4,max4] <;> omega) | grind [Iv.mul,Iv.limited,min4,max4]
end Go.Proofs.YtbfcbojgnppacaaGreat

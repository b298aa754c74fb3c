/- Part 9 of the texts behind the last one: rules and contracts. No condition. -/
import Derived.Test.YtmeldddgjfocdaaGreatGL8
open Option renaming bind_eq_some_iff → vQQ
open Option.some renaming injEq → vQZ
open Prod.mk renaming injEq → vQY
open List renaming length_cons → vQW, length_nil → vQV, take_succ_cons → vYK, drop_succ_cons → vYU, take_zero → vYX, drop_zero → vYW
open Nat renaming add_right_cancel_iff → vQU, eq_of_beq_eq_true → vQX
open Go.IntKind renaming wrap → vJJ
namespace Go.Rx
open Go.RowKit Go.Sx
def PV.i64:PV→Option Int
 | .n .i64 x=>some x
 | _=>none
def ints (cs:List PV):Option (List Int):=mapO PV.i64 cs
theorem zYX:∀ {cs:List PV} {l:List Int},ints cs=some l→cs=l.map fun x=>.n .i64 x
 | [],l,h=>by cases h; rfl
 | c :: cs,l,h=>by
  simp only [ints,mapO,vQQ,vQZ] at h;obtain ⟨x,hx,ys,hys,rfl⟩:=h;rw [List.map_cons,← zYX (cs:=cs) hys];unfold PV.i64 at hx;split at hx
  ·cases hx; rfl
  ·cases hx
def ivs:List Iv→List PV
 | []=>[]
 | p :: l=>.n .i64 p.lo :: .n .i64 p.hi :: ivs l
def ivC (p:Iv):List PV:=[.n .i64 p.lo,.n .i64 p.hi]
def ivD (cs:List PV):Option Iv:=(ints cs).bind fun l=>bif Nat.beq l.length 2 then some ⟨(l.getD 0 0),(l.getD 1 0)⟩ else none
theorem qQF {cs:List PV} {p:Iv} (h:ivD cs=some p):cs=ivC p:=by
 simp only [ivD,vQQ] at h;obtain ⟨l,hl,h⟩:=h;obtain ⟨hn,h⟩:=qQ h;have hn:=vQX hn;rw [zYX hl];cases h;obtain _ | ⟨x0,l0⟩:=l <;> simp only [vQW,vQV,vQU] at hn <;> first | (exact absurd hn (by omega)) | skip
 obtain _ | ⟨x1,l1⟩:=l0 <;> simp only [vQW,vQV,vQU] at hn <;> first | (exact absurd hn (by omega)) | skip
 obtain _ | ⟨y,l⟩:=l1 <;> simp only [vQW,vQV] at hn <;> first | (exact absurd hn (by omega)) | skip
 rfl
def z3C (p:Z3):List PV:=[.n .i64 p.x,.n .i64 p.y,.n .i64 p.z]
def z3D (cs:List PV):Option Z3:=(ints cs).bind fun l=>bif Nat.beq l.length 3 then some ⟨(l.getD 0 0),(l.getD 1 0),(l.getD 2 0)⟩ else none
theorem yGD {cs:List PV} {p:Z3} (h:z3D cs=some p):cs=z3C p:=by
 simp only [z3D,vQQ] at h;obtain ⟨l,hl,h⟩:=h;obtain ⟨hn,h⟩:=qQ h;have hn:=vQX hn;rw [zYX hl];cases h;obtain _ | ⟨x0,l0⟩:=l <;> simp only [vQW,vQV,vQU] at hn <;> first | (exact absurd hn (by omega)) | skip
 obtain _ | ⟨x1,l1⟩:=l0 <;> simp only [vQW,vQV,vQU] at hn <;> first | (exact absurd hn (by omega)) | skip
 obtain _ | ⟨x2,l2⟩:=l1 <;> simp only [vQW,vQV,vQU] at hn <;> first | (exact absurd hn (by omega)) | skip
 obtain _ | ⟨y,l⟩:=l2 <;> simp only [vQW,vQV] at hn <;> first | (exact absurd hn (by omega)) | skip
 rfl
def v3C (p:V3):List PV:=[.n .i64 p.x.lo,.n .i64 p.x.hi,.n .i64 p.y.lo,.n .i64 p.y.hi,.n .i64 p.z.lo,.n .i64 p.z.hi]
def v3D (cs:List PV):Option V3:=(ints cs).bind fun l=>bif Nat.beq l.length 6 then some ⟨⟨(l.getD 0 0),(l.getD 1 0)⟩,⟨(l.getD 2 0),(l.getD 3 0)⟩,⟨(l.getD 4 0),(l.getD 5 0)⟩⟩ else none
theorem qWI {cs:List PV} {p:V3} (h:v3D cs=some p):cs=v3C p:=by
 simp only [v3D,vQQ] at h;obtain ⟨l,hl,h⟩:=h;obtain ⟨hn,h⟩:=qQ h;have hn:=vQX hn;rw [zYX hl];cases h;obtain _ | ⟨x0,l0⟩:=l <;> simp only [vQW,vQV,vQU] at hn <;> first | (exact absurd hn (by omega)) | skip
 obtain _ | ⟨x1,l1⟩:=l0 <;> simp only [vQW,vQV,vQU] at hn <;> first | (exact absurd hn (by omega)) | skip
 obtain _ | ⟨x2,l2⟩:=l1 <;> simp only [vQW,vQV,vQU] at hn <;> first | (exact absurd hn (by omega)) | skip
 obtain _ | ⟨x3,l3⟩:=l2 <;> simp only [vQW,vQV,vQU] at hn <;> first | (exact absurd hn (by omega)) | skip
 obtain _ | ⟨x4,l4⟩:=l3 <;> simp only [vQW,vQV,vQU] at hn <;> first | (exact absurd hn (by omega)) | skip
 obtain _ | ⟨x5,l5⟩:=l4 <;> simp only [vQW,vQV,vQU] at hn <;> first | (exact absurd hn (by omega)) | skip
 obtain _ | ⟨y,l⟩:=l5 <;> simp only [vQW,vQV] at hn <;> first | (exact absurd hn (by omega)) | skip
 rfl
def m3C (p:M3):List PV:=[.n .i64 p.x.x.lo,.n .i64 p.x.x.hi,.n .i64 p.x.y.lo,.n .i64 p.x.y.hi,.n .i64 p.x.z.lo,.n .i64 p.x.z.hi,.n .i64 p.y.x.lo,.n .i64 p.y.x.hi,.n .i64 p.y.y.lo,.n .i64 p.y.y.hi,.n .i64 p.y.z.lo,.n .i64 p.y.z.hi,.n .i64 p.z.x.lo,.n .i64 p.z.x.hi,.n .i64 p.z.y.lo,.n .i64 p.z.y.hi,.n .i64 p.z.z.lo,.n .i64 p.z.z.hi]
def m3D (cs:List PV):Option M3:=(ints cs).bind fun l=>bif Nat.beq l.length 18 then some ⟨⟨⟨(l.getD 0 0),(l.getD 1 0)⟩,⟨(l.getD 2 0),(l.getD 3 0)⟩,⟨(l.getD 4 0),(l.getD 5 0)⟩⟩,⟨⟨(l.getD 6 0),(l.getD 7 0)⟩,⟨(l.getD 8 0),(l.getD 9 0)⟩,⟨(l.getD 10 0),(l.getD 11 0)⟩⟩,⟨⟨(l.getD 12 0),(l.getD 13 0)⟩,⟨(l.getD 14 0),(l.getD 15 0)⟩,⟨(l.getD 16 0),(l.getD 17 0)⟩⟩⟩ else none
theorem zXV {cs:List PV} {p:M3} (h:m3D cs=some p):cs=m3C p:=by
 simp only [m3D,vQQ] at h;obtain ⟨l,hl,h⟩:=h;obtain ⟨hn,h⟩:=qQ h;have hn:=vQX hn;rw [zYX hl];cases h;obtain _ | ⟨x0,l0⟩:=l <;> simp only [vQW,vQV,vQU] at hn <;> first | (exact absurd hn (by omega)) | skip
 obtain _ | ⟨x1,l1⟩:=l0 <;> simp only [vQW,vQV,vQU] at hn <;> first | (exact absurd hn (by omega)) | skip
 obtain _ | ⟨x2,l2⟩:=l1 <;> simp only [vQW,vQV,vQU] at hn <;> first | (exact absurd hn (by omega)) | skip
 obtain _ | ⟨x3,l3⟩:=l2 <;> simp only [vQW,vQV,vQU] at hn <;> first | (exact absurd hn (by omega)) | skip
 obtain _ | ⟨x4,l4⟩:=l3 <;> simp only [vQW,vQV,vQU] at hn <;> first | (exact absurd hn (by omega)) | skip
 obtain _ | ⟨x5,l5⟩:=l4 <;> simp only [vQW,vQV,vQU] at hn <;> first | (exact absurd hn (by omega)) | skip
 obtain _ | ⟨x6,l6⟩:=l5 <;> simp only [vQW,vQV,vQU] at hn <;> first | (exact absurd hn (by omega)) | skip
 obtain _ | ⟨x7,l7⟩:=l6 <;> simp only [vQW,vQV,vQU] at hn <;> first | (exact absurd hn (by omega)) | skip
 obtain _ | ⟨x8,l8⟩:=l7 <;> simp only [vQW,vQV,vQU] at hn <;> first | (exact absurd hn (by omega)) | skip
 obtain _ | ⟨x9,l9⟩:=l8 <;> simp only [vQW,vQV,vQU] at hn <;> first | (exact absurd hn (by omega)) | skip
 obtain _ | ⟨x10,l10⟩:=l9 <;> simp only [vQW,vQV,vQU] at hn <;> first | (exact absurd hn (by omega)) | skip
 obtain _ | ⟨x11,l11⟩:=l10 <;> simp only [vQW,vQV,vQU] at hn <;> first | (exact absurd hn (by omega)) | skip
 obtain _ | ⟨x12,l12⟩:=l11 <;> simp only [vQW,vQV,vQU] at hn <;> first | (exact absurd hn (by omega)) | skip
 obtain _ | ⟨x13,l13⟩:=l12 <;> simp only [vQW,vQV,vQU] at hn <;> first | (exact absurd hn (by omega)) | skip
 obtain _ | ⟨x14,l14⟩:=l13 <;> simp only [vQW,vQV,vQU] at hn <;> first | (exact absurd hn (by omega)) | skip
 obtain _ | ⟨x15,l15⟩:=l14 <;> simp only [vQW,vQV,vQU] at hn <;> first | (exact absurd hn (by omega)) | skip
 obtain _ | ⟨x16,l16⟩:=l15 <;> simp only [vQW,vQV,vQU] at hn <;> first | (exact absurd hn (by omega)) | skip
 obtain _ | ⟨x17,l17⟩:=l16 <;> simp only [vQW,vQV,vQU] at hn <;> first | (exact absurd hn (by omega)) | skip
 obtain _ | ⟨y,l⟩:=l17 <;> simp only [vQW,vQV] at hn <;> first | (exact absurd hn (by omega)) | skip
 rfl
def poC (p:Po):List PV:=[.n .i64 p.r.x.x.lo,.n .i64 p.r.x.x.hi,.n .i64 p.r.x.y.lo,.n .i64 p.r.x.y.hi,.n .i64 p.r.x.z.lo,.n .i64 p.r.x.z.hi,.n .i64 p.r.y.x.lo,.n .i64 p.r.y.x.hi,.n .i64 p.r.y.y.lo,.n .i64 p.r.y.y.hi,.n .i64 p.r.y.z.lo,.n .i64 p.r.y.z.hi,.n .i64 p.r.z.x.lo,.n .i64 p.r.z.x.hi,.n .i64 p.r.z.y.lo,.n .i64 p.r.z.y.hi,.n .i64 p.r.z.z.lo,.n .i64 p.r.z.z.hi,.n .i64 p.t.x.lo,.n .i64 p.t.x.hi,.n .i64 p.t.y.lo,.n .i64 p.t.y.hi,.n .i64 p.t.z.lo,.n .i64 p.t.z.hi]
def poD (cs:List PV):Option Po:=(ints cs).bind fun l=>bif Nat.beq l.length 24 then some ⟨⟨⟨⟨(l.getD 0 0),(l.getD 1 0)⟩,⟨(l.getD 2 0),(l.getD 3 0)⟩,⟨(l.getD 4 0),(l.getD 5 0)⟩⟩,⟨⟨(l.getD 6 0),(l.getD 7 0)⟩,⟨(l.getD 8 0),(l.getD 9 0)⟩,⟨(l.getD 10 0),(l.getD 11 0)⟩⟩,⟨⟨(l.getD 12 0),(l.getD 13 0)⟩,⟨(l.getD 14 0),(l.getD 15 0)⟩,⟨(l.getD 16 0),(l.getD 17 0)⟩⟩⟩,⟨⟨(l.getD 18 0),(l.getD 19 0)⟩,⟨(l.getD 20 0),(l.getD 21 0)⟩,⟨(l.getD 22 0),(l.getD 23 0)⟩⟩⟩ else none
theorem zVH {cs:List PV} {p:Po} (h:poD cs=some p):cs=poC p:=by
 simp only [poD,vQQ] at h;obtain ⟨l,hl,h⟩:=h;obtain ⟨hn,h⟩:=qQ h;have hn:=vQX hn;rw [zYX hl];cases h;obtain _ | ⟨x0,l0⟩:=l <;> simp only [vQW,vQV,vQU] at hn <;> first | (exact absurd hn (by omega)) | skip
 obtain _ | ⟨x1,l1⟩:=l0 <;> simp only [vQW,vQV,vQU] at hn <;> first | (exact absurd hn (by omega)) | skip
 obtain _ | ⟨x2,l2⟩:=l1 <;> simp only [vQW,vQV,vQU] at hn <;> first | (exact absurd hn (by omega)) | skip
 obtain _ | ⟨x3,l3⟩:=l2 <;> simp only [vQW,vQV,vQU] at hn <;> first | (exact absurd hn (by omega)) | skip
 obtain _ | ⟨x4,l4⟩:=l3 <;> simp only [vQW,vQV,vQU] at hn <;> first | (exact absurd hn (by omega)) | skip
 obtain _ | ⟨x5,l5⟩:=l4 <;> simp only [vQW,vQV,vQU] at hn <;> first | (exact absurd hn (by omega)) | skip
 obtain _ | ⟨x6,l6⟩:=l5 <;> simp only [vQW,vQV,vQU] at hn <;> first | (exact absurd hn (by omega)) | skip
 obtain _ | ⟨x7,l7⟩:=l6 <;> simp only [vQW,vQV,vQU] at hn <;> first | (exact absurd hn (by omega)) | skip
 obtain _ | ⟨x8,l8⟩:=l7 <;> simp only [vQW,vQV,vQU] at hn <;> first | (exact absurd hn (by omega)) | skip
 obtain _ | ⟨x9,l9⟩:=l8 <;> simp only [vQW,vQV,vQU] at hn <;> first | (exact absurd hn (by omega)) | skip
 obtain _ | ⟨x10,l10⟩:=l9 <;> simp only [vQW,vQV,vQU] at hn <;> first | (exact absurd hn (by omega)) | skip
 obtain _ | ⟨x11,l11⟩:=l10 <;> simp only [vQW,vQV,vQU] at hn <;> first | (exact absurd hn (by omega)) | skip
 obtain _ | ⟨x12,l12⟩:=l11 <;> simp only [vQW,vQV,vQU] at hn <;> first | (exact absurd hn (by omega)) | skip
 obtain _ | ⟨x13,l13⟩:=l12 <;> simp only [vQW,vQV,vQU] at hn <;> first | (exact absurd hn (by omega)) | skip
 obtain _ | ⟨x14,l14⟩:=l13 <;> simp only [vQW,vQV,vQU] at hn <;> first | (exact absurd hn (by omega)) | skip
 obtain _ | ⟨x15,l15⟩:=l14 <;> simp only [vQW,vQV,vQU] at hn <;> first | (exact absurd hn (by omega)) | skip
 obtain _ | ⟨x16,l16⟩:=l15 <;> simp only [vQW,vQV,vQU] at hn <;> first | (exact absurd hn (by omega)) | skip
 obtain _ | ⟨x17,l17⟩:=l16 <;> simp only [vQW,vQV,vQU] at hn <;> first | (exact absurd hn (by omega)) | skip
 obtain _ | ⟨x18,l18⟩:=l17 <;> simp only [vQW,vQV,vQU] at hn <;> first | (exact absurd hn (by omega)) | skip
 obtain _ | ⟨x19,l19⟩:=l18 <;> simp only [vQW,vQV,vQU] at hn <;> first | (exact absurd hn (by omega)) | skip
 obtain _ | ⟨x20,l20⟩:=l19 <;> simp only [vQW,vQV,vQU] at hn <;> first | (exact absurd hn (by omega)) | skip
 obtain _ | ⟨x21,l21⟩:=l20 <;> simp only [vQW,vQV,vQU] at hn <;> first | (exact absurd hn (by omega)) | skip
 obtain _ | ⟨x22,l22⟩:=l21 <;> simp only [vQW,vQV,vQU] at hn <;> first | (exact absurd hn (by omega)) | skip
 obtain _ | ⟨x23,l23⟩:=l22 <;> simp only [vQW,vQV,vQU] at hn <;> first | (exact absurd hn (by omega)) | skip
 obtain _ | ⟨y,l⟩:=l23 <;> simp only [vQW,vQV] at hn <;> first | (exact absurd hn (by omega)) | skip
 rfl
end Go.Rx
namespace Go.Proofs.YtmeldddgjfocdaaGreat
open Go.Sx Go.Rx Rt Go.RowKit
namespace Tn
end Tn
open Tn
theorem qWA:qGW Tryz.prog 62 0 0=true:=by kernel_rfl
theorem ty2:tyB Tryz.prog 2 false 1=true:=by kernel_rfl
theorem zQV:qGW Tryz.prog 62 1 1=true:=by kernel_rfl
theorem ze62:qJY Tryz.prog 62 (.agg #[.int .i64 0,.int .i64 0]):=by unfold qJY; kernel_rfl
theorem la62:qKL Tryz.prog 62=some ([.int .i64 0,.int .i64 0],[(0,1),(1,1)]):=by kernel_rfl
theorem ty62:tyB Tryz.prog 62 true 2=true:=by kernel_rfl
theorem fWU:uV Tryz.prog 156:=qW Tryz.func156 (by kernel_rfl) (by kernel_rfl)
theorem xGI:uV Tryz.prog 152:=qW Tryz.func152 (by kernel_rfl) (by kernel_rfl)
theorem fWK:uV Tryz.prog 164:=qW Tryz.func164 (by kernel_rfl) (by kernel_rfl)
theorem fWJ:uV Tryz.prog 178:=qW Tryz.func178 (by kernel_rfl) (by kernel_rfl)
theorem mo:Tryz.prog.follows .mixedOrders=true:=by kernel_rfl
theorem xGF:uV Tryz.prog 165:=qW Tryz.func165 (by kernel_rfl) (by kernel_rfl)
theorem xGE:uV Tryz.prog 166:=qW Tryz.func166 (by kernel_rfl) (by kernel_rfl)
set_option maxRecDepth 100000 in
theorem uYQ (a0 a1:Int) (w:World):Calls Tryz.prog 145 [.agg #[.int .i64 a0,.int .i64 a1]].toArray w (Rets (vB (Iv.valid (⟨a0,a1⟩:Iv))) (w)) :=
 zY (x:=.b (Iv.valid ⟨a0,a1⟩)) (qH (N:=60) (ps:=[.a [.n .i64 a0,.n .i64 a1]]) jQ yQ (OrL.ok (l:=([]:OrL)) trivial) ((by kernel_rfl:_=bif (decide ((-2147483648)≤a0)) then (bif (decide (a0≤a1)) then (bif (decide (a1≤2147483648)) then some (.v (.b true),[])
 else some (.v (.b false),[]))
 else some (.v (.b false),[]))
 else some (.v (.b false),[])).trans (by
 show _=some (Ret.v (.b (decide (-2147483648≤a0) && decide (a0≤a1) && decide (a1≤2147483648))),[]);cases decide (-2147483648≤a0) <;> cases decide (a0≤a1) <;> cases decide (a1≤2147483648) <;> rfl))) rfl rfl w
set_option maxRecDepth 100000 in
theorem yHV (a0 a1:Int) (w:World):Calls Tryz.prog 152 [.agg #[.int .i64 a0,.int .i64 a1]].toArray w (Rets (vB (Iv.valid (⟨a0,a1⟩:Iv))) (w)) :=
 zY (x:=.b (Iv.valid ⟨a0,a1⟩)) (qH (N:=60) (ps:=[.a [.n .i64 a0,.n .i64 a1]]) jQ yQ (OrL.ok (l:=([]:OrL)) trivial) ((by kernel_rfl:_=bif (decide ((-2147483648)≤a0)) then (bif (decide (a0≤a1)) then (bif (decide (a1≤2147483648)) then some (.v (.b true),[])
 else some (.v (.b false),[]))
 else some (.v (.b false),[]))
 else some (.v (.b false),[])).trans (by
 show _=some (Ret.v (.b (decide (-2147483648≤a0) && decide (a0≤a1) && decide (a1≤2147483648))),[]);cases decide (-2147483648≤a0) <;> cases decide (a0≤a1) <;> cases decide (a1≤2147483648) <;> rfl))) rfl rfl w
namespace Tn
noncomputable def o_iValid:List PV→Option (Bool × Ret):=fun ps=>match ps with
 | [.a a']=>(ivD a').bind fun a=>some (true,.v (.b (Iv.valid a)))
 | _=>none
theorem ok_iValid:zZ Tryz.prog 145 o_iValid:=by
 intro ps r h;unfold o_iValid at h;split at h
 ·simp only [vQQ,vQZ,vQY] at h;obtain ⟨a,ha,hg,rfl⟩:=h;rw [qQF ha];exact qU (qW Tryz.func145 (by kernel_rfl) (by kernel_rfl)) rfl rfl (fun w=>uYQ _ _ w)
 ·cases h
noncomputable def LTn1:OrL:=(145,o_iValid) :: ([]:OrL)
theorem xQX:AllP (fun x:Nat × (List PV→Option (Bool × Ret))=>zZ Tryz.prog x.1 x.2) LTn1:=⟨ok_iValid,trivial⟩
noncomputable def o_rValid:List PV→Option (Bool × Ret):=fun ps=>match ps with
 | [.a a']=>(ivD a').bind fun a=>some (true,.v (.b (Iv.valid a)))
 | _=>none
theorem ok_rValid:zZ Tryz.prog 152 o_rValid:=by
 intro ps r h;unfold o_rValid at h;split at h
 ·simp only [vQQ,vQZ,vQY] at h;obtain ⟨a,ha,hg,rfl⟩:=h;rw [qQF ha];exact qU (qW Tryz.func152 (by kernel_rfl) (by kernel_rfl)) rfl rfl (fun w=>yHV _ _ w)
 ·cases h
noncomputable def LTn2:OrL:=(152,o_rValid) :: LTn1
theorem yGA:AllP (fun x:Nat × (List PV→Option (Bool × Ret))=>zZ Tryz.prog x.1 x.2) LTn2:=⟨ok_rValid,xQX⟩
end Tn
set_option maxRecDepth 100000 in
theorem xGW (a:Int) (w:World):Calls Tryz.prog 177 [.int .i64 a].toArray w (Rets (vI (qQK a)) (w)) :=
 zY (x:=.n .i64 (qQK a)) (qH (N:=60) (ps:=[.n .i64 a]) jQ yQ (OrL.ok (l:=LTn2) yGA) (by kernel_rfl)) rfl rfl w
set_option maxRecDepth 100000 in
theorem xJH (a:Int) (w:World):Calls Tryz.prog 100 [.int .i64 a].toArray w (Rets (vI (qQK a)) (w)) :=
 zY (x:=.n .i64 (qQK a)) (qH (N:=60) (ps:=[.n .i64 a]) jQ yQ (OrL.ok (l:=LTn2) yGA) ((by kernel_rfl:_=some (.v (.n .i64 (max (-2147483648) (min a 2147483648))),[])).trans (by
 rw [show max (-2147483648) (min a 2147483648)=qQK a by unfold qQK; omega]))) rfl rfl w
namespace Tn
noncomputable def yQV:List PV→Option (Bool × Ret):=fun ps=>match ps with
 | [.n .i64 a]=>some (true,.v (.n .i64 ((qQK a))))
 | _=>none
theorem jVJ:zZ Tryz.prog 177 yQV:=by
 intro ps r h;unfold yQV at h;split at h
 ·simp only [vQZ,vQY] at h;obtain ⟨hg,rfl⟩:=h;exact qU (qW Tryz.func177 (by kernel_rfl) (by kernel_rfl)) rfl rfl (fun w=>xGW _ w)
 ·cases h
noncomputable def LTn3:OrL:=(177,yQV) :: LTn2
theorem xQU:AllP (fun x:Nat × (List PV→Option (Bool × Ret))=>zZ Tryz.prog x.1 x.2) LTn3:=⟨jVJ,yGA⟩
noncomputable def yQQ:List PV→Option (Bool × Ret):=fun ps=>match ps with
 | [.n .i64 a]=>some (true,.v (.n .i64 ((qQK a))))
 | _=>none
theorem jWD:zZ Tryz.prog 100 yQQ:=by
 intro ps r h;unfold yQQ at h;split at h
 ·simp only [vQZ,vQY] at h;obtain ⟨hg,rfl⟩:=h;exact qU (qW Tryz.func100 (by kernel_rfl) (by kernel_rfl)) rfl rfl (fun w=>xJH _ w)
 ·cases h
noncomputable def LTn4:OrL:=(100,yQQ) :: LTn3
theorem yGH:AllP (fun x:Nat × (List PV→Option (Bool × Ret))=>zZ Tryz.prog x.1 x.2) LTn4:=⟨jWD,xQU⟩
end Tn
set_option maxRecDepth 100000 in
theorem jZY (lo:Int) (hi:Int) (w:World):Calls Tryz.prog 156 [.int .i64 lo,.int .i64 hi].toArray w (Rets (iv (Iv.limited lo hi)) (w)) :=
 zY (x:=.a (ivC (Iv.limited lo hi))) (qH (N:=60) (ps:=[.n .i64 lo,.n .i64 hi]) jQ yQ (OrL.ok (l:=LTn4) yGH) (by kernel_rfl)) rfl rfl w
set_option maxRecDepth 100000 in
theorem iOf (x:Int) (w:World):Calls Tryz.prog 128 [.int .i64 x].toArray w (Rets (iv (Iv.of x)) (w)) :=
 zY (x:=.a (ivC (Iv.of x))) (qH (N:=60) (ps:=[.n .i64 x]) jQ yQ (OrL.ok (l:=LTn4) yGH) (by kernel_rfl)) rfl rfl w
namespace Tn
noncomputable def zYZ:List PV→Option (Bool × Ret):=fun ps=>match ps with
 | [.n .i64 a,.n .i64 b]=>some (true,.v (.a (ivC (Iv.limited a b))))
 | _=>none
theorem yWA:zZ Tryz.prog 156 zYZ:=by
 intro ps r h;unfold zYZ at h;split at h
 ·simp only [vQZ,vQY] at h;obtain ⟨hg,rfl⟩:=h;exact qU (qW Tryz.func156 (by kernel_rfl) (by kernel_rfl)) rfl rfl (fun w=>jZY _ _ w)
 ·cases h
noncomputable def LTn5:OrL:=(156,zYZ) :: LTn4
theorem yGG:AllP (fun x:Nat × (List PV→Option (Bool × Ret))=>zZ Tryz.prog x.1 x.2) LTn5:=⟨yWA,yGH⟩
end Tn
set_option maxRecDepth 100000 in
theorem yHG (lo:Int) (hi:Int) (w:World):Calls Tryz.prog 164 [.int .i64 lo,.int .i64 hi].toArray w (Rets (iv (Iv.limited lo hi)) (w)) :=
 zY (x:=.a (ivC (Iv.limited lo hi))) (qH (N:=60) (ps:=[.n .i64 lo,.n .i64 hi]) jQ yQ (OrL.ok (l:=LTn5) yGG) (by kernel_rfl)) rfl rfl w
set_option maxRecDepth 100000 in
theorem rOf (x:Int) (w:World):Calls Tryz.prog 47 [.int .i64 x].toArray w (Rets (iv (Iv.of x)) (w)) :=
 zY (x:=.a (ivC (Iv.of x))) (qH (N:=60) (ps:=[.n .i64 x]) jQ yQ (OrL.ok (l:=LTn5) yGG) (by kernel_rfl)) rfl rfl w
namespace Tn
noncomputable def zZD:List PV→Option (Bool × Ret):=fun ps=>match ps with
 | [.n .i64 a,.n .i64 b]=>some (true,.v (.a (ivC (Iv.limited a b))))
 | _=>none
theorem yWK:zZ Tryz.prog 164 zZD:=by
 intro ps r h;unfold zZD at h;split at h
 ·simp only [vQZ,vQY] at h;obtain ⟨hg,rfl⟩:=h;exact qU (qW Tryz.func164 (by kernel_rfl) (by kernel_rfl)) rfl rfl (fun w=>yHG _ _ w)
 ·cases h
noncomputable def LTn6:OrL:=(164,zZD) :: LTn5
theorem qWH:AllP (fun x:Nat × (List PV→Option (Bool × Ret))=>zZ Tryz.prog x.1 x.2) LTn6:=⟨yWK,yGG⟩
end Tn
set_option maxRecDepth 100000 in
theorem iNeg (a0 a1:Int) (w:World):Calls Tryz.prog 188 [.agg #[.int .i64 a0,.int .i64 a1]].toArray w (Rets (iv (Iv.neg (⟨a0,a1⟩:Iv))) (w)) :=
 zY (x:=.a (ivC (Iv.neg ⟨a0,a1⟩))) (qH (N:=60) (ps:=[.a [.n .i64 a0,.n .i64 a1]]) jQ yQ (OrL.ok (l:=LTn6) qWH) ((by kernel_rfl:_=bif Iv.valid (Iv.mk a0 a1) then some (.v (.a [.n .i64 (vJJ .i64 (0 - a1)),.n .i64 (vJJ .i64 (0 - a0))]),[])
 else some (.v (.a [.n .i64 0,.n .i64 0]),[])).trans (by
 unfold Iv.neg;cases ha:Iv.valid (Iv.mk a0 a1) with
 | false=>rfl
 | true =>
  have va:=uG ha;rw [qX (show -9223372036854775808≤0 - a1∧0 - a1≤9223372036854775807 by omega),qX (show -9223372036854775808≤0 - a0∧0 - a0≤9223372036854775807 by omega),show 0 - a1 = -a1 by omega,show 0 - a0 = -a0 by omega]; rfl))) rfl rfl w
set_option maxRecDepth 100000 in
theorem rNeg (a0 a1:Int) (w:World):Calls Tryz.prog 175 [.agg #[.int .i64 a0,.int .i64 a1]].toArray w (Rets (iv (Iv.neg (⟨a0,a1⟩:Iv))) (w)) :=
 zY (x:=.a (ivC (Iv.neg ⟨a0,a1⟩))) (qH (N:=60) (ps:=[.a [.n .i64 a0,.n .i64 a1]]) jQ yQ (OrL.ok (l:=LTn6) qWH) ((by kernel_rfl:_=bif Iv.valid (Iv.mk a0 a1) then some (.v (.a [.n .i64 (vJJ .i64 (0 - a1)),.n .i64 (vJJ .i64 (0 - a0))]),[])
 else some (.v (.a [.n .i64 0,.n .i64 0]),[])).trans (by
 unfold Iv.neg;cases ha:Iv.valid (Iv.mk a0 a1) with
 | false=>rfl
 | true =>
  have va:=uG ha;rw [qX (show -9223372036854775808≤0 - a1∧0 - a1≤9223372036854775807 by omega),qX (show -9223372036854775808≤0 - a0∧0 - a0≤9223372036854775807 by omega),show 0 - a1 = -a1 by omega,show 0 - a0 = -a0 by omega]; rfl))) rfl rfl w
set_option maxRecDepth 100000 in
theorem uGH (a0 a1:Int) (b0 b1:Int) (w:World):Calls Tryz.prog 178 [.agg #[.int .i64 a0,.int .i64 a1],.agg #[.int .i64 b0,.int .i64 b1]].toArray w (Rets (vB ((Iv.valid (⟨a0,a1⟩:Iv) && Iv.valid (⟨b0,b1⟩:Iv)))) (w)) :=
 zY (x:=.b (Iv.valid ⟨a0,a1⟩ && Iv.valid ⟨b0,b1⟩)) (qH (N:=60) (ps:=[.a [.n .i64 a0,.n .i64 a1],.a [.n .i64 b0,.n .i64 b1]]) jQ yQ (OrL.ok (l:=LTn6) qWH) ((by kernel_rfl:_=bif Iv.valid (Iv.mk a0 a1) then (bif Iv.valid (Iv.mk b0 b1) then some (.v (.b true),[])
 else some (.v (.b false),[]))
 else some (.v (.b false),[])).trans (by
 cases Iv.valid (Iv.mk a0 a1) <;> cases Iv.valid (Iv.mk b0 b1) <;> rfl))) rfl rfl w
set_option maxRecDepth 100000 in
theorem rAdd (a0 a1:Int) (b0 b1:Int) (w:World):Calls Tryz.prog 141 [.agg #[.int .i64 a0,.int .i64 a1],.agg #[.int .i64 b0,.int .i64 b1]].toArray w (Rets (iv (Iv.add (⟨a0,a1⟩:Iv) (⟨b0,b1⟩:Iv))) (w)) :=
 zY (x:=.a (ivC (Iv.add ⟨a0,a1⟩ ⟨b0,b1⟩))) (qH (N:=60) (ps:=[.a [.n .i64 a0,.n .i64 a1],.a [.n .i64 b0,.n .i64 b1]]) jQ yQ (OrL.ok (l:=LTn6) qWH) ((by kernel_rfl:_=bif Iv.valid (Iv.mk a0 a1) then (bif Iv.valid (Iv.mk b0 b1) then some (.v (.a (ivC (Iv.limited (vJJ .i64 (a0 + b0)) (vJJ .i64 (a1 + b1))))),[])
 else some (.v (.a [.n .i64 0,.n .i64 0]),[]))
 else some (.v (.a [.n .i64 0,.n .i64 0]),[])).trans (by
 unfold Iv.add;cases ha:Iv.valid (Iv.mk a0 a1) with
 | false=>rfl
 | true =>
  cases hb:Iv.valid (Iv.mk b0 b1) with
  | false=>rfl
  | true =>
   have va:=uG ha;have vb:=uG hb;rw [qX (show -9223372036854775808≤a0 + b0∧a0 + b0≤9223372036854775807 by omega),qX (show -9223372036854775808≤a1 + b1∧a1 + b1≤9223372036854775807 by omega)]; rfl))) rfl rfl w
set_option maxRecDepth 100000 in
theorem iAdd (a0 a1:Int) (b0 b1:Int) (w:World):Calls Tryz.prog 160 [.agg #[.int .i64 a0,.int .i64 a1],.agg #[.int .i64 b0,.int .i64 b1]].toArray w (Rets (iv (Iv.add (⟨a0,a1⟩:Iv) (⟨b0,b1⟩:Iv))) (w)) :=
 zY (x:=.a (ivC (Iv.add ⟨a0,a1⟩ ⟨b0,b1⟩))) (qH (N:=60) (ps:=[.a [.n .i64 a0,.n .i64 a1],.a [.n .i64 b0,.n .i64 b1]]) jQ yQ (OrL.ok (l:=LTn6) qWH) ((by kernel_rfl:_=bif Iv.valid (Iv.mk a0 a1) then (bif Iv.valid (Iv.mk b0 b1) then some (.v (.a (ivC (Iv.limited (vJJ .i64 (a0 + b0)) (vJJ .i64 (a1 + b1))))),[])
 else some (.v (.a [.n .i64 0,.n .i64 0]),[]))
 else some (.v (.a [.n .i64 0,.n .i64 0]),[])).trans (by
 unfold Iv.add;cases ha:Iv.valid (Iv.mk a0 a1) with
 | false=>rfl
 | true =>
  cases hb:Iv.valid (Iv.mk b0 b1) with
  | false=>rfl
  | true =>
   have va:=uG ha;have vb:=uG hb;rw [qX (show -9223372036854775808≤a0 + b0∧a0 + b0≤9223372036854775807 by omega),qX (show -9223372036854775808≤a1 + b1∧a1 + b1≤9223372036854775807 by omega)]; rfl))) rfl rfl w
set_option maxRecDepth 100000 in
theorem fYQ (a0 a1:Int) (b0 b1:Int) (w:World):Calls Tryz.prog 189 [.agg #[.int .i64 a0,.int .i64 a1],.agg #[.int .i64 b0,.int .i64 b1]].toArray w (Rets (iv (Iv.hull (⟨a0,a1⟩:Iv) (⟨b0,b1⟩:Iv))) (w)) :=
 zY (x:=.a (ivC (Iv.hull ⟨a0,a1⟩ ⟨b0,b1⟩))) (qH (N:=60) (ps:=[.a [.n .i64 a0,.n .i64 a1],.a [.n .i64 b0,.n .i64 b1]]) jQ yQ (OrL.ok (l:=LTn6) qWH) ((by kernel_rfl:_=bif Iv.valid (Iv.mk a0 a1) then (bif Iv.valid (Iv.mk b0 b1) then some (.v (.a [.n .i64 (min a0 b0),.n .i64 (max a1 b1)]),[])
 else some (.v (.a [.n .i64 0,.n .i64 0]),[]))
 else some (.v (.a [.n .i64 0,.n .i64 0]),[])).trans (by
 unfold Iv.hull;cases ha:Iv.valid (Iv.mk a0 a1) with
 | false=>rfl
 | true =>
  cases hb:Iv.valid (Iv.mk b0 b1) with
  | false=>rfl
  | true =>
   have va:=uG ha;have vb:=uG hb
   rfl))) rfl rfl w
set_option maxRecDepth 100000 in
theorem fXE (a0 a1:Int) (b0 b1:Int) (w:World):Calls Tryz.prog 199 [.agg #[.int .i64 a0,.int .i64 a1],.agg #[.int .i64 b0,.int .i64 b1]].toArray w (Rets (iv (Iv.hull (⟨a0,a1⟩:Iv) (⟨b0,b1⟩:Iv))) (w)) :=
 zY (x:=.a (ivC (Iv.hull ⟨a0,a1⟩ ⟨b0,b1⟩))) (qH (N:=60) (ps:=[.a [.n .i64 a0,.n .i64 a1],.a [.n .i64 b0,.n .i64 b1]]) jQ yQ (OrL.ok (l:=LTn6) qWH) ((by kernel_rfl:_=bif Iv.valid (Iv.mk a0 a1) then (bif Iv.valid (Iv.mk b0 b1) then some (.v (.a [.n .i64 (min a0 b0),.n .i64 (max a1 b1)]),[])
 else some (.v (.a [.n .i64 0,.n .i64 0]),[]))
 else some (.v (.a [.n .i64 0,.n .i64 0]),[])).trans (by
 unfold Iv.hull;cases ha:Iv.valid (Iv.mk a0 a1) with
 | false=>rfl
 | true =>
  cases hb:Iv.valid (Iv.mk b0 b1) with
  | false=>rfl
  | true =>
   have va:=uG ha;have vb:=uG hb
   rfl))) rfl rfl w
set_option maxRecDepth 100000 in
theorem xVI (a0 a1:Int) (w:World):Calls Tryz.prog 198 [.agg #[.int .i64 a0,.int .i64 a1]].toArray w (Rets (vI (Iv.width (⟨a0,a1⟩:Iv))) (w)) :=
 zY (x:=.n .i64 (Iv.width ⟨a0,a1⟩)) (qH (N:=60) (ps:=[.a [.n .i64 a0,.n .i64 a1]]) jQ yQ (OrL.ok (l:=LTn6) qWH) ((by kernel_rfl:_=bif Iv.valid (Iv.mk a0 a1) then some (.v (.n .i64 (vJJ .i64 (a1 - a0))),[])
 else some (.v (.n .i64 0),[])).trans (by
 unfold Iv.width;cases ha:Iv.valid (Iv.mk a0 a1) with
 | false=>rfl
 | true =>
  have va:=uG ha;rw [qX (show -9223372036854775808≤a1 - a0∧a1 - a0≤9223372036854775807 by omega)]; rfl))) rfl rfl w
set_option maxRecDepth 100000 in
theorem iHas (a0 a1:Int) (x:Int) (w:World):Calls Tryz.prog 205 [.agg #[.int .i64 a0,.int .i64 a1],.int .i64 x].toArray w (Rets (vB (Iv.has (⟨a0,a1⟩:Iv) x)) (w)) :=
 zY (x:=.b (Iv.has ⟨a0,a1⟩ x)) (qH (N:=60) (ps:=[.a [.n .i64 a0,.n .i64 a1],.n .i64 x]) jQ yQ (OrL.ok (l:=LTn6) qWH) ((by kernel_rfl:_=bif Iv.valid (Iv.mk a0 a1) then (bif (decide (a0≤x)) then (bif (decide (x≤a1)) then some (.v (.b true),[])
 else some (.v (.b false),[]))
 else some (.v (.b false),[]))
 else some (.v (.b false),[])).trans (by
 show _=some (Ret.v (.b (Iv.valid (Iv.mk a0 a1) && decide (a0≤x) && decide (x≤a1))),[]);cases Iv.valid (Iv.mk a0 a1) <;> cases decide (a0≤x) <;> cases decide (x≤a1) <;> rfl))) rfl rfl w
theorem zYV (a:Int) (k:Int) (_:0≤k∧k≤62) (w:World):Calls Tryz.prog 184 [.int .i64 a,.int .i64 k].toArray w (Rets (vI (a / 2 ^ (k).toNat)) (w)):=by
 refine kZ (n:=11) Tryz.func184 rfl rfl rfl ?_;refine zU ?_;refine qJ ?_;refine qG (zJ rfl) rfl rfl rfl ?_;refine zX ?_;refine qZ ?_;refine zU ?_;refine zU ?_;refine qJ ?_;refine qG (qV rfl) rfl rfl rfl ?_;refine qG (qKB rfl rfl) rfl rfl rfl ?_;refine zX ?_;refine qZ ?_;refine qGQ rfl (by simp; omega) ?_;refine qZJ ?_;refine qZ ?_;refine zU ?_;refine qJ ?_;refine qG (qV rfl) rfl rfl rfl ?_;refine qG (qV rfl) rfl rfl rfl ?_;refine qG (yXI rfl rfl (by first | decide | omega) (uZY (by omega) (by omega))) rfl rfl rfl ?_;refine qG (zJ rfl) rfl rfl rfl ?_;refine zX ?_;refine qZ ?_;refine qQH ?_;refine kW (rs:=[.tmp 4]) rfl (resC (qQW rfl) (resN)) (congrArg (vI) (?_:_=a / 2 ^ (k).toNat))
 first | rfl | (subst_vars; rfl) | (subst_vars; simp_all)
theorem yZU (a:Int) (k:Int) (_:0≤k∧k≤62) (ha:In64 a) (w:World):Calls Tryz.prog 185 [.int .i64 a,.int .i64 k].toArray w (Rets (vI (zW a (2 ^ (k).toNat))) (w)):=by
 refine kZ (n:=20) Tryz.func185 rfl rfl rfl ?_;refine zU ?_;refine qJ ?_;refine qG (zJ rfl) rfl rfl rfl ?_;refine zX ?_;refine qZ ?_;refine zU ?_;refine zU ?_;refine qJ ?_;refine qG (qV rfl) rfl rfl rfl ?_;refine qG (qKB rfl rfl) rfl rfl rfl ?_;refine zX ?_;refine qZ ?_;refine qGQ rfl (by simp; omega) ?_;refine qZJ ?_;refine qZ ?_;refine zU ?_;refine qJ ?_;refine qG (qV rfl) rfl rfl rfl ?_;refine qG (qV rfl) rfl rfl rfl ?_;refine qG (yXI rfl rfl (by first | decide | omega) (uZY (by omega) (by omega))) rfl rfl rfl ?_;refine qG (zJ rfl) rfl rfl rfl ?_;refine zX ?_;refine qZ ?_;refine zU ?_;refine zU ?_;refine qJ ?_;refine qG (qV rfl) rfl rfl rfl ?_;refine qG (qV rfl) rfl rfl rfl ?_;refine qG (jWX rfl rfl (by first | decide | omega) (xYE ha (by omega) (by omega))) rfl rfl rfl ?_;refine qG (qV rfl) rfl rfl rfl ?_;refine qG (zXQ rfl rfl) rfl rfl rfl ?_;refine zX ?_;refine qZ ?_;refine qJK rfl (fun hc16 => ?_) (fun hc16 => ?_)
 ·
  have h1:¬ a / 2 ^ k.toNat * 2 ^ k.toNat=a:=by simpa using hc16
  have h2:=jKB (Int.pow_pos (by decide)) h1;refine qJ ?_;refine qG (qV rfl) rfl rfl rfl ?_;refine qG (qJQ rfl rfl (qX (yXU ha h1))) rfl rfl rfl ?_;refine qG (zJ rfl) rfl rfl rfl ?_;refine zX ?_;refine qZ ?_;refine zU ?_;refine qJ ?_;refine qG (qV rfl) rfl rfl rfl ?_;refine qG (zJ rfl) rfl rfl rfl ?_;refine zX ?_;refine qZ ?_;refine qQH ?_;refine kW (rs:=[.tmp 4]) rfl (resC (qQW rfl) (resN)) (congrArg (vI) (?_:_=zW a (2 ^ (k).toNat)));exact h2
 ·
  have h1:a / 2 ^ k.toNat * 2 ^ k.toNat=a:=by simpa using hc16
  have h2:=zWX (Int.pow_pos (by decide)) h1;refine qZJ ?_;refine qZ ?_;refine zU ?_;refine qJ ?_;refine qG (qV rfl) rfl rfl rfl ?_;refine qG (zJ rfl) rfl rfl rfl ?_;refine zX ?_;refine qZ ?_;refine qQH ?_;refine kW (rs:=[.tmp 4]) rfl (resC (qQW rfl) (resN)) (congrArg (vI) (?_:_=zW a (2 ^ (k).toNat)));exact h2
theorem jWJ (a:Int) (b:Int) (ha:In64 a) (hb:0 < b) (w:World):Calls Tryz.prog 165 [.int .i64 a,.int .i64 b].toArray w (Rets (vI (a / b)) (w)):=by
 refine kZ (n:=16) Tryz.func165 rfl rfl rfl ?_;refine zU ?_;have hq:=zJC ha hb;refine qJ ?_;refine qG (zJ rfl) rfl rfl rfl ?_;refine zX ?_;refine qZ ?_;refine zU ?_;refine qJ ?_;refine qG (qV rfl) rfl rfl rfl ?_;refine qG (qV rfl) rfl rfl rfl ?_;refine qG (zHH rfl rfl (by first | decide | omega) (qX hq)) rfl rfl rfl ?_;refine qG (zJ rfl) rfl rfl rfl ?_;refine zX ?_;refine qZ ?_;refine zU ?_;refine zU ?_;refine qJ ?_;refine qG (qV rfl) rfl rfl rfl ?_;refine qG (qV rfl) rfl rfl rfl ?_;refine qG (zZG rfl rfl (by first | decide | omega) rfl) rfl rfl rfl ?_;refine qG (qKB rfl rfl) rfl rfl rfl ?_;refine zX ?_;refine qZ ?_;refine qJK rfl (fun hc12 => ?_) (fun hc12 => ?_)
 ·
  refine qJ ?_;refine qG (qV rfl) rfl rfl rfl ?_;refine qG (zUI rfl rfl (qX (kQZ ha hb (by simpa using hc12)))) rfl rfl rfl ?_;refine qG (zJ rfl) rfl rfl rfl ?_;refine zX ?_;refine qZ ?_;refine zU ?_;refine qJ ?_;refine qG (qV rfl) rfl rfl rfl ?_;refine qG (zJ rfl) rfl rfl rfl ?_;refine zX ?_;refine qZ ?_;refine qQH ?_;refine kW (rs:=[.tmp 4]) rfl (resC (qQW rfl) (resN)) (congrArg (vI) (?_:_=a / b));exact zWZ hb (by simpa using hc12)
 ·
  refine qZJ ?_;refine qZ ?_;refine zU ?_;refine qJ ?_;refine qG (qV rfl) rfl rfl rfl ?_;refine qG (zJ rfl) rfl rfl rfl ?_;refine zX ?_;refine qZ ?_;refine qQH ?_;refine kW (rs:=[.tmp 4]) rfl (resC (qQW rfl) (resN)) (congrArg (vI) (?_:_=a / b));exact yKV hb (by simpa using hc12)
theorem uXF (a:Int) (b:Int) (ha:In64 a) (hb:0 < b) (w:World):Calls Tryz.prog 166 [.int .i64 a,.int .i64 b].toArray w (Rets (vI (zW a b)) (w)):=by
 refine kZ (n:=16) Tryz.func166 rfl rfl rfl ?_;refine zU ?_;have hq:=zJC ha hb;refine qJ ?_;refine qG (zJ rfl) rfl rfl rfl ?_;refine zX ?_;refine qZ ?_;refine zU ?_;refine qJ ?_;refine qG (qV rfl) rfl rfl rfl ?_;refine qG (qV rfl) rfl rfl rfl ?_;refine qG (zHH rfl rfl (by first | decide | omega) (qX hq)) rfl rfl rfl ?_;refine qG (zJ rfl) rfl rfl rfl ?_;refine zX ?_;refine qZ ?_;refine zU ?_;refine zU ?_;refine qJ ?_;refine qG (qV rfl) rfl rfl rfl ?_;refine qG (qV rfl) rfl rfl rfl ?_;refine qG (zZG rfl rfl (by first | decide | omega) rfl) rfl rfl rfl ?_;refine qG (jWG rfl rfl) rfl rfl rfl ?_;refine zX ?_;refine qZ ?_;refine qJK rfl (fun hc12 => ?_) (fun hc12 => ?_)
 ·
  refine qJ ?_;refine qG (qV rfl) rfl rfl rfl ?_;refine qG (qJQ rfl rfl (qX (kGI ha hb (by simpa using hc12)))) rfl rfl rfl ?_;refine qG (zJ rfl) rfl rfl rfl ?_;refine zX ?_;refine qZ ?_;refine zU ?_;refine qJ ?_;refine qG (qV rfl) rfl rfl rfl ?_;refine qG (zJ rfl) rfl rfl rfl ?_;refine zX ?_;refine qZ ?_;refine qQH ?_;refine kW (rs:=[.tmp 4]) rfl (resC (qQW rfl) (resN)) (congrArg (vI) (?_:_=zW a b));exact kGD hb (by simpa using hc12)
 ·
  refine qZJ ?_;refine qZ ?_;refine zU ?_;refine qJ ?_;refine qG (qV rfl) rfl rfl rfl ?_;refine qG (zJ rfl) rfl rfl rfl ?_;refine zX ?_;refine qZ ?_;refine qQH ?_;refine kW (rs:=[.tmp 4]) rfl (resC (qQW rfl) (resN)) (congrArg (vI) (?_:_=zW a b));exact kGE hb (by simpa using hc12)
theorem rMul (a0 a1:Int) (b0 b1:Int) (w:World):Calls Tryz.prog 142 [.agg #[.int .i64 a0,.int .i64 a1],.agg #[.int .i64 b0,.int .i64 b1]].toArray w (Rets (iv (Iv.mul (⟨a0,a1⟩:Iv) (⟨b0,b1⟩:Iv))) (w)):=by
 refine kZ (n:=51) Tryz.func142 rfl rfl rfl ?_;refine zU ?_;refine qJ ?_;refine qVW 2 rfl rfl rfl rfl ?_; intro b2;refine qVW 3 rfl rfl rfl rfl ?_; intro b3;refine qUA 4 ze62 rfl rfl rfl ?_; intro b4;refine zX ?_;refine qZ ?_;refine zU ?_;refine zU ?_;refine qJ ?_;refine qG (qYY 2 ty62 rfl rfl rfl) rfl rfl rfl ?_;refine qKD (F:=vB) (uK xGI rfl (fun w _=>yHV _ _  w)) rfl rfl rfl ?_; intro r10 hr10;refine qG (zUL rfl) rfl rfl rfl ?_;refine qG (qV rfl) rfl rfl rfl ?_;refine kQH 12 rfl (fun hg12 => ?_) (fun hg12 => ?_)
 ·
  refine yZG rfl rfl rfl ?_;refine yZG rfl rfl rfl ?_;refine yZG rfl rfl rfl ?_;refine qG (zVB rfl rfl rfl rfl) rfl rfl rfl ?_;refine zX ?_;refine qZ ?_;refine qXG rfl (rfl) ?_;refine zU ?_;refine qJ ?_;refine qG (qKX la62 rfl rfl) rfl rfl rfl ?_;refine qYK 4 ty62 rfl rfl rfl rfl rfl rfl rfl rfl ?_;refine zX ?_;refine qZ ?_;refine qQH ?_;refine qXE ?_;refine kW (rs:=[.cell 4 62]) rfl (resC (qJB 4 rfl rfl ty62 rfl) (resN)) (congrArg (iv) (?_:⟨_,_⟩=Iv.mul (⟨a0,a1⟩:Iv) (⟨b0,b1⟩:Iv)))
  subst_vars; first | (simp_all [Iv.mul,Iv.limited,min4,max4]; done) | (simp_all [Iv.mul,Iv.limited,min4,max4] <;> omega) | grind [Iv.mul,Iv.limited,min4,max4]
 ·
  refine qG (qYY 3 ty62 rfl rfl rfl) rfl rfl rfl ?_;refine qKD (F:=vB) (uK xGI rfl (fun w _=>yHV _ _  w)) rfl rfl rfl ?_; intro r14 hr14;refine qG (zUL rfl) rfl rfl rfl ?_;refine qG (zZH rfl rfl rfl rfl) rfl rfl rfl ?_;refine zX ?_;refine qZ ?_;refine qJK rfl (fun hc16 => ?_) (fun hc16 => ?_)
  ·
   refine zU ?_;refine qJ ?_;refine qG (qKX la62 rfl rfl) rfl rfl rfl ?_;refine qYK 4 ty62 rfl rfl rfl rfl rfl rfl rfl rfl ?_;refine zX ?_;refine qZ ?_;refine qQH ?_;refine qXE ?_;refine kW (rs:=[.cell 4 62]) rfl (resC (qJB 4 rfl rfl ty62 rfl) (resN)) (congrArg (iv) (?_:⟨_,_⟩=Iv.mul (⟨a0,a1⟩:Iv) (⟨b0,b1⟩:Iv)))
   subst_vars; first | (simp_all [Iv.mul,Iv.limited,min4,max4]; done) | (simp_all [Iv.mul,Iv.limited,min4,max4] <;> omega) | grind [Iv.mul,Iv.limited,min4,max4]
  ·
   refine qZJ ?_;refine qZ ?_;refine zU ?_;have ha:=uG (hr10.symm.trans (by simpa using hg12));have hb:=uG (hr14.symm.trans (by simpa using hc16));have m1:=qWX (a:=a0) (b:=b0) (by omega) (by omega);have m2:=qWX (a:=a0) (b:=b1) (by omega) (by omega);have m3:=qWX (a:=a1) (b:=b0) (by omega) (by omega);have m4:=qWX (a:=a1) (b:=b1) (by omega) (by omega);refine qKW 23 mo (by kernel_rfl) ?_;simp only [vYK,vYX,vYU,vYW];refine jG (zV qWA rfl) rfl rfl rfl ?_;refine jG (jJ 2 ty2 rfl rfl rfl) rfl rfl rfl ?_;refine jG (zV qWA rfl) rfl rfl rfl ?_;refine jG (jJ 3 ty2 rfl rfl rfl) rfl rfl rfl ?_;refine jG (qXI rfl rfl (by first | exact qX ⟨by omega,by omega⟩ | rfl)) rfl rfl rfl ?_;refine jG (zV qWA rfl) rfl rfl rfl ?_;refine jG (jJ 2 ty2 rfl rfl rfl) rfl rfl rfl ?_;refine jG (zV zQV rfl) rfl rfl rfl ?_;refine jG (jJ 3 ty2 rfl rfl rfl) rfl rfl rfl ?_;refine jG (qXI rfl rfl (by first | exact qX ⟨by omega,by omega⟩ | rfl)) rfl rfl rfl ?_;refine jG (zV zQV rfl) rfl rfl rfl ?_;refine jG (jJ 2 ty2 rfl rfl rfl) rfl rfl rfl ?_;refine jG (zV qWA rfl) rfl rfl rfl ?_;refine jG (jJ 3 ty2 rfl rfl rfl) rfl rfl rfl ?_;refine jG (qXI rfl rfl (by first | exact qX ⟨by omega,by omega⟩ | rfl)) rfl rfl rfl ?_;refine jG (zV zQV rfl) rfl rfl rfl ?_;refine jG (jJ 2 ty2 rfl rfl rfl) rfl rfl rfl ?_;refine jG (zV zQV rfl) rfl rfl rfl ?_;refine jG (jJ 3 ty2 rfl rfl rfl) rfl rfl rfl ?_;refine jG (qXI rfl rfl (by first | exact qX ⟨by omega,by omega⟩ | rfl)) rfl rfl rfl ?_;refine jG (zJ rfl) rfl rfl rfl ?_;refine jG (zJ rfl) rfl rfl rfl ?_;refine jG (zJ rfl) rfl rfl rfl ?_;refine qVV ?_;refine qUF ?_;refine qG (zJ rfl) rfl rfl rfl ?_;refine zX ?_;refine qZ ?_;refine zU ?_;refine qJ ?_;refine qG (qV rfl) rfl rfl rfl ?_;refine qG (qV rfl) rfl rfl rfl ?_;refine qG (qV rfl) rfl rfl rfl ?_;refine qG (qV rfl) rfl rfl rfl ?_;refine qG (kUV rfl rfl rfl rfl) rfl rfl rfl ?_;refine qKD (F:=vI) (uK xGF rfl (fun w _=>jWJ _ _ (by unfold In64; omega) (by omega) w)) rfl rfl rfl ?_; intro r43 hr43;refine qG (qV rfl) rfl rfl rfl ?_;refine qG (qV rfl) rfl rfl rfl ?_;refine qG (qV rfl) rfl rfl rfl ?_;refine qG (qV rfl) rfl rfl rfl ?_;refine qG (kUG rfl rfl rfl rfl) rfl rfl rfl ?_;refine qKD (F:=vI) (uK xGE rfl (fun w _=>uXF _ _ (by unfold In64; omega) (by omega) w)) rfl rfl rfl ?_; intro r49 hr49;refine qKD (F:=iv) (uK fWK rfl (fun w _=>yHG _ _  w)) rfl rfl rfl ?_; intro r50 hr50;refine qYK 4 ty62 rfl rfl rfl rfl rfl rfl rfl rfl ?_;refine zX ?_;refine qZ ?_;refine qQH ?_;refine kW (rs:=[.cell 4 62]) rfl (resC (qJB 4 rfl rfl ty62 rfl) (resN)) (congrArg (iv) (?_:⟨_,_⟩=Iv.mul (⟨a0,a1⟩:Iv) (⟨b0,b1⟩:Iv)))
   subst_vars; first | (simp_all [Iv.mul,Iv.limited,min4,max4]; done) | (simp_all [Iv.mul,Iv.limited,min4,max4] <;> omega) | grind [Iv.mul,Iv.limited,min4,max4]
end Go.Proofs.YtmeldddgjfocdaaGreat

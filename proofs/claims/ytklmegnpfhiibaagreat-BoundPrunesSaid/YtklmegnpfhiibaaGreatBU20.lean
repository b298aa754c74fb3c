/- Part 20 of the texts behind the last one: rules and contracts. No condition. -/
import Derived.Test.YtklmegnpfhiibaaGreatBU19
open Option.some renaming injEq → vQZ
open Prod.mk renaming injEq → vQY
open Go.IntKind renaming wrap → vYV
namespace Go.Sx
structure V3 where
 x:Iv
 y:Iv
 z:Iv
structure M3 where
 x:V3
 y:V3
 z:V3
structure Po where
 r:M3
 t:V3
structure Z3 where
 x:Int
 y:Int
 z:Int
def z3 (v:Z3):Value:=.agg #[.int .i64 v.x,.int .i64 v.y,.int .i64 v.z]
def v3 (v:V3):Value:=.agg #[.int .i64 v.x.lo,.int .i64 v.x.hi,.int .i64 v.y.lo,.int .i64 v.y.hi,.int .i64 v.z.lo,.int .i64 v.z.hi]
def m3 (v:M3):Value:=.agg #[.int .i64 v.x.x.lo,.int .i64 v.x.x.hi,.int .i64 v.x.y.lo,.int .i64 v.x.y.hi,.int .i64 v.x.z.lo,.int .i64 v.x.z.hi,
 .int .i64 v.y.x.lo,.int .i64 v.y.x.hi,.int .i64 v.y.y.lo,.int .i64 v.y.y.hi,.int .i64 v.y.z.lo,.int .i64 v.y.z.hi,
 .int .i64 v.z.x.lo,.int .i64 v.z.x.hi,.int .i64 v.z.y.lo,.int .i64 v.z.y.hi,.int .i64 v.z.z.lo,.int .i64 v.z.z.hi]
def V3.of (p:Z3):V3:=⟨Iv.of p.x,Iv.of p.y,Iv.of p.z⟩
def V3.add (a b:V3):V3:=⟨Iv.add a.x b.x,Iv.add a.y b.y,Iv.add a.z b.z⟩
def V3.sub (a b:V3):V3:=⟨Iv.sub a.x b.x,Iv.sub a.y b.y,Iv.sub a.z b.z⟩
def V3.neg (a:V3):V3:=⟨Iv.neg a.x,Iv.neg a.y,Iv.neg a.z⟩
def V3.within (a b:V3):Bool:=Iv.within a.x b.x && Iv.within a.y b.y && Iv.within a.z b.z
def V3.dot (a b:V3):Iv:=Iv.add (Iv.add (Iv.mul a.x b.x) (Iv.mul a.y b.y)) (Iv.mul a.z b.z)
def M3.apply (m:M3) (v:V3):V3:=⟨V3.dot m.x v,V3.dot m.y v,V3.dot m.z v⟩
def limI (x:Int):Int:=min (max x (-65536)) 65536
def limV (a:Iv):Iv:=⟨limI a.lo,limI a.hi⟩
def M3.tr (m:M3):M3:=⟨⟨m.x.x,m.y.x,m.z.x⟩,⟨m.x.y,m.y.y,m.z.y⟩,⟨m.x.z,m.y.z,m.z.z⟩⟩
def M3.row (a:V3) (b:M3):V3:=⟨limV (V3.dot a b.tr.x),limV (V3.dot a b.tr.y),limV (V3.dot a b.tr.z)⟩
def M3.mul (a b:M3):M3:=⟨M3.row a.x b,M3.row a.y b,M3.row a.z b⟩
def M3.within (a b:M3):Bool:=V3.within a.x b.x && V3.within a.y b.y && V3.within a.z b.z
def iv0:Iv:=⟨0,0⟩
def iv1:Iv:=⟨65536,65536⟩
def M3.unit:M3:=⟨⟨iv1,iv0,iv0⟩,⟨iv0,iv1,iv0⟩,⟨iv0,iv0,iv1⟩⟩
def M3.zero:M3:=⟨⟨iv0,iv0,iv0⟩,⟨iv0,iv0,iv0⟩,⟨iv0,iv0,iv0⟩⟩
end Go.Sx
namespace Go.Sx
def V3.zero:V3:=⟨iv0,iv0,iv0⟩
def Po.shift (v:V3):Po:=⟨M3.unit,v⟩
def Po.rest:Po:=⟨M3.unit,V3.zero⟩
def Po.app (p:Po) (v:V3):V3:=V3.add p.t (M3.apply p.r v)
def Po.mul (p q:Po):Po:=⟨M3.mul p.r q.r,Po.app p q.t⟩
def Po.inv (p:Po):Po:=⟨M3.tr p.r,V3.neg (M3.apply (M3.tr p.r) p.t)⟩
def Po.within (p q:Po):Bool:=M3.within p.r q.r && V3.within p.t q.t
end Go.Sx
namespace Go.Sx
structure J where
 name:ByteArray
 kind:Int
 parent:Int
 off:Z3
 lo:Int
 hi:Int
 weight:Int
 speed:Int
 accel:Int
 torque:Int
def z3c (v:Z3):List Value:=[.int .i64 v.x,.int .i64 v.y,.int .i64 v.z]
theorem zGJ (l:List Z3):∀ r ∈ l.map z3c,r.length=3:=fun r hr=>by
 obtain ⟨v,_,rfl⟩:=List.mem_map.1 hr;rfl
structure Ms where
 link:Int
 mass:Int
 p:Z3
structure Sp where
 link:Int
 radius:Int
 pts:List Z3
end Go.Sx
namespace Go.Sx
open Go.RowKit
structure Cn where
 kind:Int
 link:Int
 p:Z3
 n:Z3
 lo:Int
 hi:Int
section
variable {nf:Int→Int→Int→Z3} {L:List Int} {m:Int} {k q:Nat} {l:List Cn} {a0 a1 a2 a3 a4 a5 a6 a7 a8 a9 b0 b1:Int} {z:Z3}
end
end Go.Sx
namespace Go.Sx
def ivc (v:Iv):List Value:=[.int .i64 v.lo,.int .i64 v.hi]
theorem zQG (l:List Iv):∀ r ∈ l.map ivc,r.length=2:=fun r hr=>by
 obtain ⟨v,_,rfl⟩:=List.mem_map.1 hr;rfl
end Go.Sx
namespace Go.Sx
section
variable {P:Program} {w0:Base} {S:yK} {H:Heap} {d:Option Tmp} {ty:TypeId} {pos:String} {af:Array Edge} {g:Option (Nat × Bool)}
end
def V3.put (k:Int) (a:Iv):V3:=if k=0 then ⟨a,iv0,iv0⟩ else if k=1 then ⟨iv0,a,iv0⟩ else ⟨iv0,iv0,a⟩
end Go.Sx
namespace Go.Sx
def pc (p:Po):List Value:=[.int .i64 p.r.x.x.lo,.int .i64 p.r.x.x.hi,.int .i64 p.r.x.y.lo,.int .i64 p.r.x.y.hi,.int .i64 p.r.x.z.lo,.int .i64 p.r.x.z.hi,.int .i64 p.r.y.x.lo,.int .i64 p.r.y.x.hi,.int .i64 p.r.y.y.lo,.int .i64 p.r.y.y.hi,.int .i64 p.r.y.z.lo,.int .i64 p.r.y.z.hi,.int .i64 p.r.z.x.lo,.int .i64 p.r.z.x.hi,.int .i64 p.r.z.y.lo,.int .i64 p.r.z.y.hi,.int .i64 p.r.z.z.lo,.int .i64 p.r.z.z.hi,.int .i64 p.t.x.lo,.int .i64 p.t.x.hi,.int .i64 p.t.y.lo,.int .i64 p.t.y.hi,.int .i64 p.t.z.lo,.int .i64 p.t.z.hi]
end Go.Sx
namespace Go.Proofs.YtklmegnpfhiibaaGreat.Od
open Go.Rx Rt Go.Sx Go.RowKit
def F_b:Bool→Option (Ret × Mem):=fun v=>some (.v (.b v),[])
def limK (k:Int):Int:=if k=1 ∨ k=2 ∨ k=3 then 524288 else if k=4 ∨ k=5 ∨ k=6 then 4194304 else 0
def jp (j:J):List PV:=[.s j.name,.n .i64 j.kind,.n .i64 j.parent,.n .i64 j.off.x,.n .i64 j.off.y,.n .i64 j.off.z,.n .i64 j.lo,.n .i64 j.hi,.n .i64 j.weight,.n .i64 j.speed,.n .i64 j.accel,.n .i64 j.torque]
def mp (m:Ms):List PV:=[.n .i64 m.link,.n .i64 m.mass,.n .i64 m.p.x,.n .i64 m.p.y,.n .i64 m.p.z]
def cp (c:Cn):List PV:=[.n .i64 c.kind,.n .i64 c.link,.n .i64 c.p.x,.n .i64 c.p.y,.n .i64 c.p.z,.n .i64 c.n.x,.n .i64 c.n.y,.n .i64 c.n.z,.n .i64 c.lo,.n .i64 c.hi]
def F_n:Int→Option (Ret × Mem):=fun v=>some (.v (.n .i64 v),[])
def JF (i:Int) (j:J):Prop:=(0≤j.kind∧j.kind≤6)∧(-1≤j.parent∧j.parent < i)∧(-4194304≤j.off.x∧j.off.x≤4194304)∧(-4194304≤j.off.y∧j.off.y≤4194304)∧(-4194304≤j.off.z∧j.off.z≤4194304)∧(j.lo≤j.hi ∧ -limK j.kind≤j.lo∧j.hi≤limK j.kind) ∧
  (1≤j.weight∧j.weight≤1024)∧(1≤j.speed∧j.speed≤1048576)∧(1≤j.accel∧j.accel≤1048576)∧(1≤j.torque∧j.torque≤1099511627776)
def cjT {α:Type} (f:Int→α) (i:Int) (j:J):α:=(bif (decide (j.kind < 0)) then (f 803) else (bif (decide (6 < j.kind)) then (f 803) else (bif (decide (j.parent < (-1))) then (f 804) else (bif (decide (i≤j.parent)) then (f 804) else (bif (decide (j.off.x < (-4194304))) then (f 805) else (bif (decide (4194304 < j.off.x)) then (f 805) else (bif (decide (j.off.y < (-4194304))) then (f 805) else (bif (decide (4194304 < j.off.y)) then (f 805) else (bif (decide (j.off.z < (-4194304))) then (f 805) else (bif (decide (4194304 < j.off.z)) then (f 805) else (bif (decide (j.kind=0)) then (bif (decide (j.hi < j.lo)) then (f 806) else (bif (decide (j.lo < 0)) then (f 806) else (bif (decide (0 < j.hi)) then (f 806) else (bif (decide (1≤j.weight)) then (bif (decide (j.weight≤1024)) then (bif (decide (1≤j.speed)) then (bif (decide (j.speed≤1048576)) then (bif (decide (1≤j.accel)) then (bif (decide (j.accel≤1048576)) then (bif (decide (1≤j.torque)) then (bif (decide (j.torque≤1099511627776)) then (f 0) else (f 807)) else (f 807)) else (f 807)) else (f 807)) else (f 807)) else (f 807)) else (f 807)) else (f 807))))) else (bif (decide (j.kind=1)) then (bif (decide (j.hi < j.lo)) then (f 806) else (bif (decide (j.lo < (-524288))) then (f 806) else (bif (decide (524288 < j.hi)) then (f 806) else (bif (decide (1≤j.weight)) then (bif (decide (j.weight≤1024)) then (bif (decide (1≤j.speed)) then (bif (decide (j.speed≤1048576)) then (bif (decide (1≤j.accel)) then (bif (decide (j.accel≤1048576)) then (bif (decide (1≤j.torque)) then (bif (decide (j.torque≤1099511627776)) then (f 0) else (f 807)) else (f 807)) else (f 807)) else (f 807)) else (f 807)) else (f 807)) else (f 807)) else (f 807))))) else (bif (decide (j.kind=2)) then (bif (decide (j.hi < j.lo)) then (f 806) else (bif (decide (j.lo < (-524288))) then (f 806) else (bif (decide (524288 < j.hi)) then (f 806) else (bif (decide (1≤j.weight)) then (bif (decide (j.weight≤1024)) then (bif (decide (1≤j.speed)) then (bif (decide (j.speed≤1048576)) then (bif (decide (1≤j.accel)) then (bif (decide (j.accel≤1048576)) then (bif (decide (1≤j.torque)) then (bif (decide (j.torque≤1099511627776)) then (f 0) else (f 807)) else (f 807)) else (f 807)) else (f 807)) else (f 807)) else (f 807)) else (f 807)) else (f 807))))) else (bif (decide (j.kind=3)) then (bif (decide (j.hi < j.lo)) then (f 806) else (bif (decide (j.lo < (-524288))) then (f 806) else (bif (decide (524288 < j.hi)) then (f 806) else (bif (decide (1≤j.weight)) then (bif (decide (j.weight≤1024)) then (bif (decide (1≤j.speed)) then (bif (decide (j.speed≤1048576)) then (bif (decide (1≤j.accel)) then (bif (decide (j.accel≤1048576)) then (bif (decide (1≤j.torque)) then (bif (decide (j.torque≤1099511627776)) then (f 0) else (f 807)) else (f 807)) else (f 807)) else (f 807)) else (f 807)) else (f 807)) else (f 807)) else (f 807))))) else (bif (decide (j.hi < j.lo)) then (f 806) else (bif (decide (j.lo < (-4194304))) then (f 806) else (bif (decide (4194304 < j.hi)) then (f 806) else (bif (decide (1≤j.weight)) then (bif (decide (j.weight≤1024)) then (bif (decide (1≤j.speed)) then (bif (decide (j.speed≤1048576)) then (bif (decide (1≤j.accel)) then (bif (decide (j.accel≤1048576)) then (bif (decide (1≤j.torque)) then (bif (decide (j.torque≤1099511627776)) then (f 0) else (f 807)) else (f 807)) else (f 807)) else (f 807)) else (f 807)) else (f 807)) else (f 807)) else (f 807)))))))))))))))))))
theorem cjT_ok {α:Type} (f:Int→α) {i:Int} {j:J} (h:JF i j):cjT f i j=f 0:=by
 obtain ⟨h1,h2,h3,h4,h5,h6,h7,h8,h9,h10⟩:=h;have a0:decide (j.kind < 0)=false:=vYK (by omega);have a1:decide (6 < j.kind)=false:=vYK (by omega);have a2:decide (j.parent < (-1))=false:=vYK (by omega);have a3:decide (i≤j.parent)=false:=vYK (by omega);have a4:decide (j.off.x < (-4194304))=false:=vYK (by omega);have a5:decide (4194304 < j.off.x)=false:=vYK (by omega);have a6:decide (j.off.y < (-4194304))=false:=vYK (by omega);have a7:decide (4194304 < j.off.y)=false:=vYK (by omega);have a8:decide (j.off.z < (-4194304))=false:=vYK (by omega);have a9:decide (4194304 < j.off.z)=false:=vYK (by omega);have a10:decide (j.hi < j.lo)=false:=vYK (by omega);have b0:decide (1≤j.weight)=true:=vYU (by omega);have b1:decide (j.weight≤1024)=true:=vYU (by omega);have b2:decide (1≤j.speed)=true:=vYU (by omega);have b3:decide (j.speed≤1048576)=true:=vYU (by omega);have b4:decide (1≤j.accel)=true:=vYU (by omega);have b5:decide (j.accel≤1048576)=true:=vYU (by omega);have b6:decide (1≤j.torque)=true:=vYU (by omega);have b7:decide (j.torque≤1099511627776)=true:=vYU (by omega);unfold cjT;rcases (by omega:j.kind=0 ∨ j.kind=1 ∨ j.kind=2 ∨ j.kind=3 ∨ 4≤j.kind) with h | h | h | h | h
 ·have hm:limK j.kind=0:=by unfold limK; rw [if_neg (by omega),if_neg (by omega)]
  rw [hm] at h6;have c0:decide (j.lo < 0)=false:=vYK (by omega);have c1:decide (0 < j.hi)=false:=vYK (by omega);simp only [a0,a1,a2,a3,a4,a5,a6,a7,a8,a9,a10,b0,b1,b2,b3,b4,b5,b6,b7,c0,c1,vYU h,vYY,vYJ]
 ·have hm:limK j.kind=524288:=by unfold limK; rw [if_pos (by omega)]
  rw [hm] at h6;have c0:decide (j.lo < (-524288))=false:=vYK (by omega);have c1:decide (524288 < j.hi)=false:=vYK (by omega);simp only [a0,a1,a2,a3,a4,a5,a6,a7,a8,a9,a10,b0,b1,b2,b3,b4,b5,b6,b7,c0,c1,vYK (show ¬ j.kind=0 by omega),vYU h,vYY,vYJ]
 ·have hm:limK j.kind=524288:=by unfold limK; rw [if_pos (by omega)]
  rw [hm] at h6;have c0:decide (j.lo < (-524288))=false:=vYK (by omega);have c1:decide (524288 < j.hi)=false:=vYK (by omega);simp only [a0,a1,a2,a3,a4,a5,a6,a7,a8,a9,a10,b0,b1,b2,b3,b4,b5,b6,b7,c0,c1,vYK (show ¬ j.kind=0 by omega),vYK (show ¬ j.kind=1 by omega),vYU h,vYY,vYJ]
 ·have hm:limK j.kind=524288:=by unfold limK; rw [if_pos (by omega)]
  rw [hm] at h6;have c0:decide (j.lo < (-524288))=false:=vYK (by omega);have c1:decide (524288 < j.hi)=false:=vYK (by omega);simp only [a0,a1,a2,a3,a4,a5,a6,a7,a8,a9,a10,b0,b1,b2,b3,b4,b5,b6,b7,c0,c1,vYK (show ¬ j.kind=0 by omega),vYK (show ¬ j.kind=1 by omega),vYK (show ¬ j.kind=2 by omega),vYU h,vYY,vYJ]
 ·have hm:limK j.kind=4194304:=by unfold limK; rw [if_neg (by omega),if_pos (by omega)]
  rw [hm] at h6;have c0:decide (j.lo < (-4194304))=false:=vYK (by omega);have c1:decide (4194304 < j.hi)=false:=vYK (by omega);simp only [a0,a1,a2,a3,a4,a5,a6,a7,a8,a9,a10,b0,b1,b2,b3,b4,b5,b6,b7,c0,c1,vYK (show ¬ j.kind=0 by omega),vYK (show ¬ j.kind=1 by omega),vYK (show ¬ j.kind=2 by omega),vYK (show ¬ j.kind=3 by omega),vYY,vYJ]
end Go.Proofs.YtklmegnpfhiibaaGreat.Od
namespace Go.Proofs.YtklmegnpfhiibaaGreat.Na
open Go.Rx Rt Go.Sx Go.RowKit Od
def okC (first:Bool) (c:Int):Bool:=(decide (97≤c) && decide (c≤122)) || (!first && ((decide (48≤c) && decide (c≤57)) || decide (c=95)))
def allC (s:ByteArray):Nat→Nat→Bool
 | 0,_=>true
 | k + 1,p=>okC (decide ((p:Int)=0)) (qHZ s p) && allC s k (p + 1)
def wrld:ByteArray:=ByteArray.mk #[119,111,114,108,100]
def nmB (s:ByteArray):Bool:=!(decide ((s.size:Int)=0)) && (!(decide (16 < (s.size:Int))) && (!(s.toList == wrld.toList) && allC s s.size 0))
theorem okC_high {f:Bool} {c:Int} (_:128≤c):okC f c=false:=by
 unfold okC;rw [vYK (show ¬ c≤122 by omega),vYK (show ¬ c≤57 by omega),vYK (show ¬ c=95 by omega)]
 simp
theorem byteAt_get {s:ByteArray} {p:Nat} (h:p < s.size):qHZ s p=((s[p]'h).toNat:Int):=by
 unfold qHZ;rw [getElem?_pos s p h];rfl
def hTn (s:ByteArray) (pos:Nat):St:=⟨[(18,.p 18 0)],[(18,.itr s pos)]⟩
def yYB {α:Type} (first:Bool) (c:Int) (g k:α):α:=(bif (decide (97≤c)) then (bif (decide (c≤122)) then g else (bif first then k else (bif (decide (48≤c)) then (bif (decide (c≤57)) then g else (bif (!decide (c=95)) then k else g)) else (bif (!decide (c=95)) then k else g)))) else (bif first then k else (bif (decide (48≤c)) then (bif (decide (c≤57)) then g else (bif (!decide (c=95)) then k else g)) else (bif (!decide (c=95)) then k else g))))
theorem rawTn_eq {α:Type} (first:Bool) (c:Int) (g k:α):yYB first c g k=bif okC first c then g else k:=by
 unfold yYB okC;cases first <;> cases hA:decide (97≤c) <;> cases hB:decide (c≤122) <;> cases hC:decide (48≤c) <;> cases hD:decide (c≤57) <;> cases hE:decide (c=95) <;> first | rfl | (exfalso; simp only [decide_eq_true_eq,decide_eq_false_iff_not] at *; omega)
set_option maxRecDepth 100000 in
theorem rdTn (G:St→Option (Ret × Mem)) (K:Cont) (s:ByteArray) (pos:Nat):qKQ 60 (cxF T (OrL.k ([]:OrL)) 60 88 (ntmF T 88)) (ckF T (OrL.k ([]:OrL)) 60) (qY T 88 [0,1,0,1,1]) (fun e τ=>match e with
 | .normal=>G (qYQ ((cxF T (OrL.k ([]:OrL)) 60 88 (ntmF T 88)).T.hint (cxF T (OrL.k ([]:OrL)) 60 88 (ntmF T 88)).me (zJ (qY T 88 [0,1,0,1,1]))) τ)
 | e=>K e (qZJ ((cxF T (OrL.k ([]:OrL)) 60 88 (ntmF T 88)).T.hint (cxF T (OrL.k ([]:OrL)) 60 88 (ntmF T 88)).me (zJ (qY T 88 [0,1,0,1,1]))) τ)) (hTn s pos) =
 bif (decide (pos < s.size)) then yYB (decide ((pos:Int)=0)) ((Utf8.decode s pos).1:Int) (G (hTn s (pos + (Utf8.decode s pos).2))) (K .ret ⟨[(2,.v (.b false))],[]⟩) else (K (.exit 0) ⟨[],[]⟩):=by kernel_rfl
theorem lpTn (K:Cont) (s:ByteArray):∀ (k p m:Nat),p + k=s.size→k < m→LF 60 (cxF T (OrL.k ([]:OrL)) 60 88 (ntmF T 88)) (ckF T (OrL.k ([]:OrL)) 60) (qY T 88 [0,1,0,1,1]) ((cxF T (OrL.k ([]:OrL)) 60 88 (ntmF T 88)).T.hint (cxF T (OrL.k ([]:OrL)) 60 88 (ntmF T 88)).me (zJ (qY T 88 [0,1,0,1,1]))) K m (hTn s p)=bif allC s k p then (K (.exit 0) ⟨[],[]⟩) else (K .ret ⟨[(2,.v (.b false))],[]⟩)
 | 0,p,m + 1,hp,hm=>by
  refine (rdTn (fun σ=>LF 60 (cxF T (OrL.k ([]:OrL)) 60 88 (ntmF T 88)) (ckF T (OrL.k ([]:OrL)) 60) (qY T 88 [0,1,0,1,1]) ((cxF T (OrL.k ([]:OrL)) 60 88 (ntmF T 88)).T.hint (cxF T (OrL.k ([]:OrL)) 60 88 (ntmF T 88)).me (zJ (qY T 88 [0,1,0,1,1]))) K m σ) K s p).trans ?_;rw [vYK (show ¬ p < s.size by omega)];rfl
 | k + 1,p,m + 1,hp,hm=>by
  refine (rdTn (fun σ=>LF 60 (cxF T (OrL.k ([]:OrL)) 60 88 (ntmF T 88)) (ckF T (OrL.k ([]:OrL)) 60) (qY T 88 [0,1,0,1,1]) ((cxF T (OrL.k ([]:OrL)) 60 88 (ntmF T 88)).T.hint (cxF T (OrL.k ([]:OrL)) 60 88 (ntmF T 88)).me (zJ (qY T 88 [0,1,0,1,1]))) K m σ) K s p).trans ?_;have hlt:p < s.size:=by omega
  rw [vYU hlt,vYY,rawTn_eq];simp only [allC];have hb:=byteAt_get hlt;by_cases h128:(s[p]'hlt).toNat < 128
  ·rw [Go.decode_ascii s p hlt h128,hb];rw [lpTn K s k (p + 1) m (by omega) (by omega)];cases okC (decide ((p:Int)=0)) ((s[p]'hlt).toNat:Int) <;> rfl
  ·have hd:=(Go.decode_high s p hlt (by omega)).1;rw [okC_high (c:=((Utf8.decode s p).1:Int)) (by omega),okC_high (c:=qHZ s p) (by omega)];rfl
set_option maxRecDepth 100000 in
theorem pxTn (s:ByteArray):qWK T (OrL.k ([]:OrL)) (qJ [([0,1,0,1,1],uQ (hTn s 0) (fun K=>bif decide (16 < (s.size:Int)) then none else (bif allC s s.size 0 then (K (.exit 0) ⟨[],[]⟩) else (K .ret ⟨[(2,.v (.b false))],[]⟩))))]) 60 88 [.s s] =
 (bif (decide ((s.size:Int)=0)) then some (.v (.b false),[]) else (bif (decide (16 < (s.size:Int))) then some (.v (.b false),[]) else (bif (s.toList == (ByteArray.mk #[119,111,114,108,100]).toList) then some (.v (.b false),[]) else (bif gSt (hTn s 0) (hTn s 0) then (bif decide (16 < (s.size:Int)) then none else (bif allC s s.size 0 then some (.v (.b true),[]) else some (.v (.b false),[]))) else none)))):=by kernel_rfl
theorem snd_Tn (s:ByteArray):zQ Tryz.prog 88 [.s s] (.v (.b (nmB s))):=by
 refine uW (N:=60) (LO:=qJ [([0,1,0,1,1],uQ (hTn s 0) (fun K=>bif decide (16 < (s.size:Int)) then none else (bif allC s s.size 0 then (K (.exit 0) ⟨[],[]⟩) else (K .ret ⟨[(2,.v (.b false))],[]⟩))))]) qYK jQ (OrL.ok (l:=[]) trivial) (fun p S hp => ?_) ?_
 ·refine qQF (L:=qY T 88) (l:=[([0,1,0,1,1],uQ (hTn s 0) (fun K=>bif decide (16 < (s.size:Int)) then none else (bif allC s s.size 0 then (K (.exit 0) ⟨[],[]⟩) else (K .ret ⟨[(2,.v (.b false))],[]⟩))))]) (show AllP _ [([0,1,0,1,1],uQ (hTn s 0) (fun K=>bif decide (16 < (s.size:Int)) then none else (bif allC s s.size 0 then (K (.exit 0) ⟨[],[]⟩) else (K .ret ⟨[(2,.v (.b false))],[]⟩))))] from ⟨qYG fun K r hr => ?_,trivial⟩) p S hp;cases hq:decide (16 < (s.size:Int)) with
  | true=>rw [hq] at hr; cases hr
  | false =>
   rw [hq] at hr;have h16:=vYW hq;exact (lpTn K s s.size 0 60 (by omega) (by omega)).trans hr
 ·refine (pxTn s).trans ?_;rw [zV,vYY];show _=some (Ret.v (.b (!(decide ((s.size:Int)=0)) && (!(decide (16 < (s.size:Int))) && (!(s.toList == (ByteArray.mk #[119,111,114,108,100]).toList) && allC s s.size 0)))),[]);cases decide ((s.size:Int)=0) <;> cases decide (16 < (s.size:Int)) <;> cases (s.toList == (ByteArray.mk #[119,111,114,108,100]).toList) <;> cases allC s s.size 0 <;> rfl
def hRn (s:ByteArray) (i:Int):St:=⟨[(0,.v (.s s)),(3,.v (.n .i64 i))],[]⟩
def yYC {α:Type} (b:Bool) (first:Bool) (c:Int) (g k:Option α):Option α:=(bif b then (bif (decide (97≤c)) then (bif b then (bif (decide (c≤122)) then g else (bif first then k else (bif b then (bif (!decide (c=95)) then (bif b then (bif (decide (c < 48)) then k else (bif b then (bif (decide (57 < c)) then k else g) else none)) else none) else g) else none))) else none) else (bif first then k else (bif b then (bif (!decide (c=95)) then (bif b then (bif (decide (c < 48)) then k else (bif b then (bif (decide (57 < c)) then k else g) else none)) else none) else g) else none))) else none)
theorem rawRn_eq {α:Type} (first:Bool) (c:Int) (g k:Option α):yYC true first c g k=bif okC first c then g else k:=by
 unfold yYC okC;rw [show decide (c < 48) = !decide (48≤c) by rw [← decide_not]; exact decide_eq_decide.2 (by omega),show decide (57 < c) = !decide (c≤57) by rw [← decide_not]; exact decide_eq_decide.2 (by omega)];cases first <;> cases hA:decide (97≤c) <;> cases hB:decide (c≤122) <;> cases hC:decide (48≤c) <;> cases hD:decide (c≤57) <;> cases hE:decide (c=95) <;> first | rfl | (exfalso; simp only [decide_eq_true_eq,decide_eq_false_iff_not] at *; omega)
set_option maxRecDepth 100000 in
theorem rdRn (G:St→Option (Ret × Mem)) (K:Cont) (s:ByteArray) (i:Int):qKQ 60 (cxF T (OrL.k ([]:OrL)) 60 86 (ntmF T 86)) (ckF T (OrL.k ([]:OrL)) 60) (qY T 86 [0,1,0,1,1]) (fun e τ=>match e with
 | .normal=>G (qYQ ((cxF T (OrL.k ([]:OrL)) 60 86 (ntmF T 86)).T.hint (cxF T (OrL.k ([]:OrL)) 60 86 (ntmF T 86)).me (zJ (qY T 86 [0,1,0,1,1]))) τ)
 | e=>K e (qZJ ((cxF T (OrL.k ([]:OrL)) 60 86 (ntmF T 86)).T.hint (cxF T (OrL.k ([]:OrL)) 60 86 (ntmF T 86)).me (zJ (qY T 86 [0,1,0,1,1]))) τ)) (hRn s i) =
 bif (decide (i < (s.size:Int))) then yYC (inB i s.size) (decide (i=0)) (qHZ s i.toNat) (G (hRn s (vYV .i64 (i + 1)))) (K .ret ⟨[(2,.v (.b false))],[]⟩) else (K (.exit 0) ⟨[],[]⟩):=by kernel_rfl
theorem lpRn (K:Cont) (s:ByteArray) (hs:s.size≤1000):∀ (k p m:Nat),p + k=s.size→k < m→LF 60 (cxF T (OrL.k ([]:OrL)) 60 86 (ntmF T 86)) (ckF T (OrL.k ([]:OrL)) 60) (qY T 86 [0,1,0,1,1]) ((cxF T (OrL.k ([]:OrL)) 60 86 (ntmF T 86)).T.hint (cxF T (OrL.k ([]:OrL)) 60 86 (ntmF T 86)).me (zJ (qY T 86 [0,1,0,1,1]))) K m (hRn s p)=bif allC s k p then (K (.exit 0) ⟨[],[]⟩) else (K .ret ⟨[(2,.v (.b false))],[]⟩)
 | 0,p,m + 1,hp,hm=>by
  refine (rdRn (fun σ=>LF 60 (cxF T (OrL.k ([]:OrL)) 60 86 (ntmF T 86)) (ckF T (OrL.k ([]:OrL)) 60) (qY T 86 [0,1,0,1,1]) ((cxF T (OrL.k ([]:OrL)) 60 86 (ntmF T 86)).T.hint (cxF T (OrL.k ([]:OrL)) 60 86 (ntmF T 86)).me (zJ (qY T 86 [0,1,0,1,1]))) K m σ) K s p).trans ?_;rw [vYK (show ¬ (p:Int) < (s.size:Int) by omega)];rfl
 | k + 1,p,m + 1,hp,hm=>by
  refine (rdRn (fun σ=>LF 60 (cxF T (OrL.k ([]:OrL)) 60 86 (ntmF T 86)) (ckF T (OrL.k ([]:OrL)) 60) (qY T 86 [0,1,0,1,1]) ((cxF T (OrL.k ([]:OrL)) 60 86 (ntmF T 86)).T.hint (cxF T (OrL.k ([]:OrL)) 60 86 (ntmF T 86)).me (zJ (qY T 86 [0,1,0,1,1]))) K m σ) K s p).trans ?_;have hB:inB (p:Int) s.size=true:=by unfold inB; rw [vYU (show (0:Int)≤p by omega),vYU (show (p:Int).toNat < s.size by omega)]; rfl
  rw [vYU (show (p:Int) < (s.size:Int) by omega),vYY,hB,rawRn_eq];simp only [allC];rw [show vYV .i64 ((p:Int) + 1)=((p + 1:Nat):Int) by rw [jZ (by omega)]; omega,lpRn K s hs k (p + 1) m (by omega) (by omega)];show (bif okC (decide ((p:Int)=0)) (qHZ s (p:Int).toNat) then _ else _)=_;rw [show (p:Int).toNat=p by omega];cases okC (decide ((p:Int)=0)) (qHZ s p) <;> rfl
set_option maxRecDepth 100000 in
theorem pxRn (s:ByteArray):qWK T (OrL.k ([]:OrL)) (qJ [([0,1,0,1,1],uQ (hRn s 0) (fun K=>bif decide (16 < (s.size:Int)) then none else (bif allC s s.size 0 then (K (.exit 0) ⟨[],[]⟩) else (K .ret ⟨[(2,.v (.b false))],[]⟩))))]) 60 86 [.s s] =
 (bif (decide ((s.size:Int) < 1)) then some (.v (.b false),[]) else (bif (decide (16 < (s.size:Int))) then some (.v (.b false),[]) else (bif (s.toList == (ByteArray.mk #[119,111,114,108,100]).toList) then some (.v (.b false),[]) else (bif gSt (hRn s 0) (hRn s 0) then (bif decide (16 < (s.size:Int)) then none else (bif allC s s.size 0 then some (.v (.b true),[]) else some (.v (.b false),[]))) else none)))):=by kernel_rfl
theorem snd_Rn (s:ByteArray):zQ Tryz.prog 86 [.s s] (.v (.b (nmB s))):=by
 refine uW (N:=60) (LO:=qJ [([0,1,0,1,1],uQ (hRn s 0) (fun K=>bif decide (16 < (s.size:Int)) then none else (bif allC s s.size 0 then (K (.exit 0) ⟨[],[]⟩) else (K .ret ⟨[(2,.v (.b false))],[]⟩))))]) qYK jQ (OrL.ok (l:=[]) trivial) (fun p S hp => ?_) ?_
 ·refine qQF (L:=qY T 86) (l:=[([0,1,0,1,1],uQ (hRn s 0) (fun K=>bif decide (16 < (s.size:Int)) then none else (bif allC s s.size 0 then (K (.exit 0) ⟨[],[]⟩) else (K .ret ⟨[(2,.v (.b false))],[]⟩))))]) (show AllP _ [([0,1,0,1,1],uQ (hRn s 0) (fun K=>bif decide (16 < (s.size:Int)) then none else (bif allC s s.size 0 then (K (.exit 0) ⟨[],[]⟩) else (K .ret ⟨[(2,.v (.b false))],[]⟩))))] from ⟨qYG fun K r hr => ?_,trivial⟩) p S hp;cases hq:decide (16 < (s.size:Int)) with
  | true=>rw [hq] at hr; cases hr
  | false =>
   rw [hq] at hr;have h16:=vYW hq;exact (lpRn K s (by omega) s.size 0 60 (by omega) (by omega)).trans hr
 ·refine (pxRn s).trans ?_;rw [zV,vYY];rw [show decide ((s.size:Int) < 1)=decide ((s.size:Int)=0) from decide_eq_decide.2 (by omega)];show _=some (Ret.v (.b (!(decide ((s.size:Int)=0)) && (!(decide (16 < (s.size:Int))) && (!(s.toList == (ByteArray.mk #[119,111,114,108,100]).toList) && allC s s.size 0)))),[]);cases decide ((s.size:Int)=0) <;> cases decide (16 < (s.size:Int)) <;> cases (s.toList == (ByteArray.mk #[119,111,114,108,100]).toList) <;> cases allC s s.size 0 <;> rfl
end Go.Proofs.YtklmegnpfhiibaaGreat.Na
namespace Go.Proofs.YtklmegnpfhiibaaGreat.Nb
open Go.Rx Rt Go.Sx Go.RowKit Od
open Na
def fJ (js:Nat→J):Nat→List PV:=fun v=>jp (js v)
def fM (ms:Nat→Ms):Nat→List PV:=fun v=>mp (ms v)
def fnd (js:Nat→J) (nm:ByteArray):Nat→Nat→Int
 | 0,_ => -1
 | k + 1,p=>bif ((js p).name.toList == nm.toList) then (p:Int) else fnd js nm k (p + 1)
def dup (js:Nat→J) (nm:ByteArray):Nat→Nat→Bool
 | 0,_=>false
 | k + 1,p=>((js p).name.toList == nm.toList) || dup js nm k (p + 1)
def hF (js:Nat→J) (ms:Nat→Ms) (n m:Nat) (nm:ByteArray) (i:Int):St:=⟨[(1,.v (.s nm)),(2,.p 2 0),(8,.v (.n .i64 (n:Int))),(9,.v (.n .i64 i))],[(2,.blk [.v (.lf n (fJ js)),.v (.lf m (fM ms))])]⟩
set_option maxRecDepth 100000 in
theorem rdF (G:St→Option (Ret × Mem)) (K:Cont) (js:Nat→J) (ms:Nat→Ms) (n m:Nat) (nm:ByteArray) (i:Int):qKQ 60 (cxF T (OrL.k ([]:OrL)) 60 89 (ntmF T 89)) (ckF T (OrL.k ([]:OrL)) 60) (qY T 89 [0,1,0,1]) (fun e τ=>match e with
 | .normal=>G (qYQ ((cxF T (OrL.k ([]:OrL)) 60 89 (ntmF T 89)).T.hint (cxF T (OrL.k ([]:OrL)) 60 89 (ntmF T 89)).me (zJ (qY T 89 [0,1,0,1]))) τ)
 | e=>K e (qZJ ((cxF T (OrL.k ([]:OrL)) 60 89 (ntmF T 89)).T.hint (cxF T (OrL.k ([]:OrL)) 60 89 (ntmF T 89)).me (zJ (qY T 89 [0,1,0,1]))) τ)) (hF js ms n m nm i) =
 (bif (decide (i < (n:Int))) then (bif (inB i n) then (bif ((js (i).toNat).name.toList == nm.toList) then (K .ret ⟨[(4,.v (.n .i64 i))],[]⟩)
 else (G (hF js ms n m nm (vYV .i64 (i + 1)))))
 else none)
 else (K (.exit 0) ⟨[],[]⟩)):=by kernel_rfl
theorem lpF (K:Cont) (js:Nat→J) (ms:Nat→Ms) (n m:Nat) (nm:ByteArray) (hn:n≤1000):∀ (k p q:Nat),p + k=n→k < q→LF 60 (cxF T (OrL.k ([]:OrL)) 60 89 (ntmF T 89)) (ckF T (OrL.k ([]:OrL)) 60) (qY T 89 [0,1,0,1]) ((cxF T (OrL.k ([]:OrL)) 60 89 (ntmF T 89)).T.hint (cxF T (OrL.k ([]:OrL)) 60 89 (ntmF T 89)).me (zJ (qY T 89 [0,1,0,1]))) K q (hF js ms n m nm p)=(bif decide (fnd js nm k p = -1) then K (.exit 0) ⟨[],[]⟩ else K .ret ⟨[(4,.v (.n .i64 (fnd js nm k p)))],[]⟩)
 | 0,p,q + 1,hp,hq=>by
  refine (rdF (fun σ=>LF 60 (cxF T (OrL.k ([]:OrL)) 60 89 (ntmF T 89)) (ckF T (OrL.k ([]:OrL)) 60) (qY T 89 [0,1,0,1]) ((cxF T (OrL.k ([]:OrL)) 60 89 (ntmF T 89)).T.hint (cxF T (OrL.k ([]:OrL)) 60 89 (ntmF T 89)).me (zJ (qY T 89 [0,1,0,1]))) K q σ) K js ms n m nm p).trans ?_;rw [vYK (show ¬ (p:Int) < (n:Int) by omega)];rfl
 | k + 1,p,q + 1,hp,hq=>by
  refine (rdF (fun σ=>LF 60 (cxF T (OrL.k ([]:OrL)) 60 89 (ntmF T 89)) (ckF T (OrL.k ([]:OrL)) 60) (qY T 89 [0,1,0,1]) ((cxF T (OrL.k ([]:OrL)) 60 89 (ntmF T 89)).T.hint (cxF T (OrL.k ([]:OrL)) 60 89 (ntmF T 89)).me (zJ (qY T 89 [0,1,0,1]))) K q σ) K js ms n m nm p).trans ?_;rw [vYU (show (p:Int) < (n:Int) by omega),zX (show p < n by omega),kZ (by omega),lpF K js ms n m nm hn k (p + 1) q (by omega) (by omega),toN];by_cases hq:((js p).name.toList == nm.toList)=true
  ·simp only [fnd,hq,vYY,vYK (show ¬ (p:Int) = -1 by omega),vYJ]
  ·rw [Bool.not_eq_true] at hq;simp only [fnd,hq,vYY,vYJ]
set_option maxRecDepth 100000 in
theorem pxF (js:Nat→J) (ms:Nat→Ms) (n m:Nat) (nm:ByteArray):qWK T (OrL.k ([]:OrL)) (qJ [([0,1,0,1],uQ (hF js ms n m nm 0) (fun K=>(bif decide (fnd js nm n 0 = -1) then K (.exit 0) ⟨[],[]⟩ else K .ret ⟨[(4,.v (.n .i64 (fnd js nm n 0)))],[]⟩)))]) 60 89 [(.a [.lf n (fJ js),.lf m (fM ms)]),.s nm] =
 bif gSt (hF js ms n m nm 0) (hF js ms n m nm 0) then (bif decide (fnd js nm n 0 = -1) then some (.v (.n .i64 (-1)),[]) else some (.v (.n .i64 (fnd js nm n 0)),[])) else none:=by kernel_rfl
theorem snd_find (js:Nat→J) (ms:Nat→Ms) (n m:Nat) (nm:ByteArray) (_:n≤50):zQ Tryz.prog 89 [(.a [.lf n (fJ js),.lf m (fM ms)]),.s nm] (.v (.n .i64 (fnd js nm n 0))):=by
 refine uW (N:=60) (LO:=qJ [([0,1,0,1],uQ (hF js ms n m nm 0) (fun K=>(bif decide (fnd js nm n 0 = -1) then K (.exit 0) ⟨[],[]⟩ else K .ret ⟨[(4,.v (.n .i64 (fnd js nm n 0)))],[]⟩)))]) qYK jQ (OrL.ok (l:=[]) trivial) (fun p S hp => ?_) ?_
 ·refine qQF (L:=qY T 89) (l:=[([0,1,0,1],uQ (hF js ms n m nm 0) (fun K=>(bif decide (fnd js nm n 0 = -1) then K (.exit 0) ⟨[],[]⟩ else K .ret ⟨[(4,.v (.n .i64 (fnd js nm n 0)))],[]⟩)))]) (show AllP _ [([0,1,0,1],uQ (hF js ms n m nm 0) (fun K=>(bif decide (fnd js nm n 0 = -1) then K (.exit 0) ⟨[],[]⟩ else K .ret ⟨[(4,.v (.n .i64 (fnd js nm n 0)))],[]⟩)))] from ⟨qYG fun K r hr => ?_,trivial⟩) p S hp;exact (lpF K js ms n m nm (by omega) n 0 60 (by omega) (by omega)).trans hr
 ·refine (pxF js ms n m nm).trans ?_;rw [zV,vYY];by_cases h:fnd js nm n 0 = -1
  ·rw [vYU h,h]; rfl
  ·rw [vYK h]; rfl
theorem fnd_dup (js:Nat→J) (i:Nat):∀ (k p:Nat),p≤i→i < p + k→(fnd js (js i).name k p=(i:Int) ↔ dup js (js i).name (i - p) p=false)
 | 0,p,h1,h2=>by omega
 | k + 1,p,h1,h2=>by
  by_cases he:p=i
  ·subst he;rw [Nat.sub_self];simp [fnd,dup]
  ·have ih:=fnd_dup js i k (p + 1) (by omega) (by omega);rw [show i - p=(i - (p + 1)) + 1 by omega];simp only [fnd,dup];cases ((js p).name.toList == (js i).name.toList)
   ·simpa using ih
   ·simp; omega
def cpT {α:Type} (f:Int→α) (i:Int) (j:J):α:=(bif (decide (j.kind < 0)) then (f 803) else (bif (decide (6 < j.kind)) then (f 803) else (bif (decide (j.parent < (-1))) then (f 804) else (bif (decide (i≤j.parent)) then (f 804) else (bif (decide (j.off.x < (-4194304))) then (f 805) else (bif (decide (4194304 < j.off.x)) then (f 805) else (bif (decide (j.off.y < (-4194304))) then (f 805) else (bif (decide (4194304 < j.off.y)) then (f 805) else (bif (decide (j.off.z < (-4194304))) then (f 805) else (bif (decide (4194304 < j.off.z)) then (f 805) else (bif (decide (j.kind=1)) then (bif (decide (j.hi < j.lo)) then (f 806) else (bif (decide (j.lo < (-524288))) then (f 806) else (bif (decide (524288 < j.hi)) then (f 806) else (bif (decide (1≤j.weight)) then (bif (decide (j.weight≤1024)) then (bif (decide (1≤j.speed)) then (bif (decide (j.speed≤1048576)) then (bif (decide (1≤j.accel)) then (bif (decide (j.accel≤1048576)) then (bif (decide (1≤j.torque)) then (bif (decide (j.torque≤1099511627776)) then (f 0) else (f 807)) else (f 807)) else (f 807)) else (f 807)) else (f 807)) else (f 807)) else (f 807)) else (f 807))))) else (bif (decide (j.kind=2)) then (bif (decide (j.hi < j.lo)) then (f 806) else (bif (decide (j.lo < (-524288))) then (f 806) else (bif (decide (524288 < j.hi)) then (f 806) else (bif (decide (1≤j.weight)) then (bif (decide (j.weight≤1024)) then (bif (decide (1≤j.speed)) then (bif (decide (j.speed≤1048576)) then (bif (decide (1≤j.accel)) then (bif (decide (j.accel≤1048576)) then (bif (decide (1≤j.torque)) then (bif (decide (j.torque≤1099511627776)) then (f 0) else (f 807)) else (f 807)) else (f 807)) else (f 807)) else (f 807)) else (f 807)) else (f 807)) else (f 807))))) else (bif (decide (j.kind=3)) then (bif (decide (j.hi < j.lo)) then (f 806) else (bif (decide (j.lo < (-524288))) then (f 806) else (bif (decide (524288 < j.hi)) then (f 806) else (bif (decide (1≤j.weight)) then (bif (decide (j.weight≤1024)) then (bif (decide (1≤j.speed)) then (bif (decide (j.speed≤1048576)) then (bif (decide (1≤j.accel)) then (bif (decide (j.accel≤1048576)) then (bif (decide (1≤j.torque)) then (bif (decide (j.torque≤1099511627776)) then (f 0) else (f 807)) else (f 807)) else (f 807)) else (f 807)) else (f 807)) else (f 807)) else (f 807)) else (f 807))))) else (bif (decide (j.kind=4)) then (bif (decide (j.hi < j.lo)) then (f 806) else (bif (decide (j.lo < (-4194304))) then (f 806) else (bif (decide (4194304 < j.hi)) then (f 806) else (bif (decide (1≤j.weight)) then (bif (decide (j.weight≤1024)) then (bif (decide (1≤j.speed)) then (bif (decide (j.speed≤1048576)) then (bif (decide (1≤j.accel)) then (bif (decide (j.accel≤1048576)) then (bif (decide (1≤j.torque)) then (bif (decide (j.torque≤1099511627776)) then (f 0) else (f 807)) else (f 807)) else (f 807)) else (f 807)) else (f 807)) else (f 807)) else (f 807)) else (f 807))))) else (bif (decide (j.kind=5)) then (bif (decide (j.hi < j.lo)) then (f 806) else (bif (decide (j.lo < (-4194304))) then (f 806) else (bif (decide (4194304 < j.hi)) then (f 806) else (bif (decide (1≤j.weight)) then (bif (decide (j.weight≤1024)) then (bif (decide (1≤j.speed)) then (bif (decide (j.speed≤1048576)) then (bif (decide (1≤j.accel)) then (bif (decide (j.accel≤1048576)) then (bif (decide (1≤j.torque)) then (bif (decide (j.torque≤1099511627776)) then (f 0) else (f 807)) else (f 807)) else (f 807)) else (f 807)) else (f 807)) else (f 807)) else (f 807)) else (f 807))))) else (bif (decide (j.kind=6)) then (bif (decide (j.hi < j.lo)) then (f 806) else (bif (decide (j.lo < (-4194304))) then (f 806) else (bif (decide (4194304 < j.hi)) then (f 806) else (bif (decide (1≤j.weight)) then (bif (decide (j.weight≤1024)) then (bif (decide (1≤j.speed)) then (bif (decide (j.speed≤1048576)) then (bif (decide (1≤j.accel)) then (bif (decide (j.accel≤1048576)) then (bif (decide (1≤j.torque)) then (bif (decide (j.torque≤1099511627776)) then (f 0) else (f 807)) else (f 807)) else (f 807)) else (f 807)) else (f 807)) else (f 807)) else (f 807)) else (f 807))))) else (bif (decide (j.hi < j.lo)) then (f 806) else (bif (decide (j.lo < 0)) then (f 806) else (bif (decide (0 < j.hi)) then (f 806) else (bif (decide (1≤j.weight)) then (bif (decide (j.weight≤1024)) then (bif (decide (1≤j.speed)) then (bif (decide (j.speed≤1048576)) then (bif (decide (1≤j.accel)) then (bif (decide (j.accel≤1048576)) then (bif (decide (1≤j.torque)) then (bif (decide (j.torque≤1099511627776)) then (f 0) else (f 807)) else (f 807)) else (f 807)) else (f 807)) else (f 807)) else (f 807)) else (f 807)) else (f 807)))))))))))))))))))))
theorem cp_cj {α:Type} (f:Int→α) (i:Int) (j:J):cpT f i j=cjT f i j:=by
 unfold cpT cjT;by_cases h0:j.kind < 0
 ·simp only [vYU h0,vYY]
 by_cases h6:6 < j.kind
 ·simp only [vYU h6,vYY]
 rcases (by omega:j.kind=0 ∨ j.kind=1 ∨ j.kind=2 ∨ j.kind=3 ∨ j.kind=4 ∨ j.kind=5 ∨ j.kind=6) with h | h | h | h | h | h | h
 ·simp only [vYU (show j.kind=0 by omega),vYK (show ¬ j.kind=1 by omega),vYK (show ¬ j.kind=2 by omega),vYK (show ¬ j.kind=3 by omega),vYK (show ¬ j.kind=4 by omega),vYK (show ¬ j.kind=5 by omega),vYK (show ¬ j.kind=6 by omega),vYY,vYJ]
 ·simp only [vYK (show ¬ j.kind=0 by omega),vYU (show j.kind=1 by omega),vYK (show ¬ j.kind=2 by omega),vYK (show ¬ j.kind=3 by omega),vYK (show ¬ j.kind=4 by omega),vYK (show ¬ j.kind=5 by omega),vYK (show ¬ j.kind=6 by omega),vYY,vYJ]
 ·simp only [vYK (show ¬ j.kind=0 by omega),vYK (show ¬ j.kind=1 by omega),vYU (show j.kind=2 by omega),vYK (show ¬ j.kind=3 by omega),vYK (show ¬ j.kind=4 by omega),vYK (show ¬ j.kind=5 by omega),vYK (show ¬ j.kind=6 by omega),vYY,vYJ]
 ·simp only [vYK (show ¬ j.kind=0 by omega),vYK (show ¬ j.kind=1 by omega),vYK (show ¬ j.kind=2 by omega),vYU (show j.kind=3 by omega),vYK (show ¬ j.kind=4 by omega),vYK (show ¬ j.kind=5 by omega),vYK (show ¬ j.kind=6 by omega),vYY,vYJ]
 ·simp only [vYK (show ¬ j.kind=0 by omega),vYK (show ¬ j.kind=1 by omega),vYK (show ¬ j.kind=2 by omega),vYK (show ¬ j.kind=3 by omega),vYU (show j.kind=4 by omega),vYK (show ¬ j.kind=5 by omega),vYK (show ¬ j.kind=6 by omega),vYY,vYJ]
 ·simp only [vYK (show ¬ j.kind=0 by omega),vYK (show ¬ j.kind=1 by omega),vYK (show ¬ j.kind=2 by omega),vYK (show ¬ j.kind=3 by omega),vYK (show ¬ j.kind=4 by omega),vYU (show j.kind=5 by omega),vYK (show ¬ j.kind=6 by omega),vYY,vYJ]
 ·simp only [vYK (show ¬ j.kind=0 by omega),vYK (show ¬ j.kind=1 by omega),vYK (show ¬ j.kind=2 by omega),vYK (show ¬ j.kind=3 by omega),vYK (show ¬ j.kind=4 by omega),vYK (show ¬ j.kind=5 by omega),vYU (show j.kind=6 by omega),vYY,vYJ]
def jErr (js:Nat→J) (n i:Nat):Int:=bif nmB (js i).name then (bif dup js (js i).name i 0 then 802 else cjT (fun e=>e) i (js i)) else 802
noncomputable def o_nm:List PV→Option (Bool × Ret):=fun ps=>match ps with
 | [.s s]=>some (true,.v (.b (nmB s)))
 | _=>none
theorem ok_tn:kU Tryz.prog 88 o_nm:=by
 intro ps r hh;unfold o_nm at hh;split at hh
 ·simp only [vQZ,vQY] at hh;obtain ⟨_,rfl⟩:=hh;exact snd_Tn _
 ·cases hh
theorem ok_rn:kU Tryz.prog 86 o_nm:=by
 intro ps r hh;unfold o_nm at hh;split at hh
 ·simp only [vQZ,vQY] at hh;obtain ⟨_,rfl⟩:=hh;exact snd_Rn _
 ·cases hh
noncomputable def o_fd (js:Nat→J) (ms:Nat→Ms) (n m:Nat):List PV→Option (Bool × Ret):=fun ps=>match ps with
 | [r,.s s]=>some (gEq r (.a [.lf n (fJ js),.lf m (fM ms)]),.v (.n .i64 (fnd js s n 0)))
 | _=>none
theorem yQG (js:Nat→J) (ms:Nat→Ms) (n m:Nat) (hn:n≤50):kU Tryz.prog 89 (o_fd js ms n m):=by
 intro ps r hh;unfold o_fd at hh;split at hh
 ·simp only [vQZ,vQY] at hh;obtain ⟨hg,rfl⟩:=hh;obtain rfl:=zYV hg;exact snd_find _ _ _ _ _ hn
 ·cases hh
set_option maxRecDepth 100000 in
theorem tr_cjp (js:Nat→J) (ms:Nat→Ms) (n m:Nat) (i:Int):runK T (OrL.k [(88,o_nm),(89,o_fd js ms n m)]) 60 59 [(.a [.lf n (fJ js),.lf m (fM ms)]),.n .i64 i] =
 bif inB i n then (bif nmB (js i.toNat).name then (bif gEq (.a [.lf n (fJ js),.lf m (fM ms)]) (.a [.lf n (fJ js),.lf m (fM ms)]) then (bif !decide (fnd js (js i.toNat).name n 0=i) then some (.v (.n .i64 802),[]) else cpT F_n i (js i.toNat)) else none) else some (.v (.n .i64 802),[])) else none:=by kernel_rfl
theorem F_cj (i:Int) (j:J):cjT F_n i j=F_n (cjT (fun e=>e) i j):=by
 unfold cjT;simp only [Bool.apply_cond F_n]
theorem snd_cjp (js:Nat→J) (ms:Nat→Ms) (n m:Nat) (hn:n≤50) (i:Nat) (hi:i < n):zQ Tryz.prog 59 [(.a [.lf n (fJ js),.lf m (fM ms)]),.n .i64 i] (.v (.n .i64 (jErr js n i))):=by
 refine jV (N:=60) qYK jQ (OrL.ok (l:=[(88,o_nm),(89,o_fd js ms n m)]) ⟨ok_tn,yQG js ms n m hn,trivial⟩) ?_;rw [tr_cjp,zX hi,vYY,toN,qGD,vYY,cp_cj,F_cj];have hd:=fnd_dup js i n 0 (by omega) (by omega);rw [Nat.sub_zero] at hd;unfold jErr;cases nmB (js i).name with
 | false=>rfl
 | true =>
  cases hq:dup js (js i).name i 0 with
  | false=>rw [vYU (hd.2 hq)]; rfl
  | true=>rw [vYK (fun h=>by rw [hd.1 h] at hq; cases hq)]; rfl
def hC (js:Nat→J) (n:Nat) (i:Int) (k:Int):St:=⟨[(0,.v (.lf n (fJ js))),(1,.v (.n .i64 i)),(5,.p 5 0),(6,.v (.n .i64 k))],[(5,.blk [.v (.s (js (i).toNat).name),.v (.n .i64 (js (i).toNat).kind),.v (.n .i64 (js (i).toNat).parent),.v (.n .i64 (js (i).toNat).off.x),.v (.n .i64 (js (i).toNat).off.y),.v (.n .i64 (js (i).toNat).off.z),.v (.n .i64 (js (i).toNat).lo),.v (.n .i64 (js (i).toNat).hi),.v (.n .i64 (js (i).toNat).weight),.v (.n .i64 (js (i).toNat).speed),.v (.n .i64 (js (i).toNat).accel),.v (.n .i64 (js (i).toNat).torque)])]⟩
set_option maxRecDepth 100000 in
theorem rdC (G:St→Option (Ret × Mem)) (K:Cont) (js:Nat→J) (n:Nat) (i:Int) (k:Int):qKQ 60 (cxF T (OrL.k [(86,o_nm)]) 60 56 (ntmF T 56)) (ckF T (OrL.k [(86,o_nm)]) 60) (qY T 56 [0,1,0,1,1,1]) (fun e τ=>match e with
 | .normal=>G (qYQ ((cxF T (OrL.k [(86,o_nm)]) 60 56 (ntmF T 56)).T.hint (cxF T (OrL.k [(86,o_nm)]) 60 56 (ntmF T 56)).me (zJ (qY T 56 [0,1,0,1,1,1]))) τ)
 | e=>K e (qZJ ((cxF T (OrL.k [(86,o_nm)]) 60 56 (ntmF T 56)).T.hint (cxF T (OrL.k [(86,o_nm)]) 60 56 (ntmF T 56)).me (zJ (qY T 56 [0,1,0,1,1,1]))) τ)) (hC js n i k) =
 (bif (decide (k < i)) then (bif (inB k n) then (bif ((js (k).toNat).name.toList == (js (i).toNat).name.toList) then (K .ret ⟨[(1,.v (.n .i64 i)),(4,.v (.n .i64 802)),(5,.p 5 0)],[(5,.blk [.v (.s (js (i).toNat).name),.v (.n .i64 (js (i).toNat).kind),.v (.n .i64 (js (i).toNat).parent),.v (.n .i64 (js (i).toNat).off.x),.v (.n .i64 (js (i).toNat).off.y),.v (.n .i64 (js (i).toNat).off.z),.v (.n .i64 (js (i).toNat).lo),.v (.n .i64 (js (i).toNat).hi),.v (.n .i64 (js (i).toNat).weight),.v (.n .i64 (js (i).toNat).speed),.v (.n .i64 (js (i).toNat).accel),.v (.n .i64 (js (i).toNat).torque)])]⟩)
 else (G (hC js n i (vYV .i64 (k + 1)))))
 else none)
 else (K (.exit 0) ⟨[(1,.v (.n .i64 i)),(5,.p 5 0)],[(5,.blk [.v (.s (js (i).toNat).name),.v (.n .i64 (js (i).toNat).kind),.v (.n .i64 (js (i).toNat).parent),.v (.n .i64 (js (i).toNat).off.x),.v (.n .i64 (js (i).toNat).off.y),.v (.n .i64 (js (i).toNat).off.z),.v (.n .i64 (js (i).toNat).lo),.v (.n .i64 (js (i).toNat).hi),.v (.n .i64 (js (i).toNat).weight),.v (.n .i64 (js (i).toNat).speed),.v (.n .i64 (js (i).toNat).accel),.v (.n .i64 (js (i).toNat).torque)])]⟩)):=by kernel_rfl
def rC (js:Nat→J) (i:Int):St:=⟨[(1,.v (.n .i64 i)),(4,.v (.n .i64 802)),(5,.p 5 0)],[(5,.blk [.v (.s (js (i).toNat).name),.v (.n .i64 (js (i).toNat).kind),.v (.n .i64 (js (i).toNat).parent),.v (.n .i64 (js (i).toNat).off.x),.v (.n .i64 (js (i).toNat).off.y),.v (.n .i64 (js (i).toNat).off.z),.v (.n .i64 (js (i).toNat).lo),.v (.n .i64 (js (i).toNat).hi),.v (.n .i64 (js (i).toNat).weight),.v (.n .i64 (js (i).toNat).speed),.v (.n .i64 (js (i).toNat).accel),.v (.n .i64 (js (i).toNat).torque)])]⟩
def oC (js:Nat→J) (i:Int):St:=⟨[(1,.v (.n .i64 i)),(5,.p 5 0)],[(5,.blk [.v (.s (js (i).toNat).name),.v (.n .i64 (js (i).toNat).kind),.v (.n .i64 (js (i).toNat).parent),.v (.n .i64 (js (i).toNat).off.x),.v (.n .i64 (js (i).toNat).off.y),.v (.n .i64 (js (i).toNat).off.z),.v (.n .i64 (js (i).toNat).lo),.v (.n .i64 (js (i).toNat).hi),.v (.n .i64 (js (i).toNat).weight),.v (.n .i64 (js (i).toNat).speed),.v (.n .i64 (js (i).toNat).accel),.v (.n .i64 (js (i).toNat).torque)])]⟩
theorem lpC (K:Cont) (js:Nat→J) (n i:Nat) (hn:n≤1000) (hi:i < n):∀ (k p q:Nat),p + k=i→k < q→LF 60 (cxF T (OrL.k [(86,o_nm)]) 60 56 (ntmF T 56)) (ckF T (OrL.k [(86,o_nm)]) 60) (qY T 56 [0,1,0,1,1,1]) ((cxF T (OrL.k [(86,o_nm)]) 60 56 (ntmF T 56)).T.hint (cxF T (OrL.k [(86,o_nm)]) 60 56 (ntmF T 56)).me (zJ (qY T 56 [0,1,0,1,1,1]))) K q (hC js n i p)=bif dup js (js i).name k p then (K .ret (rC js i)) else (K (.exit 0) (oC js i))
 | 0,p,q + 1,hp,hq=>by
  refine (rdC (fun σ=>LF 60 (cxF T (OrL.k [(86,o_nm)]) 60 56 (ntmF T 56)) (ckF T (OrL.k [(86,o_nm)]) 60) (qY T 56 [0,1,0,1,1,1]) ((cxF T (OrL.k [(86,o_nm)]) 60 56 (ntmF T 56)).T.hint (cxF T (OrL.k [(86,o_nm)]) 60 56 (ntmF T 56)).me (zJ (qY T 56 [0,1,0,1,1,1]))) K q σ) K js n i p).trans ?_;rw [vYK (show ¬ (p:Int) < (i:Int) by omega)];rfl
 | k + 1,p,q + 1,hp,hq=>by
  refine (rdC (fun σ=>LF 60 (cxF T (OrL.k [(86,o_nm)]) 60 56 (ntmF T 56)) (ckF T (OrL.k [(86,o_nm)]) 60) (qY T 56 [0,1,0,1,1,1]) ((cxF T (OrL.k [(86,o_nm)]) 60 56 (ntmF T 56)).T.hint (cxF T (OrL.k [(86,o_nm)]) 60 56 (ntmF T 56)).me (zJ (qY T 56 [0,1,0,1,1,1]))) K q σ) K js n i p).trans ?_;rw [vYU (show (p:Int) < (i:Int) by omega),zX (show p < n by omega),kZ (by omega),lpC K js n i hn hi k (p + 1) q (by omega) (by omega),toN,toN];simp only [vYY,dup];cases ((js p).name.toList == (js i).name.toList) <;> rfl
set_option maxRecDepth 100000 in
theorem pxC (js:Nat→J) (n:Nat) (i:Int):qWK T (OrL.k [(86,o_nm)]) (qJ [([0,1,0,1,1,1],uQ (hC js n i 0) (fun K=>bif dup js (js i.toNat).name i.toNat 0 then (K .ret (rC js i)) else (K (.exit 0) (oC js i))))]) 60 56 [.lf n (fJ js),.n .i64 i] =
 bif inB i n then (bif nmB (js i.toNat).name then (bif gSt (hC js n i 0) (hC js n i 0) then (bif dup js (js i.toNat).name i.toNat 0 then some (.v (.n .i64 802),[]) else cjT F_n i (js i.toNat)) else none) else some (.v (.n .i64 802),[])) else none:=by kernel_rfl
theorem snd_cjr (js:Nat→J) (n:Nat) (_:n≤50) (i:Nat) (hi:i < n):zQ Tryz.prog 56 [.lf n (fJ js),.n .i64 i] (.v (.n .i64 (jErr js n i))):=by
 refine uW (N:=60) (LO:=qJ [([0,1,0,1,1,1],uQ (hC js n (i:Int) 0) (fun K=>bif dup js (js (i:Int).toNat).name (i:Int).toNat 0 then (K .ret (rC js i)) else (K (.exit 0) (oC js i))))]) qYK jQ (OrL.ok (l:=[(86,o_nm)]) ⟨ok_rn,trivial⟩) (fun p S hp => ?_) ?_
 ·refine qQF (L:=qY T 56) (l:=[([0,1,0,1,1,1],uQ (hC js n (i:Int) 0) (fun K=>bif dup js (js (i:Int).toNat).name (i:Int).toNat 0 then (K .ret (rC js i)) else (K (.exit 0) (oC js i))))]) (show AllP _ [([0,1,0,1,1,1],uQ (hC js n (i:Int) 0) (fun K=>bif dup js (js (i:Int).toNat).name (i:Int).toNat 0 then (K .ret (rC js i)) else (K (.exit 0) (oC js i))))] from ⟨qYG fun K r hr => ?_,trivial⟩) p S hp
  have:=lpC K js n i (by omega) hi i 0 60 (by omega) (by omega)
  rw [toN] at hr;exact this.trans hr
 ·refine (pxC js n i).trans ?_;rw [zX hi,vYY,toN,zV,vYY,F_cj];unfold jErr;cases nmB (js i).name <;> cases dup js (js i).name i 0 <;> rfl
end Go.Proofs.YtklmegnpfhiibaaGreat.Nb

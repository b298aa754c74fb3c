/- Part 15 of the texts behind the last one: rules and contracts. No condition. -/
import Derived.Test.YtmffoiemmlcmfaaGreatPE14
open Option.some renaming injEq → vQZ
open Prod.mk renaming injEq → vQY
open Bool renaming and_eq_true → vQJ, and_self → vZJ, true_and → vZH
open Go.IntKind renaming wrap → vJJ
namespace Go.Proofs.YtmffoiemmlcmfaaGreat.Nz
open Go.Rx Rt Go.Sx Go.RowKit Od Ov Pc Na Nb Nc Nd Nx Nf Ng Nj Nl Nm Nn No Nq Nr Ns Nu Nv Nw Ny
theorem near0 (js:Nat→J) (ms:Nat→Ms) (q:Nat→Int) (n m k:Nat) (c d:Cn) (w:Nat) (e:Nat→Int) (hk:k≤50) (hc:zH Tryz.prog 22 [.a [.lf n (fJ js),.lf m (fM ms)],.n .i64 0,.lf w (fQ e)] (.ow 63 10 (.l []))):zH Tryz.prog 8 [.a [.lf n (fJ js),.lf m (fM ms)],.n .i64 0,.lf w (fQ e),.lf k (fQ q)] (.ow 63 10 (.l [])):=by
 refine qG (N:=60) yJ yQ (OrL.ok (l:=[(22,o_cr [.a [.lf n (fJ js),.lf m (fM ms)],.n .i64 0,.lf w (fQ e)] (.ow 63 10 (.l []))),(9,yUH),(13,o_lk [.lf k (fQ q)] (decide (k≤50)) (.v (.lf (bif smQ q k then k else 0) (fB (ptB q))))),(23,o_rv js ms (ptB q) n m (bif smQ q k then k else 0))]) ⟨qZX hc,zGZ,qXG (fun h=>zQY q k (vJZ h)),jHW js ms (ptB q) n m (bif smQ q k then k else 0),trivial⟩) ?_;refine (by kernel_rfl:_=bif (g1 [.a [.lf n (fJ js),.lf m (fM ms)],.n .i64 0,.lf w (fQ e)]) then some (.ow 63 10 (.l []),[])
 else none).trans ?_
 simp only [g1_t,vYV]
theorem near2_0 (js:Nat→J) (ms:Nat→Ms) (q:Nat→Int) (n m k:Nat) (c d:Cn) (w:Nat) (e:Nat→Int) (hk:k≤50) (hc:zH Tryz.prog 22 [.a [.lf n (fJ js),.lf m (fM ms)],.n .i64 2,.lf 0 (fQ e)] (.ow 63 10 (.l [cp c,cp d]))):∃ c' d':Cn,zH Tryz.prog 8 [.a [.lf n (fJ js),.lf m (fM ms)],.n .i64 2,.lf 0 (fQ e),.lf k (fQ q)] (.ow 63 10 (.l [cp c',cp d'])):=by
 refine ⟨bif qOk js ms q n m k c then ⟨c.kind,c.link,c.p,c.n,(vJJ .i64 ((qLo js ms q n m k c) + (-1966080))),(vJJ .i64 ((vJJ .i64 ((qLo js ms q n m k c) + (-1966080))) + 65536))⟩ else c,bif qOk js ms q n m k d then (bif qOk js ms q n m k c then ⟨d.kind,d.link,d.p,d.n,(vJJ .i64 ((qLo js ms q n m k d) + (-1966080))),(vJJ .i64 ((vJJ .i64 ((qLo js ms q n m k d) + (-1966080))) + 65536))⟩ else ⟨d.kind,d.link,d.p,d.n,(vJJ .i64 ((qLo js ms q n m k d) + (-1966080))),(vJJ .i64 ((vJJ .i64 ((qLo js ms q n m k d) + (-1966080))) + 65536))⟩) else d,qG (N:=60) yJ yQ (OrL.ok (l:=[(22,o_cr [.a [.lf n (fJ js),.lf m (fM ms)],.n .i64 2,.lf 0 (fQ e)] (.ow 63 10 (.l [cp c,cp d]))),(9,yUH),(13,o_lk [.lf k (fQ q)] (decide (k≤50)) (.v (.lf (bif smQ q k then k else 0) (fB (ptB q))))),(23,o_rv js ms (ptB q) n m (bif smQ q k then k else 0))]) ⟨qZX hc,zGZ,qXG (fun h=>zQY q k (vJZ h)),jHW js ms (ptB q) n m (bif smQ q k then k else 0),trivial⟩) ?_⟩;refine (by kernel_rfl:_=bif (g1 [.a [.lf n (fJ js),.lf m (fM ms)],.n .i64 2,.lf 0 (fQ e)]) then (bif (g1 [.lf k (fQ q)] && decide (k≤50)) then (bif (g1 [.a [.lf n (fJ js),.lf m (fM ms)],.a (cp c),.lf (bif smQ q k then k else 0) (fB (ptB q))] && decide ((bif smQ q k then k else 0)≤50)) then (bif (qOk js ms q n m k c) then (bif (g1 [.lf k (fQ q)] && decide (k≤50)) then (bif (g1 [.a [.lf n (fJ js),.lf m (fM ms)],.a (cp d),.lf (bif smQ q k then k else 0) (fB (ptB q))] && decide ((bif smQ q k then k else 0)≤50)) then (bif (qOk js ms q n m k d) then some (.ow 63 10 (.l [[.n .i64 c.kind,.n .i64 c.link,.n .i64 c.p.x,.n .i64 c.p.y,.n .i64 c.p.z,.n .i64 c.n.x,.n .i64 c.n.y,.n .i64 c.n.z,.n .i64 (vJJ .i64 ((qLo js ms q n m k c) + (-1966080))),.n .i64 (vJJ .i64 ((vJJ .i64 ((qLo js ms q n m k c) + (-1966080))) + 65536))],[.n .i64 d.kind,.n .i64 d.link,.n .i64 d.p.x,.n .i64 d.p.y,.n .i64 d.p.z,.n .i64 d.n.x,.n .i64 d.n.y,.n .i64 d.n.z,.n .i64 (vJJ .i64 ((qLo js ms q n m k d) + (-1966080))),.n .i64 (vJJ .i64 ((vJJ .i64 ((qLo js ms q n m k d) + (-1966080))) + 65536))]]),[])
 else some (.ow 63 10 (.l [[.n .i64 c.kind,.n .i64 c.link,.n .i64 c.p.x,.n .i64 c.p.y,.n .i64 c.p.z,.n .i64 c.n.x,.n .i64 c.n.y,.n .i64 c.n.z,.n .i64 (vJJ .i64 ((qLo js ms q n m k c) + (-1966080))),.n .i64 (vJJ .i64 ((vJJ .i64 ((qLo js ms q n m k c) + (-1966080))) + 65536))],(cp d)]),[]))
 else none)
 else none)
 else bif (g1 [.lf k (fQ q)] && decide (k≤50)) then (bif (g1 [.a [.lf n (fJ js),.lf m (fM ms)],.a (cp d),.lf (bif smQ q k then k else 0) (fB (ptB q))] && decide ((bif smQ q k then k else 0)≤50)) then (bif (qOk js ms q n m k d) then some (.ow 63 10 (.l [(cp c),[.n .i64 d.kind,.n .i64 d.link,.n .i64 d.p.x,.n .i64 d.p.y,.n .i64 d.p.z,.n .i64 d.n.x,.n .i64 d.n.y,.n .i64 d.n.z,.n .i64 (vJJ .i64 ((qLo js ms q n m k d) + (-1966080))),.n .i64 (vJJ .i64 ((vJJ .i64 ((qLo js ms q n m k d) + (-1966080))) + 65536))]]),[])
 else some (.ow 63 10 (.l [(cp c),(cp d)]),[]))
 else none)
 else none)
 else none)
 else none)
 else none).trans ?_
 simp only [g1_t,vJQ hk,vJQ (yXZ (q:=q) hk),vZJ,vYV];cases qOk js ms q n m k c <;> cases qOk js ms q n m k d <;> rfl
theorem near2_1 (js:Nat→J) (ms:Nat→Ms) (q:Nat→Int) (n m k:Nat) (c d:Cn) (w:Nat) (e:Nat→Int) (hk:k≤50) (hc:zH Tryz.prog 22 [.a [.lf n (fJ js),.lf m (fM ms)],.n .i64 2,.lf 1 (fQ e)] (.ow 63 10 (.l [cp c,cp d]))):∃ c' d':Cn,zH Tryz.prog 8 [.a [.lf n (fJ js),.lf m (fM ms)],.n .i64 2,.lf 1 (fQ e),.lf k (fQ q)] (.ow 63 10 (.l [cp c',cp d'])):=by
 refine ⟨bif qOk js ms q n m k c then ⟨c.kind,c.link,c.p,c.n,(vJJ .i64 ((qLo js ms q n m k c) + (vJJ .i64 ((vJJ .i64 (((e (0:Int).toNat) % 61) - 30)) * 65536)))),(vJJ .i64 ((vJJ .i64 ((qLo js ms q n m k c) + (vJJ .i64 ((vJJ .i64 (((e (0:Int).toNat) % 61) - 30)) * 65536)))) + 65536))⟩ else c,bif qOk js ms q n m k d then (bif qOk js ms q n m k c then ⟨d.kind,d.link,d.p,d.n,(vJJ .i64 ((qLo js ms q n m k d) + (-1966080))),(vJJ .i64 ((vJJ .i64 ((qLo js ms q n m k d) + (-1966080))) + 65536))⟩ else ⟨d.kind,d.link,d.p,d.n,(vJJ .i64 ((qLo js ms q n m k d) + (vJJ .i64 ((vJJ .i64 (((e (0:Int).toNat) % 61) - 30)) * 65536)))),(vJJ .i64 ((vJJ .i64 ((qLo js ms q n m k d) + (vJJ .i64 ((vJJ .i64 (((e (0:Int).toNat) % 61) - 30)) * 65536)))) + 65536))⟩) else d,qG (N:=60) yJ yQ (OrL.ok (l:=[(22,o_cr [.a [.lf n (fJ js),.lf m (fM ms)],.n .i64 2,.lf 1 (fQ e)] (.ow 63 10 (.l [cp c,cp d]))),(9,yUH),(13,o_lk [.lf k (fQ q)] (decide (k≤50)) (.v (.lf (bif smQ q k then k else 0) (fB (ptB q))))),(23,o_rv js ms (ptB q) n m (bif smQ q k then k else 0))]) ⟨qZX hc,zGZ,qXG (fun h=>zQY q k (vJZ h)),jHW js ms (ptB q) n m (bif smQ q k then k else 0),trivial⟩) ?_⟩;refine (by kernel_rfl:_=bif (g1 [.a [.lf n (fJ js),.lf m (fM ms)],.n .i64 2,.lf 1 (fQ e)]) then (bif (g1 [.lf k (fQ q)] && decide (k≤50)) then (bif (g1 [.a [.lf n (fJ js),.lf m (fM ms)],.a (cp c),.lf (bif smQ q k then k else 0) (fB (ptB q))] && decide ((bif smQ q k then k else 0)≤50)) then (bif (qOk js ms q n m k c) then (bif (g1 [.lf k (fQ q)] && decide (k≤50)) then (bif (g1 [.a [.lf n (fJ js),.lf m (fM ms)],.a (cp d),.lf (bif smQ q k then k else 0) (fB (ptB q))] && decide ((bif smQ q k then k else 0)≤50)) then (bif (qOk js ms q n m k d) then some (.ow 63 10 (.l [[.n .i64 c.kind,.n .i64 c.link,.n .i64 c.p.x,.n .i64 c.p.y,.n .i64 c.p.z,.n .i64 c.n.x,.n .i64 c.n.y,.n .i64 c.n.z,.n .i64 (vJJ .i64 ((qLo js ms q n m k c) + (vJJ .i64 ((vJJ .i64 (((e (0:Int).toNat) % 61) - 30)) * 65536)))),.n .i64 (vJJ .i64 ((vJJ .i64 ((qLo js ms q n m k c) + (vJJ .i64 ((vJJ .i64 (((e (0:Int).toNat) % 61) - 30)) * 65536)))) + 65536))],[.n .i64 d.kind,.n .i64 d.link,.n .i64 d.p.x,.n .i64 d.p.y,.n .i64 d.p.z,.n .i64 d.n.x,.n .i64 d.n.y,.n .i64 d.n.z,.n .i64 (vJJ .i64 ((qLo js ms q n m k d) + (-1966080))),.n .i64 (vJJ .i64 ((vJJ .i64 ((qLo js ms q n m k d) + (-1966080))) + 65536))]]),[])
 else some (.ow 63 10 (.l [[.n .i64 c.kind,.n .i64 c.link,.n .i64 c.p.x,.n .i64 c.p.y,.n .i64 c.p.z,.n .i64 c.n.x,.n .i64 c.n.y,.n .i64 c.n.z,.n .i64 (vJJ .i64 ((qLo js ms q n m k c) + (vJJ .i64 ((vJJ .i64 (((e (0:Int).toNat) % 61) - 30)) * 65536)))),.n .i64 (vJJ .i64 ((vJJ .i64 ((qLo js ms q n m k c) + (vJJ .i64 ((vJJ .i64 (((e (0:Int).toNat) % 61) - 30)) * 65536)))) + 65536))],(cp d)]),[]))
 else none)
 else none)
 else bif (g1 [.lf k (fQ q)] && decide (k≤50)) then (bif (g1 [.a [.lf n (fJ js),.lf m (fM ms)],.a (cp d),.lf (bif smQ q k then k else 0) (fB (ptB q))] && decide ((bif smQ q k then k else 0)≤50)) then (bif (qOk js ms q n m k d) then some (.ow 63 10 (.l [(cp c),[.n .i64 d.kind,.n .i64 d.link,.n .i64 d.p.x,.n .i64 d.p.y,.n .i64 d.p.z,.n .i64 d.n.x,.n .i64 d.n.y,.n .i64 d.n.z,.n .i64 (vJJ .i64 ((qLo js ms q n m k d) + (vJJ .i64 ((vJJ .i64 (((e (0:Int).toNat) % 61) - 30)) * 65536)))),.n .i64 (vJJ .i64 ((vJJ .i64 ((qLo js ms q n m k d) + (vJJ .i64 ((vJJ .i64 (((e (0:Int).toNat) % 61) - 30)) * 65536)))) + 65536))]]),[])
 else some (.ow 63 10 (.l [(cp c),(cp d)]),[]))
 else none)
 else none)
 else none)
 else none)
 else none).trans ?_
 simp only [g1_t,vJQ hk,vJQ (yXZ (q:=q) hk),vZJ,vYV];cases qOk js ms q n m k c <;> cases qOk js ms q n m k d <;> rfl
theorem near2_2 (js:Nat→J) (ms:Nat→Ms) (q:Nat→Int) (n m k:Nat) (c d:Cn) (w:Nat) (e:Nat→Int) (hk:k≤50) (hc:zH Tryz.prog 22 [.a [.lf n (fJ js),.lf m (fM ms)],.n .i64 2,.lf 2 (fQ e)] (.ow 63 10 (.l [cp c,cp d]))):∃ c' d':Cn,zH Tryz.prog 8 [.a [.lf n (fJ js),.lf m (fM ms)],.n .i64 2,.lf 2 (fQ e),.lf k (fQ q)] (.ow 63 10 (.l [cp c',cp d'])):=by
 refine ⟨bif qOk js ms q n m k c then ⟨c.kind,c.link,c.p,c.n,(vJJ .i64 ((qLo js ms q n m k c) + (vJJ .i64 ((vJJ .i64 (((e (0:Int).toNat) % 61) - 30)) * 65536)))),(vJJ .i64 ((vJJ .i64 ((qLo js ms q n m k c) + (vJJ .i64 ((vJJ .i64 (((e (0:Int).toNat) % 61) - 30)) * 65536)))) + (vJJ .i64 ((vJJ .i64 (1 + ((e (1:Int).toNat) % 40))) * 65536))))⟩ else c,bif qOk js ms q n m k d then (bif qOk js ms q n m k c then ⟨d.kind,d.link,d.p,d.n,(vJJ .i64 ((qLo js ms q n m k d) + (-1966080))),(vJJ .i64 ((vJJ .i64 ((qLo js ms q n m k d) + (-1966080))) + 65536))⟩ else ⟨d.kind,d.link,d.p,d.n,(vJJ .i64 ((qLo js ms q n m k d) + (vJJ .i64 ((vJJ .i64 (((e (0:Int).toNat) % 61) - 30)) * 65536)))),(vJJ .i64 ((vJJ .i64 ((qLo js ms q n m k d) + (vJJ .i64 ((vJJ .i64 (((e (0:Int).toNat) % 61) - 30)) * 65536)))) + (vJJ .i64 ((vJJ .i64 (1 + ((e (1:Int).toNat) % 40))) * 65536))))⟩) else d,qG (N:=60) yJ yQ (OrL.ok (l:=[(22,o_cr [.a [.lf n (fJ js),.lf m (fM ms)],.n .i64 2,.lf 2 (fQ e)] (.ow 63 10 (.l [cp c,cp d]))),(9,yUH),(13,o_lk [.lf k (fQ q)] (decide (k≤50)) (.v (.lf (bif smQ q k then k else 0) (fB (ptB q))))),(23,o_rv js ms (ptB q) n m (bif smQ q k then k else 0))]) ⟨qZX hc,zGZ,qXG (fun h=>zQY q k (vJZ h)),jHW js ms (ptB q) n m (bif smQ q k then k else 0),trivial⟩) ?_⟩;refine (by kernel_rfl:_=bif (g1 [.a [.lf n (fJ js),.lf m (fM ms)],.n .i64 2,.lf 2 (fQ e)]) then (bif (g1 [.lf k (fQ q)] && decide (k≤50)) then (bif (g1 [.a [.lf n (fJ js),.lf m (fM ms)],.a (cp c),.lf (bif smQ q k then k else 0) (fB (ptB q))] && decide ((bif smQ q k then k else 0)≤50)) then (bif (qOk js ms q n m k c) then (bif (g1 [.lf k (fQ q)] && decide (k≤50)) then (bif (g1 [.a [.lf n (fJ js),.lf m (fM ms)],.a (cp d),.lf (bif smQ q k then k else 0) (fB (ptB q))] && decide ((bif smQ q k then k else 0)≤50)) then (bif (qOk js ms q n m k d) then some (.ow 63 10 (.l [[.n .i64 c.kind,.n .i64 c.link,.n .i64 c.p.x,.n .i64 c.p.y,.n .i64 c.p.z,.n .i64 c.n.x,.n .i64 c.n.y,.n .i64 c.n.z,.n .i64 (vJJ .i64 ((qLo js ms q n m k c) + (vJJ .i64 ((vJJ .i64 (((e (0:Int).toNat) % 61) - 30)) * 65536)))),.n .i64 (vJJ .i64 ((vJJ .i64 ((qLo js ms q n m k c) + (vJJ .i64 ((vJJ .i64 (((e (0:Int).toNat) % 61) - 30)) * 65536)))) + (vJJ .i64 ((vJJ .i64 (1 + ((e (1:Int).toNat) % 40))) * 65536))))],[.n .i64 d.kind,.n .i64 d.link,.n .i64 d.p.x,.n .i64 d.p.y,.n .i64 d.p.z,.n .i64 d.n.x,.n .i64 d.n.y,.n .i64 d.n.z,.n .i64 (vJJ .i64 ((qLo js ms q n m k d) + (-1966080))),.n .i64 (vJJ .i64 ((vJJ .i64 ((qLo js ms q n m k d) + (-1966080))) + 65536))]]),[])
 else some (.ow 63 10 (.l [[.n .i64 c.kind,.n .i64 c.link,.n .i64 c.p.x,.n .i64 c.p.y,.n .i64 c.p.z,.n .i64 c.n.x,.n .i64 c.n.y,.n .i64 c.n.z,.n .i64 (vJJ .i64 ((qLo js ms q n m k c) + (vJJ .i64 ((vJJ .i64 (((e (0:Int).toNat) % 61) - 30)) * 65536)))),.n .i64 (vJJ .i64 ((vJJ .i64 ((qLo js ms q n m k c) + (vJJ .i64 ((vJJ .i64 (((e (0:Int).toNat) % 61) - 30)) * 65536)))) + (vJJ .i64 ((vJJ .i64 (1 + ((e (1:Int).toNat) % 40))) * 65536))))],(cp d)]),[]))
 else none)
 else none)
 else bif (g1 [.lf k (fQ q)] && decide (k≤50)) then (bif (g1 [.a [.lf n (fJ js),.lf m (fM ms)],.a (cp d),.lf (bif smQ q k then k else 0) (fB (ptB q))] && decide ((bif smQ q k then k else 0)≤50)) then (bif (qOk js ms q n m k d) then some (.ow 63 10 (.l [(cp c),[.n .i64 d.kind,.n .i64 d.link,.n .i64 d.p.x,.n .i64 d.p.y,.n .i64 d.p.z,.n .i64 d.n.x,.n .i64 d.n.y,.n .i64 d.n.z,.n .i64 (vJJ .i64 ((qLo js ms q n m k d) + (vJJ .i64 ((vJJ .i64 (((e (0:Int).toNat) % 61) - 30)) * 65536)))),.n .i64 (vJJ .i64 ((vJJ .i64 ((qLo js ms q n m k d) + (vJJ .i64 ((vJJ .i64 (((e (0:Int).toNat) % 61) - 30)) * 65536)))) + (vJJ .i64 ((vJJ .i64 (1 + ((e (1:Int).toNat) % 40))) * 65536))))]]),[])
 else some (.ow 63 10 (.l [(cp c),(cp d)]),[]))
 else none)
 else none)
 else none)
 else none)
 else none).trans ?_
 simp only [g1_t,vJQ hk,vJQ (yXZ (q:=q) hk),vZJ,vYV];cases qOk js ms q n m k c <;> cases qOk js ms q n m k d <;> rfl
theorem near2_3 (js:Nat→J) (ms:Nat→Ms) (q:Nat→Int) (n m k:Nat) (c d:Cn) (w:Nat) (e:Nat→Int) (hk:k≤50) (hc:zH Tryz.prog 22 [.a [.lf n (fJ js),.lf m (fM ms)],.n .i64 2,.lf 3 (fQ e)] (.ow 63 10 (.l [cp c,cp d]))):∃ c' d':Cn,zH Tryz.prog 8 [.a [.lf n (fJ js),.lf m (fM ms)],.n .i64 2,.lf 3 (fQ e),.lf k (fQ q)] (.ow 63 10 (.l [cp c',cp d'])):=by
 refine ⟨bif qOk js ms q n m k c then ⟨c.kind,c.link,c.p,c.n,(vJJ .i64 ((qLo js ms q n m k c) + (vJJ .i64 ((vJJ .i64 (((e (0:Int).toNat) % 61) - 30)) * 65536)))),(vJJ .i64 ((vJJ .i64 ((qLo js ms q n m k c) + (vJJ .i64 ((vJJ .i64 (((e (0:Int).toNat) % 61) - 30)) * 65536)))) + (vJJ .i64 ((vJJ .i64 (1 + ((e (1:Int).toNat) % 40))) * 65536))))⟩ else c,bif qOk js ms q n m k d then (bif qOk js ms q n m k c then ⟨d.kind,d.link,d.p,d.n,(vJJ .i64 ((qLo js ms q n m k d) + (vJJ .i64 ((vJJ .i64 (((e (2:Int).toNat) % 61) - 30)) * 65536)))),(vJJ .i64 ((vJJ .i64 ((qLo js ms q n m k d) + (vJJ .i64 ((vJJ .i64 (((e (2:Int).toNat) % 61) - 30)) * 65536)))) + 65536))⟩ else ⟨d.kind,d.link,d.p,d.n,(vJJ .i64 ((qLo js ms q n m k d) + (vJJ .i64 ((vJJ .i64 (((e (0:Int).toNat) % 61) - 30)) * 65536)))),(vJJ .i64 ((vJJ .i64 ((qLo js ms q n m k d) + (vJJ .i64 ((vJJ .i64 (((e (0:Int).toNat) % 61) - 30)) * 65536)))) + (vJJ .i64 ((vJJ .i64 (1 + ((e (1:Int).toNat) % 40))) * 65536))))⟩) else d,qG (N:=60) yJ yQ (OrL.ok (l:=[(22,o_cr [.a [.lf n (fJ js),.lf m (fM ms)],.n .i64 2,.lf 3 (fQ e)] (.ow 63 10 (.l [cp c,cp d]))),(9,yUH),(13,o_lk [.lf k (fQ q)] (decide (k≤50)) (.v (.lf (bif smQ q k then k else 0) (fB (ptB q))))),(23,o_rv js ms (ptB q) n m (bif smQ q k then k else 0))]) ⟨qZX hc,zGZ,qXG (fun h=>zQY q k (vJZ h)),jHW js ms (ptB q) n m (bif smQ q k then k else 0),trivial⟩) ?_⟩;refine (by kernel_rfl:_=bif (g1 [.a [.lf n (fJ js),.lf m (fM ms)],.n .i64 2,.lf 3 (fQ e)]) then (bif (g1 [.lf k (fQ q)] && decide (k≤50)) then (bif (g1 [.a [.lf n (fJ js),.lf m (fM ms)],.a (cp c),.lf (bif smQ q k then k else 0) (fB (ptB q))] && decide ((bif smQ q k then k else 0)≤50)) then (bif (qOk js ms q n m k c) then (bif (g1 [.lf k (fQ q)] && decide (k≤50)) then (bif (g1 [.a [.lf n (fJ js),.lf m (fM ms)],.a (cp d),.lf (bif smQ q k then k else 0) (fB (ptB q))] && decide ((bif smQ q k then k else 0)≤50)) then (bif (qOk js ms q n m k d) then some (.ow 63 10 (.l [[.n .i64 c.kind,.n .i64 c.link,.n .i64 c.p.x,.n .i64 c.p.y,.n .i64 c.p.z,.n .i64 c.n.x,.n .i64 c.n.y,.n .i64 c.n.z,.n .i64 (vJJ .i64 ((qLo js ms q n m k c) + (vJJ .i64 ((vJJ .i64 (((e (0:Int).toNat) % 61) - 30)) * 65536)))),.n .i64 (vJJ .i64 ((vJJ .i64 ((qLo js ms q n m k c) + (vJJ .i64 ((vJJ .i64 (((e (0:Int).toNat) % 61) - 30)) * 65536)))) + (vJJ .i64 ((vJJ .i64 (1 + ((e (1:Int).toNat) % 40))) * 65536))))],[.n .i64 d.kind,.n .i64 d.link,.n .i64 d.p.x,.n .i64 d.p.y,.n .i64 d.p.z,.n .i64 d.n.x,.n .i64 d.n.y,.n .i64 d.n.z,.n .i64 (vJJ .i64 ((qLo js ms q n m k d) + (vJJ .i64 ((vJJ .i64 (((e (2:Int).toNat) % 61) - 30)) * 65536)))),.n .i64 (vJJ .i64 ((vJJ .i64 ((qLo js ms q n m k d) + (vJJ .i64 ((vJJ .i64 (((e (2:Int).toNat) % 61) - 30)) * 65536)))) + 65536))]]),[])
 else some (.ow 63 10 (.l [[.n .i64 c.kind,.n .i64 c.link,.n .i64 c.p.x,.n .i64 c.p.y,.n .i64 c.p.z,.n .i64 c.n.x,.n .i64 c.n.y,.n .i64 c.n.z,.n .i64 (vJJ .i64 ((qLo js ms q n m k c) + (vJJ .i64 ((vJJ .i64 (((e (0:Int).toNat) % 61) - 30)) * 65536)))),.n .i64 (vJJ .i64 ((vJJ .i64 ((qLo js ms q n m k c) + (vJJ .i64 ((vJJ .i64 (((e (0:Int).toNat) % 61) - 30)) * 65536)))) + (vJJ .i64 ((vJJ .i64 (1 + ((e (1:Int).toNat) % 40))) * 65536))))],(cp d)]),[]))
 else none)
 else none)
 else bif (g1 [.lf k (fQ q)] && decide (k≤50)) then (bif (g1 [.a [.lf n (fJ js),.lf m (fM ms)],.a (cp d),.lf (bif smQ q k then k else 0) (fB (ptB q))] && decide ((bif smQ q k then k else 0)≤50)) then (bif (qOk js ms q n m k d) then some (.ow 63 10 (.l [(cp c),[.n .i64 d.kind,.n .i64 d.link,.n .i64 d.p.x,.n .i64 d.p.y,.n .i64 d.p.z,.n .i64 d.n.x,.n .i64 d.n.y,.n .i64 d.n.z,.n .i64 (vJJ .i64 ((qLo js ms q n m k d) + (vJJ .i64 ((vJJ .i64 (((e (0:Int).toNat) % 61) - 30)) * 65536)))),.n .i64 (vJJ .i64 ((vJJ .i64 ((qLo js ms q n m k d) + (vJJ .i64 ((vJJ .i64 (((e (0:Int).toNat) % 61) - 30)) * 65536)))) + (vJJ .i64 ((vJJ .i64 (1 + ((e (1:Int).toNat) % 40))) * 65536))))]]),[])
 else some (.ow 63 10 (.l [(cp c),(cp d)]),[]))
 else none)
 else none)
 else none)
 else none)
 else none).trans ?_
 simp only [g1_t,vJQ hk,vJQ (yXZ (q:=q) hk),vZJ,vYV];cases qOk js ms q n m k c <;> cases qOk js ms q n m k d <;> rfl
theorem near2_4 (js:Nat→J) (ms:Nat→Ms) (q:Nat→Int) (n m k:Nat) (c d:Cn) (w:Nat) (e:Nat→Int) (hk:k≤50) (hc:zH Tryz.prog 22 [.a [.lf n (fJ js),.lf m (fM ms)],.n .i64 2,.lf (w + 4) (fQ e)] (.ow 63 10 (.l [cp c,cp d]))):∃ c' d':Cn,zH Tryz.prog 8 [.a [.lf n (fJ js),.lf m (fM ms)],.n .i64 2,.lf (w + 4) (fQ e),.lf k (fQ q)] (.ow 63 10 (.l [cp c',cp d'])):=by
 refine ⟨bif qOk js ms q n m k c then ⟨c.kind,c.link,c.p,c.n,(vJJ .i64 ((qLo js ms q n m k c) + (vJJ .i64 ((vJJ .i64 (((e (0:Int).toNat) % 61) - 30)) * 65536)))),(vJJ .i64 ((vJJ .i64 ((qLo js ms q n m k c) + (vJJ .i64 ((vJJ .i64 (((e (0:Int).toNat) % 61) - 30)) * 65536)))) + (vJJ .i64 ((vJJ .i64 (1 + ((e (1:Int).toNat) % 40))) * 65536))))⟩ else c,bif qOk js ms q n m k d then (bif qOk js ms q n m k c then ⟨d.kind,d.link,d.p,d.n,(vJJ .i64 ((qLo js ms q n m k d) + (vJJ .i64 ((vJJ .i64 (((e (2:Int).toNat) % 61) - 30)) * 65536)))),(vJJ .i64 ((vJJ .i64 ((qLo js ms q n m k d) + (vJJ .i64 ((vJJ .i64 (((e (2:Int).toNat) % 61) - 30)) * 65536)))) + (vJJ .i64 ((vJJ .i64 (1 + ((e (3:Int).toNat) % 40))) * 65536))))⟩ else ⟨d.kind,d.link,d.p,d.n,(vJJ .i64 ((qLo js ms q n m k d) + (vJJ .i64 ((vJJ .i64 (((e (0:Int).toNat) % 61) - 30)) * 65536)))),(vJJ .i64 ((vJJ .i64 ((qLo js ms q n m k d) + (vJJ .i64 ((vJJ .i64 (((e (0:Int).toNat) % 61) - 30)) * 65536)))) + (vJJ .i64 ((vJJ .i64 (1 + ((e (1:Int).toNat) % 40))) * 65536))))⟩) else d,qG (N:=60) yJ yQ (OrL.ok (l:=[(22,o_cr [.a [.lf n (fJ js),.lf m (fM ms)],.n .i64 2,.lf (w + 4) (fQ e)] (.ow 63 10 (.l [cp c,cp d]))),(9,yUH),(13,o_lk [.lf k (fQ q)] (decide (k≤50)) (.v (.lf (bif smQ q k then k else 0) (fB (ptB q))))),(23,o_rv js ms (ptB q) n m (bif smQ q k then k else 0))]) ⟨qZX hc,zGZ,qXG (fun h=>zQY q k (vJZ h)),jHW js ms (ptB q) n m (bif smQ q k then k else 0),trivial⟩) ?_⟩;refine (by kernel_rfl:_=bif (g1 [.a [.lf n (fJ js),.lf m (fM ms)],.n .i64 2,.lf (w + 4) (fQ e)]) then (bif (g1 [.lf k (fQ q)] && decide (k≤50)) then (bif (g1 [.a [.lf n (fJ js),.lf m (fM ms)],.a (cp c),.lf (bif smQ q k then k else 0) (fB (ptB q))] && decide ((bif smQ q k then k else 0)≤50)) then (bif (qOk js ms q n m k c) then (bif (g1 [.lf k (fQ q)] && decide (k≤50)) then (bif (g1 [.a [.lf n (fJ js),.lf m (fM ms)],.a (cp d),.lf (bif smQ q k then k else 0) (fB (ptB q))] && decide ((bif smQ q k then k else 0)≤50)) then (bif (qOk js ms q n m k d) then some (.ow 63 10 (.l [[.n .i64 c.kind,.n .i64 c.link,.n .i64 c.p.x,.n .i64 c.p.y,.n .i64 c.p.z,.n .i64 c.n.x,.n .i64 c.n.y,.n .i64 c.n.z,.n .i64 (vJJ .i64 ((qLo js ms q n m k c) + (vJJ .i64 ((vJJ .i64 (((e (0:Int).toNat) % 61) - 30)) * 65536)))),.n .i64 (vJJ .i64 ((vJJ .i64 ((qLo js ms q n m k c) + (vJJ .i64 ((vJJ .i64 (((e (0:Int).toNat) % 61) - 30)) * 65536)))) + (vJJ .i64 ((vJJ .i64 (1 + ((e (1:Int).toNat) % 40))) * 65536))))],[.n .i64 d.kind,.n .i64 d.link,.n .i64 d.p.x,.n .i64 d.p.y,.n .i64 d.p.z,.n .i64 d.n.x,.n .i64 d.n.y,.n .i64 d.n.z,.n .i64 (vJJ .i64 ((qLo js ms q n m k d) + (vJJ .i64 ((vJJ .i64 (((e (2:Int).toNat) % 61) - 30)) * 65536)))),.n .i64 (vJJ .i64 ((vJJ .i64 ((qLo js ms q n m k d) + (vJJ .i64 ((vJJ .i64 (((e (2:Int).toNat) % 61) - 30)) * 65536)))) + (vJJ .i64 ((vJJ .i64 (1 + ((e (3:Int).toNat) % 40))) * 65536))))]]),[])
 else some (.ow 63 10 (.l [[.n .i64 c.kind,.n .i64 c.link,.n .i64 c.p.x,.n .i64 c.p.y,.n .i64 c.p.z,.n .i64 c.n.x,.n .i64 c.n.y,.n .i64 c.n.z,.n .i64 (vJJ .i64 ((qLo js ms q n m k c) + (vJJ .i64 ((vJJ .i64 (((e (0:Int).toNat) % 61) - 30)) * 65536)))),.n .i64 (vJJ .i64 ((vJJ .i64 ((qLo js ms q n m k c) + (vJJ .i64 ((vJJ .i64 (((e (0:Int).toNat) % 61) - 30)) * 65536)))) + (vJJ .i64 ((vJJ .i64 (1 + ((e (1:Int).toNat) % 40))) * 65536))))],(cp d)]),[]))
 else none)
 else none)
 else bif (g1 [.lf k (fQ q)] && decide (k≤50)) then (bif (g1 [.a [.lf n (fJ js),.lf m (fM ms)],.a (cp d),.lf (bif smQ q k then k else 0) (fB (ptB q))] && decide ((bif smQ q k then k else 0)≤50)) then (bif (qOk js ms q n m k d) then some (.ow 63 10 (.l [(cp c),[.n .i64 d.kind,.n .i64 d.link,.n .i64 d.p.x,.n .i64 d.p.y,.n .i64 d.p.z,.n .i64 d.n.x,.n .i64 d.n.y,.n .i64 d.n.z,.n .i64 (vJJ .i64 ((qLo js ms q n m k d) + (vJJ .i64 ((vJJ .i64 (((e (0:Int).toNat) % 61) - 30)) * 65536)))),.n .i64 (vJJ .i64 ((vJJ .i64 ((qLo js ms q n m k d) + (vJJ .i64 ((vJJ .i64 (((e (0:Int).toNat) % 61) - 30)) * 65536)))) + (vJJ .i64 ((vJJ .i64 (1 + ((e (1:Int).toNat) % 40))) * 65536))))]]),[])
 else some (.ow 63 10 (.l [(cp c),(cp d)]),[]))
 else none)
 else none)
 else none)
 else none)
 else none).trans ?_
 simp only [g1_t,vJQ hk,vJQ (yXZ (q:=q) hk),vZJ,vYV];cases qOk js ms q n m k c <;> cases qOk js ms q n m k d <;> rfl
theorem near2 (js:Nat→J) (ms:Nat→Ms) (q:Nat→Int) (n m k:Nat) (c d:Cn) (w:Nat) (e:Nat→Int) (hk:k≤50) (hc:zH Tryz.prog 22 [.a [.lf n (fJ js),.lf m (fM ms)],.n .i64 2,.lf w (fQ e)] (.ow 63 10 (.l [cp c,cp d]))):∃ c' d':Cn,zH Tryz.prog 8 [.a [.lf n (fJ js),.lf m (fM ms)],.n .i64 2,.lf w (fQ e),.lf k (fQ q)] (.ow 63 10 (.l [cp c',cp d'])):=by
 rcases w with _ | _ | _ | _ | w
 ·exact near2_0 js ms q n m k c d 0 e hk hc
 ·exact near2_1 js ms q n m k c d 1 e hk hc
 ·exact near2_2 js ms q n m k c d 2 e hk hc
 ·exact near2_3 js ms q n m k c d 3 e hk hc
 ·exact near2_4 js ms q n m k c d w e hk hc
def c0:Cn:=⟨0,0,⟨0,0,0⟩,⟨0,0,0⟩,0,0⟩
theorem snd_nearV {l mm a:List Int} {u:Nat} (hu:u≤2) (hm:mm.length≤9223372036854775807):∃ ce:Nat→Cn,zH Tryz.prog 8 [.a [.lf (nJ l 0) (fJ (jaOf l)),.lf (nM l 0) (fM (maOf l))],.n .i64 u,zJJ mm,.lf (nJ l 0) (fQ (cqOf l a))] (.v (.lf u (fC ce))):=by
 have hb:=nJ_b l 0;have hc:=snd_consO (l:=l) (n:=u) (by omega) hm;have hlen:(jVX l mm u).length=u:=jQJ _ _ _ _;have hc':=qZK (ps':=[.a [.lf (nJ l 0) (fJ (jaOf l)),.lf (nM l 0) (fM (maOf l))],.n .i64 u,.lf mm.length (fQ (iqOf mm))]) (fun _ _ _=>Sames.al (ys:=[_,_,_]) ⟨Same.refl _,Same.refl _,ints_same' mm,trivial⟩) hc;have tr:∀ {r:Ret},zH Tryz.prog 8 [.a [.lf (nJ l 0) (fJ (jaOf l)),.lf (nM l 0) (fM (maOf l))],.n .i64 u,.lf mm.length (fQ (iqOf mm)),.lf (nJ l 0) (fQ (cqOf l a))] r→zH Tryz.prog 8 [.a [.lf (nJ l 0) (fJ (jaOf l)),.lf (nM l 0) (fM (maOf l))],.n .i64 u,zJJ mm,.lf (nJ l 0) (fQ (cqOf l a))] r:=fun h=>qZK (fun _ _ _=>Sames.al (ys:=[_,_,_,_]) ⟨Same.refl _,Same.refl _,yQH mm,Same.refl _,trivial⟩) h
 match u,hu,jVX l mm u,hlen,hc',@tr with
 | 0,_,[],_,hc',tr=>exact ⟨fun _=>c0,qQW (Same.lf rfl) (zGK (tr (near0 (jaOf l) (maOf l) (cqOf l a) (nJ l 0) (nM l 0) (nJ l 0) c0 c0 mm.length (iqOf mm) (by omega) hc')))⟩
 | 1,_,[c],_,hc',tr =>
  obtain ⟨c',h⟩:=snd_near (jaOf l) (maOf l) (cqOf l a) (nJ l 0) (nM l 0) (nJ l 0) c mm.length (iqOf mm) (by omega) hc';exact ⟨fun _=>c',qQW (Same.lf rfl) (zGK (tr h))⟩
 | 2,_,[c,d],_,hc',tr =>
  obtain ⟨c',d',h⟩:=near2 (jaOf l) (maOf l) (cqOf l a) (nJ l 0) (nM l 0) (nJ l 0) c d mm.length (iqOf mm) (by omega) hc';exact ⟨fun i=>match i with | 0=>c' | _=>d',qQW (Same.lf rfl) (zGK (tr h))⟩
end Go.Proofs.YtmffoiemmlcmfaaGreat.Nz
namespace Go.Proofs.YtmffoiemmlcmfaaGreat.Nh3
open Go.Rx Rt Go.Sx Go.RowKit Od Ov Pc Na Nb Nc Nd Nx Nf Ng Nj Nl Nm Nn No Nq Nr Ns Nu Nv Nw Ny Nz
def isIn (js:Nat→J) (ms:Nat→Ms) (n m:Nat) (ps:List PV):Prop:=∃ (q:Nat→Int) (k:Nat),ps=[.a [.lf n (fJ js),.lf m (fM ms)],.lf k (fQ q)]
noncomputable def o_in (js:Nat→J) (ms:Nat→Ms) (n m:Nat):List PV→Option (Bool × Ret):=fun ps=>match ps with
 | [r,.lf k f]=>some (gP (isIn js ms n m [r,.lf k f]),.v (.b (qIn js ms (unFQ f) n m k)))
 | _=>none
theorem ok_in (js:Nat→J) (ms:Nat→Ms) (n m:Nat):zW Tryz.prog 75 (o_in js ms n m):=by
 intro ps r hh;unfold o_in at hh;split at hh
 ·simp only [vQZ,vQY] at hh;obtain ⟨hg,rfl⟩:=hh;obtain ⟨q,k,e⟩:=qJH hg;simp only [List.cons.injEq,PV.lf.injEq,and_true] at e;obtain ⟨rfl,rfl,rfl⟩:=e;exact jYW js ms _ n m _
 ·cases hh
end Go.Proofs.YtmffoiemmlcmfaaGreat.Nh3
namespace Go.Proofs.YtmffoiemmlcmfaaGreat.Ea
open Go.Rx Rt Go.Sx Go.RowKit Od Ov Pc Na Nb Nc Nd Nx Nf Ng Nj Nl Nm Nn No Nq Nr Ns Nu Nv Nw Ny Nz Nh3
noncomputable def kUU:List PV→Option (Bool × Ret):=fun ps=>match ps with
 | [.lf k f]=>some (decide (k≤50) && gFQ f,.v (.b (smQ (unFQ f) k)))
 | _=>none
theorem ok_smp:zW Tryz.prog 57 kUU:=by
 intro ps r hh;unfold kUU at hh;split at hh
 ·rename_i k f;simp only [vQZ,vQY,vQJ] at hh;obtain ⟨⟨hk,hf⟩,rfl⟩:=hh
  have:=snd_sm (unFQ f) k (vJZ hk)
  rw [← yHG hf] at this;exact this
 ·cases hh
theorem ok_smr:zW Tryz.prog 36 kUU:=by
 intro ps r hh;unfold kUU at hh;split at hh
 ·rename_i k f;simp only [vQZ,vQY,vQJ] at hh;obtain ⟨⟨hk,hf⟩,rfl⟩:=hh
  have:=snd_rsm (unFQ f) k (vJZ hk)
  rw [← yHG hf] at this;exact this
 ·cases hh
def dsS (js:Nat→J) (q u:Nat→Int) (n:Nat):Int:=zWY (fun (i:Nat) (s:Int)=>vJJ .i64 (s + vJJ .i64 ((js i).weight * max (vJJ .i64 (u i - q i)) (vJJ .i64 (q i - u i))))) n 0 0
def dsQ (js:Nat→J) (ms:Nat→Ms) (q u:Nat→Int) (n m k l:Nat):Int:=bif decide (rErr js ms n m=0) && decide (k=n) && decide (l=n) && smQ q k && smQ u l then dsS js q u n else 0
noncomputable def orDi (js:Nat→J) (ms:Nat→Ms) (q u:Nat→Int) (n m k l:Nat):OrL:=[(57,kUU),(50,o_cr [.a [.lf n (fJ js),.lf m (fM ms)]] (.v (.n .i64 (rErr js ms n m))))]
noncomputable def hDi (js:Nat→J) (ms:Nat→Ms) (q u:Nat→Int) (n m k l:Nat) (i:Int) (s:Int):St:=⟨[(1,.v (.lf k (fQ q))),(2,.v (.lf l (fQ u))),(8,.v (.n .i64 s)),(40,.v (.lf n (fJ js))),(41,.v (.n .i64 (n:Int))),(42,.v (.n .i64 i))],[]⟩
set_option maxRecDepth 100000 in
theorem rdDi (G:St→Option (Ret × Mem)) (K:Cont) (js:Nat→J) (ms:Nat→Ms) (q u:Nat→Int) (n m k l:Nat) (i:Int) (s:Int):qZW 60 (cxF Tf (OrL.k (orDi js ms q u n m k l)) 60 32 (ntmF Tf 32)) (ckF Tf (OrL.k (orDi js ms q u n m k l)) 60) (zZ []) (qY Tf 32 [0,1,0,1,1,1,1]) [0,1,0,1,1,1,1] (Tf.hint 32 (zY (qY Tf 32 [0,1,0,1,1,1,1]))) K G (hDi js ms q u n m k l i s) =
 (bif (decide (i < (n:Int))) then (bif (inB i n) then (bif (inB i l) then (bif (inB i k) then (bif (inB i k) then (bif (inB i l) then (G (hDi js ms q u n m k l (vJJ .i64 (i + 1)) (vJJ .i64 (s + (vJJ .i64 ((js (i).toNat).weight * (max (vJJ .i64 ((u (i).toNat) - (q (i).toNat))) (vJJ .i64 ((q (i).toNat) - (u (i).toNat))))))))))
 else none)
 else none)
 else none)
 else none)
 else none)
 else (K (.exit 0) ⟨[(8,.v (.n .i64 s))],[]⟩)):=by kernel_rfl
theorem lpDi (K:Cont) (js:Nat→J) (ms:Nat→Ms) (q u:Nat→Int) (n m k l:Nat) (hn:n≤10) (hk:k=n) (hl:l=n):LFL 60 (cxF Tf (OrL.k (orDi js ms q u n m k l)) 60 32 (ntmF Tf 32)) (ckF Tf (OrL.k (orDi js ms q u n m k l)) 60) (zZ []) (qY Tf 32 [0,1,0,1,1,1,1]) [0,1,0,1,1,1,1] (Tf.hint 32 (zY (qY Tf 32 [0,1,0,1,1,1,1]))) K 60 (hDi js ms q u n m k l 0 0)=(K (.exit 0) ⟨[(8,.v (.n .i64 (zWY (fun (i:Nat) (s:Int)=>vJJ .i64 (s + vJJ .i64 ((js i).weight * max (vJJ .i64 (u i - q i)) (vJJ .i64 (q i - u i))))) n 0 0)))],[]⟩):=by
 refine (qWK (L:=LFL 60 (cxF Tf (OrL.k (orDi js ms q u n m k l)) 60 32 (ntmF Tf 32)) (ckF Tf (OrL.k (orDi js ms q u n m k l)) 60) (zZ []) (qY Tf 32 [0,1,0,1,1,1,1]) [0,1,0,1,1,1,1] (Tf.hint 32 (zY (qY Tf 32 [0,1,0,1,1,1,1]))) K) (stp:=qZW 60 (cxF Tf (OrL.k (orDi js ms q u n m k l)) 60 32 (ntmF Tf 32)) (ckF Tf (OrL.k (orDi js ms q u n m k l)) 60) (zZ []) (qY Tf 32 [0,1,0,1,1,1,1]) [0,1,0,1,1,1,1] (Tf.hint 32 (zY (qY Tf 32 [0,1,0,1,1,1,1]))) K) (fun _ _=>rfl) (fun (i:Nat) (s:Int)=>hDi js ms q u n m k l (i:Int) s) (fun _ _=>True) (fun _ _=>true) (fun (i:Nat) (s:Int)=>vJJ .i64 (s + vJJ .i64 ((js i).weight * max (vJJ .i64 (u i - q i)) (vJJ .i64 (q i - u i))))) (c:=n) (fun s=>(K (.exit 0) ⟨[(8,.v (.n .i64 s))],[]⟩)) (fun _ _=>none) (fun G i s hi _ => ?_) (fun _ _ _ _ _=>trivial) (fun G s _ => ?_) n 0 60 0 (by omega) (by omega) trivial).trans (zZX n 0 _)
 ·refine (rdDi G K js ms q u n m k l i s).trans ?_;simp only [vJQ (show (i:Int) < (n:Int) by omega),qQQ (show i < 1000000 by omega),yW (show i < n by omega),yW (show i < k by omega),yW (show i < l by omega),toN,vYV]
  all_goals rfl
 ·refine (rdDi G K js ms q u n m k l n s).trans ?_;rw [vYH (show ¬ (n:Int) < (n:Int) by omega)];rfl
noncomputable def uQK (js:Nat→J) (ms:Nat→Ms) (q u:Nat→Int) (n m k l:Nat):List (List Nat × qKX):=[([0,1,0,1,1,1,1],sumF (fun _:Unit=>(hDi js ms q u n m k l 0 0)) (fun _=>()) (fun _ K=>(bif (decide (n≤10) && decide (k=n) && decide (l=n)) then (K (.exit 0) ⟨[(8,.v (.n .i64 (zWY (fun (i:Nat) (s:Int)=>vJJ .i64 (s + vJJ .i64 ((js i).weight * max (vJJ .i64 (u i - q i)) (vJJ .i64 (q i - u i))))) n 0 0)))],[]⟩) else none)))]
set_option maxRecDepth 100000 in
theorem pxdis (js:Nat→J) (ms:Nat→Ms) (q u:Nat→Int) (n m k l:Nat):qYH Tf (OrL.k (orDi js ms q u n m k l)) (zZ (uQK js ms q u n m k l)) 60 32 [.a [.lf n (fJ js),.lf m (fM ms)],.lf k (fQ q),.lf l (fQ u)] =
 (bif (!decide ((k:Int)=(n:Int))) then some (.v (.n .i64 0),[])
 else (bif (!decide ((l:Int)=(n:Int))) then some (.v (.n .i64 0),[])
 else (bif (decide (k≤50) && gFQ (fQ q)) then (bif (smQ q k) then (bif (decide (l≤50) && gFQ (fQ u)) then (bif (smQ u l) then (bif (g1 [.a [.lf n (fJ js),.lf m (fM ms)]]) then (bif (!decide ((rErr js ms n m)=0)) then some (.v (.n .i64 0),[])
 else (bif (gSt (hDi js ms q u n m k l 0 0) (hDi js ms q u n m k l 0 0)) then (bif (decide (n≤10) && decide (k=n) && decide (l=n)) then some (.v (.n .i64 (zWY (fun (i:Nat) (s:Int)=>vJJ .i64 (s + vJJ .i64 ((js i).weight * max (vJJ .i64 (u i - q i)) (vJJ .i64 (q i - u i))))) n 0 0)),[])
 else none)
 else none))
 else none)
 else some (.v (.n .i64 0),[]))
 else none)
 else some (.v (.n .i64 0),[]))
 else none))):=by kernel_rfl
theorem snd_dis (js:Nat→J) (ms:Nat→Ms) (q u:Nat→Int) (n m k l:Nat) (hk0:k≤50) (hl0:l≤50):zH Tryz.prog 32 [.a [.lf n (fJ js),.lf m (fM ms)],.lf k (fQ q),.lf l (fQ u)] (.v (.n .i64 (dsQ js ms q u n m k l))):=by
 refine kX (N:=60) (LO:=zZ (uQK js ms q u n m k l)) qVU yQ (OrL.ok (l:=(orDi js ms q u n m k l)) ⟨ok_smp,qZX (yVQ js ms n m),trivial⟩) (fun p S hp => ?_) ?_
 ·refine kV (L:=qY Tf 32) (l:=(uQK js ms q u n m k l)) (show AllP _ (uQK js ms q u n m k l) from ⟨?_,trivial⟩) p S hp
  ·dsimp only;refine qZH (T:=Tf) (ok:=(OrL.k (orDi js ms q u n m k l))) (f:=32) (LO:=zZ []) (p:=[0,1,0,1,1,1,1]) qJG ?_;intro _ K r hr;obtain ⟨hg,hr⟩:=qH hr;simp only [vQJ,decide_eq_true_eq] at hg;obtain ⟨⟨hn,hk⟩,hl⟩:=hg;exact (lpDi K js ms q u n m k l hn hk hl).trans hr
 ·refine (pxdis js ms q u n m k l).trans ?_;simp only [g1_t,(zXQ (q:=q) rfl).1,(zXQ (q:=u) rfl).1,vJQ hk0,vJQ hl0,vZJ,vYV,yG];unfold dsQ dsS;by_cases hr:rErr js ms n m=0
  ·have h10:=qXU hr;by_cases h1:k=n
   ·by_cases h2:l=n
    ·subst h1; subst h2;simp only [hr,decide_true,Bool.not_true,vZH,Bool.and_true,vYV,vYG,vJQ (show l≤10 by omega)];cases smQ q l <;> cases smQ u l <;> rfl
    ·simp only [vJQ hr,vJQ h1,vYH h2,vJQ (show (k:Int)=(n:Int) by omega),vYH (show ¬ (l:Int)=(n:Int) by omega),vYH (show ¬ (l:Int)=(k:Int) by omega),Bool.and_false,Bool.false_and,Bool.not_true,Bool.not_false,vYV,vYG]
     all_goals (cases smQ q k <;> cases smQ u l <;> rfl)
   ·simp only [vJQ hr,vYH h1,vYH (show ¬ (k:Int)=(n:Int) by omega),Bool.and_false,Bool.false_and,Bool.not_false,Bool.not_true,vYV,vYG]
    all_goals (cases smQ q k <;> cases smQ u l <;> rfl)
  ·simp only [vYH hr,Bool.false_and,Bool.not_false,vYV,vYG,Bool.cond_self]
   all_goals (cases decide ((k:Int)=(n:Int)) <;> cases decide ((l:Int)=(n:Int)) <;> cases smQ q k <;> cases smQ u l <;> rfl)
noncomputable def orDr (js:Nat→J) (ms:Nat→Ms) (q u:Nat→Int) (n m k l:Nat):OrL:=[(36,kUU),(37,o_cr [.a [.lf n (fJ js),.lf m (fM ms)]] (.v (.n .i64 (rErr js ms n m))))]
noncomputable def hDr (js:Nat→J) (ms:Nat→Ms) (q u:Nat→Int) (n m k l:Nat) (i:Int) (s:Int):St:=⟨[(1,.v (.lf k (fQ q))),(2,.v (.lf l (fQ u))),(3,.p 3 0),(7,.v (.n .i64 s)),(8,.v (.n .i64 i))],[(3,.blk [.v (.lf n (fJ js)),.v (.lf m (fM ms))])]⟩
set_option maxRecDepth 100000 in
theorem rdDr (G:St→Option (Ret × Mem)) (K:Cont) (js:Nat→J) (ms:Nat→Ms) (q u:Nat→Int) (n m k l:Nat) (i:Int) (s:Int):qZW 60 (cxF Tf (OrL.k (orDr js ms q u n m k l)) 60 15 (ntmF Tf 15)) (ckF Tf (OrL.k (orDr js ms q u n m k l)) 60) (zZ []) (qY Tf 15 [0,1,0,1,1,1]) [0,1,0,1,1,1] (Tf.hint 15 (zY (qY Tf 15 [0,1,0,1,1,1]))) K G (hDr js ms q u n m k l i s) =
 (bif (decide (i < (k:Int))) then (bif (inB i n) then (bif (inB i k) then (bif (inB i l) then (bif (inB i l) then (bif (inB i k) then (G (hDr js ms q u n m k l (vJJ .i64 (i + 1)) (vJJ .i64 (s + (vJJ .i64 ((js (i).toNat).weight * (max (vJJ .i64 ((q (i).toNat) - (u (i).toNat))) (vJJ .i64 ((u (i).toNat) - (q (i).toNat))))))))))
 else none)
 else none)
 else none)
 else none)
 else none)
 else (K (.exit 0) ⟨[(7,.v (.n .i64 s))],[]⟩)):=by kernel_rfl
theorem lpDr (K:Cont) (js:Nat→J) (ms:Nat→Ms) (q u:Nat→Int) (n m k l:Nat) (hn:n≤10) (hk:k=n) (hl:l=n):LFL 60 (cxF Tf (OrL.k (orDr js ms q u n m k l)) 60 15 (ntmF Tf 15)) (ckF Tf (OrL.k (orDr js ms q u n m k l)) 60) (zZ []) (qY Tf 15 [0,1,0,1,1,1]) [0,1,0,1,1,1] (Tf.hint 15 (zY (qY Tf 15 [0,1,0,1,1,1]))) K 60 (hDr js ms q u n m k l 0 0)=(K (.exit 0) ⟨[(7,.v (.n .i64 (zWY (fun (i:Nat) (s:Int)=>vJJ .i64 (s + vJJ .i64 ((js i).weight * max (vJJ .i64 (u i - q i)) (vJJ .i64 (q i - u i))))) n 0 0)))],[]⟩):=by
 refine (qWK (L:=LFL 60 (cxF Tf (OrL.k (orDr js ms q u n m k l)) 60 15 (ntmF Tf 15)) (ckF Tf (OrL.k (orDr js ms q u n m k l)) 60) (zZ []) (qY Tf 15 [0,1,0,1,1,1]) [0,1,0,1,1,1] (Tf.hint 15 (zY (qY Tf 15 [0,1,0,1,1,1]))) K) (stp:=qZW 60 (cxF Tf (OrL.k (orDr js ms q u n m k l)) 60 15 (ntmF Tf 15)) (ckF Tf (OrL.k (orDr js ms q u n m k l)) 60) (zZ []) (qY Tf 15 [0,1,0,1,1,1]) [0,1,0,1,1,1] (Tf.hint 15 (zY (qY Tf 15 [0,1,0,1,1,1]))) K) (fun _ _=>rfl) (fun (i:Nat) (s:Int)=>hDr js ms q u n m k l (i:Int) s) (fun _ _=>True) (fun _ _=>true) (fun (i:Nat) (s:Int)=>vJJ .i64 (s + vJJ .i64 ((js i).weight * max (vJJ .i64 (u i - q i)) (vJJ .i64 (q i - u i))))) (c:=n) (fun s=>(K (.exit 0) ⟨[(7,.v (.n .i64 s))],[]⟩)) (fun _ _=>none) (fun G i s hi _ => ?_) (fun _ _ _ _ _=>trivial) (fun G s _ => ?_) n 0 60 0 (by omega) (by omega) trivial).trans (zZX n 0 _)
 ·refine (rdDr G K js ms q u n m k l i s).trans ?_;simp only [vJQ (show (i:Int) < (n:Int) by omega),qQQ (show i < 1000000 by omega),yW (show i < n by omega),yW (show i < k by omega),yW (show i < l by omega),toN,vYV,vJQ (show (i:Int) < (k:Int) by omega)];rw [Int.max_comm (vJJ .i64 (q i - u i))]
  all_goals rfl
 ·refine (rdDr G K js ms q u n m k l n s).trans ?_;rw [vYH (show ¬ (n:Int) < (k:Int) by omega)];rfl
noncomputable def kJW (js:Nat→J) (ms:Nat→Ms) (q u:Nat→Int) (n m k l:Nat):List (List Nat × qKX):=[([0,1,0,1,1,1],sumF (fun _:Unit=>(hDr js ms q u n m k l 0 0)) (fun _=>()) (fun _ K=>(bif (decide (n≤10) && decide (k=n) && decide (l=n)) then (K (.exit 0) ⟨[(7,.v (.n .i64 (zWY (fun (i:Nat) (s:Int)=>vJJ .i64 (s + vJJ .i64 ((js i).weight * max (vJJ .i64 (u i - q i)) (vJJ .i64 (q i - u i))))) n 0 0)))],[]⟩) else none)))]
set_option maxRecDepth 100000 in
theorem pxrdis (js:Nat→J) (ms:Nat→Ms) (q u:Nat→Int) (n m k l:Nat):qYH Tf (OrL.k (orDr js ms q u n m k l)) (zZ (kJW js ms q u n m k l)) 60 15 [.a [.lf n (fJ js),.lf m (fM ms)],.lf k (fQ q),.lf l (fQ u)] =
 (bif (g1 [.a [.lf n (fJ js),.lf m (fM ms)]]) then (bif (!decide ((rErr js ms n m)=0)) then some (.v (.n .i64 0),[])
 else (bif (decide (k≤50) && gFQ (fQ q)) then (bif (smQ q k) then (bif (decide (l≤50) && gFQ (fQ u)) then (bif (smQ u l) then (bif (!decide ((k:Int)=(n:Int))) then some (.v (.n .i64 0),[])
 else (bif (!decide ((l:Int)=(k:Int))) then some (.v (.n .i64 0),[])
 else (bif (gSt (hDr js ms q u n m k l 0 0) (hDr js ms q u n m k l 0 0)) then (bif (decide (n≤10) && decide (k=n) && decide (l=n)) then some (.v (.n .i64 (zWY (fun (i:Nat) (s:Int)=>vJJ .i64 (s + vJJ .i64 ((js i).weight * max (vJJ .i64 (u i - q i)) (vJJ .i64 (q i - u i))))) n 0 0)),[])
 else none)
 else none)))
 else some (.v (.n .i64 0),[]))
 else none)
 else some (.v (.n .i64 0),[]))
 else none))
 else none):=by kernel_rfl
theorem snd_rdis (js:Nat→J) (ms:Nat→Ms) (q u:Nat→Int) (n m k l:Nat) (hk0:k≤50) (hl0:l≤50):zH Tryz.prog 15 [.a [.lf n (fJ js),.lf m (fM ms)],.lf k (fQ q),.lf l (fQ u)] (.v (.n .i64 (dsQ js ms q u n m k l))):=by
 refine kX (N:=60) (LO:=zZ (kJW js ms q u n m k l)) qVU yQ (OrL.ok (l:=(orDr js ms q u n m k l)) ⟨ok_smr,qZX (yWH js ms n m),trivial⟩) (fun p S hp => ?_) ?_
 ·refine kV (L:=qY Tf 15) (l:=(kJW js ms q u n m k l)) (show AllP _ (kJW js ms q u n m k l) from ⟨?_,trivial⟩) p S hp
  ·dsimp only;refine qZH (T:=Tf) (ok:=(OrL.k (orDr js ms q u n m k l))) (f:=15) (LO:=zZ []) (p:=[0,1,0,1,1,1]) qJG ?_;intro _ K r hr;obtain ⟨hg,hr⟩:=qH hr;simp only [vQJ,decide_eq_true_eq] at hg;obtain ⟨⟨hn,hk⟩,hl⟩:=hg;exact (lpDr K js ms q u n m k l hn hk hl).trans hr
 ·refine (pxrdis js ms q u n m k l).trans ?_;simp only [g1_t,(zXQ (q:=q) rfl).1,(zXQ (q:=u) rfl).1,vJQ hk0,vJQ hl0,vZJ,vYV,yG];unfold dsQ dsS;by_cases hr:rErr js ms n m=0
  ·have h10:=qXU hr;by_cases h1:k=n
   ·by_cases h2:l=n
    ·subst h1; subst h2;simp only [hr,decide_true,Bool.not_true,vZH,Bool.and_true,vYV,vYG,vJQ (show l≤10 by omega)];cases smQ q l <;> cases smQ u l <;> rfl
    ·simp only [vJQ hr,vJQ h1,vYH h2,vJQ (show (k:Int)=(n:Int) by omega),vYH (show ¬ (l:Int)=(n:Int) by omega),vYH (show ¬ (l:Int)=(k:Int) by omega),Bool.and_false,Bool.false_and,Bool.not_true,Bool.not_false,vYV,vYG]
     all_goals (cases smQ q k <;> cases smQ u l <;> rfl)
   ·simp only [vJQ hr,vYH h1,vYH (show ¬ (k:Int)=(n:Int) by omega),Bool.and_false,Bool.false_and,Bool.not_false,Bool.not_true,vYV,vYG]
    all_goals (cases smQ q k <;> cases smQ u l <;> rfl)
  ·simp only [vYH hr,Bool.false_and,Bool.not_false,vYV,vYG,Bool.cond_self]
   all_goals (cases decide ((k:Int)=(n:Int)) <;> cases decide ((l:Int)=(n:Int)) <;> cases smQ q k <;> cases smQ u l <;> rfl)
noncomputable def uYK:List PV→Option (Bool × Ret):=fun ps=>match ps with
 | [.lf k f]=>some (decide (1≤k∧k≤10) && gFQ f,.v (.lf k f))
 | _=>none
theorem ok_clq:zW Tryz.prog 31 uYK:=by
 intro ps r hh;unfold uYK at hh;split at hh
 ·rename_i k f;simp only [vQZ,vQY,vQJ] at hh;obtain ⟨⟨hk,hf⟩,rfl⟩:=hh
  have:=snd_cl2 (unFQ f) k (vJZ hk)
  rw [← yHG hf] at this;exact this
 ·cases hh
noncomputable def orTw (q u:Nat→Int) (k:Nat) (st d:Int):OrL:=[(31,o_lk [.lf k (fQ u)] (decide (1≤k∧k≤10)) (.ow 2 1 (.fo k (fQ u))))]
noncomputable def hTw (q u:Nat→Int) (k:Nat) (st d:Int) (i:Int) (f:Nat→Int):St:=⟨[(0,.v (.lf k (fQ q))),(1,.v (.lf k (fQ u))),(2,.v (.n .i64 st)),(3,.v (.n .i64 d)),(9,.o 18),(20,.v (.n .i64 ((k:Int).toNat:Int))),(21,.v (.n .i64 i))],[(18,.reg 2 1 (.fo (k:Int).toNat (fun v=>[.n .i64 (f v)])))]⟩
set_option maxRecDepth 100000 in
theorem rdTw (G:St→Option (Ret × Mem)) (K:Cont) (q u:Nat→Int) (k:Nat) (st d:Int) (i:Int) (f:Nat→Int):qZW 60 (cxF Tf (OrL.k (orTw q u k st d)) 60 33 (ntmF Tf 33)) (ckF Tf (OrL.k (orTw q u k st d)) 60) (zZ []) (qY Tf 33 [0,1,0,1,1,1]) [0,1,0,1,1,1] (Tf.hint 33 (zY (qY Tf 33 [0,1,0,1,1,1]))) K G (hTw q u k st d i f) =
 (bif (decide (i < ((k:Int).toNat:Int))) then (bif (inB i k) then (bif (inB i k) then (bif (inB i k) then (bif (decide (d=0)) then none
 else (bif (inB i (k:Int).toNat) then (G (hTw q u k st d (vJJ .i64 (i + 1)) (fun v=>(bif (Nat.beq v (i).toNat) then (vJJ .i64 ((q (i).toNat) + (vJJ .i64 ((vJJ .i64 ((vJJ .i64 ((u (i).toNat) - (q (i).toNat))) * st)).tdiv d)))) else (f v)))))
 else none))
 else none)
 else none)
 else none)
 else (K (.exit 0) ⟨[(9,.o 18)],[(18,.reg 2 1 (.fo (k:Int).toNat (fun v=>[.n .i64 (f v)])))]⟩)):=by kernel_rfl
theorem lpTw (K:Cont) (q u:Nat→Int) (k:Nat) (st d:Int) (hk:1≤k∧k≤10) (hd:¬ d=0):LFL 60 (cxF Tf (OrL.k (orTw q u k st d)) 60 33 (ntmF Tf 33)) (ckF Tf (OrL.k (orTw q u k st d)) 60) (zZ []) (qY Tf 33 [0,1,0,1,1,1]) [0,1,0,1,1,1] (Tf.hint 33 (zY (qY Tf 33 [0,1,0,1,1,1]))) K 60 (hTw q u k st d 0 (fun v=>0))=(K (.exit 0) ⟨[(9,.o 18)],[(18,.reg 2 1 (.fo (k:Int).toNat (fun v=>[.n .i64 ((qZG (fun i:Nat=>(vJJ .i64 (q i + vJJ .i64 ((vJJ .i64 (vJJ .i64 (u i - q i) * st)).tdiv d)))) k 0 (fun v=>0)) v)])))]⟩):=by
 refine (qWK (L:=LFL 60 (cxF Tf (OrL.k (orTw q u k st d)) 60 33 (ntmF Tf 33)) (ckF Tf (OrL.k (orTw q u k st d)) 60) (zZ []) (qY Tf 33 [0,1,0,1,1,1]) [0,1,0,1,1,1] (Tf.hint 33 (zY (qY Tf 33 [0,1,0,1,1,1]))) K) (stp:=qZW 60 (cxF Tf (OrL.k (orTw q u k st d)) 60 33 (ntmF Tf 33)) (ckF Tf (OrL.k (orTw q u k st d)) 60) (zZ []) (qY Tf 33 [0,1,0,1,1,1]) [0,1,0,1,1,1] (Tf.hint 33 (zY (qY Tf 33 [0,1,0,1,1,1]))) K) (fun _ _=>rfl) (fun (i:Nat) (t:(Nat→Int))=>hTw q u k st d (i:Int) t) (fun _ _=>True) (fun _ _=>true) (fun (i:Nat) t=>(fun v=>bif Nat.beq v i then (vJJ .i64 (q i + vJJ .i64 ((vJJ .i64 (vJJ .i64 (u i - q i) * st)).tdiv d))) else t v)) (c:=k) (fun t=>(K (.exit 0) ⟨[(9,.o 18)],[(18,.reg 2 1 (.fo (k:Int).toNat (fun v=>[.n .i64 (t v)])))]⟩)) (fun _ _=>none) (fun G i t hi _ => ?_) (fun _ _ _ _ _=>trivial) (fun G t _ => ?_) k 0 60 (fun v=>0) (by omega) (by omega) trivial).trans (zJW k 0 _)
 ·refine (rdTw G K q u k st d i t).trans ?_;simp only [vJQ (show (i:Int) < (k:Int) by omega),qQQ (show i < 1000000 by omega),yW (show i < k by omega),vYH hd,toN,Int.toNat_natCast,vYV,vYG]
  all_goals rfl
 ·refine (rdTw G K q u k st d k t).trans ?_;simp only [Int.toNat_natCast,vYH (show ¬ (k:Int) < (k:Int) by omega),vYG]
def twX (q u:Nat→Int) (k:Nat) (st d:Int):Nat→Int:=(qZG (fun i:Nat=>(vJJ .i64 (q i + vJJ .i64 ((vJJ .i64 (vJJ .i64 (u i - q i) * st)).tdiv d)))) k 0 (fun v=>0))
def twQ (q u:Nat→Int) (k:Nat) (st d:Int):Nat→Int:=bif decide (d≤st) then u else fun i=>(vJJ .i64 (q i + vJJ .i64 ((vJJ .i64 (vJJ .i64 (u i - q i) * st)).tdiv d)))
noncomputable def kHH (q u:Nat→Int) (k:Nat) (st d:Int):List (List Nat × qKX):=[([0,1,0,1,1,1],sumF (fun _:Unit=>(hTw q u k st d 0 (fun v=>0))) (fun _=>()) (fun _ K=>(bif (decide (1≤k∧k≤10) && !decide (d=0)) then (K (.exit 0) ⟨[(9,.o 18)],[(18,.reg 2 1 (.fo (k:Int).toNat (fun v=>[.n .i64 ((qZG (fun i:Nat=>(vJJ .i64 (q i + vJJ .i64 ((vJJ .i64 (vJJ .i64 (u i - q i) * st)).tdiv d)))) k 0 (fun v=>0)) v)])))]⟩) else none)))]
set_option maxRecDepth 100000 in
theorem pxtw0 (q u:Nat→Int) (k:Nat) (st d:Int):qYH Tf (OrL.k (orTw q u k st d)) (zZ (kHH q u k st d)) 60 33 [.lf k (fQ q),.lf k (fQ u),.n .i64 st,.n .i64 d] =
 (bif (decide (d≤st)) then (bif (g1 [.lf k (fQ u)] && decide (1≤k∧k≤10)) then some (.v (.lf k (fQ u)),[])
 else none)
 else (bif (decide (0≤(k:Int))) then (bif (decide ((k:Int)≤(k:Int))) then (bif (decide ((k:Int)≤1000000)) then (bif (gSt (hTw q u k st d 0 (fun v=>0)) (hTw q u k st d 0 (fun v=>0))) then (bif (decide (1≤k∧k≤10) && !decide (d=0)) then some (.ow 2 1 (.fo (k:Int).toNat (fQ (twX q u k st d))),[])
 else none)
 else none)
 else none)
 else none)
 else none)):=by kernel_rfl
theorem snd_tw0 (q u:Nat→Int) (k:Nat) (st d:Int) (hk:1≤k∧k≤10) (hd:¬ d=0):zH Tryz.prog 33 [.lf k (fQ q),.lf k (fQ u),.n .i64 st,.n .i64 d] (bif decide (d≤st) then .v (.lf k (fQ u)) else .ow 2 1 (.fo k (fQ (twX q u k st d)))):=by
 refine kX (N:=60) (LO:=zZ (kHH q u k st d)) qVU yQ (OrL.ok (l:=(orTw q u k st d)) ⟨qXG (fun h=>zHV u k (vJZ h)),trivial⟩) (fun p S hp => ?_) ?_
 ·refine kV (L:=qY Tf 33) (l:=(kHH q u k st d)) (show AllP _ (kHH q u k st d) from ⟨?_,trivial⟩) p S hp
  ·dsimp only;refine qZH (T:=Tf) (ok:=(OrL.k (orTw q u k st d))) (f:=33) (LO:=zZ []) (p:=[0,1,0,1,1,1]) qJG ?_;intro _ K r hr;obtain ⟨hg,hr⟩:=qH hr;simp only [vQJ,Bool.not_eq_true',decide_eq_true_eq,decide_eq_false_iff_not] at hg;obtain ⟨hk,hd⟩:=hg;exact (lpTw K q u k st d hk hd).trans hr
 ·refine (pxtw0 q u k st d).trans ?_;simp only [g1_t,yG,(zXQ (q:=u) rfl).1,vJQ hk,vYH hd,vJQ (show (0:Int)≤(k:Int) by omega),vJQ (show (k:Int)≤(k:Int) by omega),vJQ (show (k:Int)≤1000000 by omega),Int.toNat_natCast,vZJ,Bool.not_false,vYV];cases decide (d≤st) <;> rfl
theorem snd_tw (q u:Nat→Int) (k:Nat) (st d:Int) (hk:1≤k∧k≤10) (hd:¬ d=0):zH Tryz.prog 33 [.lf k (fQ q),.lf k (fQ u),.n .i64 st,.n .i64 d] (.v (.lf k (fQ (twQ q u k st d)))):=by
 have h:=snd_tw0 q u k st d hk hd;unfold twQ;cases e:decide (d≤st) with
 | true=>rw [e] at h; exact h
 | false =>
  rw [e] at h;refine qQW (zQJ fun j hj => ?_) (jYV h);show [PV.n .i64 _]=[PV.n .i64 _];simp only [vYG];unfold twX;rw [zZH hj]
end Go.Proofs.YtmffoiemmlcmfaaGreat.Ea
namespace Go.Proofs.YtmffoiemmlcmfaaGreat.Eb
open Go.Rx Rt Go.Sx Go.RowKit Od Ov Pc Na Nb Nc Nd Nx Nf Ng Nj Nl Nm Nn No Nq Nr Ns Nu Nv Nw Ny Nz Nh3 Ea
def isPr (js:Nat→J) (ms:Nat→Ms) (n m:Nat) (cs:Nat→Cn) (c:Nat) (ps:List PV):Prop:=∃ (q:Nat→Int) (k:Nat) (rs:Int),ps=[.a [.lf n (fJ js),.lf m (fM ms)],.lf c (fC cs),.lf k (fQ q),.n .i64 rs]
noncomputable def kUX (js:Nat→J) (ms:Nat→Ms) (n m:Nat) (cs:Nat→Cn) (c:Nat):List PV→Option (Bool × Ret):=fun ps=>match ps with
 | [r,l,.lf k f,.n .i64 rs]=>some (gP (isPr js ms n m cs c [r,l,.lf k f,.n .i64 rs]),.v (.t [.lf (prL js ms (unFQ f) n m k cs c rs) (fQ (prQ js ms (unFQ f) n m k cs c rs)),.n .i64 (prJ js ms (unFQ f) n m k cs c rs),.b (prB js ms (unFQ f) n m k cs c rs)]))
 | _=>none
theorem ok_prP (js:Nat→J) (ms:Nat→Ms) (n m:Nat) (cs:Nat→Cn) (c:Nat):zW Tryz.prog 17 (kUX js ms n m cs c):=by
 intro ps r hh;unfold kUX at hh;split at hh
 ·simp only [vQZ,vQY] at hh;obtain ⟨hg,rfl⟩:=hh;obtain ⟨q,k,rs,e⟩:=qJH hg;simp only [List.cons.injEq,PV.lf.injEq,PV.n.injEq,and_true,true_and] at e;obtain ⟨rfl,rfl,⟨rfl,rfl⟩,rfl⟩:=e;exact snd_prj js ms _ n m _ cs c _
 ·cases hh
def isDs (js:Nat→J) (ms:Nat→Ms) (n m:Nat) (ps:List PV):Prop:=∃ (q u:Nat→Int) (k l:Nat),k≤50∧l≤50∧ps=[.a [.lf n (fJ js),.lf m (fM ms)],.lf k (fQ q),.lf l (fQ u)]
noncomputable def kUW (js:Nat→J) (ms:Nat→Ms) (n m:Nat):List PV→Option (Bool × Ret):=fun ps=>match ps with
 | [r,.lf k f,.lf l g]=>some (gP (isDs js ms n m [r,.lf k f,.lf l g]),.v (.n .i64 (dsQ js ms (unFQ f) (unFQ g) n m k l)))
 | _=>none
theorem ok_dsP (js:Nat→J) (ms:Nat→Ms) (n m:Nat):zW Tryz.prog 32 (kUW js ms n m):=by
 intro ps r hh;unfold kUW at hh;split at hh
 ·simp only [vQZ,vQY] at hh;obtain ⟨hg,rfl⟩:=hh;obtain ⟨q,u,k,l,hk,hl,e⟩:=qJH hg;simp only [List.cons.injEq,PV.lf.injEq,and_true] at e;obtain ⟨rfl,⟨rfl,rfl⟩,rfl,rfl⟩:=e;exact snd_dis js ms _ _ n m _ _ hk hl
 ·cases hh
theorem ok_dsR (js:Nat→J) (ms:Nat→Ms) (n m:Nat):zW Tryz.prog 15 (kUW js ms n m):=by
 intro ps r hh;unfold kUW at hh;split at hh
 ·simp only [vQZ,vQY] at hh;obtain ⟨hg,rfl⟩:=hh;obtain ⟨q,u,k,l,hk,hl,e⟩:=qJH hg;simp only [List.cons.injEq,PV.lf.injEq,and_true] at e;obtain ⟨rfl,⟨rfl,rfl⟩,rfl,rfl⟩:=e;exact snd_rdis js ms _ _ n m _ _ hk hl
 ·cases hh
def isTw (ps:List PV):Prop:=∃ (q u:Nat→Int) (k:Nat) (st d:Int),(1≤k∧k≤10)∧¬ d=0∧ps=[.lf k (fQ q),.lf k (fQ u),.n .i64 st,.n .i64 d]
noncomputable def uYY:List PV→Option (Bool × Ret):=fun ps=>match ps with
 | [.lf k f,.lf l g,.n .i64 st,.n .i64 d]=>some (gP (isTw [.lf k f,.lf l g,.n .i64 st,.n .i64 d]),.v (.lf k (fQ (twQ (unFQ f) (unFQ g) k st d))))
 | _=>none
theorem ok_tw:zW Tryz.prog 33 uYY:=by
 intro ps r hh;unfold uYY at hh;split at hh
 ·simp only [vQZ,vQY] at hh;obtain ⟨hg,rfl⟩:=hh;obtain ⟨q,u,k,st,d,hk,hd,e⟩:=qJH hg;simp only [List.cons.injEq,PV.lf.injEq,PV.n.injEq,and_true,true_and] at e;obtain ⟨⟨rfl,rfl⟩,⟨rfl,rfl⟩,rfl,rfl⟩:=e;exact snd_tw _ _ _ _ _ hk hd
 ·cases hh
def isHP (js:Nat→J) (ms:Nat→Ms) (n m:Nat) (cs:Nat→Cn) (c:Nat) (ps:List PV):Prop:=∃ (bx:Nat→Iv) (kk:Nat),ps=[.a [.lf n (fJ js),.lf m (fM ms)],.lf c (fC cs),.lf kk (fB bx)]
noncomputable def o_hp (js:Nat→J) (ms:Nat→Ms) (n m:Nat) (cs:Nat→Cn) (c:Nat):List PV→Option (Bool × Ret):=fun ps=>match ps with
 | [r,l,.lf k f]=>some (gP (isHP js ms n m cs c [r,l,.lf k f]),.v (.b (hAB js ms (unFB f) n m k cs c)))
 | _=>none
theorem ok_hp (js:Nat→J) (ms:Nat→Ms) (n m:Nat) (cs:Nat→Cn) (c:Nat):zW Tryz.prog 29 (o_hp js ms n m cs c):=by
 intro ps r hh;unfold o_hp at hh;split at hh
 ·simp only [vQZ,vQY] at hh;obtain ⟨hg,rfl⟩:=hh;obtain ⟨bx,kk,e⟩:=qJH hg;simp only [List.cons.injEq,PV.lf.injEq,and_true] at e;obtain ⟨rfl,rfl,rfl,rfl⟩:=e;exact kXG js ms _ n m _ cs c
 ·cases hh
theorem ok_inP (js:Nat→J) (ms:Nat→Ms) (n m:Nat):zW Tryz.prog 28 (o_in js ms n m):=by
 intro ps r hh;unfold o_in at hh;split at hh
 ·simp only [vQZ,vQY] at hh;obtain ⟨hg,rfl⟩:=hh;obtain ⟨q,k,e⟩:=qJH hg;simp only [List.cons.injEq,PV.lf.injEq,and_true] at e;obtain ⟨rfl,rfl,rfl⟩:=e;exact jGV js ms _ n m _
 ·cases hh
noncomputable def orEx (js:Nat→J) (ms:Nat→Ms) (q u:Nat→Int) (n m k l:Nat) (cs:Nat→Cn) (c:Nat) (st rd mo:Int):OrL:=[(27,o_cr [.a [.lf n (fJ js),.lf m (fM ms)],.lf c (fC cs)] (.v (.b (cErr js ms n m cs c)))),(28,o_in js ms n m),(29,o_hp js ms n m cs c),(30,o_bq),(31,uYK),(32,kUW js ms n m),(33,uYY),(17,kUX js ms n m cs c)]
noncomputable def hEx (js:Nat→J) (ms:Nat→Ms) (q u:Nat→Int) (n m k l:Nat) (cs:Nat→Cn) (c:Nat) (st rd mo:Int) (cl:Nat) (p:Nat→Int) (r:Nat) (g:Nat→Nat) (x:Nat→Nat→Int):St:=⟨[(1,.v (.lf c (fC cs))),(3,.v (.lf l (fQ u))),(4,.v (.n .i64 st)),(5,.v (.n .i64 rd)),(6,.v (.n .i64 mo)),(7,.p 7 0),(16,.v (.lf cl (fQ p))),(17,.o 71)],[(7,.blk [.v (.lf n (fJ js)),.v (.lf m (fM ms))]),(71,.reg 27 1 (.fo r (fun v=>[.lf (g v) (fQ (x v))])))]⟩
set_option maxRecDepth 100000 in
theorem rdEx (G:St→Option (Ret × Mem)) (K:Cont) (js:Nat→J) (ms:Nat→Ms) (q u:Nat→Int) (n m k l:Nat) (cs:Nat→Cn) (c:Nat) (st rd mo:Int) (cl:Nat) (p:Nat→Int) (r:Nat) (g:Nat→Nat) (x:Nat→Nat→Int):qZW 110 (cxF Tf (OrL.k (orEx js ms q u n m k l cs c st rd mo)) 110 11 (ntmF Tf 11)) (ckF Tf (OrL.k (orEx js ms q u n m k l cs c st rd mo)) 110) (zZ []) (qY Tf 11 [0,1,1,1,1,1]) [0,1,1,1,1,1] (Tf.hint 11 (zY (qY Tf 11 [0,1,1,1,1,1]))) K G (hEx js ms q u n m k l cs c st rd mo cl p r g x) =
 (bif (gP (isDs js ms n m [.a [.lf n (fJ js),.lf m (fM ms)],.lf cl (fQ p),.lf l (fQ u)])) then (bif (decide ((dsQ js ms p u n m cl l)=0)) then (K .ret ⟨[(14,.o 71),(15,.v (.n .i64 1))],[(71,.reg 27 1 (.fo r (fun v=>[.lf (g v) (fQ (x v))])))]⟩)
 else (bif (decide (mo≤(r:Int))) then (K .ret ⟨[(14,.o 71),(15,.v (.n .i64 4))],[(71,.reg 27 1 (.fo r (fun v=>[.lf (g v) (fQ (x v))])))]⟩)
 else (bif (gP (isTw [.lf cl (fQ p),.lf l (fQ u),.n .i64 st,.n .i64 (dsQ js ms p u n m cl l)])) then (bif (gP (isPr js ms n m cs c [.a [.lf n (fJ js),.lf m (fM ms)],.lf c (fC cs),.lf cl (fQ (twQ p u cl st (dsQ js ms p u n m cl l))),.n .i64 rd])) then (bif (prB js ms (twQ p u cl st (dsQ js ms p u n m cl l)) n m cl cs c rd) then (bif (gP (isDs js ms n m [.a [.lf n (fJ js),.lf m (fM ms)],.lf (prL js ms (twQ p u cl st (dsQ js ms p u n m cl l)) n m cl cs c rd) (fQ (prQ js ms (twQ p u cl st (dsQ js ms p u n m cl l)) n m cl cs c rd)),.lf l (fQ u)])) then (bif (decide ((dsQ js ms p u n m cl l)≤(dsQ js ms (prQ js ms (twQ p u cl st (dsQ js ms p u n m cl l)) n m cl cs c rd) u n m (prL js ms (twQ p u cl st (dsQ js ms p u n m cl l)) n m cl cs c rd) l))) then (K .ret ⟨[(14,.o 71),(15,.v (.n .i64 2))],[(71,.reg 27 1 (.fo r (fun v=>[.lf (g v) (fQ (x v))])))]⟩)
 else (bif (decide (r + 1≤1000000)) then (G (hEx js ms q u n m k l cs c st rd mo (prL js ms (twQ p u cl st (dsQ js ms p u n m cl l)) n m cl cs c rd) (prQ js ms (twQ p u cl st (dsQ js ms p u n m cl l)) n m cl cs c rd) (r + 1) (fun v=>(bif (Nat.beq v r) then (prL js ms (twQ p u cl st (dsQ js ms p u n m cl l)) n m cl cs c rd) else (g v))) (fun v w=>(bif (Nat.beq v r) then (prQ js ms (twQ p u cl st (dsQ js ms p u n m cl l)) n m cl cs c rd w) else (x v w)))))
 else none))
 else none)
 else (K .ret ⟨[(14,.o 71),(15,.v (.n .i64 2))],[(71,.reg 27 1 (.fo r (fun v=>[.lf (g v) (fQ (x v))])))]⟩))
 else none)
 else none)))
 else none):=by kernel_rfl
noncomputable def exn (js:Nat→J) (ms:Nat→Ms) (u:Nat→Int) (n m k:Nat) (cs:Nat→Cn) (c:Nat) (st rd:Int) (p:Nat→Int):Nat→Int:=prQ js ms (twQ p u k st (dsQ js ms p u n m k k)) n m k cs c rd
noncomputable def exo (js:Nat→J) (ms:Nat→Ms) (u:Nat→Int) (n m k:Nat) (cs:Nat→Cn) (c:Nat) (st rd:Int) (p:Nat→Int):Bool:=prB js ms (twQ p u k st (dsQ js ms p u n m k k)) n m k cs c rd && !decide (dsQ js ms p u n m k k≤dsQ js ms (exn js ms u n m k cs c st rd p) u n m k k)
noncomputable def exD (js:Nat→J) (ms:Nat→Ms) (u:Nat→Int) (n m k:Nat) (cs:Nat→Cn) (c:Nat) (st rd mo:Int):Nat × (Nat→Nat→Int)→(Nat × (Nat→Nat→Int)) ⊕ ((Nat × (Nat→Nat→Int)) × Int):=fun y =>
 bif decide (dsQ js ms (y.2 (y.1 - 1)) u n m k k=0) then .inr (y,1) else bif decide (mo≤(y.1:Int)) then .inr (y,4) else bif exo js ms u n m k cs c st rd (y.2 (y.1 - 1)) then .inl (y.1 + 1,fun v w=>bif Nat.beq v y.1 then exn js ms u n m k cs c st rd (y.2 (y.1 - 1)) w else y.2 v w) else .inr (y,2)
noncomputable def kUH (js:Nat→J) (ms:Nat→Ms) (q u:Nat→Int) (n m k:Nat) (cs:Nat→Cn) (c:Nat) (st rd mo:Int):Option ((Nat × (Nat→Nat→Int)) × Int):=yQG (exD js ms u n m k cs c st rd mo) 110 (1,fun _=>q)
noncomputable def exN (js:Nat→J) (ms:Nat→Ms) (q u:Nat→Int) (n m k:Nat) (cs:Nat→Cn) (c:Nat) (st rd mo:Int):Nat:=match kUH js ms q u n m k cs c st rd mo with
 | some b=>b.1.1
 | none=>0
noncomputable def exX (js:Nat→J) (ms:Nat→Ms) (q u:Nat→Int) (n m k:Nat) (cs:Nat→Cn) (c:Nat) (st rd mo:Int):Nat→Nat→Int:=match kUH js ms q u n m k cs c st rd mo with
 | some b=>b.1.2
 | none=>fun _ _=>0
noncomputable def exS (js:Nat→J) (ms:Nat→Ms) (q u:Nat→Int) (n m k:Nat) (cs:Nat→Cn) (c:Nat) (st rd mo:Int):Int:=match kUH js ms q u n m k cs c st rd mo with
 | some b=>b.2
 | none=>0
theorem kZX (js:Nat→J) (ms:Nat→Ms) (u:Nat→Int) (n m k:Nat) (cs:Nat→Cn) (c:Nat) (st rd mo:Int):∀ f y,mo.toNat < y.1 + f→0 < f→∃ b,yQG (exD js ms u n m k cs c st rd mo) f y=some b
 | f + 1,y,h,_=>by
  rw [yQG];cases e:exD js ms u n m k cs c st rd mo y with
  | inr b=>exact ⟨b,rfl⟩
  | inl z =>
   unfold exD at e;by_cases h1:dsQ js ms (y.2 (y.1 - 1)) u n m k k=0
   ·rw [vJQ h1] at e; cases e
   by_cases h2:mo≤(y.1:Int)
   ·rw [vYH h1,vJQ h2] at e; cases e
   rw [vYH h1,vYH h2] at e;cases h3:exo js ms u n m k cs c st rd (y.2 (y.1 - 1)) with
   | false=>rw [h3] at e; cases e
   | true =>
    rw [h3] at e;cases e;exact kZX js ms u n m k cs c st rd mo f _ (by show _ < y.1 + 1 + f; omega) (by omega)
theorem jXY {r k:Nat}:(fun v=>bif Nat.beq v r then k else k)=fun _=>k:=funext fun v=>by cases Nat.beq v r <;> rfl
theorem bc_last {r:Nat} {y:Nat→Int} {x:Nat→Nat→Int}:(fun w=>bif Nat.beq (r + 1 - 1) r then y w else x (r + 1 - 1) w)=y:=funext fun w=>by
 rw [Nat.add_sub_cancel,show Nat.beq r r=true from Nat.beq_refl r]; rfl
theorem lpEx (K:Cont) (js:Nat→J) (ms:Nat→Ms) (q u:Nat→Int) (n m k l:Nat) (cs:Nat→Cn) (c:Nat) (st rd mo:Int) (hl:k=l) (hk:1≤k∧k≤10) (hm:1≤mo∧mo≤100):LFL 110 (cxF Tf (OrL.k (orEx js ms q u n m k l cs c st rd mo)) 110 11 (ntmF Tf 11)) (ckF Tf (OrL.k (orEx js ms q u n m k l cs c st rd mo)) 110) (zZ []) (qY Tf 11 [0,1,1,1,1,1]) [0,1,1,1,1,1] (Tf.hint 11 (zY (qY Tf 11 [0,1,1,1,1,1]))) K 110 (hEx js ms q u n m k l cs c st rd mo k q 1 (fun _=>k) (fun _ w=>(q w)))=(K .ret ⟨[(14,.o 71),(15,.v (.n .i64 (exS js ms q u n m k cs c st rd mo)))],[(71,.reg 27 1 (.fo (exN js ms q u n m k cs c st rd mo) (fun v=>[.lf k (fQ (exX js ms q u n m k cs c st rd mo v))])))]⟩):=by
 subst hl;have h:=jWG (L:=LFL 110 (cxF Tf (OrL.k (orEx js ms q u n m k k cs c st rd mo)) 110 11 (ntmF Tf 11)) (ckF Tf (OrL.k (orEx js ms q u n m k k cs c st rd mo)) 110) (zZ []) (qY Tf 11 [0,1,1,1,1,1]) [0,1,1,1,1,1] (Tf.hint 11 (zY (qY Tf 11 [0,1,1,1,1,1]))) K) (stp:=qZW 110 (cxF Tf (OrL.k (orEx js ms q u n m k k cs c st rd mo)) 110 11 (ntmF Tf 11)) (ckF Tf (OrL.k (orEx js ms q u n m k k cs c st rd mo)) 110) (zZ []) (qY Tf 11 [0,1,1,1,1,1]) [0,1,1,1,1,1] (Tf.hint 11 (zY (qY Tf 11 [0,1,1,1,1,1]))) K) (fun _ _=>rfl) (fun _=>rfl) (fun y:Nat × (Nat→Nat→Int)=>hEx js ms q u n m k k cs c st rd mo k (y.2 (y.1 - 1)) y.1 (fun _=>k) y.2) (fun y=>1≤y.1∧(y.1:Int)≤mo) (exD js ms u n m k cs c st rd mo) (fun y=>(K .ret ⟨[(14,.o 71),(15,.v (.n .i64 y.2))],[(71,.reg 27 1 (.fo y.1.1 (fun v=>[.lf k (fQ (y.1.2 v))])))]⟩)) (fun G y hy => ?_) (fun y z hy hd => ?_) 110 (1,fun _=>q) ⟨Nat.le_refl _,hm.1⟩
 ·refine h.trans ?_;obtain ⟨b,hb⟩:=kZX js ms u n m k cs c st rd mo 110 (1,fun _=>q) (by show _ < 1 + 110; omega) (by omega);unfold exN exX exS kUH;rw [hb];rfl
 ·obtain ⟨r,x⟩:=y;obtain ⟨h1,h2⟩:=hy;refine (rdEx G K js ms q u n m k k cs c st rd mo k (x (r - 1)) r (fun _=>k) x).trans ?_;dsimp only at h1 h2;have e1:gP (isDs js ms n m [.a [.lf n (fJ js),.lf m (fM ms)],.lf k (fQ (x (r - 1))),.lf k (fQ u)])=true:=qWH ⟨_,_,_,_,by omega,by omega,rfl⟩;rw [e1,vYV];unfold exD;dsimp only;by_cases hd:dsQ js ms (x (r - 1)) u n m k k=0
  ·rw [vJQ hd]; rfl
  by_cases hmo:mo≤(r:Int)
  ·rw [vYH hd,vJQ hmo]; rfl
  have e2:gP (isTw [.lf k (fQ (x (r - 1))),.lf k (fQ u),.n .i64 st,.n .i64 (dsQ js ms (x (r - 1)) u n m k k)])=true:=qWH ⟨_,_,_,_,_,hk,hd,rfl⟩;have e3:gP (isPr js ms n m cs c [.a [.lf n (fJ js),.lf m (fM ms)],.lf c (fC cs),.lf k (fQ (twQ (x (r - 1)) u k st (dsQ js ms (x (r - 1)) u n m k k))),.n .i64 rd])=true:=qWH ⟨_,_,_,rfl⟩;rw [vYH hd,vYH hmo,e2,e3];simp only [vYV,vYG];unfold exo;cases hb:prB js ms (twQ (x (r - 1)) u k st (dsQ js ms (x (r - 1)) u n m k k)) n m k cs c rd with
  | false=>rfl
  | true =>
   have hL:prL js ms (twQ (x (r - 1)) u k st (dsQ js ms (x (r - 1)) u n m k k)) n m k cs c rd=k:=by unfold prL; rw [hb]; rfl
   have e4:gP (isDs js ms n m [.a [.lf n (fJ js),.lf m (fM ms)],.lf k (fQ (exn js ms u n m k cs c st rd (x (r - 1)))),.lf k (fQ u)])=true:=qWH ⟨_,_,_,_,by omega,by omega,rfl⟩;rw [hL,jXY];unfold exn at e4 ⊢;rw [e4,vJQ (show r + 1≤1000000 by omega)];simp only [vYV,vZH];cases decide (dsQ js ms (x (r - 1)) u n m k k≤dsQ js ms (prQ js ms (twQ (x (r - 1)) u k st (dsQ js ms (x (r - 1)) u n m k k)) n m k cs c rd) u n m k k) with
   | true=>rfl
   | false =>
    simp only [Bool.not_false,vYV,vYG];rw [bc_last]
 ·obtain ⟨r,x⟩:=y;obtain ⟨h1,h2⟩:=hy;unfold exD at hd;dsimp only at h1 h2 hd;by_cases e1:dsQ js ms (x (r - 1)) u n m k k=0
  ·rw [vJQ e1] at hd; cases hd
  by_cases e2:mo≤(r:Int)
  ·rw [vYH e1,vJQ e2] at hd; cases hd
  rw [vYH e1,vYH e2] at hd;cases e3:exo js ms u n m k cs c st rd (x (r - 1)) with
  | false=>rw [e3] at hd; cases hd
  | true =>
   rw [e3] at hd;cases hd;exact ⟨by show 1≤r + 1; omega,by show ((r + 1:Nat):Int)≤mo; omega⟩
noncomputable def exOk (js:Nat→J) (ms:Nat→Ms) (q u:Nat→Int) (n m k l:Nat) (cs:Nat→Cn) (c:Nat) (st rd mo:Int):Bool:=cErr js ms n m cs c && (qIn js ms q n m k && (qIn js ms u n m l && (hA js ms q n m k cs c && decide (1≤st∧st≤1073741824∧0≤rd∧rd≤64∧1≤mo))))
noncomputable def kKQ (js:Nat→J) (ms:Nat→Ms) (q u:Nat→Int) (n m k l:Nat) (cs:Nat→Cn) (c:Nat) (st rd mo:Int):List (List Nat × qKX):=[([0,1,1,1,1,1],sumF (fun _:Unit=>(hEx js ms q u n m k l cs c st rd mo k q 1 (fun _=>k) (fun _ w=>(q w)))) (fun _=>()) (fun _ K=>(bif ((decide (k=l) && decide (1≤k∧k≤10)) && decide (1≤mo∧mo≤100)) then (K .ret ⟨[(14,.o 71),(15,.v (.n .i64 (exS js ms q u n m k cs c st rd mo)))],[(71,.reg 27 1 (.fo (exN js ms q u n m k cs c st rd mo) (fun v=>[.lf k (fQ (exX js ms q u n m k cs c st rd mo v))])))]⟩) else none)))]
set_option maxRecDepth 100000 in
theorem pxext0 (js:Nat→J) (ms:Nat→Ms) (q u:Nat→Int) (n m k l:Nat) (cs:Nat→Cn) (c:Nat) (st rd mo:Int):qYH Tf (OrL.k (orEx js ms q u n m k l cs c st rd mo)) (zZ (kKQ js ms q u n m k l cs c st rd mo)) 110 11 [.a [.lf n (fJ js),.lf m (fM ms)],.lf c (fC cs),.lf k (fQ q),.lf l (fQ u),.n .i64 st,.n .i64 rd,.n .i64 mo] =
 (bif (g1 [.a [.lf n (fJ js),.lf m (fM ms)],.lf c (fC cs)]) then (bif (cErr js ms n m cs c) then (bif (gP (isIn js ms n m [.a [.lf n (fJ js),.lf m (fM ms)],.lf k (fQ q)])) then (bif (qIn js ms q n m k) then (bif (gP (isIn js ms n m [.a [.lf n (fJ js),.lf m (fM ms)],.lf l (fQ u)])) then (bif (qIn js ms u n m l) then (bif (decide (k≤50) && gFQ (fQ q)) then (bif (gP (isHP js ms n m cs c [.a [.lf n (fJ js),.lf m (fM ms)],.lf c (fC cs),.lf (bif smQ q k then k else 0) (fB (ptB q))])) then (bif (hA js ms q n m k cs c) then (bif (decide (st < 1)) then some (.v (.t [.l [],.n .i64 0]),[])
 else (bif (decide (1073741824 < st)) then some (.v (.t [.l [],.n .i64 0]),[])
 else (bif (decide (rd < 0)) then some (.v (.t [.l [],.n .i64 0]),[])
 else (bif (decide (64 < rd)) then some (.v (.t [.l [],.n .i64 0]),[])
 else (bif (decide (mo < 1)) then some (.v (.t [.l [],.n .i64 0]),[])
 else (bif (decide (1024 < mo)) then some (.v (.t [.l [],.n .i64 0]),[])
 else (bif (decide (1≤k∧k≤10) && gFQ (fQ q)) then (bif (gSt (hEx js ms q u n m k l cs c st rd mo k q 1 (fun _=>k) (fun _ w=>(q w))) (hEx js ms q u n m k l cs c st rd mo k q 1 (fun _=>k) (fun _ w=>(q w)))) then (bif ((decide (k=l) && decide (1≤k∧k≤10)) && decide (1≤mo∧mo≤100)) then some (.v (.t [.lf (exN js ms q u n m k cs c st rd mo) (fun v=>[.lf k (fQ (exX js ms q u n m k cs c st rd mo v))]),.n .i64 (exS js ms q u n m k cs c st rd mo)]),[])
 else none)
 else none)
 else none)))))))
 else some (.v (.t [.l [],.n .i64 0]),[]))
 else none)
 else none)
 else some (.v (.t [.l [],.n .i64 0]),[]))
 else none)
 else some (.v (.t [.l [],.n .i64 0]),[]))
 else none)
 else some (.v (.t [.l [],.n .i64 0]),[]))
 else none):=by kernel_rfl
theorem snd_ext0 (js:Nat→J) (ms:Nat→Ms) (q u:Nat→Int) (n m k l:Nat) (cs:Nat→Cn) (c:Nat) (st rd mo:Int) (hmo:mo≤100):zH Tryz.prog 11 [.a [.lf n (fJ js),.lf m (fM ms)],.lf c (fC cs),.lf k (fQ q),.lf l (fQ u),.n .i64 st,.n .i64 rd,.n .i64 mo] (bif exOk js ms q u n m k l cs c st rd mo then .v (.t [.lf (exN js ms q u n m k cs c st rd mo) (fun v=>[.lf k (fQ (exX js ms q u n m k cs c st rd mo v))]),.n .i64 (exS js ms q u n m k cs c st rd mo)]) else .v (.t [.l [],.n .i64 0])):=by
 refine kX (N:=110) (LO:=zZ (kKQ js ms q u n m k l cs c st rd mo)) qVU yQ (OrL.ok (l:=(orEx js ms q u n m k l cs c st rd mo)) ⟨qZX (kYV js ms n m cs c),ok_inP js ms n m,ok_hp js ms n m cs c,ok_bq,ok_clq,ok_dsP js ms n m,ok_tw,ok_prP js ms n m cs c,trivial⟩) (fun p S hp => ?_) ?_
 ·refine kV (L:=qY Tf 11) (l:=(kKQ js ms q u n m k l cs c st rd mo)) (show AllP _ (kKQ js ms q u n m k l cs c st rd mo) from ⟨?_,trivial⟩) p S hp
  ·dsimp only;refine qZH (T:=Tf) (ok:=(OrL.k (orEx js ms q u n m k l cs c st rd mo))) (f:=11) (LO:=zZ []) (p:=[0,1,1,1,1,1]) qJG ?_;intro _ K r hr;obtain ⟨hg,hr⟩:=qH hr;simp only [vQJ,decide_eq_true_eq] at hg;exact (lpEx K js ms q u n m k l cs c st rd mo hg.1.1 hg.1.2 hg.2).trans hr
 ·refine (pxext0 js ms q u n m k l cs c st rd mo).trans ?_;have i1:gP (isIn js ms n m [.a [.lf n (fJ js),.lf m (fM ms)],.lf k (fQ q)])=true:=qWH ⟨_,_,rfl⟩;have i2:gP (isIn js ms n m [.a [.lf n (fJ js),.lf m (fM ms)],.lf l (fQ u)])=true:=qWH ⟨_,_,rfl⟩;have i3:gP (isHP js ms n m cs c [.a [.lf n (fJ js),.lf m (fM ms)],.lf c (fC cs),.lf (bif smQ q k then k else 0) (fB (ptB q))])=true:=qWH ⟨ptB q,_,rfl⟩;unfold exOk;simp only [g1_t,i1,i2,i3,(zXQ (q:=q) rfl).1,vYV];cases hc:cErr js ms n m cs c with
  | false=>rfl
  | true =>
  cases hq:qIn js ms q n m k with
  | false=>rfl
  | true =>
  cases hu:qIn js ms u n m l with
  | false=>rfl
  | true =>
  obtain ⟨h0,hnk,_⟩:=qJK hq;obtain ⟨_,hnl,_⟩:=qJK hu;have h10:=qXU h0;simp only [vJQ (show k≤50 by omega),vJQ (show 1≤k∧k≤10 by omega),vZJ,vZH,vYV];cases hh:hA js ms q n m k cs c with
  | false=>rfl
  | true =>
  simp only [vZH,vYV];by_cases b1:st < 1
  ·rw [vJQ b1,vYH (show ¬ (1≤st∧st≤1073741824∧0≤rd∧rd≤64∧1≤mo) by omega)]; rfl
  by_cases b2:1073741824 < st
  ·rw [vYH b1,vJQ b2,vYH (show ¬ (1≤st∧st≤1073741824∧0≤rd∧rd≤64∧1≤mo) by omega)]; rfl
  by_cases b3:rd < 0
  ·rw [vYH b1,vYH b2,vJQ b3,vYH (show ¬ (1≤st∧st≤1073741824∧0≤rd∧rd≤64∧1≤mo) by omega)]; rfl
  by_cases b4:64 < rd
  ·rw [vYH b1,vYH b2,vYH b3,vJQ b4,vYH (show ¬ (1≤st∧st≤1073741824∧0≤rd∧rd≤64∧1≤mo) by omega)]; rfl
  by_cases b5:mo < 1
  ·rw [vYH b1,vYH b2,vYH b3,vYH b4,vJQ b5,vYH (show ¬ (1≤st∧st≤1073741824∧0≤rd∧rd≤64∧1≤mo) by omega)]; rfl
  simp only [vYH b1,vYH b2,vYH b3,vYH b4,vYH b5,vYH (show ¬ 1024 < mo by omega),vJQ (show 1≤st∧st≤1073741824∧0≤rd∧rd≤64∧1≤mo by omega),yG,vJQ (show 1≤k∧k≤10 by omega),vJQ (show k=l by omega),vJQ (show 1≤mo∧mo≤100 by omega),vZJ,vYV,vYG]
end Go.Proofs.YtmffoiemmlcmfaaGreat.Eb
namespace Go.Proofs.YtmffoiemmlcmfaaGreat.Ec
open Go.Rx Rt Go.Sx Go.RowKit Od Ov Pc Na Nb Nc Nd Nx Nf Ng Nj Nl Nm Nn No Nq Nr Ns Nu Nv Nw Ny Nz Nh3 Ea Eb
def isC2 (js:Nat→J) (ms:Nat→Ms) (n m:Nat) (AL BL:List (List PV)) (ps:List PV):Prop:=ps=[.a [.lf n (fJ js),.lf m (fM ms)],.l AL] ∨ ps=[.a [.lf n (fJ js),.lf m (fM ms)],.l BL]
noncomputable def uYU (js:Nat→J) (ms:Nat→Ms) (kf:PV→Nat→Int) (n m k:Nat) (AL BL:List (List PV)):List PV→Option (Bool × Ret):=fun ps=>match ps with
 | [r,a]=>some (gP (isC2 js ms n m AL BL [r,a]),.v (.lf k (fQ (kf a))))
 | _=>none
theorem ok_cf2 {js:Nat→J} {ms:Nat→Ms} {kf:PV→Nat→Int} {n m k:Nat} {AL BL:List (List PV)} (h1:zH Tryz.prog 7 [.a [.lf n (fJ js),.lf m (fM ms)],.l AL] (.v (.lf k (fQ (kf (.l AL)))))) (h2:zH Tryz.prog 7 [.a [.lf n (fJ js),.lf m (fM ms)],.l BL] (.v (.lf k (fQ (kf (.l BL)))))):zW Tryz.prog 7 (uYU js ms kf n m k AL BL):=by
 intro ps r hh;unfold uYU at hh;split at hh
 ·simp only [vQZ,vQY] at hh;obtain ⟨hg,rfl⟩:=hh;rcases qJH hg with e | e
  ·simp only [List.cons.injEq,and_true] at e;obtain ⟨rfl,rfl⟩:=e;exact h1
  ·simp only [List.cons.injEq,and_true] at e;obtain ⟨rfl,rfl⟩:=e;exact h2
 ·cases hh
noncomputable def exZ (js:Nat→J) (ms:Nat→Ms) (q u:Nat→Int) (n m k l:Nat) (cs:Nat→Cn) (c:Nat) (st rd mo:Int):Nat:=bif exOk js ms q u n m k l cs c st rd mo then exN js ms q u n m k cs c st rd mo else 0
noncomputable def exT (js:Nat→J) (ms:Nat→Ms) (q u:Nat→Int) (n m k l:Nat) (cs:Nat→Cn) (c:Nat) (st rd mo:Int):Int:=bif exOk js ms q u n m k l cs c st rd mo then exS js ms q u n m k cs c st rd mo else 0
theorem snd_ext (js:Nat→J) (ms:Nat→Ms) (q u:Nat→Int) (n m k l:Nat) (cs:Nat→Cn) (c:Nat) (st rd mo:Int) (hmo:mo≤100):zH Tryz.prog 11 [.a [.lf n (fJ js),.lf m (fM ms)],.lf c (fC cs),.lf k (fQ q),.lf l (fQ u),.n .i64 st,.n .i64 rd,.n .i64 mo] (.v (.t [.lf (exZ js ms q u n m k l cs c st rd mo) (fun v=>[.lf k (fQ (exX js ms q u n m k cs c st rd mo v))]),.n .i64 (exT js ms q u n m k l cs c st rd mo)])):=by
 have h:=snd_ext0 js ms q u n m k l cs c st rd mo hmo;unfold exZ exT;cases e:exOk js ms q u n m k l cs c st rd mo with
 | true=>rw [e] at h; exact h
 | false =>
  rw [e] at h;exact qQW (Same.t (xs:=[_,_]) ⟨Same.lf rfl,Same.refl _,trivial⟩) h
def decI (p:PV):List Int:=match p with
 | .l rows=>rows.map fun r=>match r with | [.n _ x]=>x | _=>0
 | _=>[]
theorem decI_ints (l:List Int):decI (.l (l.map fun x=>[PV.n .i64 x]))=l:=by
 unfold decI;dsimp only;rw [List.map_map];exact (List.map_congr_left (fun x _=>rfl)).trans (List.map_id l)
noncomputable def kfOf (l:List Int) (p:PV):Nat→Int:=cqOf l (decI p)
theorem kQH (l a:List Int):kfOf l (zJJ a)=cqOf l a:=congrArg (cqOf l) (decI_ints a)
end Go.Proofs.YtmffoiemmlcmfaaGreat.Ec

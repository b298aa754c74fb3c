/- Part 15 of the texts behind the last one: rules and contracts. No condition. -/
import Derived.Test.YthkhihoplfpgmaaGreatPP14
namespace Go.Proofs.YthkhihoplfpgmaaGreat.Nz
open Go.Rx Rt Go.Sx Go.RowKit Od Ov Pc Na Nb Nc Nd Nx Nf Ng Nj Nl Nm Nn No Nq Nr Ns Nu Nv Nw Ny
theorem near0 (js:Nat→J) (ms:Nat→Ms) (q:Nat→Int) (n m k:Nat) (c d:Cn) (w:Nat) (e:Nat→Int) (hk:k≤50) (hc:zH Tryz.prog 11 [.a [.lf n (fJ js),.lf m (fM ms)],.n .i64 0,.lf w (fQ e)] (.ow 29 10 (.l []))):zH Tryz.prog 12 [.a [.lf n (fJ js),.lf m (fM ms)],.n .i64 0,.lf w (fQ e),.lf k (fQ q)] (.ow 29 10 (.l [])):=by
 refine qG (N:=60) yJ yY (OrL.ok (l:=[(11,o_cr [.a [.lf n (fJ js),.lf m (fM ms)],.n .i64 0,.lf w (fQ e)] (.ow 29 10 (.l []))),(13,yUU),(17,o_lk [.lf k (fQ q)] (decide (k≤50)) (.v (.lf (bif smQ q k then k else 0) (fB (ptB q))))),(33,o_rv js ms (ptB q) n m (bif smQ q k then k else 0))]) ⟨qZW hc,zVH,qXG (fun h=>qHG q k (of_decide_eq_true h)),jHZ js ms (ptB q) n m (bif smQ q k then k else 0),trivial⟩) ?_
 refine (by kernel_rfl:_=bif (g1 [.a [.lf n (fJ js),.lf m (fM ms)],.n .i64 0,.lf w (fQ e)]) then some (.ow 29 10 (.l []),[])
 else none).trans ?_
 simp only [g1_t,cond_true]
theorem near2_0 (js:Nat→J) (ms:Nat→Ms) (q:Nat→Int) (n m k:Nat) (c d:Cn) (w:Nat) (e:Nat→Int) (hk:k≤50) (hc:zH Tryz.prog 11 [.a [.lf n (fJ js),.lf m (fM ms)],.n .i64 2,.lf 0 (fQ e)] (.ow 29 10 (.l [cp c,cp d]))):∃ c' d':Cn,zH Tryz.prog 12 [.a [.lf n (fJ js),.lf m (fM ms)],.n .i64 2,.lf 0 (fQ e),.lf k (fQ q)] (.ow 29 10 (.l [cp c',cp d'])):=by
 refine ⟨bif qOk js ms q n m k c then ⟨c.kind,c.link,c.p,c.n,(IntKind.i64.wrap ((qLo js ms q n m k c) + (-1966080))),(IntKind.i64.wrap ((IntKind.i64.wrap ((qLo js ms q n m k c) + (-1966080))) + 65536))⟩ else c,bif qOk js ms q n m k d then (bif qOk js ms q n m k c then ⟨d.kind,d.link,d.p,d.n,(IntKind.i64.wrap ((qLo js ms q n m k d) + (-1966080))),(IntKind.i64.wrap ((IntKind.i64.wrap ((qLo js ms q n m k d) + (-1966080))) + 65536))⟩ else ⟨d.kind,d.link,d.p,d.n,(IntKind.i64.wrap ((qLo js ms q n m k d) + (-1966080))),(IntKind.i64.wrap ((IntKind.i64.wrap ((qLo js ms q n m k d) + (-1966080))) + 65536))⟩) else d,qG (N:=60) yJ yY (OrL.ok (l:=[(11,o_cr [.a [.lf n (fJ js),.lf m (fM ms)],.n .i64 2,.lf 0 (fQ e)] (.ow 29 10 (.l [cp c,cp d]))),(13,yUU),(17,o_lk [.lf k (fQ q)] (decide (k≤50)) (.v (.lf (bif smQ q k then k else 0) (fB (ptB q))))),(33,o_rv js ms (ptB q) n m (bif smQ q k then k else 0))]) ⟨qZW hc,zVH,qXG (fun h=>qHG q k (of_decide_eq_true h)),jHZ js ms (ptB q) n m (bif smQ q k then k else 0),trivial⟩) ?_⟩
 refine (by kernel_rfl:_=bif (g1 [.a [.lf n (fJ js),.lf m (fM ms)],.n .i64 2,.lf 0 (fQ e)]) then (bif (g1 [.lf k (fQ q)] && decide (k≤50)) then (bif (g1 [.a [.lf n (fJ js),.lf m (fM ms)],.a (cp c),.lf (bif smQ q k then k else 0) (fB (ptB q))] && decide ((bif smQ q k then k else 0)≤50)) then (bif (qOk js ms q n m k c) then (bif (g1 [.lf k (fQ q)] && decide (k≤50)) then (bif (g1 [.a [.lf n (fJ js),.lf m (fM ms)],.a (cp d),.lf (bif smQ q k then k else 0) (fB (ptB q))] && decide ((bif smQ q k then k else 0)≤50)) then (bif (qOk js ms q n m k d) then some (.ow 29 10 (.l [[.n .i64 c.kind,.n .i64 c.link,.n .i64 c.p.x,.n .i64 c.p.y,.n .i64 c.p.z,.n .i64 c.n.x,.n .i64 c.n.y,.n .i64 c.n.z,.n .i64 (IntKind.i64.wrap ((qLo js ms q n m k c) + (-1966080))),.n .i64 (IntKind.i64.wrap ((IntKind.i64.wrap ((qLo js ms q n m k c) + (-1966080))) + 65536))],[.n .i64 d.kind,.n .i64 d.link,.n .i64 d.p.x,.n .i64 d.p.y,.n .i64 d.p.z,.n .i64 d.n.x,.n .i64 d.n.y,.n .i64 d.n.z,.n .i64 (IntKind.i64.wrap ((qLo js ms q n m k d) + (-1966080))),.n .i64 (IntKind.i64.wrap ((IntKind.i64.wrap ((qLo js ms q n m k d) + (-1966080))) + 65536))]]),[])
 else some (.ow 29 10 (.l [[.n .i64 c.kind,.n .i64 c.link,.n .i64 c.p.x,.n .i64 c.p.y,.n .i64 c.p.z,.n .i64 c.n.x,.n .i64 c.n.y,.n .i64 c.n.z,.n .i64 (IntKind.i64.wrap ((qLo js ms q n m k c) + (-1966080))),.n .i64 (IntKind.i64.wrap ((IntKind.i64.wrap ((qLo js ms q n m k c) + (-1966080))) + 65536))],(cp d)]),[]))
 else none)
 else none)
 else bif (g1 [.lf k (fQ q)] && decide (k≤50)) then (bif (g1 [.a [.lf n (fJ js),.lf m (fM ms)],.a (cp d),.lf (bif smQ q k then k else 0) (fB (ptB q))] && decide ((bif smQ q k then k else 0)≤50)) then (bif (qOk js ms q n m k d) then some (.ow 29 10 (.l [(cp c),[.n .i64 d.kind,.n .i64 d.link,.n .i64 d.p.x,.n .i64 d.p.y,.n .i64 d.p.z,.n .i64 d.n.x,.n .i64 d.n.y,.n .i64 d.n.z,.n .i64 (IntKind.i64.wrap ((qLo js ms q n m k d) + (-1966080))),.n .i64 (IntKind.i64.wrap ((IntKind.i64.wrap ((qLo js ms q n m k d) + (-1966080))) + 65536))]]),[])
 else some (.ow 29 10 (.l [(cp c),(cp d)]),[]))
 else none)
 else none)
 else none)
 else none)
 else none).trans ?_
 simp only [g1_t,decide_eq_true hk,decide_eq_true (yHV (q:=q) hk),Bool.and_self,cond_true]
 cases qOk js ms q n m k c <;> cases qOk js ms q n m k d <;> rfl
theorem near2_1 (js:Nat→J) (ms:Nat→Ms) (q:Nat→Int) (n m k:Nat) (c d:Cn) (w:Nat) (e:Nat→Int) (hk:k≤50) (hc:zH Tryz.prog 11 [.a [.lf n (fJ js),.lf m (fM ms)],.n .i64 2,.lf 1 (fQ e)] (.ow 29 10 (.l [cp c,cp d]))):∃ c' d':Cn,zH Tryz.prog 12 [.a [.lf n (fJ js),.lf m (fM ms)],.n .i64 2,.lf 1 (fQ e),.lf k (fQ q)] (.ow 29 10 (.l [cp c',cp d'])):=by
 refine ⟨bif qOk js ms q n m k c then ⟨c.kind,c.link,c.p,c.n,(IntKind.i64.wrap ((qLo js ms q n m k c) + (IntKind.i64.wrap ((IntKind.i64.wrap (((e (0:Int).toNat) % 61) - 30)) * 65536)))),(IntKind.i64.wrap ((IntKind.i64.wrap ((qLo js ms q n m k c) + (IntKind.i64.wrap ((IntKind.i64.wrap (((e (0:Int).toNat) % 61) - 30)) * 65536)))) + 65536))⟩ else c,bif qOk js ms q n m k d then (bif qOk js ms q n m k c then ⟨d.kind,d.link,d.p,d.n,(IntKind.i64.wrap ((qLo js ms q n m k d) + (-1966080))),(IntKind.i64.wrap ((IntKind.i64.wrap ((qLo js ms q n m k d) + (-1966080))) + 65536))⟩ else ⟨d.kind,d.link,d.p,d.n,(IntKind.i64.wrap ((qLo js ms q n m k d) + (IntKind.i64.wrap ((IntKind.i64.wrap (((e (0:Int).toNat) % 61) - 30)) * 65536)))),(IntKind.i64.wrap ((IntKind.i64.wrap ((qLo js ms q n m k d) + (IntKind.i64.wrap ((IntKind.i64.wrap (((e (0:Int).toNat) % 61) - 30)) * 65536)))) + 65536))⟩) else d,qG (N:=60) yJ yY (OrL.ok (l:=[(11,o_cr [.a [.lf n (fJ js),.lf m (fM ms)],.n .i64 2,.lf 1 (fQ e)] (.ow 29 10 (.l [cp c,cp d]))),(13,yUU),(17,o_lk [.lf k (fQ q)] (decide (k≤50)) (.v (.lf (bif smQ q k then k else 0) (fB (ptB q))))),(33,o_rv js ms (ptB q) n m (bif smQ q k then k else 0))]) ⟨qZW hc,zVH,qXG (fun h=>qHG q k (of_decide_eq_true h)),jHZ js ms (ptB q) n m (bif smQ q k then k else 0),trivial⟩) ?_⟩
 refine (by kernel_rfl:_=bif (g1 [.a [.lf n (fJ js),.lf m (fM ms)],.n .i64 2,.lf 1 (fQ e)]) then (bif (g1 [.lf k (fQ q)] && decide (k≤50)) then (bif (g1 [.a [.lf n (fJ js),.lf m (fM ms)],.a (cp c),.lf (bif smQ q k then k else 0) (fB (ptB q))] && decide ((bif smQ q k then k else 0)≤50)) then (bif (qOk js ms q n m k c) then (bif (g1 [.lf k (fQ q)] && decide (k≤50)) then (bif (g1 [.a [.lf n (fJ js),.lf m (fM ms)],.a (cp d),.lf (bif smQ q k then k else 0) (fB (ptB q))] && decide ((bif smQ q k then k else 0)≤50)) then (bif (qOk js ms q n m k d) then some (.ow 29 10 (.l [[.n .i64 c.kind,.n .i64 c.link,.n .i64 c.p.x,.n .i64 c.p.y,.n .i64 c.p.z,.n .i64 c.n.x,.n .i64 c.n.y,.n .i64 c.n.z,.n .i64 (IntKind.i64.wrap ((qLo js ms q n m k c) + (IntKind.i64.wrap ((IntKind.i64.wrap (((e (0:Int).toNat) % 61) - 30)) * 65536)))),.n .i64 (IntKind.i64.wrap ((IntKind.i64.wrap ((qLo js ms q n m k c) + (IntKind.i64.wrap ((IntKind.i64.wrap (((e (0:Int).toNat) % 61) - 30)) * 65536)))) + 65536))],[.n .i64 d.kind,.n .i64 d.link,.n .i64 d.p.x,.n .i64 d.p.y,.n .i64 d.p.z,.n .i64 d.n.x,.n .i64 d.n.y,.n .i64 d.n.z,.n .i64 (IntKind.i64.wrap ((qLo js ms q n m k d) + (-1966080))),.n .i64 (IntKind.i64.wrap ((IntKind.i64.wrap ((qLo js ms q n m k d) + (-1966080))) + 65536))]]),[])
 else some (.ow 29 10 (.l [[.n .i64 c.kind,.n .i64 c.link,.n .i64 c.p.x,.n .i64 c.p.y,.n .i64 c.p.z,.n .i64 c.n.x,.n .i64 c.n.y,.n .i64 c.n.z,.n .i64 (IntKind.i64.wrap ((qLo js ms q n m k c) + (IntKind.i64.wrap ((IntKind.i64.wrap (((e (0:Int).toNat) % 61) - 30)) * 65536)))),.n .i64 (IntKind.i64.wrap ((IntKind.i64.wrap ((qLo js ms q n m k c) + (IntKind.i64.wrap ((IntKind.i64.wrap (((e (0:Int).toNat) % 61) - 30)) * 65536)))) + 65536))],(cp d)]),[]))
 else none)
 else none)
 else bif (g1 [.lf k (fQ q)] && decide (k≤50)) then (bif (g1 [.a [.lf n (fJ js),.lf m (fM ms)],.a (cp d),.lf (bif smQ q k then k else 0) (fB (ptB q))] && decide ((bif smQ q k then k else 0)≤50)) then (bif (qOk js ms q n m k d) then some (.ow 29 10 (.l [(cp c),[.n .i64 d.kind,.n .i64 d.link,.n .i64 d.p.x,.n .i64 d.p.y,.n .i64 d.p.z,.n .i64 d.n.x,.n .i64 d.n.y,.n .i64 d.n.z,.n .i64 (IntKind.i64.wrap ((qLo js ms q n m k d) + (IntKind.i64.wrap ((IntKind.i64.wrap (((e (0:Int).toNat) % 61) - 30)) * 65536)))),.n .i64 (IntKind.i64.wrap ((IntKind.i64.wrap ((qLo js ms q n m k d) + (IntKind.i64.wrap ((IntKind.i64.wrap (((e (0:Int).toNat) % 61) - 30)) * 65536)))) + 65536))]]),[])
 else some (.ow 29 10 (.l [(cp c),(cp d)]),[]))
 else none)
 else none)
 else none)
 else none)
 else none).trans ?_
 simp only [g1_t,decide_eq_true hk,decide_eq_true (yHV (q:=q) hk),Bool.and_self,cond_true]
 cases qOk js ms q n m k c <;> cases qOk js ms q n m k d <;> rfl
theorem near2_2 (js:Nat→J) (ms:Nat→Ms) (q:Nat→Int) (n m k:Nat) (c d:Cn) (w:Nat) (e:Nat→Int) (hk:k≤50) (hc:zH Tryz.prog 11 [.a [.lf n (fJ js),.lf m (fM ms)],.n .i64 2,.lf 2 (fQ e)] (.ow 29 10 (.l [cp c,cp d]))):∃ c' d':Cn,zH Tryz.prog 12 [.a [.lf n (fJ js),.lf m (fM ms)],.n .i64 2,.lf 2 (fQ e),.lf k (fQ q)] (.ow 29 10 (.l [cp c',cp d'])):=by
 refine ⟨bif qOk js ms q n m k c then ⟨c.kind,c.link,c.p,c.n,(IntKind.i64.wrap ((qLo js ms q n m k c) + (IntKind.i64.wrap ((IntKind.i64.wrap (((e (0:Int).toNat) % 61) - 30)) * 65536)))),(IntKind.i64.wrap ((IntKind.i64.wrap ((qLo js ms q n m k c) + (IntKind.i64.wrap ((IntKind.i64.wrap (((e (0:Int).toNat) % 61) - 30)) * 65536)))) + (IntKind.i64.wrap ((IntKind.i64.wrap (1 + ((e (1:Int).toNat) % 40))) * 65536))))⟩ else c,bif qOk js ms q n m k d then (bif qOk js ms q n m k c then ⟨d.kind,d.link,d.p,d.n,(IntKind.i64.wrap ((qLo js ms q n m k d) + (-1966080))),(IntKind.i64.wrap ((IntKind.i64.wrap ((qLo js ms q n m k d) + (-1966080))) + 65536))⟩ else ⟨d.kind,d.link,d.p,d.n,(IntKind.i64.wrap ((qLo js ms q n m k d) + (IntKind.i64.wrap ((IntKind.i64.wrap (((e (0:Int).toNat) % 61) - 30)) * 65536)))),(IntKind.i64.wrap ((IntKind.i64.wrap ((qLo js ms q n m k d) + (IntKind.i64.wrap ((IntKind.i64.wrap (((e (0:Int).toNat) % 61) - 30)) * 65536)))) + (IntKind.i64.wrap ((IntKind.i64.wrap (1 + ((e (1:Int).toNat) % 40))) * 65536))))⟩) else d,qG (N:=60) yJ yY (OrL.ok (l:=[(11,o_cr [.a [.lf n (fJ js),.lf m (fM ms)],.n .i64 2,.lf 2 (fQ e)] (.ow 29 10 (.l [cp c,cp d]))),(13,yUU),(17,o_lk [.lf k (fQ q)] (decide (k≤50)) (.v (.lf (bif smQ q k then k else 0) (fB (ptB q))))),(33,o_rv js ms (ptB q) n m (bif smQ q k then k else 0))]) ⟨qZW hc,zVH,qXG (fun h=>qHG q k (of_decide_eq_true h)),jHZ js ms (ptB q) n m (bif smQ q k then k else 0),trivial⟩) ?_⟩
 refine (by kernel_rfl:_=bif (g1 [.a [.lf n (fJ js),.lf m (fM ms)],.n .i64 2,.lf 2 (fQ e)]) then (bif (g1 [.lf k (fQ q)] && decide (k≤50)) then (bif (g1 [.a [.lf n (fJ js),.lf m (fM ms)],.a (cp c),.lf (bif smQ q k then k else 0) (fB (ptB q))] && decide ((bif smQ q k then k else 0)≤50)) then (bif (qOk js ms q n m k c) then (bif (g1 [.lf k (fQ q)] && decide (k≤50)) then (bif (g1 [.a [.lf n (fJ js),.lf m (fM ms)],.a (cp d),.lf (bif smQ q k then k else 0) (fB (ptB q))] && decide ((bif smQ q k then k else 0)≤50)) then (bif (qOk js ms q n m k d) then some (.ow 29 10 (.l [[.n .i64 c.kind,.n .i64 c.link,.n .i64 c.p.x,.n .i64 c.p.y,.n .i64 c.p.z,.n .i64 c.n.x,.n .i64 c.n.y,.n .i64 c.n.z,.n .i64 (IntKind.i64.wrap ((qLo js ms q n m k c) + (IntKind.i64.wrap ((IntKind.i64.wrap (((e (0:Int).toNat) % 61) - 30)) * 65536)))),.n .i64 (IntKind.i64.wrap ((IntKind.i64.wrap ((qLo js ms q n m k c) + (IntKind.i64.wrap ((IntKind.i64.wrap (((e (0:Int).toNat) % 61) - 30)) * 65536)))) + (IntKind.i64.wrap ((IntKind.i64.wrap (1 + ((e (1:Int).toNat) % 40))) * 65536))))],[.n .i64 d.kind,.n .i64 d.link,.n .i64 d.p.x,.n .i64 d.p.y,.n .i64 d.p.z,.n .i64 d.n.x,.n .i64 d.n.y,.n .i64 d.n.z,.n .i64 (IntKind.i64.wrap ((qLo js ms q n m k d) + (-1966080))),.n .i64 (IntKind.i64.wrap ((IntKind.i64.wrap ((qLo js ms q n m k d) + (-1966080))) + 65536))]]),[])
 else some (.ow 29 10 (.l [[.n .i64 c.kind,.n .i64 c.link,.n .i64 c.p.x,.n .i64 c.p.y,.n .i64 c.p.z,.n .i64 c.n.x,.n .i64 c.n.y,.n .i64 c.n.z,.n .i64 (IntKind.i64.wrap ((qLo js ms q n m k c) + (IntKind.i64.wrap ((IntKind.i64.wrap (((e (0:Int).toNat) % 61) - 30)) * 65536)))),.n .i64 (IntKind.i64.wrap ((IntKind.i64.wrap ((qLo js ms q n m k c) + (IntKind.i64.wrap ((IntKind.i64.wrap (((e (0:Int).toNat) % 61) - 30)) * 65536)))) + (IntKind.i64.wrap ((IntKind.i64.wrap (1 + ((e (1:Int).toNat) % 40))) * 65536))))],(cp d)]),[]))
 else none)
 else none)
 else bif (g1 [.lf k (fQ q)] && decide (k≤50)) then (bif (g1 [.a [.lf n (fJ js),.lf m (fM ms)],.a (cp d),.lf (bif smQ q k then k else 0) (fB (ptB q))] && decide ((bif smQ q k then k else 0)≤50)) then (bif (qOk js ms q n m k d) then some (.ow 29 10 (.l [(cp c),[.n .i64 d.kind,.n .i64 d.link,.n .i64 d.p.x,.n .i64 d.p.y,.n .i64 d.p.z,.n .i64 d.n.x,.n .i64 d.n.y,.n .i64 d.n.z,.n .i64 (IntKind.i64.wrap ((qLo js ms q n m k d) + (IntKind.i64.wrap ((IntKind.i64.wrap (((e (0:Int).toNat) % 61) - 30)) * 65536)))),.n .i64 (IntKind.i64.wrap ((IntKind.i64.wrap ((qLo js ms q n m k d) + (IntKind.i64.wrap ((IntKind.i64.wrap (((e (0:Int).toNat) % 61) - 30)) * 65536)))) + (IntKind.i64.wrap ((IntKind.i64.wrap (1 + ((e (1:Int).toNat) % 40))) * 65536))))]]),[])
 else some (.ow 29 10 (.l [(cp c),(cp d)]),[]))
 else none)
 else none)
 else none)
 else none)
 else none).trans ?_
 simp only [g1_t,decide_eq_true hk,decide_eq_true (yHV (q:=q) hk),Bool.and_self,cond_true]
 cases qOk js ms q n m k c <;> cases qOk js ms q n m k d <;> rfl
theorem near2_3 (js:Nat→J) (ms:Nat→Ms) (q:Nat→Int) (n m k:Nat) (c d:Cn) (w:Nat) (e:Nat→Int) (hk:k≤50) (hc:zH Tryz.prog 11 [.a [.lf n (fJ js),.lf m (fM ms)],.n .i64 2,.lf 3 (fQ e)] (.ow 29 10 (.l [cp c,cp d]))):∃ c' d':Cn,zH Tryz.prog 12 [.a [.lf n (fJ js),.lf m (fM ms)],.n .i64 2,.lf 3 (fQ e),.lf k (fQ q)] (.ow 29 10 (.l [cp c',cp d'])):=by
 refine ⟨bif qOk js ms q n m k c then ⟨c.kind,c.link,c.p,c.n,(IntKind.i64.wrap ((qLo js ms q n m k c) + (IntKind.i64.wrap ((IntKind.i64.wrap (((e (0:Int).toNat) % 61) - 30)) * 65536)))),(IntKind.i64.wrap ((IntKind.i64.wrap ((qLo js ms q n m k c) + (IntKind.i64.wrap ((IntKind.i64.wrap (((e (0:Int).toNat) % 61) - 30)) * 65536)))) + (IntKind.i64.wrap ((IntKind.i64.wrap (1 + ((e (1:Int).toNat) % 40))) * 65536))))⟩ else c,bif qOk js ms q n m k d then (bif qOk js ms q n m k c then ⟨d.kind,d.link,d.p,d.n,(IntKind.i64.wrap ((qLo js ms q n m k d) + (IntKind.i64.wrap ((IntKind.i64.wrap (((e (2:Int).toNat) % 61) - 30)) * 65536)))),(IntKind.i64.wrap ((IntKind.i64.wrap ((qLo js ms q n m k d) + (IntKind.i64.wrap ((IntKind.i64.wrap (((e (2:Int).toNat) % 61) - 30)) * 65536)))) + 65536))⟩ else ⟨d.kind,d.link,d.p,d.n,(IntKind.i64.wrap ((qLo js ms q n m k d) + (IntKind.i64.wrap ((IntKind.i64.wrap (((e (0:Int).toNat) % 61) - 30)) * 65536)))),(IntKind.i64.wrap ((IntKind.i64.wrap ((qLo js ms q n m k d) + (IntKind.i64.wrap ((IntKind.i64.wrap (((e (0:Int).toNat) % 61) - 30)) * 65536)))) + (IntKind.i64.wrap ((IntKind.i64.wrap (1 + ((e (1:Int).toNat) % 40))) * 65536))))⟩) else d,qG (N:=60) yJ yY (OrL.ok (l:=[(11,o_cr [.a [.lf n (fJ js),.lf m (fM ms)],.n .i64 2,.lf 3 (fQ e)] (.ow 29 10 (.l [cp c,cp d]))),(13,yUU),(17,o_lk [.lf k (fQ q)] (decide (k≤50)) (.v (.lf (bif smQ q k then k else 0) (fB (ptB q))))),(33,o_rv js ms (ptB q) n m (bif smQ q k then k else 0))]) ⟨qZW hc,zVH,qXG (fun h=>qHG q k (of_decide_eq_true h)),jHZ js ms (ptB q) n m (bif smQ q k then k else 0),trivial⟩) ?_⟩
 refine (by kernel_rfl:_=bif (g1 [.a [.lf n (fJ js),.lf m (fM ms)],.n .i64 2,.lf 3 (fQ e)]) then (bif (g1 [.lf k (fQ q)] && decide (k≤50)) then (bif (g1 [.a [.lf n (fJ js),.lf m (fM ms)],.a (cp c),.lf (bif smQ q k then k else 0) (fB (ptB q))] && decide ((bif smQ q k then k else 0)≤50)) then (bif (qOk js ms q n m k c) then (bif (g1 [.lf k (fQ q)] && decide (k≤50)) then (bif (g1 [.a [.lf n (fJ js),.lf m (fM ms)],.a (cp d),.lf (bif smQ q k then k else 0) (fB (ptB q))] && decide ((bif smQ q k then k else 0)≤50)) then (bif (qOk js ms q n m k d) then some (.ow 29 10 (.l [[.n .i64 c.kind,.n .i64 c.link,.n .i64 c.p.x,.n .i64 c.p.y,.n .i64 c.p.z,.n .i64 c.n.x,.n .i64 c.n.y,.n .i64 c.n.z,.n .i64 (IntKind.i64.wrap ((qLo js ms q n m k c) + (IntKind.i64.wrap ((IntKind.i64.wrap (((e (0:Int).toNat) % 61) - 30)) * 65536)))),.n .i64 (IntKind.i64.wrap ((IntKind.i64.wrap ((qLo js ms q n m k c) + (IntKind.i64.wrap ((IntKind.i64.wrap (((e (0:Int).toNat) % 61) - 30)) * 65536)))) + (IntKind.i64.wrap ((IntKind.i64.wrap (1 + ((e (1:Int).toNat) % 40))) * 65536))))],[.n .i64 d.kind,.n .i64 d.link,.n .i64 d.p.x,.n .i64 d.p.y,.n .i64 d.p.z,.n .i64 d.n.x,.n .i64 d.n.y,.n .i64 d.n.z,.n .i64 (IntKind.i64.wrap ((qLo js ms q n m k d) + (IntKind.i64.wrap ((IntKind.i64.wrap (((e (2:Int).toNat) % 61) - 30)) * 65536)))),.n .i64 (IntKind.i64.wrap ((IntKind.i64.wrap ((qLo js ms q n m k d) + (IntKind.i64.wrap ((IntKind.i64.wrap (((e (2:Int).toNat) % 61) - 30)) * 65536)))) + 65536))]]),[])
 else some (.ow 29 10 (.l [[.n .i64 c.kind,.n .i64 c.link,.n .i64 c.p.x,.n .i64 c.p.y,.n .i64 c.p.z,.n .i64 c.n.x,.n .i64 c.n.y,.n .i64 c.n.z,.n .i64 (IntKind.i64.wrap ((qLo js ms q n m k c) + (IntKind.i64.wrap ((IntKind.i64.wrap (((e (0:Int).toNat) % 61) - 30)) * 65536)))),.n .i64 (IntKind.i64.wrap ((IntKind.i64.wrap ((qLo js ms q n m k c) + (IntKind.i64.wrap ((IntKind.i64.wrap (((e (0:Int).toNat) % 61) - 30)) * 65536)))) + (IntKind.i64.wrap ((IntKind.i64.wrap (1 + ((e (1:Int).toNat) % 40))) * 65536))))],(cp d)]),[]))
 else none)
 else none)
 else bif (g1 [.lf k (fQ q)] && decide (k≤50)) then (bif (g1 [.a [.lf n (fJ js),.lf m (fM ms)],.a (cp d),.lf (bif smQ q k then k else 0) (fB (ptB q))] && decide ((bif smQ q k then k else 0)≤50)) then (bif (qOk js ms q n m k d) then some (.ow 29 10 (.l [(cp c),[.n .i64 d.kind,.n .i64 d.link,.n .i64 d.p.x,.n .i64 d.p.y,.n .i64 d.p.z,.n .i64 d.n.x,.n .i64 d.n.y,.n .i64 d.n.z,.n .i64 (IntKind.i64.wrap ((qLo js ms q n m k d) + (IntKind.i64.wrap ((IntKind.i64.wrap (((e (0:Int).toNat) % 61) - 30)) * 65536)))),.n .i64 (IntKind.i64.wrap ((IntKind.i64.wrap ((qLo js ms q n m k d) + (IntKind.i64.wrap ((IntKind.i64.wrap (((e (0:Int).toNat) % 61) - 30)) * 65536)))) + (IntKind.i64.wrap ((IntKind.i64.wrap (1 + ((e (1:Int).toNat) % 40))) * 65536))))]]),[])
 else some (.ow 29 10 (.l [(cp c),(cp d)]),[]))
 else none)
 else none)
 else none)
 else none)
 else none).trans ?_
 simp only [g1_t,decide_eq_true hk,decide_eq_true (yHV (q:=q) hk),Bool.and_self,cond_true]
 cases qOk js ms q n m k c <;> cases qOk js ms q n m k d <;> rfl
theorem near2_4 (js:Nat→J) (ms:Nat→Ms) (q:Nat→Int) (n m k:Nat) (c d:Cn) (w:Nat) (e:Nat→Int) (hk:k≤50) (hc:zH Tryz.prog 11 [.a [.lf n (fJ js),.lf m (fM ms)],.n .i64 2,.lf (w + 4) (fQ e)] (.ow 29 10 (.l [cp c,cp d]))):∃ c' d':Cn,zH Tryz.prog 12 [.a [.lf n (fJ js),.lf m (fM ms)],.n .i64 2,.lf (w + 4) (fQ e),.lf k (fQ q)] (.ow 29 10 (.l [cp c',cp d'])):=by
 refine ⟨bif qOk js ms q n m k c then ⟨c.kind,c.link,c.p,c.n,(IntKind.i64.wrap ((qLo js ms q n m k c) + (IntKind.i64.wrap ((IntKind.i64.wrap (((e (0:Int).toNat) % 61) - 30)) * 65536)))),(IntKind.i64.wrap ((IntKind.i64.wrap ((qLo js ms q n m k c) + (IntKind.i64.wrap ((IntKind.i64.wrap (((e (0:Int).toNat) % 61) - 30)) * 65536)))) + (IntKind.i64.wrap ((IntKind.i64.wrap (1 + ((e (1:Int).toNat) % 40))) * 65536))))⟩ else c,bif qOk js ms q n m k d then (bif qOk js ms q n m k c then ⟨d.kind,d.link,d.p,d.n,(IntKind.i64.wrap ((qLo js ms q n m k d) + (IntKind.i64.wrap ((IntKind.i64.wrap (((e (2:Int).toNat) % 61) - 30)) * 65536)))),(IntKind.i64.wrap ((IntKind.i64.wrap ((qLo js ms q n m k d) + (IntKind.i64.wrap ((IntKind.i64.wrap (((e (2:Int).toNat) % 61) - 30)) * 65536)))) + (IntKind.i64.wrap ((IntKind.i64.wrap (1 + ((e (3:Int).toNat) % 40))) * 65536))))⟩ else ⟨d.kind,d.link,d.p,d.n,(IntKind.i64.wrap ((qLo js ms q n m k d) + (IntKind.i64.wrap ((IntKind.i64.wrap (((e (0:Int).toNat) % 61) - 30)) * 65536)))),(IntKind.i64.wrap ((IntKind.i64.wrap ((qLo js ms q n m k d) + (IntKind.i64.wrap ((IntKind.i64.wrap (((e (0:Int).toNat) % 61) - 30)) * 65536)))) + (IntKind.i64.wrap ((IntKind.i64.wrap (1 + ((e (1:Int).toNat) % 40))) * 65536))))⟩) else d,qG (N:=60) yJ yY (OrL.ok (l:=[(11,o_cr [.a [.lf n (fJ js),.lf m (fM ms)],.n .i64 2,.lf (w + 4) (fQ e)] (.ow 29 10 (.l [cp c,cp d]))),(13,yUU),(17,o_lk [.lf k (fQ q)] (decide (k≤50)) (.v (.lf (bif smQ q k then k else 0) (fB (ptB q))))),(33,o_rv js ms (ptB q) n m (bif smQ q k then k else 0))]) ⟨qZW hc,zVH,qXG (fun h=>qHG q k (of_decide_eq_true h)),jHZ js ms (ptB q) n m (bif smQ q k then k else 0),trivial⟩) ?_⟩
 refine (by kernel_rfl:_=bif (g1 [.a [.lf n (fJ js),.lf m (fM ms)],.n .i64 2,.lf (w + 4) (fQ e)]) then (bif (g1 [.lf k (fQ q)] && decide (k≤50)) then (bif (g1 [.a [.lf n (fJ js),.lf m (fM ms)],.a (cp c),.lf (bif smQ q k then k else 0) (fB (ptB q))] && decide ((bif smQ q k then k else 0)≤50)) then (bif (qOk js ms q n m k c) then (bif (g1 [.lf k (fQ q)] && decide (k≤50)) then (bif (g1 [.a [.lf n (fJ js),.lf m (fM ms)],.a (cp d),.lf (bif smQ q k then k else 0) (fB (ptB q))] && decide ((bif smQ q k then k else 0)≤50)) then (bif (qOk js ms q n m k d) then some (.ow 29 10 (.l [[.n .i64 c.kind,.n .i64 c.link,.n .i64 c.p.x,.n .i64 c.p.y,.n .i64 c.p.z,.n .i64 c.n.x,.n .i64 c.n.y,.n .i64 c.n.z,.n .i64 (IntKind.i64.wrap ((qLo js ms q n m k c) + (IntKind.i64.wrap ((IntKind.i64.wrap (((e (0:Int).toNat) % 61) - 30)) * 65536)))),.n .i64 (IntKind.i64.wrap ((IntKind.i64.wrap ((qLo js ms q n m k c) + (IntKind.i64.wrap ((IntKind.i64.wrap (((e (0:Int).toNat) % 61) - 30)) * 65536)))) + (IntKind.i64.wrap ((IntKind.i64.wrap (1 + ((e (1:Int).toNat) % 40))) * 65536))))],[.n .i64 d.kind,.n .i64 d.link,.n .i64 d.p.x,.n .i64 d.p.y,.n .i64 d.p.z,.n .i64 d.n.x,.n .i64 d.n.y,.n .i64 d.n.z,.n .i64 (IntKind.i64.wrap ((qLo js ms q n m k d) + (IntKind.i64.wrap ((IntKind.i64.wrap (((e (2:Int).toNat) % 61) - 30)) * 65536)))),.n .i64 (IntKind.i64.wrap ((IntKind.i64.wrap ((qLo js ms q n m k d) + (IntKind.i64.wrap ((IntKind.i64.wrap (((e (2:Int).toNat) % 61) - 30)) * 65536)))) + (IntKind.i64.wrap ((IntKind.i64.wrap (1 + ((e (3:Int).toNat) % 40))) * 65536))))]]),[])
 else some (.ow 29 10 (.l [[.n .i64 c.kind,.n .i64 c.link,.n .i64 c.p.x,.n .i64 c.p.y,.n .i64 c.p.z,.n .i64 c.n.x,.n .i64 c.n.y,.n .i64 c.n.z,.n .i64 (IntKind.i64.wrap ((qLo js ms q n m k c) + (IntKind.i64.wrap ((IntKind.i64.wrap (((e (0:Int).toNat) % 61) - 30)) * 65536)))),.n .i64 (IntKind.i64.wrap ((IntKind.i64.wrap ((qLo js ms q n m k c) + (IntKind.i64.wrap ((IntKind.i64.wrap (((e (0:Int).toNat) % 61) - 30)) * 65536)))) + (IntKind.i64.wrap ((IntKind.i64.wrap (1 + ((e (1:Int).toNat) % 40))) * 65536))))],(cp d)]),[]))
 else none)
 else none)
 else bif (g1 [.lf k (fQ q)] && decide (k≤50)) then (bif (g1 [.a [.lf n (fJ js),.lf m (fM ms)],.a (cp d),.lf (bif smQ q k then k else 0) (fB (ptB q))] && decide ((bif smQ q k then k else 0)≤50)) then (bif (qOk js ms q n m k d) then some (.ow 29 10 (.l [(cp c),[.n .i64 d.kind,.n .i64 d.link,.n .i64 d.p.x,.n .i64 d.p.y,.n .i64 d.p.z,.n .i64 d.n.x,.n .i64 d.n.y,.n .i64 d.n.z,.n .i64 (IntKind.i64.wrap ((qLo js ms q n m k d) + (IntKind.i64.wrap ((IntKind.i64.wrap (((e (0:Int).toNat) % 61) - 30)) * 65536)))),.n .i64 (IntKind.i64.wrap ((IntKind.i64.wrap ((qLo js ms q n m k d) + (IntKind.i64.wrap ((IntKind.i64.wrap (((e (0:Int).toNat) % 61) - 30)) * 65536)))) + (IntKind.i64.wrap ((IntKind.i64.wrap (1 + ((e (1:Int).toNat) % 40))) * 65536))))]]),[])
 else some (.ow 29 10 (.l [(cp c),(cp d)]),[]))
 else none)
 else none)
 else none)
 else none)
 else none).trans ?_
 simp only [g1_t,decide_eq_true hk,decide_eq_true (yHV (q:=q) hk),Bool.and_self,cond_true]
 cases qOk js ms q n m k c <;> cases qOk js ms q n m k d <;> rfl
theorem near2 (js:Nat→J) (ms:Nat→Ms) (q:Nat→Int) (n m k:Nat) (c d:Cn) (w:Nat) (e:Nat→Int) (hk:k≤50) (hc:zH Tryz.prog 11 [.a [.lf n (fJ js),.lf m (fM ms)],.n .i64 2,.lf w (fQ e)] (.ow 29 10 (.l [cp c,cp d]))):∃ c' d':Cn,zH Tryz.prog 12 [.a [.lf n (fJ js),.lf m (fM ms)],.n .i64 2,.lf w (fQ e),.lf k (fQ q)] (.ow 29 10 (.l [cp c',cp d'])):=by
 rcases w with _ | _ | _ | _ | w
 ·exact near2_0 js ms q n m k c d 0 e hk hc
 ·exact near2_1 js ms q n m k c d 1 e hk hc
 ·exact near2_2 js ms q n m k c d 2 e hk hc
 ·exact near2_3 js ms q n m k c d 3 e hk hc
 ·exact near2_4 js ms q n m k c d w e hk hc
theorem prL_le (js:Nat→J) (ms:Nat→Ms) (q:Nat→Int) (n m k:Nat) (cs:Nat→Cn) (c:Nat) (rs:Int) (hk:k≤50):prL js ms q n m k cs c rs≤50:=by
 unfold prL
 cases prB js ms q n m k cs c rs <;> simp <;> omega
theorem snd_prs (js:Nat→J) (ms:Nat→Ms) (q:Nat→Int) (n m k:Nat) (cs:Nat→Cn) (c:Nat) (rs:Int) (hk:k≤50):zH Tryz.prog 14 [.a [.lf n (fJ js),.lf m (fM ms)],.lf c (fC cs),.lf k (fQ q),.n .i64 rs] (.v (.b true)):=by
 refine qG (N:=60) yJ yY (OrL.ok (l:=[(15,o_cr [.a [.lf n (fJ js),.lf m (fM ms)],.lf c (fC cs),.lf k (fQ q),.n .i64 rs] (.v (.t [.lf (prL js ms q n m k cs c rs) (fQ (prQ js ms q n m k cs c rs)),.n .i64 (prJ js ms q n m k cs c rs),.b (prB js ms q n m k cs c rs)]))),(34,o_cr [.a [.lf n (fJ js),.lf m (fM ms)],.lf c (fC cs),.lf k (fQ q),.n .i64 rs] (.v (.t [.lf (prL js ms q n m k cs c rs) (fQ (prQ js ms q n m k cs c rs)),.n .i64 (prJ js ms q n m k cs c rs),.b (prB js ms q n m k cs c rs)]))),(19,o_sm)]) ⟨qZW (snd_prj js ms q n m k cs c rs),qZW (snd_rpj js ms q n m k cs c rs),ok_sm,trivial⟩) ?_
 refine (by kernel_rfl:_=bif (g1 [.a [.lf n (fJ js),.lf m (fM ms)],.lf c (fC cs),.lf k (fQ q),.n .i64 rs]) then (bif (prB js ms q n m k cs c rs) then (bif (g1 [.a [.lf n (fJ js),.lf m (fM ms)],.lf c (fC cs),.lf k (fQ q),.n .i64 rs]) then (bif (prB js ms q n m k cs c rs) then (bif (decide ((prJ js ms q n m k cs c rs)=(prJ js ms q n m k cs c rs))) then (bif (gSm [.lf (prL js ms q n m k cs c rs) (fQ (prQ js ms q n m k cs c rs)),.lf (prL js ms q n m k cs c rs) (fQ (prQ js ms q n m k cs c rs))]) then some (.v (.b true),[])
 else none)
 else some (.v (.b false),[]))
 else some (.v (.b false),[]))
 else none)
 else bif (g1 [.a [.lf n (fJ js),.lf m (fM ms)],.lf c (fC cs),.lf k (fQ q),.n .i64 rs]) then (bif (prB js ms q n m k cs c rs) then some (.v (.b false),[])
 else bif (decide ((prJ js ms q n m k cs c rs)=(prJ js ms q n m k cs c rs))) then (bif (gSm [.lf (prL js ms q n m k cs c rs) (fQ (prQ js ms q n m k cs c rs)),.lf (prL js ms q n m k cs c rs) (fQ (prQ js ms q n m k cs c rs))]) then some (.v (.b true),[])
 else none)
 else some (.v (.b false),[]))
 else none)
 else none).trans ?_
 have h2:gSm [.lf (prL js ms q n m k cs c rs) (fQ (prQ js ms q n m k cs c rs)),.lf (prL js ms q n m k cs c rs) (fQ (prQ js ms q n m k cs c rs))]=true:=yKU ⟨_,_,prL_le js ms q n m k cs c rs hk,rfl⟩
 simp only [g1_t,h2,cond_true,decide_true,beq_self_eq_true]
 cases prB js ms q n m k cs c rs <;> rfl
def isPj (ps:List PV):Prop:=∃ (js:Nat→J) (ms:Nat→Ms) (q:Nat→Int) (n m k:Nat) (cs:Nat→Cn) (c:Nat) (rs:Int),k≤50∧ps=[.a [.lf n (fJ js),.lf m (fM ms)],.lf c (fC cs),.lf k (fQ q),.n .i64 rs]
noncomputable def o_pj:List PV→Option (Bool × Ret):=fun ps=>some (gP (isPj ps),.v (.b true))
theorem ok_pj:zW Tryz.prog 14 o_pj:=by
 intro ps r hh
 unfold o_pj at hh
 simp only [Option.some.injEq,Prod.mk.injEq] at hh
 obtain ⟨hg,rfl⟩:=hh
 obtain ⟨js,ms,q,n,m,k,cs,c,rs,hk,rfl⟩:=zYG hg
 exact snd_prs js ms q n m k cs c rs hk
def c0:Cn:=⟨0,0,⟨0,0,0⟩,⟨0,0,0⟩,0,0⟩
noncomputable def cdOf (l m:List Int) (n:Nat):Nat→Cn:=fun i=>(yUJ l m n).getD i c0
theorem snd_consV {l mm:List Int} {u:Nat} (hu:u≤2) (hm:mm.length≤9223372036854775807):zH Tryz.prog 11 [.a [.lf (nJ l 0) (fJ (jaOf l)),.lf (nM l 0) (fM (maOf l))],.n .i64 u,zKV mm] (.v (.lf u (fC (cdOf l mm u)))):=by
 refine qQW (Same.lf ?_) (zXY (snd_consO (l:=l) (n:=u) (by omega) hm))
 have:=zXX c0 cp (yUJ l mm u)
 rw [show (yUJ l mm u).length=u from yZQ _ _ _ _] at this
 exact this
theorem snd_nearV {l mm a:List Int} {u:Nat} (hu:u≤2) (hm:mm.length≤9223372036854775807):∃ ce:Nat→Cn,zH Tryz.prog 12 [.a [.lf (nJ l 0) (fJ (jaOf l)),.lf (nM l 0) (fM (maOf l))],.n .i64 u,zKV mm,.lf (nJ l 0) (fQ (cqOf l a))] (.v (.lf u (fC ce))):=by
 have hb:=nJ_b l 0
 have hc:=snd_consO (l:=l) (n:=u) (by omega) hm
 have hlen:(yUJ l mm u).length=u:=yZQ _ _ _ _
 have hc':=qZX (ps':=[.a [.lf (nJ l 0) (fJ (jaOf l)),.lf (nM l 0) (fM (maOf l))],.n .i64 u,.lf mm.length (fQ (iqOf mm))]) (fun _ _ _=>Sames.al (ys:=[_,_,_]) ⟨Same.refl _,Same.refl _,ints_same' mm,trivial⟩) hc
 have tr:∀ {r:Ret},zH Tryz.prog 12 [.a [.lf (nJ l 0) (fJ (jaOf l)),.lf (nM l 0) (fM (maOf l))],.n .i64 u,.lf mm.length (fQ (iqOf mm)),.lf (nJ l 0) (fQ (cqOf l a))] r→zH Tryz.prog 12 [.a [.lf (nJ l 0) (fJ (jaOf l)),.lf (nM l 0) (fM (maOf l))],.n .i64 u,zKV mm,.lf (nJ l 0) (fQ (cqOf l a))] r:=fun h=>qZX (fun _ _ _=>Sames.al (ys:=[_,_,_,_]) ⟨Same.refl _,Same.refl _,yHQ mm,Same.refl _,trivial⟩) h
 match u,hu,yUJ l mm u,hlen,hc',@tr with
 | 0,_,[],_,hc',tr=>exact ⟨fun _=>c0,qQW (Same.lf rfl) (zXY (tr (near0 (jaOf l) (maOf l) (cqOf l a) (nJ l 0) (nM l 0) (nJ l 0) c0 c0 mm.length (iqOf mm) (by omega) hc')))⟩
 | 1,_,[c],_,hc',tr =>
  obtain ⟨c',h⟩:=snd_near (jaOf l) (maOf l) (cqOf l a) (nJ l 0) (nM l 0) (nJ l 0) c mm.length (iqOf mm) (by omega) hc'
  exact ⟨fun _=>c',qQW (Same.lf rfl) (zXY (tr h))⟩
 | 2,_,[c,d],_,hc',tr =>
  obtain ⟨c',d',h⟩:=near2 (jaOf l) (maOf l) (cqOf l a) (nJ l 0) (nM l 0) (nJ l 0) c d mm.length (iqOf mm) (by omega) hc'
  exact ⟨fun i=>match i with | 0=>c' | _=>d',qQW (Same.lf rfl) (zXY (tr h))⟩
theorem gen_law2 (js:Nat→J) (ms:Nat→Ms) (n m:Nat) (cs:Nat→Cn) (c:Nat) (q:Nat→Int) (k:Nat) (rr:Int) (ja:Nat→J) (ma:Nat→Ms) (na ga:Nat) (qa:Nat→Int) (ka:Nat) (cd ce:Nat→Cn) (z:Nat) (L M AL:List (List PV)) (nn:Int) (hka:ka≤50) (h0:zH Tryz.prog 7 [] (.v (.b true))) (h1:zH Tryz.prog 8 [.l L] (.v (.a [.lf na (fJ ja),.lf ga (fM ma)]))) (h2:zH Tryz.prog 9 [.a [.lf na (fJ ja),.lf ga (fM ma)],.l AL] (.v (.lf ka (fQ qa)))) (h3:zH Tryz.prog 11 [.a [.lf na (fJ ja),.lf ga (fM ma)],.n .i64 (nn % 3),.l M] (.v (.lf z (fC cd)))) (h4:zH Tryz.prog 12 [.a [.lf na (fJ ja),.lf ga (fM ma)],.n .i64 (nn % 3),.l M,.lf ka (fQ qa)] (.v (.lf z (fC ce)))) :
  zH Tryz.prog 4 [.a [.lf n (fJ js),.lf m (fM ms)],.lf c (fC cs),.lf k (fQ q),.n .i64 rr,.l L,.l M,.l AL,.n .i64 nn] (.v (.b true)):=by
 refine qG (N:=60) yJ yY (OrL.ok (l:=[(7,o_cr [] (.v (.b true))),(8,o_cr [.l L] (.v (.a [.lf na (fJ ja),.lf ga (fM ma)]))),(9,o_cr [.a [.lf na (fJ ja),.lf ga (fM ma)],.l AL] (.v (.lf ka (fQ qa)))),(13,yUU),(14,o_pj),(11,o_cr [.a [.lf na (fJ ja),.lf ga (fM ma)],.n .i64 (nn % 3),.l M] (.v (.lf z (fC cd)))),(12,o_cr [.a [.lf na (fJ ja),.lf ga (fM ma)],.n .i64 (nn % 3),.l M,.lf ka (fQ qa)] (.v (.lf z (fC ce))))]) ⟨qZW h0,qZW h1,qZW h2,zVH,ok_pj,qZW h3,qZW h4,trivial⟩) ?_
 refine (by kernel_rfl:_=bif (decide (12 < (n:Int))) then (bif (g1 []) then some (.v (.b true),[])
 else none)
 else bif (decide (20 < (k:Int))) then (bif (g1 []) then some (.v (.b true),[])
 else none)
 else bif (decide (12 < (c:Int))) then (bif (g1 []) then some (.v (.b true),[])
 else none)
 else bif (g1 [(.l L)]) then (bif (g1 [.a [.lf na (fJ ja),.lf ga (fM ma)],(.l AL)]) then (bif (g1 []) then (bif (gP (isPj [.a [.lf n (fJ js),.lf m (fM ms)],.lf c (fC cs),.lf k (fQ q),.n .i64 (IntKind.i64.wrap ((rr % 12) - 1))])) then (bif (g1 [.a [.lf na (fJ ja),.lf ga (fM ma)],.n .i64 (nn % 3),(.l M),.lf ka (fQ qa)]) then (bif (gP (isPj [.a [.lf na (fJ ja),.lf ga (fM ma)],.lf z (fC ce),.lf ka (fQ qa),.n .i64 (IntKind.i64.wrap ((rr % 12) - 1))])) then (bif (g1 [.a [.lf na (fJ ja),.lf ga (fM ma)],.n .i64 (nn % 3),(.l M)]) then (bif (gP (isPj [.a [.lf na (fJ ja),.lf ga (fM ma)],.lf z (fC cd),.lf ka (fQ qa),.n .i64 (IntKind.i64.wrap ((rr % 12) - 1))])) then (bif (gP (isPj [.a [.lf na (fJ ja),.lf ga (fM ma)],.lf c (fC cs),.lf ka (fQ qa),.n .i64 rr])) then some (.v (.b true),[])
 else none)
 else none)
 else none)
 else none)
 else none)
 else none)
 else none)
 else none)
 else none).trans ?_
 by_cases hn:12 < (n:Int)
 ·simp only [decide_eq_true hn,g1_t,cond_true]
 by_cases hk:20 < (k:Int)
 ·simp only [decide_eq_false hn,decide_eq_true hk,g1_t,cond_true,cond_false]
 have v1:gP (isPj [.a [.lf n (fJ js),.lf m (fM ms)],.lf c (fC cs),.lf k (fQ q),.n .i64 (IntKind.i64.wrap (rr % 12 - 1))])=true:=yKU ⟨js,ms,q,n,m,k,cs,c,_,by omega,rfl⟩
 have v2:gP (isPj [.a [.lf na (fJ ja),.lf ga (fM ma)],.lf z (fC ce),.lf ka (fQ qa),.n .i64 (IntKind.i64.wrap (rr % 12 - 1))])=true:=yKU ⟨ja,ma,qa,na,ga,ka,ce,z,_,hka,rfl⟩
 have v3:gP (isPj [.a [.lf na (fJ ja),.lf ga (fM ma)],.lf z (fC cd),.lf ka (fQ qa),.n .i64 (IntKind.i64.wrap (rr % 12 - 1))])=true:=yKU ⟨ja,ma,qa,na,ga,ka,cd,z,_,hka,rfl⟩
 have v4:gP (isPj [.a [.lf na (fJ ja),.lf ga (fM ma)],.lf c (fC cs),.lf ka (fQ qa),.n .i64 rr])=true:=yKU ⟨ja,ma,qa,na,ga,ka,cs,c,_,hka,rfl⟩
 simp only [decide_eq_false hn,decide_eq_false hk,g1_t,v1,v2,v3,v4,cond_true,cond_false,Bool.cond_self]
theorem snd_law2 (js:Nat→J) (ms:Nat→Ms) (n m:Nat) (cs:Nat→Cn) (c:Nat) (qq:List Int) (rr:Int) (l mm a:List Int) (nn:Int) (hq:qq.length≤9223372036854775807) (hl:l.length≤9223372036854775807) (hm:mm.length≤9223372036854775807) (ha:a.length≤9223372036854775807) (h0:zH Tryz.prog 7 [] (.v (.b true))) :
  zH Tryz.prog 4 [.a [.lf n (fJ js),.lf m (fM ms)],.lf c (fC cs),zKV qq,.n .i64 rr,zKV l,zKV mm,zKV a,.n .i64 nn] (.v (.b true)):=by
 have hb:=nJ_b l 0
 have hu:0≤nn % 3∧nn % 3 < 3:=by omega
 have hw:nn % 3=(((nn % 3).toNat:Nat):Int):=by omega
 have hc:=snd_consV (l:=l) (mm:=mm) (u:=(nn % 3).toNat) (by omega) hm
 obtain ⟨ce,he⟩:=snd_nearV (l:=l) (mm:=mm) (a:=a) (u:=(nn % 3).toNat) (by omega) hm
 rw [← hw] at hc he
 have h:=gen_law2 js ms n m cs c (iqOf qq) qq.length rr (jaOf l) (maOf l) (nJ l 0) (nM l 0) (cqOf l a) (nJ l 0) (cdOf l mm (nn % 3).toNat) ce (nn % 3).toNat _ _ _ nn (by omega) h0 (snd_robF hl) (snd_cfgF ha) hc he
 exact qZX (fun _ _ _=>Sames.al (ys:=[_,_,_,_,_,_,_,_]) ⟨Same.refl _,Same.refl _,yHQ qq,Same.refl _,Same.refl _,Same.refl _,Same.refl _,Same.refl _,trivial⟩) h
end Go.Proofs.YthkhihoplfpgmaaGreat.Nz
namespace Go.Proofs.YthkhihoplfpgmaaGreat.Ni
open Go.Rx Rt Go.Sx Go.RowKit Go.ChangeShapes Go.WideShapes Od Ov Pc Na Nb Nc Nd Nx
def shJ:List Sh:=[.s,.i .i64,.i .i64,.i .i64,.i .i64,.i .i64,.i .i64,.i .i64,.i .i64,.i .i64,.i .i64,.i .i64]
theorem row_J {ps:List PV} (h:Fits shJ ps):∃ a:J,ps=jp a:=by
 unfold shJ at h
 obtain ⟨p0,q0,rfl,f0,h⟩:=h.cons
 obtain ⟨p1,q1,rfl,f1,h⟩:=h.cons
 obtain ⟨p2,q2,rfl,f2,h⟩:=h.cons
 obtain ⟨p3,q3,rfl,f3,h⟩:=h.cons
 obtain ⟨p4,q4,rfl,f4,h⟩:=h.cons
 obtain ⟨p5,q5,rfl,f5,h⟩:=h.cons
 obtain ⟨p6,q6,rfl,f6,h⟩:=h.cons
 obtain ⟨p7,q7,rfl,f7,h⟩:=h.cons
 obtain ⟨p8,q8,rfl,f8,h⟩:=h.cons
 obtain ⟨p9,q9,rfl,f9,h⟩:=h.cons
 obtain ⟨p10,q10,rfl,f10,h⟩:=h.cons
 obtain ⟨p11,q11,rfl,f11,h⟩:=h.cons
 obtain rfl:=h.nil
 obtain ⟨x0,rfl⟩:=f0.str
 obtain ⟨x1,rfl,_⟩:=f1.int
 obtain ⟨x2,rfl,_⟩:=f2.int
 obtain ⟨x3,rfl,_⟩:=f3.int
 obtain ⟨x4,rfl,_⟩:=f4.int
 obtain ⟨x5,rfl,_⟩:=f5.int
 obtain ⟨x6,rfl,_⟩:=f6.int
 obtain ⟨x7,rfl,_⟩:=f7.int
 obtain ⟨x8,rfl,_⟩:=f8.int
 obtain ⟨x9,rfl,_⟩:=f9.int
 obtain ⟨x10,rfl,_⟩:=f10.int
 obtain ⟨x11,rfl,_⟩:=f11.int
 exact ⟨⟨x0,x1,x2,⟨x3,x4,x5⟩,x6,x7,x8,x9,x10,x11⟩,rfl⟩
def shM:List Sh:=[.i .i64,.i .i64,.i .i64,.i .i64,.i .i64]
theorem row_M {ps:List PV} (h:Fits shM ps):∃ a:Ms,ps=mp a:=by
 unfold shM at h
 obtain ⟨p0,q0,rfl,f0,h⟩:=h.cons
 obtain ⟨p1,q1,rfl,f1,h⟩:=h.cons
 obtain ⟨p2,q2,rfl,f2,h⟩:=h.cons
 obtain ⟨p3,q3,rfl,f3,h⟩:=h.cons
 obtain ⟨p4,q4,rfl,f4,h⟩:=h.cons
 obtain rfl:=h.nil
 obtain ⟨x0,rfl,_⟩:=f0.int
 obtain ⟨x1,rfl,_⟩:=f1.int
 obtain ⟨x2,rfl,_⟩:=f2.int
 obtain ⟨x3,rfl,_⟩:=f3.int
 obtain ⟨x4,rfl,_⟩:=f4.int
 exact ⟨⟨x0,x1,⟨x2,x3,x4⟩⟩,rfl⟩
def shC:List Sh:=[.i .i64,.i .i64,.i .i64,.i .i64,.i .i64,.i .i64,.i .i64,.i .i64,.i .i64,.i .i64]
theorem row_C {ps:List PV} (h:Fits shC ps):∃ a:Cn,ps=cp a:=by
 unfold shC at h
 obtain ⟨p0,q0,rfl,f0,h⟩:=h.cons
 obtain ⟨p1,q1,rfl,f1,h⟩:=h.cons
 obtain ⟨p2,q2,rfl,f2,h⟩:=h.cons
 obtain ⟨p3,q3,rfl,f3,h⟩:=h.cons
 obtain ⟨p4,q4,rfl,f4,h⟩:=h.cons
 obtain ⟨p5,q5,rfl,f5,h⟩:=h.cons
 obtain ⟨p6,q6,rfl,f6,h⟩:=h.cons
 obtain ⟨p7,q7,rfl,f7,h⟩:=h.cons
 obtain ⟨p8,q8,rfl,f8,h⟩:=h.cons
 obtain ⟨p9,q9,rfl,f9,h⟩:=h.cons
 obtain rfl:=h.nil
 obtain ⟨x0,rfl,_⟩:=f0.int
 obtain ⟨x1,rfl,_⟩:=f1.int
 obtain ⟨x2,rfl,_⟩:=f2.int
 obtain ⟨x3,rfl,_⟩:=f3.int
 obtain ⟨x4,rfl,_⟩:=f4.int
 obtain ⟨x5,rfl,_⟩:=f5.int
 obtain ⟨x6,rfl,_⟩:=f6.int
 obtain ⟨x7,rfl,_⟩:=f7.int
 obtain ⟨x8,rfl,_⟩:=f8.int
 obtain ⟨x9,rfl,_⟩:=f9.int
 exact ⟨⟨x0,x1,⟨x2,x3,x4⟩,⟨x5,x6,x7⟩,x8,x9⟩,rfl⟩
section
variable {W:World} {H:Type} {enc:TypeId × Value→H} {r:Reach} {base:Nat} {v:Value} {d:DataW H} {p:List MemPlace}
abbrev RW (W:World):PV→Value→Prop:=RP (fun k=>k < W.heap.size) W
theorem shT_r:shT Tryz.prog 8 25=some [.l shJ,.l shM]:=by kernel_rfl
theorem shT_cs:shT Tryz.prog 8 36=some [.l shC]:=by kernel_rfl
set_option maxRecDepth 100000 in
theorem open_robot (hv:Value.okWide Tryz.prog W r base 25 v) (h:DataW.Trod enc Tryz.prog W 0 (fun _=>true) true 25 v d p):∃ (js:Nat→J) (ms:Nat→Ms) (n m:Nat),RW W (.a [.lf n (fJ js),.lf m (fM ms)]) v:=by
 obtain ⟨ps,hr,hf⟩:=open_str Tryz.underlying25 hv h shT_r
 obtain ⟨p1,ps,rfl,f1,hf⟩:=hf.cons
 obtain ⟨p2,ps,rfl,f2,hf⟩:=hf.cons
 obtain rfl:=hf.nil
 obtain ⟨n,f,rfl,g1⟩:=f1.slc
 obtain ⟨m,g,rfl,g2⟩:=f2.slc
 obtain ⟨js,hj⟩:∃ js:Nat→J,∀ j,j < n→f j=fJ js j:=by
  have each:∀ j,∃ a:J,j < n→f j=jp a:=fun j=>by
   by_cases hj:j < n
   ·obtain ⟨a,ha⟩:=row_J (g1 j hj); exact ⟨a,fun _=>ha⟩
   ·exact ⟨⟨ByteArray.empty,0,0,⟨0,0,0⟩,0,0,0,0,0,0⟩,fun h=>absurd h hj⟩
  obtain ⟨js,hjs⟩:=Classical.axiomOfChoice each
  exact ⟨js,hjs⟩
 obtain ⟨ms,hm⟩:∃ ms:Nat→Ms,∀ j,j < m→g j=fM ms j:=by
  have each:∀ j,∃ a:Ms,j < m→g j=mp a:=fun j=>by
   by_cases hj:j < m
   ·obtain ⟨a,ha⟩:=row_M (g2 j hj); exact ⟨a,fun _=>ha⟩
   ·exact ⟨⟨0,0,⟨0,0,0⟩⟩,fun h=>absurd h hj⟩
  obtain ⟨ms,hms⟩:=Classical.axiomOfChoice each
  exact ⟨ms,hms⟩
 have s:Sames [.lf n f,.lf m g] [.lf n (fJ js),.lf m (fM ms)]:=⟨zZK hj,zZK hm,trivial⟩
 exact ⟨js,ms,n,m,Same.a s _ _ _ hr⟩
set_option maxRecDepth 100000 in
theorem open_cons (hv:Value.okWide Tryz.prog W r base 36 v) (h:DataW.Trod enc Tryz.prog W 0 (fun _=>true) true 36 v d p):∃ (cs:Nat→Cn) (c:Nat),RW W (.lf c (fC cs)) v:=by
 obtain ⟨n,f,hr,hf⟩:=open_slc Tryz.underlying36 hv h shT_cs
 obtain ⟨cs,hc⟩:=lf_fn (enc:=cp) (⟨0,0,⟨0,0,0⟩,⟨0,0,0⟩,0,0⟩:Cn) (fun _ h=>row_C h) hf hr
 exact ⟨cs,n,hc⟩
end
end Go.Proofs.YthkhihoplfpgmaaGreat.Ni
namespace Go.Proofs.YthkhihoplfpgmaaGreat.Aw
open Go.Rx Rt
noncomputable def k140:List (List PV × Ret):=[([.a [.n .i64 65536,.n .i64 65536,.n .i64 0,.n .i64 0,.n .i64 0,.n .i64 0,.n .i64 0,.n .i64 0,.n .i64 65536,.n .i64 65536,.n .i64 0,.n .i64 0,.n .i64 0,.n .i64 0,.n .i64 0,.n .i64 0,.n .i64 65536,.n .i64 65536,.n .i64 0,.n .i64 0,.n .i64 0,.n .i64 0,.n .i64 0,.n .i64 0],.a [.n .i64 65536,.n .i64 65536,.n .i64 0,.n .i64 0,.n .i64 0,.n .i64 0,.n .i64 0,.n .i64 0,.n .i64 65536,.n .i64 65536,.n .i64 0,.n .i64 0,.n .i64 0,.n .i64 0,.n .i64 0,.n .i64 0,.n .i64 65536,.n .i64 65536,.n .i64 5,.n .i64 5,.n .i64 0,.n .i64 0,.n .i64 0,.n .i64 0]],.v (.a [.n .i64 65536,.n .i64 65536,.n .i64 0,.n .i64 0,.n .i64 0,.n .i64 0,.n .i64 0,.n .i64 0,.n .i64 65536,.n .i64 65536,.n .i64 0,.n .i64 0,.n .i64 0,.n .i64 0,.n .i64 0,.n .i64 0,.n .i64 65536,.n .i64 65536,.n .i64 5,.n .i64 5,.n .i64 0,.n .i64 0,.n .i64 0,.n .i64 0])),
 ([.a [.n .i64 65536,.n .i64 65536,.n .i64 0,.n .i64 0,.n .i64 0,.n .i64 0,.n .i64 0,.n .i64 0,.n .i64 65536,.n .i64 65536,.n .i64 0,.n .i64 0,.n .i64 0,.n .i64 0,.n .i64 0,.n .i64 0,.n .i64 65536,.n .i64 65536,.n .i64 0,.n .i64 0,.n .i64 0,.n .i64 0,.n .i64 0,.n .i64 0],.a [.n .i64 65536,.n .i64 65536,.n .i64 0,.n .i64 0,.n .i64 0,.n .i64 0,.n .i64 0,.n .i64 0,.n .i64 65536,.n .i64 65536,.n .i64 0,.n .i64 0,.n .i64 0,.n .i64 0,.n .i64 0,.n .i64 0,.n .i64 65536,.n .i64 65536,.n .i64 0,.n .i64 0,.n .i64 7,.n .i64 7,.n .i64 0,.n .i64 0]],.v (.a [.n .i64 65536,.n .i64 65536,.n .i64 0,.n .i64 0,.n .i64 0,.n .i64 0,.n .i64 0,.n .i64 0,.n .i64 65536,.n .i64 65536,.n .i64 0,.n .i64 0,.n .i64 0,.n .i64 0,.n .i64 0,.n .i64 0,.n .i64 65536,.n .i64 65536,.n .i64 0,.n .i64 0,.n .i64 7,.n .i64 7,.n .i64 0,.n .i64 0])),
 ([.a [.n .i64 65536,.n .i64 65536,.n .i64 0,.n .i64 0,.n .i64 0,.n .i64 0,.n .i64 0,.n .i64 0,.n .i64 65536,.n .i64 65536,.n .i64 0,.n .i64 0,.n .i64 0,.n .i64 0,.n .i64 0,.n .i64 0,.n .i64 65536,.n .i64 65536,.n .i64 5,.n .i64 5,.n .i64 0,.n .i64 0,.n .i64 0,.n .i64 0],.a [.n .i64 65536,.n .i64 65536,.n .i64 0,.n .i64 0,.n .i64 0,.n .i64 0,.n .i64 0,.n .i64 0,.n .i64 65536,.n .i64 65536,.n .i64 0,.n .i64 0,.n .i64 0,.n .i64 0,.n .i64 0,.n .i64 0,.n .i64 65536,.n .i64 65536,.n .i64 0,.n .i64 0,.n .i64 7,.n .i64 7,.n .i64 0,.n .i64 0]],.v (.a [.n .i64 65536,.n .i64 65536,.n .i64 0,.n .i64 0,.n .i64 0,.n .i64 0,.n .i64 0,.n .i64 0,.n .i64 65536,.n .i64 65536,.n .i64 0,.n .i64 0,.n .i64 0,.n .i64 0,.n .i64 0,.n .i64 0,.n .i64 65536,.n .i64 65536,.n .i64 5,.n .i64 5,.n .i64 7,.n .i64 7,.n .i64 0,.n .i64 0])),
 ([.a [.n .i64 65536,.n .i64 65536,.n .i64 0,.n .i64 0,.n .i64 0,.n .i64 0,.n .i64 0,.n .i64 0,.n .i64 65536,.n .i64 65536,.n .i64 0,.n .i64 0,.n .i64 0,.n .i64 0,.n .i64 0,.n .i64 0,.n .i64 65536,.n .i64 65536,.n .i64 0,.n .i64 0,.n .i64 0,.n .i64 0,.n .i64 0,.n .i64 0],.a [.n .i64 65536,.n .i64 65536,.n .i64 0,.n .i64 0,.n .i64 0,.n .i64 0,.n .i64 0,.n .i64 0,.n .i64 65536,.n .i64 65536,.n .i64 0,.n .i64 0,.n .i64 0,.n .i64 0,.n .i64 0,.n .i64 0,.n .i64 65536,.n .i64 65536,.n .i64 0,.n .i64 0,.n .i64 0,.n .i64 0,.n .i64 0,.n .i64 0]],.v (.a [.n .i64 65536,.n .i64 65536,.n .i64 0,.n .i64 0,.n .i64 0,.n .i64 0,.n .i64 0,.n .i64 0,.n .i64 65536,.n .i64 65536,.n .i64 0,.n .i64 0,.n .i64 0,.n .i64 0,.n .i64 0,.n .i64 0,.n .i64 65536,.n .i64 65536,.n .i64 0,.n .i64 0,.n .i64 0,.n .i64 0,.n .i64 0,.n .i64 0])),
 ([.a [.n .i64 65536,.n .i64 65536,.n .i64 0,.n .i64 0,.n .i64 0,.n .i64 0,.n .i64 0,.n .i64 0,.n .i64 65536,.n .i64 65536,.n .i64 0,.n .i64 0,.n .i64 0,.n .i64 0,.n .i64 0,.n .i64 0,.n .i64 65536,.n .i64 65536,.n .i64 0,.n .i64 0,.n .i64 0,.n .i64 0,.n .i64 0,.n .i64 0],.a [.n .i64 65536,.n .i64 65536,.n .i64 0,.n .i64 0,.n .i64 0,.n .i64 0,.n .i64 0,.n .i64 0,.n .i64 65536,.n .i64 65536,.n .i64 0,.n .i64 0,.n .i64 0,.n .i64 0,.n .i64 0,.n .i64 0,.n .i64 65536,.n .i64 65536,.n .i64 69,.n .i64 69,.n .i64 0,.n .i64 0,.n .i64 0,.n .i64 0]],.v (.a [.n .i64 65536,.n .i64 65536,.n .i64 0,.n .i64 0,.n .i64 0,.n .i64 0,.n .i64 0,.n .i64 0,.n .i64 65536,.n .i64 65536,.n .i64 0,.n .i64 0,.n .i64 0,.n .i64 0,.n .i64 0,.n .i64 0,.n .i64 65536,.n .i64 65536,.n .i64 69,.n .i64 69,.n .i64 0,.n .i64 0,.n .i64 0,.n .i64 0])),
 ([.a [.n .i64 65536,.n .i64 65536,.n .i64 0,.n .i64 0,.n .i64 0,.n .i64 0,.n .i64 0,.n .i64 0,.n .i64 65536,.n .i64 65536,.n .i64 0,.n .i64 0,.n .i64 0,.n .i64 0,.n .i64 0,.n .i64 0,.n .i64 65536,.n .i64 65536,.n .i64 69,.n .i64 69,.n .i64 0,.n .i64 0,.n .i64 0,.n .i64 0],.a [.n .i64 65536,.n .i64 65536,.n .i64 0,.n .i64 0,.n .i64 0,.n .i64 0,.n .i64 0,.n .i64 0,.n .i64 65536,.n .i64 65536,.n .i64 0,.n .i64 0,.n .i64 0,.n .i64 0,.n .i64 0,.n .i64 0,.n .i64 65536,.n .i64 65536,.n .i64 0,.n .i64 0,.n .i64 7,.n .i64 7,.n .i64 0,.n .i64 0]],.v (.a [.n .i64 65536,.n .i64 65536,.n .i64 0,.n .i64 0,.n .i64 0,.n .i64 0,.n .i64 0,.n .i64 0,.n .i64 65536,.n .i64 65536,.n .i64 0,.n .i64 0,.n .i64 0,.n .i64 0,.n .i64 0,.n .i64 0,.n .i64 65536,.n .i64 65536,.n .i64 69,.n .i64 69,.n .i64 7,.n .i64 7,.n .i64 0,.n .i64 0])),
 ([.a [.n .i64 65536,.n .i64 65536,.n .i64 0,.n .i64 0,.n .i64 0,.n .i64 0,.n .i64 0,.n .i64 0,.n .i64 65536,.n .i64 65536,.n .i64 0,.n .i64 0,.n .i64 0,.n .i64 0,.n .i64 0,.n .i64 0,.n .i64 65536,.n .i64 65536,.n .i64 5,.n .i64 5,.n .i64 0,.n .i64 0,.n .i64 0,.n .i64 0],.a [.n .i64 65536,.n .i64 65536,.n .i64 0,.n .i64 0,.n .i64 0,.n .i64 0,.n .i64 0,.n .i64 0,.n .i64 65536,.n .i64 65536,.n .i64 0,.n .i64 0,.n .i64 0,.n .i64 0,.n .i64 0,.n .i64 0,.n .i64 65536,.n .i64 65536,.n .i64 0,.n .i64 0,.n .i64 0,.n .i64 0,.n .i64 0,.n .i64 0]],.v (.a [.n .i64 65536,.n .i64 65536,.n .i64 0,.n .i64 0,.n .i64 0,.n .i64 0,.n .i64 0,.n .i64 0,.n .i64 65536,.n .i64 65536,.n .i64 0,.n .i64 0,.n .i64 0,.n .i64 0,.n .i64 0,.n .i64 0,.n .i64 65536,.n .i64 65536,.n .i64 5,.n .i64 5,.n .i64 0,.n .i64 0,.n .i64 0,.n .i64 0])),
 ([.a [.n .i64 65536,.n .i64 65536,.n .i64 0,.n .i64 0,.n .i64 0,.n .i64 0,.n .i64 0,.n .i64 0,.n .i64 65536,.n .i64 65536,.n .i64 0,.n .i64 0,.n .i64 0,.n .i64 0,.n .i64 0,.n .i64 0,.n .i64 65536,.n .i64 65536,.n .i64 0,.n .i64 0,.n .i64 0,.n .i64 0,.n .i64 0,.n .i64 0],.a [.n .i64 65536,.n .i64 65536,.n .i64 0,.n .i64 0,.n .i64 0,.n .i64 0,.n .i64 0,.n .i64 0,.n .i64 65536,.n .i64 65536,.n .i64 0,.n .i64 0,.n .i64 0,.n .i64 0,.n .i64 0,.n .i64 0,.n .i64 65536,.n .i64 65536,.n .i64 0,.n .i64 0,.n .i64 71,.n .i64 71,.n .i64 0,.n .i64 0]],.v (.a [.n .i64 65536,.n .i64 65536,.n .i64 0,.n .i64 0,.n .i64 0,.n .i64 0,.n .i64 0,.n .i64 0,.n .i64 65536,.n .i64 65536,.n .i64 0,.n .i64 0,.n .i64 0,.n .i64 0,.n .i64 0,.n .i64 0,.n .i64 65536,.n .i64 65536,.n .i64 0,.n .i64 0,.n .i64 71,.n .i64 71,.n .i64 0,.n .i64 0])),
 ([.a [.n .i64 65536,.n .i64 65536,.n .i64 0,.n .i64 0,.n .i64 0,.n .i64 0,.n .i64 0,.n .i64 0,.n .i64 65536,.n .i64 65536,.n .i64 0,.n .i64 0,.n .i64 0,.n .i64 0,.n .i64 0,.n .i64 0,.n .i64 65536,.n .i64 65536,.n .i64 5,.n .i64 5,.n .i64 0,.n .i64 0,.n .i64 0,.n .i64 0],.a [.n .i64 65536,.n .i64 65536,.n .i64 0,.n .i64 0,.n .i64 0,.n .i64 0,.n .i64 0,.n .i64 0,.n .i64 65536,.n .i64 65536,.n .i64 0,.n .i64 0,.n .i64 0,.n .i64 0,.n .i64 0,.n .i64 0,.n .i64 65536,.n .i64 65536,.n .i64 0,.n .i64 0,.n .i64 71,.n .i64 71,.n .i64 0,.n .i64 0]],.v (.a [.n .i64 65536,.n .i64 65536,.n .i64 0,.n .i64 0,.n .i64 0,.n .i64 0,.n .i64 0,.n .i64 0,.n .i64 65536,.n .i64 65536,.n .i64 0,.n .i64 0,.n .i64 0,.n .i64 0,.n .i64 0,.n .i64 0,.n .i64 65536,.n .i64 65536,.n .i64 5,.n .i64 5,.n .i64 71,.n .i64 71,.n .i64 0,.n .i64 0])),
 ([.a [.n .i64 65536,.n .i64 65536,.n .i64 0,.n .i64 0,.n .i64 0,.n .i64 0,.n .i64 0,.n .i64 0,.n .i64 65536,.n .i64 65536,.n .i64 0,.n .i64 0,.n .i64 0,.n .i64 0,.n .i64 0,.n .i64 0,.n .i64 65536,.n .i64 65536,.n .i64 0,.n .i64 0,.n .i64 0,.n .i64 0,.n .i64 0,.n .i64 0],.a [.n .i64 65536,.n .i64 65536,.n .i64 0,.n .i64 0,.n .i64 0,.n .i64 0,.n .i64 0,.n .i64 0,.n .i64 65536,.n .i64 65536,.n .i64 0,.n .i64 0,.n .i64 0,.n .i64 0,.n .i64 0,.n .i64 0,.n .i64 65536,.n .i64 65536,.n .i64 0,.n .i64 0,.n .i64 301,.n .i64 301,.n .i64 0,.n .i64 0]],.v (.a [.n .i64 65536,.n .i64 65536,.n .i64 0,.n .i64 0,.n .i64 0,.n .i64 0,.n .i64 0,.n .i64 0,.n .i64 65536,.n .i64 65536,.n .i64 0,.n .i64 0,.n .i64 0,.n .i64 0,.n .i64 0,.n .i64 0,.n .i64 65536,.n .i64 65536,.n .i64 0,.n .i64 0,.n .i64 301,.n .i64 301,.n .i64 0,.n .i64 0])),
 ([.a [.n .i64 65536,.n .i64 65536,.n .i64 0,.n .i64 0,.n .i64 0,.n .i64 0,.n .i64 0,.n .i64 0,.n .i64 65536,.n .i64 65536,.n .i64 0,.n .i64 0,.n .i64 0,.n .i64 0,.n .i64 0,.n .i64 0,.n .i64 65536,.n .i64 65536,.n .i64 5,.n .i64 5,.n .i64 0,.n .i64 0,.n .i64 0,.n .i64 0],.a [.n .i64 65536,.n .i64 65536,.n .i64 0,.n .i64 0,.n .i64 0,.n .i64 0,.n .i64 0,.n .i64 0,.n .i64 65536,.n .i64 65536,.n .i64 0,.n .i64 0,.n .i64 0,.n .i64 0,.n .i64 0,.n .i64 0,.n .i64 65536,.n .i64 65536,.n .i64 0,.n .i64 0,.n .i64 301,.n .i64 301,.n .i64 0,.n .i64 0]],.v (.a [.n .i64 65536,.n .i64 65536,.n .i64 0,.n .i64 0,.n .i64 0,.n .i64 0,.n .i64 0,.n .i64 0,.n .i64 65536,.n .i64 65536,.n .i64 0,.n .i64 0,.n .i64 0,.n .i64 0,.n .i64 0,.n .i64 0,.n .i64 65536,.n .i64 65536,.n .i64 5,.n .i64 5,.n .i64 301,.n .i64 301,.n .i64 0,.n .i64 0]))]
noncomputable def t140:Known:=(140,k140) :: ([]:Known)
theorem ok140:Known.Ok Tryz.prog t140:=Known.add yJ yY (Known.nil _) (N:=60) (by kernel_rfl)
noncomputable def k125:List (List PV × Ret):=[([.a [.l [[.s (ByteArray.mk #[97]),.n .i64 4,.n .i64 (-1),.n .i64 0,.n .i64 0,.n .i64 0,.n .i64 0,.n .i64 640,.n .i64 1,.n .i64 65536,.n .i64 65536,.n .i64 65536],[.s (ByteArray.mk #[98]),.n .i64 5,.n .i64 0,.n .i64 0,.n .i64 0,.n .i64 0,.n .i64 0,.n .i64 640,.n .i64 1,.n .i64 65536,.n .i64 65536,.n .i64 65536]],.l []],.l [[.n .i64 5,.n .i64 5],[.n .i64 7,.n .i64 7]]],.ow 102 24 (.l [[.n .i64 65536,.n .i64 65536,.n .i64 0,.n .i64 0,.n .i64 0,.n .i64 0,.n .i64 0,.n .i64 0,.n .i64 65536,.n .i64 65536,.n .i64 0,.n .i64 0,.n .i64 0,.n .i64 0,.n .i64 0,.n .i64 0,.n .i64 65536,.n .i64 65536,.n .i64 5,.n .i64 5,.n .i64 0,.n .i64 0,.n .i64 0,.n .i64 0],[.n .i64 65536,.n .i64 65536,.n .i64 0,.n .i64 0,.n .i64 0,.n .i64 0,.n .i64 0,.n .i64 0,.n .i64 65536,.n .i64 65536,.n .i64 0,.n .i64 0,.n .i64 0,.n .i64 0,.n .i64 0,.n .i64 0,.n .i64 65536,.n .i64 65536,.n .i64 5,.n .i64 5,.n .i64 7,.n .i64 7,.n .i64 0,.n .i64 0]])),
 ([.a [.l [[.s (ByteArray.mk #[97]),.n .i64 4,.n .i64 (-1),.n .i64 0,.n .i64 0,.n .i64 0,.n .i64 0,.n .i64 640,.n .i64 1,.n .i64 65536,.n .i64 65536,.n .i64 65536],[.s (ByteArray.mk #[98]),.n .i64 5,.n .i64 0,.n .i64 0,.n .i64 0,.n .i64 0,.n .i64 0,.n .i64 640,.n .i64 1,.n .i64 65536,.n .i64 65536,.n .i64 65536]],.l []],.l [[.n .i64 0,.n .i64 0],[.n .i64 7,.n .i64 7]]],.ow 102 24 (.l [[.n .i64 65536,.n .i64 65536,.n .i64 0,.n .i64 0,.n .i64 0,.n .i64 0,.n .i64 0,.n .i64 0,.n .i64 65536,.n .i64 65536,.n .i64 0,.n .i64 0,.n .i64 0,.n .i64 0,.n .i64 0,.n .i64 0,.n .i64 65536,.n .i64 65536,.n .i64 0,.n .i64 0,.n .i64 0,.n .i64 0,.n .i64 0,.n .i64 0],[.n .i64 65536,.n .i64 65536,.n .i64 0,.n .i64 0,.n .i64 0,.n .i64 0,.n .i64 0,.n .i64 0,.n .i64 65536,.n .i64 65536,.n .i64 0,.n .i64 0,.n .i64 0,.n .i64 0,.n .i64 0,.n .i64 0,.n .i64 65536,.n .i64 65536,.n .i64 0,.n .i64 0,.n .i64 7,.n .i64 7,.n .i64 0,.n .i64 0]])),
 ([.a [.l [[.s (ByteArray.mk #[97]),.n .i64 4,.n .i64 (-1),.n .i64 0,.n .i64 0,.n .i64 0,.n .i64 0,.n .i64 640,.n .i64 1,.n .i64 65536,.n .i64 65536,.n .i64 65536],[.s (ByteArray.mk #[98]),.n .i64 5,.n .i64 0,.n .i64 0,.n .i64 0,.n .i64 0,.n .i64 0,.n .i64 640,.n .i64 1,.n .i64 65536,.n .i64 65536,.n .i64 65536]],.l []],.l [[.n .i64 69,.n .i64 69],[.n .i64 7,.n .i64 7]]],.ow 102 24 (.l [[.n .i64 65536,.n .i64 65536,.n .i64 0,.n .i64 0,.n .i64 0,.n .i64 0,.n .i64 0,.n .i64 0,.n .i64 65536,.n .i64 65536,.n .i64 0,.n .i64 0,.n .i64 0,.n .i64 0,.n .i64 0,.n .i64 0,.n .i64 65536,.n .i64 65536,.n .i64 69,.n .i64 69,.n .i64 0,.n .i64 0,.n .i64 0,.n .i64 0],[.n .i64 65536,.n .i64 65536,.n .i64 0,.n .i64 0,.n .i64 0,.n .i64 0,.n .i64 0,.n .i64 0,.n .i64 65536,.n .i64 65536,.n .i64 0,.n .i64 0,.n .i64 0,.n .i64 0,.n .i64 0,.n .i64 0,.n .i64 65536,.n .i64 65536,.n .i64 69,.n .i64 69,.n .i64 7,.n .i64 7,.n .i64 0,.n .i64 0]])),
 ([.a [.l [[.s (ByteArray.mk #[97]),.n .i64 4,.n .i64 (-1),.n .i64 0,.n .i64 0,.n .i64 0,.n .i64 0,.n .i64 640,.n .i64 1,.n .i64 65536,.n .i64 65536,.n .i64 65536],[.s (ByteArray.mk #[98]),.n .i64 5,.n .i64 0,.n .i64 0,.n .i64 0,.n .i64 0,.n .i64 0,.n .i64 640,.n .i64 1,.n .i64 65536,.n .i64 65536,.n .i64 65536]],.l []],.l [[.n .i64 5,.n .i64 5],[.n .i64 0,.n .i64 0]]],.ow 102 24 (.l [[.n .i64 65536,.n .i64 65536,.n .i64 0,.n .i64 0,.n .i64 0,.n .i64 0,.n .i64 0,.n .i64 0,.n .i64 65536,.n .i64 65536,.n .i64 0,.n .i64 0,.n .i64 0,.n .i64 0,.n .i64 0,.n .i64 0,.n .i64 65536,.n .i64 65536,.n .i64 5,.n .i64 5,.n .i64 0,.n .i64 0,.n .i64 0,.n .i64 0],[.n .i64 65536,.n .i64 65536,.n .i64 0,.n .i64 0,.n .i64 0,.n .i64 0,.n .i64 0,.n .i64 0,.n .i64 65536,.n .i64 65536,.n .i64 0,.n .i64 0,.n .i64 0,.n .i64 0,.n .i64 0,.n .i64 0,.n .i64 65536,.n .i64 65536,.n .i64 5,.n .i64 5,.n .i64 0,.n .i64 0,.n .i64 0,.n .i64 0]])),
 ([.a [.l [[.s (ByteArray.mk #[97]),.n .i64 4,.n .i64 (-1),.n .i64 0,.n .i64 0,.n .i64 0,.n .i64 0,.n .i64 640,.n .i64 1,.n .i64 65536,.n .i64 65536,.n .i64 65536],[.s (ByteArray.mk #[98]),.n .i64 5,.n .i64 0,.n .i64 0,.n .i64 0,.n .i64 0,.n .i64 0,.n .i64 640,.n .i64 1,.n .i64 65536,.n .i64 65536,.n .i64 65536]],.l []],.l [[.n .i64 5,.n .i64 5],[.n .i64 71,.n .i64 71]]],.ow 102 24 (.l [[.n .i64 65536,.n .i64 65536,.n .i64 0,.n .i64 0,.n .i64 0,.n .i64 0,.n .i64 0,.n .i64 0,.n .i64 65536,.n .i64 65536,.n .i64 0,.n .i64 0,.n .i64 0,.n .i64 0,.n .i64 0,.n .i64 0,.n .i64 65536,.n .i64 65536,.n .i64 5,.n .i64 5,.n .i64 0,.n .i64 0,.n .i64 0,.n .i64 0],[.n .i64 65536,.n .i64 65536,.n .i64 0,.n .i64 0,.n .i64 0,.n .i64 0,.n .i64 0,.n .i64 0,.n .i64 65536,.n .i64 65536,.n .i64 0,.n .i64 0,.n .i64 0,.n .i64 0,.n .i64 0,.n .i64 0,.n .i64 65536,.n .i64 65536,.n .i64 5,.n .i64 5,.n .i64 71,.n .i64 71,.n .i64 0,.n .i64 0]])),
 ([.a [.l [[.s (ByteArray.mk #[97]),.n .i64 4,.n .i64 (-1),.n .i64 0,.n .i64 0,.n .i64 0,.n .i64 0,.n .i64 640,.n .i64 1,.n .i64 65536,.n .i64 65536,.n .i64 65536],[.s (ByteArray.mk #[98]),.n .i64 5,.n .i64 0,.n .i64 0,.n .i64 0,.n .i64 0,.n .i64 0,.n .i64 640,.n .i64 1,.n .i64 65536,.n .i64 65536,.n .i64 65536]],.l []],.l [[.n .i64 5,.n .i64 5],[.n .i64 301,.n .i64 301]]],.ow 102 24 (.l [[.n .i64 65536,.n .i64 65536,.n .i64 0,.n .i64 0,.n .i64 0,.n .i64 0,.n .i64 0,.n .i64 0,.n .i64 65536,.n .i64 65536,.n .i64 0,.n .i64 0,.n .i64 0,.n .i64 0,.n .i64 0,.n .i64 0,.n .i64 65536,.n .i64 65536,.n .i64 5,.n .i64 5,.n .i64 0,.n .i64 0,.n .i64 0,.n .i64 0],[.n .i64 65536,.n .i64 65536,.n .i64 0,.n .i64 0,.n .i64 0,.n .i64 0,.n .i64 0,.n .i64 0,.n .i64 65536,.n .i64 65536,.n .i64 0,.n .i64 0,.n .i64 0,.n .i64 0,.n .i64 0,.n .i64 0,.n .i64 65536,.n .i64 65536,.n .i64 5,.n .i64 5,.n .i64 301,.n .i64 301,.n .i64 0,.n .i64 0]]))]
noncomputable def t125:Known:=(125,k125) :: t140
theorem ok125:Known.Ok Tryz.prog t125:=Known.add yJ yY (ok140) (N:=60) (by kernel_rfl)
noncomputable def k98:List (List PV × Ret):=[([.a [.l [[.s (ByteArray.mk #[97]),.n .i64 4,.n .i64 (-1),.n .i64 0,.n .i64 0,.n .i64 0,.n .i64 0,.n .i64 640,.n .i64 1,.n .i64 65536,.n .i64 65536,.n .i64 65536],[.s (ByteArray.mk #[98]),.n .i64 5,.n .i64 0,.n .i64 0,.n .i64 0,.n .i64 0,.n .i64 0,.n .i64 640,.n .i64 1,.n .i64 65536,.n .i64 65536,.n .i64 65536]],.l []],.l [[.n .i64 5,.n .i64 5],[.n .i64 7,.n .i64 7]]],.v (.l [[.n .i64 65536,.n .i64 65536,.n .i64 0,.n .i64 0,.n .i64 0,.n .i64 0,.n .i64 0,.n .i64 0,.n .i64 65536,.n .i64 65536,.n .i64 0,.n .i64 0,.n .i64 0,.n .i64 0,.n .i64 0,.n .i64 0,.n .i64 65536,.n .i64 65536,.n .i64 5,.n .i64 5,.n .i64 0,.n .i64 0,.n .i64 0,.n .i64 0],[.n .i64 65536,.n .i64 65536,.n .i64 0,.n .i64 0,.n .i64 0,.n .i64 0,.n .i64 0,.n .i64 0,.n .i64 65536,.n .i64 65536,.n .i64 0,.n .i64 0,.n .i64 0,.n .i64 0,.n .i64 0,.n .i64 0,.n .i64 65536,.n .i64 65536,.n .i64 5,.n .i64 5,.n .i64 7,.n .i64 7,.n .i64 0,.n .i64 0]])),
 ([.a [.l [[.s (ByteArray.mk #[97]),.n .i64 4,.n .i64 (-1),.n .i64 0,.n .i64 0,.n .i64 0,.n .i64 0,.n .i64 640,.n .i64 1,.n .i64 65536,.n .i64 65536,.n .i64 65536],[.s (ByteArray.mk #[98]),.n .i64 5,.n .i64 0,.n .i64 0,.n .i64 0,.n .i64 0,.n .i64 0,.n .i64 640,.n .i64 1,.n .i64 65536,.n .i64 65536,.n .i64 65536]],.l []],.l [[.n .i64 0,.n .i64 0],[.n .i64 7,.n .i64 7]]],.v (.l [[.n .i64 65536,.n .i64 65536,.n .i64 0,.n .i64 0,.n .i64 0,.n .i64 0,.n .i64 0,.n .i64 0,.n .i64 65536,.n .i64 65536,.n .i64 0,.n .i64 0,.n .i64 0,.n .i64 0,.n .i64 0,.n .i64 0,.n .i64 65536,.n .i64 65536,.n .i64 0,.n .i64 0,.n .i64 0,.n .i64 0,.n .i64 0,.n .i64 0],[.n .i64 65536,.n .i64 65536,.n .i64 0,.n .i64 0,.n .i64 0,.n .i64 0,.n .i64 0,.n .i64 0,.n .i64 65536,.n .i64 65536,.n .i64 0,.n .i64 0,.n .i64 0,.n .i64 0,.n .i64 0,.n .i64 0,.n .i64 65536,.n .i64 65536,.n .i64 0,.n .i64 0,.n .i64 7,.n .i64 7,.n .i64 0,.n .i64 0]])),
 ([.a [.l [[.s (ByteArray.mk #[97]),.n .i64 4,.n .i64 (-1),.n .i64 0,.n .i64 0,.n .i64 0,.n .i64 0,.n .i64 640,.n .i64 1,.n .i64 65536,.n .i64 65536,.n .i64 65536],[.s (ByteArray.mk #[98]),.n .i64 5,.n .i64 0,.n .i64 0,.n .i64 0,.n .i64 0,.n .i64 0,.n .i64 640,.n .i64 1,.n .i64 65536,.n .i64 65536,.n .i64 65536]],.l []],.l [[.n .i64 69,.n .i64 69],[.n .i64 7,.n .i64 7]]],.v (.l [[.n .i64 65536,.n .i64 65536,.n .i64 0,.n .i64 0,.n .i64 0,.n .i64 0,.n .i64 0,.n .i64 0,.n .i64 65536,.n .i64 65536,.n .i64 0,.n .i64 0,.n .i64 0,.n .i64 0,.n .i64 0,.n .i64 0,.n .i64 65536,.n .i64 65536,.n .i64 69,.n .i64 69,.n .i64 0,.n .i64 0,.n .i64 0,.n .i64 0],[.n .i64 65536,.n .i64 65536,.n .i64 0,.n .i64 0,.n .i64 0,.n .i64 0,.n .i64 0,.n .i64 0,.n .i64 65536,.n .i64 65536,.n .i64 0,.n .i64 0,.n .i64 0,.n .i64 0,.n .i64 0,.n .i64 0,.n .i64 65536,.n .i64 65536,.n .i64 69,.n .i64 69,.n .i64 7,.n .i64 7,.n .i64 0,.n .i64 0]])),
 ([.a [.l [[.s (ByteArray.mk #[97]),.n .i64 4,.n .i64 (-1),.n .i64 0,.n .i64 0,.n .i64 0,.n .i64 0,.n .i64 640,.n .i64 1,.n .i64 65536,.n .i64 65536,.n .i64 65536],[.s (ByteArray.mk #[98]),.n .i64 5,.n .i64 0,.n .i64 0,.n .i64 0,.n .i64 0,.n .i64 0,.n .i64 640,.n .i64 1,.n .i64 65536,.n .i64 65536,.n .i64 65536]],.l []],.l [[.n .i64 5,.n .i64 5],[.n .i64 0,.n .i64 0]]],.v (.l [[.n .i64 65536,.n .i64 65536,.n .i64 0,.n .i64 0,.n .i64 0,.n .i64 0,.n .i64 0,.n .i64 0,.n .i64 65536,.n .i64 65536,.n .i64 0,.n .i64 0,.n .i64 0,.n .i64 0,.n .i64 0,.n .i64 0,.n .i64 65536,.n .i64 65536,.n .i64 5,.n .i64 5,.n .i64 0,.n .i64 0,.n .i64 0,.n .i64 0],[.n .i64 65536,.n .i64 65536,.n .i64 0,.n .i64 0,.n .i64 0,.n .i64 0,.n .i64 0,.n .i64 0,.n .i64 65536,.n .i64 65536,.n .i64 0,.n .i64 0,.n .i64 0,.n .i64 0,.n .i64 0,.n .i64 0,.n .i64 65536,.n .i64 65536,.n .i64 5,.n .i64 5,.n .i64 0,.n .i64 0,.n .i64 0,.n .i64 0]])),
 ([.a [.l [[.s (ByteArray.mk #[97]),.n .i64 4,.n .i64 (-1),.n .i64 0,.n .i64 0,.n .i64 0,.n .i64 0,.n .i64 640,.n .i64 1,.n .i64 65536,.n .i64 65536,.n .i64 65536],[.s (ByteArray.mk #[98]),.n .i64 5,.n .i64 0,.n .i64 0,.n .i64 0,.n .i64 0,.n .i64 0,.n .i64 640,.n .i64 1,.n .i64 65536,.n .i64 65536,.n .i64 65536]],.l []],.l [[.n .i64 5,.n .i64 5],[.n .i64 71,.n .i64 71]]],.v (.l [[.n .i64 65536,.n .i64 65536,.n .i64 0,.n .i64 0,.n .i64 0,.n .i64 0,.n .i64 0,.n .i64 0,.n .i64 65536,.n .i64 65536,.n .i64 0,.n .i64 0,.n .i64 0,.n .i64 0,.n .i64 0,.n .i64 0,.n .i64 65536,.n .i64 65536,.n .i64 5,.n .i64 5,.n .i64 0,.n .i64 0,.n .i64 0,.n .i64 0],[.n .i64 65536,.n .i64 65536,.n .i64 0,.n .i64 0,.n .i64 0,.n .i64 0,.n .i64 0,.n .i64 0,.n .i64 65536,.n .i64 65536,.n .i64 0,.n .i64 0,.n .i64 0,.n .i64 0,.n .i64 0,.n .i64 0,.n .i64 65536,.n .i64 65536,.n .i64 5,.n .i64 5,.n .i64 71,.n .i64 71,.n .i64 0,.n .i64 0]])),
 ([.a [.l [[.s (ByteArray.mk #[97]),.n .i64 4,.n .i64 (-1),.n .i64 0,.n .i64 0,.n .i64 0,.n .i64 0,.n .i64 640,.n .i64 1,.n .i64 65536,.n .i64 65536,.n .i64 65536],[.s (ByteArray.mk #[98]),.n .i64 5,.n .i64 0,.n .i64 0,.n .i64 0,.n .i64 0,.n .i64 0,.n .i64 640,.n .i64 1,.n .i64 65536,.n .i64 65536,.n .i64 65536]],.l []],.l [[.n .i64 5,.n .i64 5],[.n .i64 301,.n .i64 301]]],.v (.l [[.n .i64 65536,.n .i64 65536,.n .i64 0,.n .i64 0,.n .i64 0,.n .i64 0,.n .i64 0,.n .i64 0,.n .i64 65536,.n .i64 65536,.n .i64 0,.n .i64 0,.n .i64 0,.n .i64 0,.n .i64 0,.n .i64 0,.n .i64 65536,.n .i64 65536,.n .i64 5,.n .i64 5,.n .i64 0,.n .i64 0,.n .i64 0,.n .i64 0],[.n .i64 65536,.n .i64 65536,.n .i64 0,.n .i64 0,.n .i64 0,.n .i64 0,.n .i64 0,.n .i64 0,.n .i64 65536,.n .i64 65536,.n .i64 0,.n .i64 0,.n .i64 0,.n .i64 0,.n .i64 0,.n .i64 0,.n .i64 65536,.n .i64 65536,.n .i64 5,.n .i64 5,.n .i64 301,.n .i64 301,.n .i64 0,.n .i64 0]]))]
noncomputable def t98:Known:=(98,k98) :: t125
theorem ok98:Known.Ok Tryz.prog t98:=Known.add yJ yY (ok125) (N:=60) (by kernel_rfl)
noncomputable def k70:List (List PV × Ret):=[([.a [.l [[.s (ByteArray.mk #[97]),.n .i64 4,.n .i64 (-1),.n .i64 0,.n .i64 0,.n .i64 0,.n .i64 0,.n .i64 640,.n .i64 1,.n .i64 65536,.n .i64 65536,.n .i64 65536],[.s (ByteArray.mk #[98]),.n .i64 5,.n .i64 0,.n .i64 0,.n .i64 0,.n .i64 0,.n .i64 0,.n .i64 640,.n .i64 1,.n .i64 65536,.n .i64 65536,.n .i64 65536]],.l []],.l [[.n .i64 0,.n .i64 1,.n .i64 0,.n .i64 0,.n .i64 0,.n .i64 0,.n .i64 1,.n .i64 0,.n .i64 300,.n .i64 302]],.l [[.n .i64 5,.n .i64 5],[.n .i64 7,.n .i64 7]]],.ow 69 2 (.l [[.n .i64 7,.n .i64 7]])),
 ([.a [.l [[.s (ByteArray.mk #[97]),.n .i64 4,.n .i64 (-1),.n .i64 0,.n .i64 0,.n .i64 0,.n .i64 0,.n .i64 640,.n .i64 1,.n .i64 65536,.n .i64 65536,.n .i64 65536],[.s (ByteArray.mk #[98]),.n .i64 5,.n .i64 0,.n .i64 0,.n .i64 0,.n .i64 0,.n .i64 0,.n .i64 640,.n .i64 1,.n .i64 65536,.n .i64 65536,.n .i64 65536]],.l []],.l [[.n .i64 0,.n .i64 1,.n .i64 0,.n .i64 0,.n .i64 0,.n .i64 0,.n .i64 1,.n .i64 0,.n .i64 300,.n .i64 302]],.l [[.n .i64 0,.n .i64 0],[.n .i64 7,.n .i64 7]]],.ow 69 2 (.l [[.n .i64 7,.n .i64 7]])),
 ([.a [.l [[.s (ByteArray.mk #[97]),.n .i64 4,.n .i64 (-1),.n .i64 0,.n .i64 0,.n .i64 0,.n .i64 0,.n .i64 640,.n .i64 1,.n .i64 65536,.n .i64 65536,.n .i64 65536],[.s (ByteArray.mk #[98]),.n .i64 5,.n .i64 0,.n .i64 0,.n .i64 0,.n .i64 0,.n .i64 0,.n .i64 640,.n .i64 1,.n .i64 65536,.n .i64 65536,.n .i64 65536]],.l []],.l [[.n .i64 0,.n .i64 1,.n .i64 0,.n .i64 0,.n .i64 0,.n .i64 0,.n .i64 1,.n .i64 0,.n .i64 300,.n .i64 302]],.l [[.n .i64 69,.n .i64 69],[.n .i64 7,.n .i64 7]]],.ow 69 2 (.l [[.n .i64 7,.n .i64 7]])),
 ([.a [.l [[.s (ByteArray.mk #[97]),.n .i64 4,.n .i64 (-1),.n .i64 0,.n .i64 0,.n .i64 0,.n .i64 0,.n .i64 640,.n .i64 1,.n .i64 65536,.n .i64 65536,.n .i64 65536],[.s (ByteArray.mk #[98]),.n .i64 5,.n .i64 0,.n .i64 0,.n .i64 0,.n .i64 0,.n .i64 0,.n .i64 640,.n .i64 1,.n .i64 65536,.n .i64 65536,.n .i64 65536]],.l []],.l [[.n .i64 0,.n .i64 1,.n .i64 0,.n .i64 0,.n .i64 0,.n .i64 0,.n .i64 1,.n .i64 0,.n .i64 300,.n .i64 302]],.l [[.n .i64 5,.n .i64 5],[.n .i64 0,.n .i64 0]]],.ow 69 2 (.l [[.n .i64 0,.n .i64 0]])),
 ([.a [.l [[.s (ByteArray.mk #[97]),.n .i64 4,.n .i64 (-1),.n .i64 0,.n .i64 0,.n .i64 0,.n .i64 0,.n .i64 640,.n .i64 1,.n .i64 65536,.n .i64 65536,.n .i64 65536],[.s (ByteArray.mk #[98]),.n .i64 5,.n .i64 0,.n .i64 0,.n .i64 0,.n .i64 0,.n .i64 0,.n .i64 640,.n .i64 1,.n .i64 65536,.n .i64 65536,.n .i64 65536]],.l []],.l [[.n .i64 0,.n .i64 1,.n .i64 0,.n .i64 0,.n .i64 0,.n .i64 0,.n .i64 1,.n .i64 0,.n .i64 300,.n .i64 302]],.l [[.n .i64 5,.n .i64 5],[.n .i64 71,.n .i64 71]]],.ow 69 2 (.l [[.n .i64 71,.n .i64 71]])),
 ([.a [.l [[.s (ByteArray.mk #[97]),.n .i64 4,.n .i64 (-1),.n .i64 0,.n .i64 0,.n .i64 0,.n .i64 0,.n .i64 640,.n .i64 1,.n .i64 65536,.n .i64 65536,.n .i64 65536],[.s (ByteArray.mk #[98]),.n .i64 5,.n .i64 0,.n .i64 0,.n .i64 0,.n .i64 0,.n .i64 0,.n .i64 640,.n .i64 1,.n .i64 65536,.n .i64 65536,.n .i64 65536]],.l []],.l [[.n .i64 0,.n .i64 1,.n .i64 0,.n .i64 0,.n .i64 0,.n .i64 0,.n .i64 1,.n .i64 0,.n .i64 300,.n .i64 302]],.l [[.n .i64 5,.n .i64 5],[.n .i64 301,.n .i64 301]]],.ow 69 2 (.l [[.n .i64 301,.n .i64 301]]))]
noncomputable def t70:Known:=(70,k70) :: t98
theorem ok70:Known.Ok Tryz.prog t70:=Known.add yJ yY (ok98) (N:=60) (by kernel_rfl)
noncomputable def k29:List (List PV × Ret):=[([.a [.l [[.s (ByteArray.mk #[97]),.n .i64 4,.n .i64 (-1),.n .i64 0,.n .i64 0,.n .i64 0,.n .i64 0,.n .i64 640,.n .i64 1,.n .i64 65536,.n .i64 65536,.n .i64 65536],[.s (ByteArray.mk #[98]),.n .i64 5,.n .i64 0,.n .i64 0,.n .i64 0,.n .i64 0,.n .i64 0,.n .i64 640,.n .i64 1,.n .i64 65536,.n .i64 65536,.n .i64 65536]],.l []],.a [.n .i64 0,.n .i64 1,.n .i64 0,.n .i64 0,.n .i64 0,.n .i64 0,.n .i64 1,.n .i64 0,.n .i64 300,.n .i64 302],.l [[.n .i64 5],[.n .i64 7]]],.v (.t [.l [[.n .i64 5],[.n .i64 301]],.b true]))]
noncomputable def t29:Known:=(29,k29) :: t70
theorem ok29:Known.Ok Tryz.prog t29:=Known.add yJ yY (ok70) (N:=60) (by kernel_rfl)
noncomputable def k40:List (List PV × Ret):=[([.a [.l [[.s (ByteArray.mk #[97]),.n .i64 4,.n .i64 (-1),.n .i64 0,.n .i64 0,.n .i64 0,.n .i64 0,.n .i64 640,.n .i64 1,.n .i64 65536,.n .i64 65536,.n .i64 65536],[.s (ByteArray.mk #[98]),.n .i64 5,.n .i64 0,.n .i64 0,.n .i64 0,.n .i64 0,.n .i64 0,.n .i64 640,.n .i64 1,.n .i64 65536,.n .i64 65536,.n .i64 65536]],.l []],.l [[.n .i64 0,.n .i64 1,.n .i64 0,.n .i64 0,.n .i64 0,.n .i64 0,.n .i64 1,.n .i64 0,.n .i64 300,.n .i64 302]],.l [[.n .i64 5],[.n .i64 7]]],.v (.l [[.n .i64 5],[.n .i64 301]]))]
noncomputable def t40:Known:=(40,k40) :: t29
theorem ok40:Known.Ok Tryz.prog t40:=Known.add yJ yY (ok29) (N:=60) (by kernel_rfl)
noncomputable def k15:List (List PV × Ret):=[([.a [.l [[.s (ByteArray.mk #[97]),.n .i64 4,.n .i64 (-1),.n .i64 0,.n .i64 0,.n .i64 0,.n .i64 0,.n .i64 640,.n .i64 1,.n .i64 65536,.n .i64 65536,.n .i64 65536],[.s (ByteArray.mk #[98]),.n .i64 5,.n .i64 0,.n .i64 0,.n .i64 0,.n .i64 0,.n .i64 0,.n .i64 640,.n .i64 1,.n .i64 65536,.n .i64 65536,.n .i64 65536]],.l []],.l [[.n .i64 0,.n .i64 1,.n .i64 0,.n .i64 0,.n .i64 0,.n .i64 0,.n .i64 1,.n .i64 0,.n .i64 300,.n .i64 302]],.l [[.n .i64 5],[.n .i64 7]],.n .i64 9],.v (.t [.l [[.n .i64 5],[.n .i64 301]],.n .i64 1,.b true]))]
noncomputable def t15:Known:=(15,k15) :: t40
theorem ok15:Known.Ok Tryz.prog t15:=Known.add yJ yY (ok40) (N:=60) (by kernel_rfl)
theorem call:zH Tryz.prog 7 [] (.v (.b true)):=zXJ (N:=60) yJ yY (Known.ok (ok15)) (by kernel_rfl:run T (Known.orc t15) 60 7 []=some (.v (.b true)))
end Go.Proofs.YthkhihoplfpgmaaGreat.Aw
namespace Go.Rx
open Go.RowKit Go.Sx Go.ChangeShapes Go.WideShapes
section
variable {P:Program} {W:World} {H:Type} {enc:TypeId × Value→H}
def jQZ (W:World) (v:Value) (L:List Int):Prop:=RP (fun k=>k < W.heap.size) W (zKV L) v∧L.length≤9223372036854775807∧∀ x ∈ L,In64 x
theorem jYX {t e:TypeId} {v:Value} {d:DataW H} {p:List MemPlace} (ht:P.underlying t=some (.slice e)) (he:P.underlying e=some (.int .i64)) (hc:P.cellsOf e=1)
  {r:Reach} {base:Nat} (hv:Value.okWide P W r base t v) (h:DataW.Trod enc P W 0 (fun _=>true) true t v d p):∃ L:List Int,jQZ W v L:=by
 obtain ⟨a,l,c,rfl⟩:=slice_of ht hv
 obtain ⟨fuel,h⟩:=h
 have h':DataW.trod enc P W 0 (fun _=>true) true fuel t [.slice a l c]=some (d,p):=h
 rcases open_ints ht he hc h' with ⟨h1,_⟩ | ⟨a',len,cap,zs,h1,_,hlc,hcap,hz,_,hcell,hwf⟩
 ·simp at h1
  obtain ⟨rfl,rfl,rfl⟩:=h1
  exact ⟨[],.l0 none 0,by simp,fun x hx=>by cases hx⟩
 ·simp at h1
  obtain ⟨rfl,rfl,rfl⟩:=h1
  simp only [if_true] at hz
  have hlen:(zs.take l).length=l:=by simp; omega
  have hI:IntsAt W W.heap.size (.slice (some a') l c) (zs.take l):=⟨by have:maxLen=9223372036854775807:=rfl; omega,some a',c,by rw [hlen],fun j hj=>by
   rw [hlen] at hj
   have h0:=hcell 0 (by omega)
   have hj':=hcell j (by omega)
   have hsp:a'.spot=none:=by
    have e:a'.add 0=a':=by simp [Addr.add]
    rw [e] at h0
    unfold World.cell? at h0
    cases hb:W.heap[a'.block]? with
    | none=>simp [hb] at h0
    | some o=>cases o <;> simp [hb] at h0; exact h0.1
   obtain ⟨bb,off,sp⟩:=a'
   simp only at hsp
   subst hsp
   rw [qUG] at hj'
   refine ⟨bb,off,rfl,?_,?_⟩
   ·unfold World.cell? at hj'
    cases hb:W.heap[bb]? with
    | none=>simp [hb] at hj'
    | some o=>exact qQK hb
   ·rw [hj']
    simp [List.getD_eq_getElem?_getD,List.getElem?_take,hj]⟩
  refine ⟨zs.take l,?_,hI.1,fun x hx => ?_⟩
  ·have:=rp_of_ints (F:=fun k=>k < W.heap.size) (w:=W) (L:=zs.take l) (a:=some a') (c:=c) (by rw [hlen]; exact hI) (by rw [hlen]; exact hlc) fun k hk=>hk
   rw [hlen] at this
   exact this
  ·have:=hwf x (List.mem_of_mem_take hx)
   simpa [Lit.wf,IntKind.has,IntKind.min,IntKind.max,IntKind.signed,IntKind.bits,In64] using this
end
end Go.Rx
namespace Go.Proofs.YthkhihoplfpgmaaGreat
open Go.Rx Go.Sx Go.RowKit Nb Nd Nx
theorem wProjectProjects (v0:Value) (js0:Nat→J) (ms0:Nat→Ms) (n0 m0:Nat) (v1:Value) (cs1:Nat→Cn) (c1:Nat) (v2:Value) (L2:List Int) (a3:Int) (v4:Value) (L4:List Int) (v5:Value) (L5:List Int) (v6:Value) (L6:List Int) (a7:Int) (W:World) (h0:RP (fun k=>k < W.heap.size) W (.a [.lf n0 (fJ js0),.lf m0 (fM ms0)]) v0) (h1:RP (fun k=>k < W.heap.size) W (.lf c1 (fC cs1)) v1) (h2:jQZ W v2 L2) (h4:jQZ W v4 L4) (h5:jQZ W v5 L5) (h6:jQZ W v6 L6):Calls Tryz.prog 4 #[v0,v1,v2,.int .i64 a3,v4,v5,v6,.int .i64 a7] W (Rets (.bool true) W) :=
 zXW (Nz.snd_law2 _ _ _ _ _ _ _ _ _ _ _ _ h2.2.1 h4.2.1 h5.2.1 h6.2.1 Aw.call) rfl (qWV h0 (qWV h1 (qWV h2.1 (qWV (.n _ _) (qWV h4.1 (qWV h5.1 (qWV h6.1 (qWV (.n _ _) jZW))))))))
end Go.Proofs.YthkhihoplfpgmaaGreat

/- Part 18 of the texts behind the last one: rules and contracts. No condition. -/
import Derived.Test.YtgmbkkkbfbocnaaGreatGH17
open Option renaming bind_eq_some_iff → vQQ
open Option.some renaming injEq → vQZ
open Bool renaming and_eq_true → vQJ, true_and → vZH
open List renaming getElem?_eq_getElem → vQK, mem_cons_of_mem → vQH, mem_cons_self → vZQ, getElem?_map → vZY, mem_cons → vYZ, drop_zero → vYW
open Nat renaming eq_of_beq_eq_true → vQX, le_of_ble_eq_true → vZX
open Go.IntKind renaming wrap → vJJ
namespace Go.Proofs.YtgmbkkkbfbocnaaGreat.Hu
open Go.Rx Rt Go.Sx Go.RowKit Od Na Nb Nc Nx Nf Nl Nm Ga Gb Gc Gd Ge Gf Gg Sn So Sq Gm Gn Go Ha Hb Hc Hd He Hf Hg Hh Hi Hj Hk Hm Hn Ho Ht
noncomputable def atX (ps:List PV):Bool:=Classical.epsilon (fun b=>yK Tryz.prog 24 ps (.v (.b b))∧yK Tryz.prog 25 ps (.v (.b b)))
def cX (ps:List PV):Prop:=yK Tryz.prog 24 ps (.v (.b (atX ps)))∧yK Tryz.prog 25 ps (.v (.b (atX ps)))
def eX (ps:List PV):List PV:=ps
noncomputable def rX (ps:List PV):Ret:=.v (.b (atX ps))
noncomputable def o_X:List PV→Option (Bool × Ret):=o_fm eX cX eX rX
theorem xHZ:zJ Tryz.prog 24 o_X:=qYX fun t h=>h.1
theorem xHQ:zJ Tryz.prog 25 o_X:=qYX fun t h=>h.2
theorem jQK {ps:List PV} {b:Bool} (h1:yK Tryz.prog 24 ps (.v (.b b))) (h2:yK Tryz.prog 25 ps (.v (.b b))):cX ps:=Classical.epsilon_spec (p:=fun b=>yK Tryz.prog 24 ps (.v (.b b))∧yK Tryz.prog 25 ps (.v (.b b))) ⟨b,h1,h2⟩
noncomputable def uX (js2:Nat→J) (ms2:Nat→Ms) (sh2:Nat→Shp) (sk2:Nat→Skp) (n2 m2 c2 d2:Nat) (q4:Nat→Int) (k1 x y:Int):PV:=.a [.lf n2 (fJ js2),.lf m2 (fM ms2),.lf c2 (fS sh2),.lf d2 (fK sk2),.l [],.lf 1 (fun _=>[.n .i64 (LP js2 (ptB q4) n2 ((y % (n2:Int))).toNat).t.x.lo,.n .i64 (LP js2 (ptB q4) n2 ((y % (n2:Int))).toNat).t.y.hi,.n .i64 (vJJ .i64 ((LP js2 (ptB q4) n2 ((y % (n2:Int))).toNat).t.z.lo + (vJJ .i64 ((k1 % 3) - 1))))]),.lf 1 (fun _=>[.n .i64 (y % (n2:Int)),.n .i64 0,.n .i64 0,.n .i64 0]),.l [],.n .i64 (vJJ .i64 ((vJJ .i64 ((k1 % 3) * (x % 65537))).tdiv 2))]
noncomputable def uW (js2:Nat→J) (ms2:Nat→Ms) (sh2:Nat→Shp) (sk2:Nat→Skp) (n2 m2 c2 d2:Nat) (q4:Nat→Int) (k1 x y:Int):Wsp:=⟨js2,ms2,sh2,sk2,n2,m2,c2,d2,fun _=>⟨ByteArray.empty,0,fun _=>⟨0,0,0,fun _=>⟨0,0,0⟩⟩⟩,fun _=>⟨(LP js2 (ptB q4) n2 ((y % (n2:Int))).toNat).t.x.lo,(LP js2 (ptB q4) n2 ((y % (n2:Int))).toNat).t.y.hi,vJJ .i64 ((LP js2 (ptB q4) n2 ((y % (n2:Int))).toNat).t.z.lo + (vJJ .i64 ((k1 % 3) - 1)))⟩,fun _=>⟨y % (n2:Int),⟨0,0,0⟩⟩,fun _=>⟨0,0,0,fun _=>0⟩,0,1,1,0,vJJ .i64 ((vJJ .i64 ((k1 % 3) * (x % 65537))).tdiv 2)⟩
theorem kHU (js2:Nat→J) (ms2:Nat→Ms) (sh2:Nat→Shp) (sk2:Nat→Skp) (n2 m2 c2 d2:Nat) (q4:Nat→Int) (k1 x y:Int):Same (uX js2 ms2 sh2 sk2 n2 m2 c2 d2 q4 k1 x y) (.a (wP (uW js2 ms2 sh2 sk2 n2 m2 c2 d2 q4 k1 x y))):=Same.a (xs:=[_,_,_,_,_,_,_,_,_]) ⟨Same.refl _,Same.refl _,Same.refl _,Same.refl _,Same.lf rfl,Same.refl _,Same.refl _,Same.lf rfl,Same.refl _,trivial⟩
noncomputable def xVK (_ w2:Wsp) (_ place:Int) (_:Nat) (_:Nat→Int) (wl:Nat) (e:Nat→Int) (wm:Nat) (e2:Nat→Int) (wo:Nat) (e3:Nat→Int) (q3:Nat→Int) (js2:Nat→J) (ms2:Nat→Ms) (sh2:Nat→Shp) (sk2:Nat→Skp) (n2 m2 c2 d2:Nat) (q4:Nat→Int) (k1 x y:Int):OrS:=orS [(13,o_cr [] (.v (.b true))),(14,o_cr [.lf wl (fQ e)] (.v (.a (wP w2)))),(8,o_cr [.lf wm (fQ e2)] (.v (.a [.lf n2 (fJ js2),.lf m2 (fM ms2),.lf c2 (fS sh2),.lf d2 (fK sk2)]))),(21,o_cr [.a [.lf n2 (fJ js2),.lf m2 (fM ms2)],.lf wo (fQ e3)] (.v (.lf n2 (fQ q4)))),(23,o_cr [.lf n2 (fQ q4)] (.v (.lf n2 (fB (ptB q4))))),(22,o_cr [.a [.lf n2 (fJ js2),.lf m2 (fM ms2)],.lf n2 (fB (ptB q4))] (.v (.lf n2 (fP (LP js2 (ptB q4) n2))))),(26,o_cr [.a (wP w2),.n .i64 k1,.n .i64 x,.n .i64 y] (.v (.lf 2 (fQ q3)))),(20,o_rn),(24,o_X),(25,o_X)] []
noncomputable def kKF (_ _:Wsp) (_ place:Int) (_:Nat) (_:Nat→Int) (_:Nat) (e:Nat→Int) (_:Nat) (_:Nat→Int) (_:Nat) (_:Nat→Int) (_:Nat→Int) (_:Nat→J) (_:Nat→Ms) (_:Nat→Shp) (_:Nat→Skp) (_ _ _ _:Nat) (_:Nat→Int) (_ x y:Int):List (List Nat × jG):=[]
set_option maxRecDepth 100000 in
theorem xWQ (ws w2:Wsp) (hand place:Int) (k2:Nat) (q2:Nat→Int) (wl:Nat) (e:Nat→Int) (wm:Nat) (e2:Nat→Int) (wo:Nat) (e3:Nat→Int) (q3:Nat→Int) (js2:Nat→J) (ms2:Nat→Ms) (sh2:Nat→Shp) (sk2:Nat→Skp) (n2 m2 c2 d2:Nat) (q4:Nat→Int) (k1 x y:Int):qYU Tf (xVK ws w2 hand place k2 q2 wl e wm e2 wo e3 q3 js2 ms2 sh2 sk2 n2 m2 c2 d2 q4 k1 x y) (qZ (kKF ws w2 hand place k2 q2 wl e wm e2 wo e3 q3 js2 ms2 sh2 sk2 n2 m2 c2 d2 q4 k1 x y)) 60 6 [.a (wP ws),.n .i64 hand,.n .i64 place,.lf k2 (fQ q2),.lf wl (fQ e),.lf wm (fQ e2),.lf wo (fQ e3),.n .i64 k1,.n .i64 x,.n .i64 y] =
 (bif (decide ((ws.n:Int)≤4)) then (bif (decide ((ws.m:Int)≤6)) then (bif (decide ((ws.c:Int)≤6)) then (bif (decide ((ws.d:Int)≤8)) then (bif (decide ((ws.no:Int)≤8)) then (bif (decide ((ws.np:Int)≤12)) then (bif (decide ((ws.nh:Int)≤6)) then (bif (decide ((ws.ng:Int)≤40)) then (bif (decide (20 < (k2:Int))) then (bif (g1 []) then some (.v (.b true),[])
 else none)
 else (bif (g1 [.lf wl (fQ e)]) then (bif (gF1 crn ern (hand,(vJJ .i64 ((w2.nh:Int) + 2)))) then (bif (gF1 crn ern (place,(vJJ .i64 ((w2.np:Int) + 2)))) then (bif (g1 [.lf wm (fQ e2)]) then (bif (gF1 crn ern (k1,3)) then (bif (gF1 crn ern (x,65537)) then (bif (g1 [.a [.lf n2 (fJ js2),.lf m2 (fM ms2)],.lf wo (fQ e3)]) then (bif (gF1 crn ern (y,(n2:Int))) then (bif (g1 [.lf n2 (fQ q4)]) then (bif (g1 [.a [.lf n2 (fJ js2),.lf m2 (fM ms2)],.lf n2 (fB (ptB q4))]) then (bif (inB (y % (n2:Int)) n2) then (bif (gF1 crn ern (k1,3)) then (bif (g1 []) then (bif (gF1 cX eX [.a (wP ws),.n .i64 hand,.n .i64 place,.lf k2 (fQ q2)]) then (bif (atX [.a (wP ws),.n .i64 hand,.n .i64 place,.lf k2 (fQ q2)]) then (bif (gF1 cX eX [.a (wP ws),.n .i64 hand,.n .i64 place,.lf k2 (fQ q2)]) then (bif (atX [.a (wP ws),.n .i64 hand,.n .i64 place,.lf k2 (fQ q2)]) then (bif (g1 [.a (wP w2),.n .i64 k1,.n .i64 x,.n .i64 y]) then (bif (gF1 cX eX [.a (wP w2),.n .i64 (vJJ .i64 ((hand % (vJJ .i64 ((w2.nh:Int) + 2))) - 1)),.n .i64 (vJJ .i64 ((place % (vJJ .i64 ((w2.np:Int) + 2))) - 1)),.lf 2 (fQ q3)]) then (bif (atX [.a (wP w2),.n .i64 (vJJ .i64 ((hand % (vJJ .i64 ((w2.nh:Int) + 2))) - 1)),.n .i64 (vJJ .i64 ((place % (vJJ .i64 ((w2.np:Int) + 2))) - 1)),.lf 2 (fQ q3)]) then (bif (g1 [.a (wP w2),.n .i64 k1,.n .i64 x,.n .i64 y]) then (bif (gF1 cX eX [.a (wP w2),.n .i64 (vJJ .i64 ((hand % (vJJ .i64 ((w2.nh:Int) + 2))) - 1)),.n .i64 (vJJ .i64 ((place % (vJJ .i64 ((w2.np:Int) + 2))) - 1)),.lf 2 (fQ q3)]) then (bif (atX [.a (wP w2),.n .i64 (vJJ .i64 ((hand % (vJJ .i64 ((w2.nh:Int) + 2))) - 1)),.n .i64 (vJJ .i64 ((place % (vJJ .i64 ((w2.np:Int) + 2))) - 1)),.lf 2 (fQ q3)]) then (bif (gF1 cX eX [.a (wP w2),.n .i64 (vJJ .i64 ((hand % (vJJ .i64 ((w2.nh:Int) + 2))) - 1)),.n .i64 (vJJ .i64 ((place % (vJJ .i64 ((w2.np:Int) + 2))) - 1)),.lf k2 (fQ q2)]) then (bif (atX [.a (wP w2),.n .i64 (vJJ .i64 ((hand % (vJJ .i64 ((w2.nh:Int) + 2))) - 1)),.n .i64 (vJJ .i64 ((place % (vJJ .i64 ((w2.np:Int) + 2))) - 1)),.lf k2 (fQ q2)]) then (bif (gF1 cX eX [.a (wP w2),.n .i64 (vJJ .i64 ((hand % (vJJ .i64 ((w2.nh:Int) + 2))) - 1)),.n .i64 (vJJ .i64 ((place % (vJJ .i64 ((w2.np:Int) + 2))) - 1)),.lf k2 (fQ q2)]) then (bif (atX [.a (wP w2),.n .i64 (vJJ .i64 ((hand % (vJJ .i64 ((w2.nh:Int) + 2))) - 1)),.n .i64 (vJJ .i64 ((place % (vJJ .i64 ((w2.np:Int) + 2))) - 1)),.lf k2 (fQ q2)]) then (bif (gF1 cX eX [(uX js2 ms2 sh2 sk2 n2 m2 c2 d2 q4 k1 x y),.n .i64 0,.n .i64 0,.lf n2 (fQ q4)]) then (bif (atX [(uX js2 ms2 sh2 sk2 n2 m2 c2 d2 q4 k1 x y),.n .i64 0,.n .i64 0,.lf n2 (fQ q4)]) then (bif (gF1 cX eX [(uX js2 ms2 sh2 sk2 n2 m2 c2 d2 q4 k1 x y),.n .i64 0,.n .i64 0,.lf n2 (fQ q4)]) then (bif (atX [(uX js2 ms2 sh2 sk2 n2 m2 c2 d2 q4 k1 x y),.n .i64 0,.n .i64 0,.lf n2 (fQ q4)]) then some (.v (.b true),[])
 else some (.v (.b false),[]))
 else none)
 else (bif (gF1 cX eX [(uX js2 ms2 sh2 sk2 n2 m2 c2 d2 q4 k1 x y),.n .i64 0,.n .i64 0,.lf n2 (fQ q4)]) then (bif (atX [(uX js2 ms2 sh2 sk2 n2 m2 c2 d2 q4 k1 x y),.n .i64 0,.n .i64 0,.lf n2 (fQ q4)]) then some (.v (.b false),[])
 else some (.v (.b true),[]))
 else none))
 else none)
 else some (.v (.b false),[]))
 else none)
 else (bif (gF1 cX eX [.a (wP w2),.n .i64 (vJJ .i64 ((hand % (vJJ .i64 ((w2.nh:Int) + 2))) - 1)),.n .i64 (vJJ .i64 ((place % (vJJ .i64 ((w2.np:Int) + 2))) - 1)),.lf k2 (fQ q2)]) then (bif (atX [.a (wP w2),.n .i64 (vJJ .i64 ((hand % (vJJ .i64 ((w2.nh:Int) + 2))) - 1)),.n .i64 (vJJ .i64 ((place % (vJJ .i64 ((w2.np:Int) + 2))) - 1)),.lf k2 (fQ q2)]) then some (.v (.b false),[])
 else (bif (gF1 cX eX [(uX js2 ms2 sh2 sk2 n2 m2 c2 d2 q4 k1 x y),.n .i64 0,.n .i64 0,.lf n2 (fQ q4)]) then (bif (atX [(uX js2 ms2 sh2 sk2 n2 m2 c2 d2 q4 k1 x y),.n .i64 0,.n .i64 0,.lf n2 (fQ q4)]) then (bif (gF1 cX eX [(uX js2 ms2 sh2 sk2 n2 m2 c2 d2 q4 k1 x y),.n .i64 0,.n .i64 0,.lf n2 (fQ q4)]) then (bif (atX [(uX js2 ms2 sh2 sk2 n2 m2 c2 d2 q4 k1 x y),.n .i64 0,.n .i64 0,.lf n2 (fQ q4)]) then some (.v (.b true),[])
 else some (.v (.b false),[]))
 else none)
 else (bif (gF1 cX eX [(uX js2 ms2 sh2 sk2 n2 m2 c2 d2 q4 k1 x y),.n .i64 0,.n .i64 0,.lf n2 (fQ q4)]) then (bif (atX [(uX js2 ms2 sh2 sk2 n2 m2 c2 d2 q4 k1 x y),.n .i64 0,.n .i64 0,.lf n2 (fQ q4)]) then some (.v (.b false),[])
 else some (.v (.b true),[]))
 else none))
 else none))
 else none))
 else none)
 else some (.v (.b false),[]))
 else none)
 else none)
 else (bif (g1 [.a (wP w2),.n .i64 k1,.n .i64 x,.n .i64 y]) then (bif (gF1 cX eX [.a (wP w2),.n .i64 (vJJ .i64 ((hand % (vJJ .i64 ((w2.nh:Int) + 2))) - 1)),.n .i64 (vJJ .i64 ((place % (vJJ .i64 ((w2.np:Int) + 2))) - 1)),.lf 2 (fQ q3)]) then (bif (atX [.a (wP w2),.n .i64 (vJJ .i64 ((hand % (vJJ .i64 ((w2.nh:Int) + 2))) - 1)),.n .i64 (vJJ .i64 ((place % (vJJ .i64 ((w2.np:Int) + 2))) - 1)),.lf 2 (fQ q3)]) then some (.v (.b false),[])
 else (bif (gF1 cX eX [.a (wP w2),.n .i64 (vJJ .i64 ((hand % (vJJ .i64 ((w2.nh:Int) + 2))) - 1)),.n .i64 (vJJ .i64 ((place % (vJJ .i64 ((w2.np:Int) + 2))) - 1)),.lf k2 (fQ q2)]) then (bif (atX [.a (wP w2),.n .i64 (vJJ .i64 ((hand % (vJJ .i64 ((w2.nh:Int) + 2))) - 1)),.n .i64 (vJJ .i64 ((place % (vJJ .i64 ((w2.np:Int) + 2))) - 1)),.lf k2 (fQ q2)]) then (bif (gF1 cX eX [.a (wP w2),.n .i64 (vJJ .i64 ((hand % (vJJ .i64 ((w2.nh:Int) + 2))) - 1)),.n .i64 (vJJ .i64 ((place % (vJJ .i64 ((w2.np:Int) + 2))) - 1)),.lf k2 (fQ q2)]) then (bif (atX [.a (wP w2),.n .i64 (vJJ .i64 ((hand % (vJJ .i64 ((w2.nh:Int) + 2))) - 1)),.n .i64 (vJJ .i64 ((place % (vJJ .i64 ((w2.np:Int) + 2))) - 1)),.lf k2 (fQ q2)]) then (bif (gF1 cX eX [(uX js2 ms2 sh2 sk2 n2 m2 c2 d2 q4 k1 x y),.n .i64 0,.n .i64 0,.lf n2 (fQ q4)]) then (bif (atX [(uX js2 ms2 sh2 sk2 n2 m2 c2 d2 q4 k1 x y),.n .i64 0,.n .i64 0,.lf n2 (fQ q4)]) then (bif (gF1 cX eX [(uX js2 ms2 sh2 sk2 n2 m2 c2 d2 q4 k1 x y),.n .i64 0,.n .i64 0,.lf n2 (fQ q4)]) then (bif (atX [(uX js2 ms2 sh2 sk2 n2 m2 c2 d2 q4 k1 x y),.n .i64 0,.n .i64 0,.lf n2 (fQ q4)]) then some (.v (.b true),[])
 else some (.v (.b false),[]))
 else none)
 else (bif (gF1 cX eX [(uX js2 ms2 sh2 sk2 n2 m2 c2 d2 q4 k1 x y),.n .i64 0,.n .i64 0,.lf n2 (fQ q4)]) then (bif (atX [(uX js2 ms2 sh2 sk2 n2 m2 c2 d2 q4 k1 x y),.n .i64 0,.n .i64 0,.lf n2 (fQ q4)]) then some (.v (.b false),[])
 else some (.v (.b true),[]))
 else none))
 else none)
 else some (.v (.b false),[]))
 else none)
 else (bif (gF1 cX eX [.a (wP w2),.n .i64 (vJJ .i64 ((hand % (vJJ .i64 ((w2.nh:Int) + 2))) - 1)),.n .i64 (vJJ .i64 ((place % (vJJ .i64 ((w2.np:Int) + 2))) - 1)),.lf k2 (fQ q2)]) then (bif (atX [.a (wP w2),.n .i64 (vJJ .i64 ((hand % (vJJ .i64 ((w2.nh:Int) + 2))) - 1)),.n .i64 (vJJ .i64 ((place % (vJJ .i64 ((w2.np:Int) + 2))) - 1)),.lf k2 (fQ q2)]) then some (.v (.b false),[])
 else (bif (gF1 cX eX [(uX js2 ms2 sh2 sk2 n2 m2 c2 d2 q4 k1 x y),.n .i64 0,.n .i64 0,.lf n2 (fQ q4)]) then (bif (atX [(uX js2 ms2 sh2 sk2 n2 m2 c2 d2 q4 k1 x y),.n .i64 0,.n .i64 0,.lf n2 (fQ q4)]) then (bif (gF1 cX eX [(uX js2 ms2 sh2 sk2 n2 m2 c2 d2 q4 k1 x y),.n .i64 0,.n .i64 0,.lf n2 (fQ q4)]) then (bif (atX [(uX js2 ms2 sh2 sk2 n2 m2 c2 d2 q4 k1 x y),.n .i64 0,.n .i64 0,.lf n2 (fQ q4)]) then some (.v (.b true),[])
 else some (.v (.b false),[]))
 else none)
 else (bif (gF1 cX eX [(uX js2 ms2 sh2 sk2 n2 m2 c2 d2 q4 k1 x y),.n .i64 0,.n .i64 0,.lf n2 (fQ q4)]) then (bif (atX [(uX js2 ms2 sh2 sk2 n2 m2 c2 d2 q4 k1 x y),.n .i64 0,.n .i64 0,.lf n2 (fQ q4)]) then some (.v (.b false),[])
 else some (.v (.b true),[]))
 else none))
 else none))
 else none))
 else none))
 else none)
 else none))
 else none)
 else none)
 else some (.v (.b false),[]))
 else none)
 else (bif (gF1 cX eX [.a (wP ws),.n .i64 hand,.n .i64 place,.lf k2 (fQ q2)]) then (bif (atX [.a (wP ws),.n .i64 hand,.n .i64 place,.lf k2 (fQ q2)]) then some (.v (.b false),[])
 else (bif (g1 [.a (wP w2),.n .i64 k1,.n .i64 x,.n .i64 y]) then (bif (gF1 cX eX [.a (wP w2),.n .i64 (vJJ .i64 ((hand % (vJJ .i64 ((w2.nh:Int) + 2))) - 1)),.n .i64 (vJJ .i64 ((place % (vJJ .i64 ((w2.np:Int) + 2))) - 1)),.lf 2 (fQ q3)]) then (bif (atX [.a (wP w2),.n .i64 (vJJ .i64 ((hand % (vJJ .i64 ((w2.nh:Int) + 2))) - 1)),.n .i64 (vJJ .i64 ((place % (vJJ .i64 ((w2.np:Int) + 2))) - 1)),.lf 2 (fQ q3)]) then (bif (g1 [.a (wP w2),.n .i64 k1,.n .i64 x,.n .i64 y]) then (bif (gF1 cX eX [.a (wP w2),.n .i64 (vJJ .i64 ((hand % (vJJ .i64 ((w2.nh:Int) + 2))) - 1)),.n .i64 (vJJ .i64 ((place % (vJJ .i64 ((w2.np:Int) + 2))) - 1)),.lf 2 (fQ q3)]) then (bif (atX [.a (wP w2),.n .i64 (vJJ .i64 ((hand % (vJJ .i64 ((w2.nh:Int) + 2))) - 1)),.n .i64 (vJJ .i64 ((place % (vJJ .i64 ((w2.np:Int) + 2))) - 1)),.lf 2 (fQ q3)]) then (bif (gF1 cX eX [.a (wP w2),.n .i64 (vJJ .i64 ((hand % (vJJ .i64 ((w2.nh:Int) + 2))) - 1)),.n .i64 (vJJ .i64 ((place % (vJJ .i64 ((w2.np:Int) + 2))) - 1)),.lf k2 (fQ q2)]) then (bif (atX [.a (wP w2),.n .i64 (vJJ .i64 ((hand % (vJJ .i64 ((w2.nh:Int) + 2))) - 1)),.n .i64 (vJJ .i64 ((place % (vJJ .i64 ((w2.np:Int) + 2))) - 1)),.lf k2 (fQ q2)]) then (bif (gF1 cX eX [.a (wP w2),.n .i64 (vJJ .i64 ((hand % (vJJ .i64 ((w2.nh:Int) + 2))) - 1)),.n .i64 (vJJ .i64 ((place % (vJJ .i64 ((w2.np:Int) + 2))) - 1)),.lf k2 (fQ q2)]) then (bif (atX [.a (wP w2),.n .i64 (vJJ .i64 ((hand % (vJJ .i64 ((w2.nh:Int) + 2))) - 1)),.n .i64 (vJJ .i64 ((place % (vJJ .i64 ((w2.np:Int) + 2))) - 1)),.lf k2 (fQ q2)]) then (bif (gF1 cX eX [(uX js2 ms2 sh2 sk2 n2 m2 c2 d2 q4 k1 x y),.n .i64 0,.n .i64 0,.lf n2 (fQ q4)]) then (bif (atX [(uX js2 ms2 sh2 sk2 n2 m2 c2 d2 q4 k1 x y),.n .i64 0,.n .i64 0,.lf n2 (fQ q4)]) then (bif (gF1 cX eX [(uX js2 ms2 sh2 sk2 n2 m2 c2 d2 q4 k1 x y),.n .i64 0,.n .i64 0,.lf n2 (fQ q4)]) then (bif (atX [(uX js2 ms2 sh2 sk2 n2 m2 c2 d2 q4 k1 x y),.n .i64 0,.n .i64 0,.lf n2 (fQ q4)]) then some (.v (.b true),[])
 else some (.v (.b false),[]))
 else none)
 else (bif (gF1 cX eX [(uX js2 ms2 sh2 sk2 n2 m2 c2 d2 q4 k1 x y),.n .i64 0,.n .i64 0,.lf n2 (fQ q4)]) then (bif (atX [(uX js2 ms2 sh2 sk2 n2 m2 c2 d2 q4 k1 x y),.n .i64 0,.n .i64 0,.lf n2 (fQ q4)]) then some (.v (.b false),[])
 else some (.v (.b true),[]))
 else none))
 else none)
 else some (.v (.b false),[]))
 else none)
 else (bif (gF1 cX eX [.a (wP w2),.n .i64 (vJJ .i64 ((hand % (vJJ .i64 ((w2.nh:Int) + 2))) - 1)),.n .i64 (vJJ .i64 ((place % (vJJ .i64 ((w2.np:Int) + 2))) - 1)),.lf k2 (fQ q2)]) then (bif (atX [.a (wP w2),.n .i64 (vJJ .i64 ((hand % (vJJ .i64 ((w2.nh:Int) + 2))) - 1)),.n .i64 (vJJ .i64 ((place % (vJJ .i64 ((w2.np:Int) + 2))) - 1)),.lf k2 (fQ q2)]) then some (.v (.b false),[])
 else (bif (gF1 cX eX [(uX js2 ms2 sh2 sk2 n2 m2 c2 d2 q4 k1 x y),.n .i64 0,.n .i64 0,.lf n2 (fQ q4)]) then (bif (atX [(uX js2 ms2 sh2 sk2 n2 m2 c2 d2 q4 k1 x y),.n .i64 0,.n .i64 0,.lf n2 (fQ q4)]) then (bif (gF1 cX eX [(uX js2 ms2 sh2 sk2 n2 m2 c2 d2 q4 k1 x y),.n .i64 0,.n .i64 0,.lf n2 (fQ q4)]) then (bif (atX [(uX js2 ms2 sh2 sk2 n2 m2 c2 d2 q4 k1 x y),.n .i64 0,.n .i64 0,.lf n2 (fQ q4)]) then some (.v (.b true),[])
 else some (.v (.b false),[]))
 else none)
 else (bif (gF1 cX eX [(uX js2 ms2 sh2 sk2 n2 m2 c2 d2 q4 k1 x y),.n .i64 0,.n .i64 0,.lf n2 (fQ q4)]) then (bif (atX [(uX js2 ms2 sh2 sk2 n2 m2 c2 d2 q4 k1 x y),.n .i64 0,.n .i64 0,.lf n2 (fQ q4)]) then some (.v (.b false),[])
 else some (.v (.b true),[]))
 else none))
 else none))
 else none))
 else none)
 else some (.v (.b false),[]))
 else none)
 else none)
 else (bif (g1 [.a (wP w2),.n .i64 k1,.n .i64 x,.n .i64 y]) then (bif (gF1 cX eX [.a (wP w2),.n .i64 (vJJ .i64 ((hand % (vJJ .i64 ((w2.nh:Int) + 2))) - 1)),.n .i64 (vJJ .i64 ((place % (vJJ .i64 ((w2.np:Int) + 2))) - 1)),.lf 2 (fQ q3)]) then (bif (atX [.a (wP w2),.n .i64 (vJJ .i64 ((hand % (vJJ .i64 ((w2.nh:Int) + 2))) - 1)),.n .i64 (vJJ .i64 ((place % (vJJ .i64 ((w2.np:Int) + 2))) - 1)),.lf 2 (fQ q3)]) then some (.v (.b false),[])
 else (bif (gF1 cX eX [.a (wP w2),.n .i64 (vJJ .i64 ((hand % (vJJ .i64 ((w2.nh:Int) + 2))) - 1)),.n .i64 (vJJ .i64 ((place % (vJJ .i64 ((w2.np:Int) + 2))) - 1)),.lf k2 (fQ q2)]) then (bif (atX [.a (wP w2),.n .i64 (vJJ .i64 ((hand % (vJJ .i64 ((w2.nh:Int) + 2))) - 1)),.n .i64 (vJJ .i64 ((place % (vJJ .i64 ((w2.np:Int) + 2))) - 1)),.lf k2 (fQ q2)]) then (bif (gF1 cX eX [.a (wP w2),.n .i64 (vJJ .i64 ((hand % (vJJ .i64 ((w2.nh:Int) + 2))) - 1)),.n .i64 (vJJ .i64 ((place % (vJJ .i64 ((w2.np:Int) + 2))) - 1)),.lf k2 (fQ q2)]) then (bif (atX [.a (wP w2),.n .i64 (vJJ .i64 ((hand % (vJJ .i64 ((w2.nh:Int) + 2))) - 1)),.n .i64 (vJJ .i64 ((place % (vJJ .i64 ((w2.np:Int) + 2))) - 1)),.lf k2 (fQ q2)]) then (bif (gF1 cX eX [(uX js2 ms2 sh2 sk2 n2 m2 c2 d2 q4 k1 x y),.n .i64 0,.n .i64 0,.lf n2 (fQ q4)]) then (bif (atX [(uX js2 ms2 sh2 sk2 n2 m2 c2 d2 q4 k1 x y),.n .i64 0,.n .i64 0,.lf n2 (fQ q4)]) then (bif (gF1 cX eX [(uX js2 ms2 sh2 sk2 n2 m2 c2 d2 q4 k1 x y),.n .i64 0,.n .i64 0,.lf n2 (fQ q4)]) then (bif (atX [(uX js2 ms2 sh2 sk2 n2 m2 c2 d2 q4 k1 x y),.n .i64 0,.n .i64 0,.lf n2 (fQ q4)]) then some (.v (.b true),[])
 else some (.v (.b false),[]))
 else none)
 else (bif (gF1 cX eX [(uX js2 ms2 sh2 sk2 n2 m2 c2 d2 q4 k1 x y),.n .i64 0,.n .i64 0,.lf n2 (fQ q4)]) then (bif (atX [(uX js2 ms2 sh2 sk2 n2 m2 c2 d2 q4 k1 x y),.n .i64 0,.n .i64 0,.lf n2 (fQ q4)]) then some (.v (.b false),[])
 else some (.v (.b true),[]))
 else none))
 else none)
 else some (.v (.b false),[]))
 else none)
 else (bif (gF1 cX eX [.a (wP w2),.n .i64 (vJJ .i64 ((hand % (vJJ .i64 ((w2.nh:Int) + 2))) - 1)),.n .i64 (vJJ .i64 ((place % (vJJ .i64 ((w2.np:Int) + 2))) - 1)),.lf k2 (fQ q2)]) then (bif (atX [.a (wP w2),.n .i64 (vJJ .i64 ((hand % (vJJ .i64 ((w2.nh:Int) + 2))) - 1)),.n .i64 (vJJ .i64 ((place % (vJJ .i64 ((w2.np:Int) + 2))) - 1)),.lf k2 (fQ q2)]) then some (.v (.b false),[])
 else (bif (gF1 cX eX [(uX js2 ms2 sh2 sk2 n2 m2 c2 d2 q4 k1 x y),.n .i64 0,.n .i64 0,.lf n2 (fQ q4)]) then (bif (atX [(uX js2 ms2 sh2 sk2 n2 m2 c2 d2 q4 k1 x y),.n .i64 0,.n .i64 0,.lf n2 (fQ q4)]) then (bif (gF1 cX eX [(uX js2 ms2 sh2 sk2 n2 m2 c2 d2 q4 k1 x y),.n .i64 0,.n .i64 0,.lf n2 (fQ q4)]) then (bif (atX [(uX js2 ms2 sh2 sk2 n2 m2 c2 d2 q4 k1 x y),.n .i64 0,.n .i64 0,.lf n2 (fQ q4)]) then some (.v (.b true),[])
 else some (.v (.b false),[]))
 else none)
 else (bif (gF1 cX eX [(uX js2 ms2 sh2 sk2 n2 m2 c2 d2 q4 k1 x y),.n .i64 0,.n .i64 0,.lf n2 (fQ q4)]) then (bif (atX [(uX js2 ms2 sh2 sk2 n2 m2 c2 d2 q4 k1 x y),.n .i64 0,.n .i64 0,.lf n2 (fQ q4)]) then some (.v (.b false),[])
 else some (.v (.b true),[]))
 else none))
 else none))
 else none))
 else none))
 else none)
 else none))
 else none)
 else none))
 else none))
 else none)
 else none)
 else none)
 else none)
 else none)
 else none)
 else none)
 else none)
 else none)
 else none)
 else none)
 else none)
 else none)
 else none))
 else (bif (g1 []) then some (.v (.b true),[])
 else none))
 else (bif (g1 []) then some (.v (.b true),[])
 else none))
 else (bif (g1 []) then some (.v (.b true),[])
 else none))
 else (bif (g1 []) then some (.v (.b true),[])
 else none))
 else (bif (g1 []) then some (.v (.b true),[])
 else none))
 else (bif (g1 []) then some (.v (.b true),[])
 else none))
 else (bif (g1 []) then some (.v (.b true),[])
 else none))
 else (bif (g1 []) then some (.v (.b true),[])
 else none)):=by kernel_rfl
theorem uQV (ws w2:Wsp) (hand place:Int) (k2:Nat) (q2:Nat→Int) (wl:Nat) (e:Nat→Int) (wm:Nat) (e2:Nat→Int) (wo:Nat) (e3:Nat→Int) (q3:Nat→Int) (js2:Nat→J) (ms2:Nat→Ms) (sh2:Nat→Shp) (sk2:Nat→Skp) (n2 m2 c2 d2:Nat) (q4:Nat→Int) (k1 x y:Int) (hA:yK Tryz.prog 13 [] (.v (.b true))) (hW:yK Tryz.prog 14 [.lf wl (fQ e)] (.v (.a (wP w2)))) (hS:yK Tryz.prog 8 [.lf wm (fQ e2)] (.v (.a [.lf n2 (fJ js2),.lf m2 (fM ms2),.lf c2 (fS sh2),.lf d2 (fK sk2)]))) (hC:yK Tryz.prog 21 [.a [.lf n2 (fJ js2),.lf m2 (fM ms2)],.lf wo (fQ e3)] (.v (.lf n2 (fQ q4)))) (hB:yK Tryz.prog 23 [.lf n2 (fQ q4)] (.v (.lf n2 (fB (ptB q4))))) (hL:yK Tryz.prog 22 [.a [.lf n2 (fJ js2),.lf m2 (fM ms2)],.lf n2 (fB (ptB q4))] (.v (.lf n2 (fP (LP js2 (ptB q4) n2))))) (hG:yK Tryz.prog 26 [.a (wP w2),.n .i64 k1,.n .i64 x,.n .i64 y] (.v (.lf 2 (fQ q3)))) (h0:cX [.a (wP ws),.n .i64 hand,.n .i64 place,.lf k2 (fQ q2)]) (h1:cX [.a (wP w2),.n .i64 (vJJ .i64 ((hand % (vJJ .i64 ((w2.nh:Int) + 2))) - 1)),.n .i64 (vJJ .i64 ((place % (vJJ .i64 ((w2.np:Int) + 2))) - 1)),.lf 2 (fQ q3)]) (h2:cX [.a (wP w2),.n .i64 (vJJ .i64 ((hand % (vJJ .i64 ((w2.nh:Int) + 2))) - 1)),.n .i64 (vJJ .i64 ((place % (vJJ .i64 ((w2.np:Int) + 2))) - 1)),.lf k2 (fQ q2)]) (h3:cX [(uX js2 ms2 sh2 sk2 n2 m2 c2 d2 q4 k1 x y),.n .i64 0,.n .i64 0,.lf n2 (fQ q4)]) (bh:0 < vJJ .i64 ((w2.nh:Int) + 2)∧vJJ .i64 ((w2.nh:Int) + 2)≤9223372036854775807) (bp:0 < vJJ .i64 ((w2.np:Int) + 2)∧vJJ .i64 ((w2.np:Int) + 2)≤9223372036854775807) (bn:0 < (n2:Int)∧(n2:Int)≤9223372036854775807) (bi:inB (y % (n2:Int)) n2=true):yK Tryz.prog 6 [.a (wP ws),.n .i64 hand,.n .i64 place,.lf k2 (fQ q2),.lf wl (fQ e),.lf wm (fQ e2),.lf wo (fQ e3),.n .i64 k1,.n .i64 x,.n .i64 y] (.v (.b true)):=by
 refine yQ (N:=60) (LO:=qZ (kKF ws w2 hand place k2 q2 wl e wm e2 wo e3 q3 js2 ms2 sh2 sk2 n2 m2 c2 d2 q4 k1 x y)) kX zW (uK (l:=[(13,o_cr [] (.v (.b true))),(14,o_cr [.lf wl (fQ e)] (.v (.a (wP w2)))),(8,o_cr [.lf wm (fQ e2)] (.v (.a [.lf n2 (fJ js2),.lf m2 (fM ms2),.lf c2 (fS sh2),.lf d2 (fK sk2)]))),(21,o_cr [.a [.lf n2 (fJ js2),.lf m2 (fM ms2)],.lf wo (fQ e3)] (.v (.lf n2 (fQ q4)))),(23,o_cr [.lf n2 (fQ q4)] (.v (.lf n2 (fB (ptB q4))))),(22,o_cr [.a [.lf n2 (fJ js2),.lf m2 (fM ms2)],.lf n2 (fB (ptB q4))] (.v (.lf n2 (fP (LP js2 (ptB q4) n2))))),(26,o_cr [.a (wP w2),.n .i64 k1,.n .i64 x,.n .i64 y] (.v (.lf 2 (fQ q3)))),(20,o_rn),(24,o_X),(25,o_X)]) (m:=[]) ⟨qWU hA,qWU hW,qWU hS,qWU hC,qWU hB,qWU hL,qWU hG,Sn.ok_rn,xHZ,xHQ,trivial⟩ trivial) (fun p S hp => ?_) ?_
 ·refine zG (L:=qQ Tf 6) (l:=(kKF ws w2 hand place k2 q2 wl e wm e2 wo e3 q3 js2 ms2 sh2 sk2 n2 m2 c2 d2 q4 k1 x y)) (show AllP _ (kKF ws w2 hand place k2 q2 wl e wm e2 wo e3 q3 js2 ms2 sh2 sk2 n2 m2 c2 d2 q4 k1 x y) from trivial) p S hp
 ·refine (xWQ ws w2 hand place k2 q2 wl e wm e2 wo e3 q3 js2 ms2 sh2 sk2 n2 m2 c2 d2 q4 k1 x y).trans ?_;simp only [g1_t,kV (C:=crn) (t:=(hand,(vJJ .i64 ((w2.nh:Int) + 2)))) bh,kV (C:=crn) (t:=(place,(vJJ .i64 ((w2.np:Int) + 2)))) bp,kV (C:=crn) (t:=(k1,3)) ⟨by decide,by decide⟩,kV (C:=crn) (t:=(x,65537)) ⟨by decide,by decide⟩,kV (C:=crn) (t:=(y,(n2:Int))) bn,show inB (y % (n2:Int)) n2=true from bi,kV (C:=cX) (enc:=eX) (t:=[.a (wP ws),.n .i64 hand,.n .i64 place,.lf k2 (fQ q2)]) h0,kV (C:=cX) (enc:=eX) (t:=[.a (wP w2),.n .i64 (vJJ .i64 ((hand % (vJJ .i64 ((w2.nh:Int) + 2))) - 1)),.n .i64 (vJJ .i64 ((place % (vJJ .i64 ((w2.np:Int) + 2))) - 1)),.lf 2 (fQ q3)]) h1,kV (C:=cX) (enc:=eX) (t:=[.a (wP w2),.n .i64 (vJJ .i64 ((hand % (vJJ .i64 ((w2.nh:Int) + 2))) - 1)),.n .i64 (vJJ .i64 ((place % (vJJ .i64 ((w2.np:Int) + 2))) - 1)),.lf k2 (fQ q2)]) h2,kV (C:=cX) (enc:=eX) (t:=[(uX js2 ms2 sh2 sk2 n2 m2 c2 d2 q4 k1 x y),.n .i64 0,.n .i64 0,.lf n2 (fQ q4)]) h3,vYV];generalize atX [.a (wP ws),.n .i64 hand,.n .i64 place,.lf k2 (fQ q2)]=b0;generalize atX [.a (wP w2),.n .i64 (vJJ .i64 ((hand % (vJJ .i64 ((w2.nh:Int) + 2))) - 1)),.n .i64 (vJJ .i64 ((place % (vJJ .i64 ((w2.np:Int) + 2))) - 1)),.lf 2 (fQ q3)]=b1;generalize atX [.a (wP w2),.n .i64 (vJJ .i64 ((hand % (vJJ .i64 ((w2.nh:Int) + 2))) - 1)),.n .i64 (vJJ .i64 ((place % (vJJ .i64 ((w2.np:Int) + 2))) - 1)),.lf k2 (fQ q2)]=b2;generalize atX [(uX js2 ms2 sh2 sk2 n2 m2 c2 d2 q4 k1 x y),.n .i64 0,.n .i64 0,.lf n2 (fQ q4)]=b3;cases b0 <;> cases b1 <;> cases b2 <;> cases b3 <;> simp only [vYV,vYG,Bool.cond_self]
theorem snd_law (hA:yK Tryz.prog 13 [] (.v (.b true))) (ws:Wsp) (o1:okW ws) (hand place:Int) (r:List Int) (_:r.length≤9223372036854775807) (l:List Int) (hl:l.length≤9223372036854775807) (m:List Int) (hm1:m.length≤9223372036854775807) (o:List Int) (ho1:o.length≤9223372036854775807) (k1 x y:Int):yK Tryz.prog 6 [.a (wP ws),.n .i64 hand,.n .i64 place,zUB r,zUB l,zUB m,zUB o,.n .i64 k1,.n .i64 x,.n .i64 y] (.v (.b true)):=by
 obtain ⟨w2,hm,hW⟩:=uWG l.length (iqOf l) hl;have hh:=hm.nh;have hp:=hm.np;have o2:=kKQ hm;obtain ⟨js2,ms2,sh2,sk2,n2,m2,c2,d2,hn,hlim,hz,hS⟩:=uVA m.length (iqOf m) hm1;obtain ⟨q4,hq4,hC⟩:=xJJ o.length (iqOf o) js2 ms2 n2 m2 ho1 (by omega) hlim;have hqi:qIn js2 ms2 q4 n2 m2 n2=true:=by
  unfold qIn insQ;rw [hz,vJQ rfl,vJQ (show (n2:Int)=(n2:Int) from rfl),vZH,vZH];refine allN_iff.2 fun i _ hi => ?_
  have:=hq4 i (by omega)
  rw [vJQ this.1,vJQ this.2]; rfl
 obtain ⟨_,_,_,hs1,hs2⟩:=uZV hqi;have hB:=jJL q4 n2 (by omega);rw [hs1,vYV] at hB;have hL:=jJI js2 ms2 (ptB q4) n2 m2 n2;rw [hz,hs2,vJQ rfl] at hL;have hy1:=Int.emod_nonneg y (show (n2:Int) ≠ 0 by omega);have hy2:=Int.emod_lt_of_pos y (show (0:Int) < (n2:Int) by omega);have bi:inB (y % (n2:Int)) n2=true:=by
  have e:y % (n2:Int)=(((y % (n2:Int)).toNat:Nat):Int):=by omega
  rw [e]; exact yV (by omega)
 have o3:okW (uW js2 ms2 sh2 sk2 n2 m2 c2 d2 q4 k1 x y):=fun i hi=>absurd hi (Nat.not_lt_zero i)
 have hu:∀ {f:Nat} {b:Bool},yK Tryz.prog f [.a (wP (uW js2 ms2 sh2 sk2 n2 m2 c2 d2 q4 k1 x y)),.n .i64 0,.n .i64 0,.lf n2 (fQ q4)] (.v (.b b))→yK Tryz.prog f [uX js2 ms2 sh2 sk2 n2 m2 c2 d2 q4 k1 x y,.n .i64 0,.n .i64 0,.lf n2 (fQ q4)] (.v (.b b)):=fun h =>
  yVB (fun F w vals h=>Sames.al (xs:=[_,_,_,_]) (ys:=[_,_,_,_]) ⟨kHU js2 ms2 sh2 sk2 n2 m2 c2 d2 q4 k1 x y,Same.refl _,Same.refl _,Same.refl _,trivial⟩ h) h
 refine yVB (fun F w vals h=>Sames.al (xs:=[.a (wP ws),.n .i64 hand,.n .i64 place,zUB r,zUB l,zUB m,zUB o,.n .i64 k1,.n .i64 x,.n .i64 y]) (ys:=[.a (wP ws),.n .i64 hand,.n .i64 place,.lf r.length (fQ (iqOf r)),.lf l.length (fQ (iqOf l)),.lf m.length (fQ (iqOf m)),.lf o.length (fQ (iqOf o)),.n .i64 k1,.n .i64 x,.n .i64 y]) ⟨fun _ _ _ h=>h,fun _ _ _ h=>h,fun _ _ _ h=>h,qHD r,qHD l,qHD m,qHD o,fun _ _ _ h=>h,fun _ _ _ h=>h,fun _ _ _ h=>h,trivial⟩ h) ?_;exact uQV ws w2 hand place _ _ _ _ _ _ _ _ (grQ w2 k1 x y) js2 ms2 sh2 sk2 n2 m2 c2 d2 q4 k1 x y hA hW hS hC hB hL (xZF hm k1 x y) (jQK (zKZ _ _ _ _ _ o1) (zVI _ _ _ _ _ o1)) (jQK (zKZ _ _ _ _ _ o2) (zVI _ _ _ _ _ o2)) (jQK (zKZ _ _ _ _ _ o2) (zVI _ _ _ _ _ o2)) (jQK (hu (zKZ _ _ _ _ _ o3)) (hu (zVI _ _ _ _ _ o3))) (by rw [qV (by omega)]; omega) (by rw [qV (by omega)]; omega) (by omega) bi
end Go.Proofs.YtgmbkkkbfbocnaaGreat.Hu
namespace Go.Proofs.YtgmbkkkbfbocnaaGreat.Gi
open Go.Rx Rt Go.Sx Go.RowKit Go.ChangeShapes Go.WideShapes Od Na Nb Nc Nx Ga
def shJ:List Sh:=[.s,.i .i64,.i .i64,.i .i64,.i .i64,.i .i64,.i .i64,.i .i64,.i .i64,.i .i64,.i .i64,.i .i64]
def shM:List Sh:=[.i .i64,.i .i64,.i .i64,.i .i64,.i .i64]
def shZ:List Sh:=[.i .i64,.i .i64,.i .i64]
def kP (s:Skp):List PV:=[.n .i64 s.a,.n .i64 s.b]
def shK:List Sh:=[.i .i64,.i .i64]
def shS:List Sh:=[.i .i64,.i .i64,.l shZ]
theorem yZZ:∀ {xs ys:List PV},Sames xs ys→xs.length=ys.length
 | [],[],_=>rfl
 | _ :: _,_ :: _,h=>congrArg (· + 1) (yZZ h.2)
 | [],_ :: _,h=>h.elim
 | _ :: _,[],h=>h.elim
theorem yVD:∀ {xs ys:List PV},Sames xs ys→∀ {t:Nat} {y:PV},ys[t]? = some y→∃ x,xs[t]? = some x∧Same x y
 | [],[],_,t,y,h=>by simp at h
 | x :: xs,y :: ys,hs,0,z,h=>by
  simp only [List.getElem?_cons_zero,vQZ] at h;subst h;exact ⟨x,rfl,hs.1⟩
 | x :: xs,y :: ys,hs,t + 1,z,h=>by
  simp only [List.getElem?_cons_succ] at h ⊢;exact yVD hs.2 h
 | [],_ :: _,h,_,_,_=>h.elim
 | _ :: _,[],h,_,_,_=>h.elim
theorem zJH {n:Nat} {f g:Nat→List PV} (h:∀ j,j < n→Sames (f j) (g j)):Same (.lf n f) (.lf n g):=fun F w v hv=>by
 have h1:=zQD rfl hv;generalize hr:(List.range n).map f=rows at h1;have hl:rows.length=n:=by rw [← hr,List.length_map,List.length_range]
 refine .lf n g v ?_;cases h1 with
 | l0 ad c =>
  have:n=0:=hl.symm
  subst this;exact .l0 _ _
 | l _ b off n' c sz q hn hcap hs hF hc hh =>
  refine .l _ b off n' c sz q (by rw [List.length_map,List.length_range,← hl]; exact hn) hcap (fun r hr' => ?_) hF hc (fun j r t p hj ht => ?_)
  ·obtain ⟨j,hj,rfl⟩:=List.mem_map.1 hr';have hj':=List.mem_range.1 hj;rw [← yZZ (h j hj')];exact hs _ (by rw [← hr]; exact List.mem_map.2 ⟨j,hj,rfl⟩)
  ·have hj':j < n:=by have:=(List.getElem?_eq_some_iff.1 hj).1; simpa using this
   rw [vZY,List.getElem?_range hj'] at hj;cases hj;obtain ⟨x,hx,hxy⟩:=yVD (h j hj') ht;exact hxy _ _ _ (hh j (f j) t x (by rw [← hr,vZY,List.getElem?_range hj']; rfl) hx)
theorem zUI {α:Type} (a0:α) {n:Nat} {f:Nat→List PV} {R:List PV→α→Prop} (h:∀ j,j < n→∃ a,R (f j) a):∃ g:Nat→α,∀ j,j < n→R (f j) (g j):=by
 have each:∀ j,∃ a:α,j < n→R (f j) a:=fun j=>by
  by_cases hj:j < n
  ·obtain ⟨a,ha⟩:=h j hj; exact ⟨a,fun _=>ha⟩
  ·exact ⟨a0,fun h=>absurd h hj⟩
 obtain ⟨g,hg⟩:=Classical.axiomOfChoice each;exact ⟨g,hg⟩
section
variable {W:World} {H:Type} {enc:TypeId × Value→H} {r:Reach} {base:Nat} {v:Value} {d:DataW H} {p:List MemPlace}
abbrev RW (W:World):PV→Value→Prop:=RP (fun k=>k < W.heap.size) W
end
end Go.Proofs.YtgmbkkkbfbocnaaGreat.Gi
namespace Go.Rx
open Go.RowKit Go.Sx Go.ChangeShapes Go.WideShapes
inductive FitB:Sh→PV→Prop
 | i (k:IntKind) (x:Int) (h:(Lit.int k x).wf=true):FitB (.i k) (.n k x)
 | b (x:Bool):FitB .b (.b x)
 | s (x:ByteArray) (h:x.size≤maxLen):FitB .s (.s x)
 | l (row:List Sh) (n:Nat) (f:Nat→List PV) (hn:n≤maxLen) (hB:n * (8 * row.length)≤reachBytes) (hl:∀ j,j < n→(f j).length=row.length) (h:∀ j,j < n→∀ (i:Nat) sh p,row[i]? = some sh→(f j)[i]? = some p→FitB sh p):FitB (.l row) (.lf n f)
def shTB (P:Program):Nat→TypeId→Option (List Sh)
 | 0,_=>none
 | g + 1,t=>match P.underlying t with
  | some (.int k)=>some [.i k]
  | some .bool=>some [.b]
  | some .string=>some [.s]
  | some (.slice e)=>(shTB P g e).bind fun r=>bif Nat.beq (P.cellsOf e) r.length && Nat.blt 0 r.length && Nat.ble (8 * r.length) (P.bytesOf e) then some [.l r] else none
  | some (.array n e)=>(shTB P g e).bind fun r=>bif Nat.beq (P.cellsOf e) r.length && Nat.beq (P.cellsOf t) (sumL (List.replicate n r)) then some (List.replicate n r).flatten else none
  | some (.struct fs)=>(mapO (fun f:Field=>(shTB P g f.type).bind fun r=>bif Nat.beq (P.cellsOf f.type) r.length then some (f.offset,r) else none) fs.toList).bind fun l =>
    bif yHF l 0 && Nat.beq (P.cellsOf t) (sumL (l.map (·.2))) then some (l.map (·.2)).flatten else none
  | _=>none
theorem yWU {H:Type} {P:Program} {e:TypeId} {y:Nat}:∀ {l:List (DataW H)} {d:DataW H},d ∈ l→y ∈ d.weights P e→y ∈ DataW.weightsAll P e l
 | d0 :: l,d,hd,hy=>by
  unfold DataW.weightsAll;rcases List.mem_cons.1 hd with rfl | h
  ·exact List.mem_append_left _ hy
  ·exact List.mem_append_right _ (yWU h hy)
theorem yGH {H:Type} {P:Program} {y:Nat}:∀ {ts:List TypeId} {l:List (DataW H)} {i:Nat} {t:TypeId} {d:DataW H},ts[i]? = some t→l[i]? = some d→y ∈ d.weights P t→y ∈ DataW.weightsEach P ts l
 | [],_,i,_,_,h,_,_=>by simp at h
 | _ :: _,[],i,_,_,_,h,_=>by simp at h
 | t0 :: ts,d0 :: l,0,t,d,h1,h2,hy=>by
  simp only [List.getElem?_cons_zero,vQZ] at h1 h2;subst h1; subst h2;unfold DataW.weightsEach;exact List.mem_append_left _ hy
 | t0 :: ts,d0 :: l,i + 1,t,d,h1,h2,hy=>by
  simp only [List.getElem?_cons_succ] at h1 h2;unfold DataW.weightsEach;exact List.mem_append_right _ (yGH h1 h2 hy)
section
variable {P:Program} {w:World} {H:Type} {enc:TypeId × Value→H}
def GoodB (w:World) (shs:List Sh) (cs:List Value):Prop:=∃ ps:List PV,ps.length=shs.length∧(∀ (i:Nat) sh p,shs[i]? = some sh→ps[i]? = some p→FitB sh p)∧Al (RP (fun k=>k < w.heap.size) w) ps cs∧∀ v ∈ cs,v.oneCell'=true
theorem GoodB.one {sh:Sh} {p:PV} {v:Value} (h1:FitB sh p) (h2:RP (fun k=>k < w.heap.size) w p v) (h3:v.oneCell'=true):GoodB w [sh] [v] :=
 ⟨[p],rfl,(fun i s0 q hs hq=>by
  match i with
  | 0=>cases hs; cases hq; exact h1
  | i + 1=>cases hs),qZF h2 qGQ,(fun u hu=>by obtain rfl:=List.mem_singleton.1 hu; exact h3)⟩
theorem GoodB.cat {r s:List Sh} {cs ds:List Value} (h1:GoodB w r cs) (h2:GoodB w s ds):GoodB w (r ++ s) (cs ++ ds):=by
 obtain ⟨p,a1,a2,a3,a4⟩:=h1;obtain ⟨q,b1,b2,b3,b4⟩:=h2;refine ⟨p ++ q,by simp [a1,b1],fun i sh x hs hx => ?_,a3.append b3,fun v hv => ?_⟩
 ·rcases Nat.lt_or_ge i r.length with hi | hi
  ·rw [List.getElem?_append_left hi] at hs;rw [List.getElem?_append_left (by omega)] at hx;exact a2 i sh x hs hx
  ·rw [List.getElem?_append_right hi] at hs;rw [List.getElem?_append_right (by omega),a1] at hx;exact b2 _ sh x hs hx
 ·rcases List.mem_append.1 hv with h | h
  ·exact a4 v h
  ·exact b4 v h
def PiecesB (w:World):List (List Sh)→List Value→Prop
 | [],cs=>cs=[]
 | r :: l,cs=>GoodB w r (cs.take r.length)∧PiecesB w l (cs.drop r.length)
theorem PiecesB.good:∀ {l:List (List Sh)} {cs:List Value},PiecesB w l cs→GoodB w l.flatten cs
 | [],cs,h=>by
  have:cs=[]:=h
  subst this;exact ⟨[],rfl,fun i sh p hs=>by simp at hs,qGQ,fun v hv=>by cases hv⟩
 | r :: l,cs,h=>by
  have:=GoodB.cat h.1 h.2.good
  rw [List.take_append_drop] at this;exact this
theorem zKB {r:List Sh}:∀ (n:Nat) (cs:List Value),cs.length=sumL (List.replicate n r)→(∀ i,i < n→GoodB w r ((cs.drop (i * r.length)).take r.length))→PiecesB w (List.replicate n r) cs
 | 0,cs,hl,_=>by
  have:cs.length=0:=hl
  exact List.length_eq_zero_iff.1 this
 | n + 1,cs,hl,h=>by
  have hl':cs.length=r.length + sumL (List.replicate n r):=hl;refine ⟨by have:=h 0 (by omega); simpa using this,zKB n _ (by rw [List.length_drop]; omega) fun i hi => ?_⟩
  have:=h (i + 1) (by omega)
  rw [List.drop_drop];rw [show r.length + i * r.length=(i + 1) * r.length by rw [Nat.add_mul]; omega];exact this
theorem zKA:∀ (l:List (Nat × List Sh)) (a:Nat) (cs:List Value),yHF l a=true→(cs.drop a).length=sumL (l.map (·.2))→(∀ x ∈ l,GoodB w x.2 ((cs.drop x.1).take x.2.length))→PiecesB w (l.map (·.2)) (cs.drop a)
 | [],a,cs,_,hl,_=>List.length_eq_zero_iff.1 hl
 | x :: l,a,cs,hc,hl,h=>by
  simp only [yHF,vQJ] at hc;have e:=vQX hc.1;have hl':(cs.drop a).length=x.2.length + sumL (l.map (·.2)):=hl;rw [List.length_drop] at hl';have h0:=h x vZQ;rw [e] at h0;refine ⟨h0,?_⟩;show PiecesB w (l.map (·.2)) ((cs.drop a).drop x.2.length);rw [List.drop_drop];exact zKA l (a + x.2.length) cs hc.2 (by rw [List.length_drop]; omega) fun y hy=>h y (vQH _ hy)
theorem zYE {sp:Nat→Bool} {held:Bool}:∀ (fuel:Nat) (t:TypeId) (cs:List Value) (x:DataW H × List MemPlace) (g:Nat) (shs:List Sh),DataW.trod enc P w 0 sp held fuel t cs=some x→shTB P g t=some shs→(∀ y ∈ DataW.weights P t x.1,y≤reachBytes)→GoodB w shs cs
 | 0,t,cs,x,g,shs,h,_,_=>by simp [DataW.trod] at h
 | fuel + 1,t,cs,x,0,shs,h,hs,_=>by cases hs
 | fuel + 1,t,cs,x,g + 1,shs,h,hs,hw=>by
  unfold shTB at hs;split at hs
  ·rename_i k hu;cases hs;obtain ⟨n,rfl,_,hwf⟩:=DataW.trod_int hu h;exact GoodB.one (.i _ _ hwf) (.n _ _) rfl
  ·rename_i hu;cases hs;obtain ⟨b,rfl,_⟩:=DataW.trod_bool hu h;exact GoodB.one (.b _) (.b _) rfl
  ·rename_i hu;cases hs;obtain ⟨s,rfl,_,hs⟩:=DataW.trod_string hu h;exact GoodB.one (.s _ hs) (.s _) rfl
  ·rename_i e hu;simp only [vQQ] at hs;obtain ⟨r,hr,hs⟩:=hs;obtain ⟨hb,hs⟩:=qY hs;cases hs;simp only [vQJ,Nat.blt_eq] at hb;have hk:=vQX hb.1.1;have hr0:=hb.1.2;have h8:=vZX hb.2;rcases DataW.trod_slice hu h with ⟨rfl,_⟩ | ⟨a,len,cap,elems,rest,n,hf,rfl,rfl,_,hl,hm,hel,hcell,_,_⟩
   ·exact GoodB.one (.l r 0 (fun _=>[]) (Nat.zero_le _) (by rw [Nat.zero_mul]; exact Nat.zero_le _) (fun j hj=>by omega) (fun j hj=>by omega)) (.lf 0 _ _ (.l0 _ _)) rfl
   ·obtain rfl:n=fuel:=by omega
    have hwe:DataW.weights P t (.slice (elems.map (·.1)) (rest.map (·.1)))=((elems.map (·.1)).length + (rest.map (·.1)).length) * P.bytesOf e :: (DataW.weightsAll P e (elems.map (·.1)) ++ DataW.weightsAll P e (rest.map (·.1))):=by
     unfold DataW.weights;rw [hu]
    replace hw:∀ y ∈ DataW.weights P t (.slice (elems.map (·.1)) (rest.map (·.1))),y≤reachBytes:=hw
    rw [hwe] at hw;have hB:len * (8 * r.length)≤reachBytes:=by
     have h0:=hw _ vZQ;rw [List.length_map,List.length_map,hel] at h0;exact Nat.le_trans (Nat.mul_le_mul (Nat.le_add_right _ _) h8) h0
    have each:∀ i,∃ y:List PV × List Value,i < len→w.cells? 0 (a.add (i * r.length)) r.length=some y.2∧y.1.length=r.length∧(∀ (j:Nat) sh p,r[j]? = some sh→y.1[j]? = some p→FitB sh p)∧Al (RP (fun k=>k < w.heap.size) w) y.1 y.2∧∀ v ∈ y.2,v.oneCell'=true:=fun i=>by
     by_cases hi:i < len
     ·have hc:=hcell i hi;have he:elems[i]? = some (elems[i]'(by omega)):=vQK (by omega);rw [he,vQQ] at hc;obtain ⟨cs',h1,h2⟩:=hc;rw [hk] at h1;obtain ⟨ps,b1,b2,b3,b4⟩:=zYE n e cs' _ g r h2 hr (fun y hy=>hw y (vQH _ (List.mem_append_left _ (yWU (List.mem_map.2 ⟨_,List.getElem_mem (show i < elems.length by omega),rfl⟩) hy))));exact ⟨(ps,cs'),fun _=>⟨h1,b1,b2,b3,b4⟩⟩
     ·exact ⟨([],[]),fun h=>absurd h hi⟩
    obtain ⟨f,hf2⟩:=Classical.axiomOfChoice each;refine GoodB.one (.l r len (fun j=>(f j).1) (by omega) hB (fun j hj=>(hf2 j hj).2.1) (fun j hj=>(hf2 j hj).2.2.1)) (.lf len _ _ ?_) rfl;rcases Nat.eq_zero_or_pos len with h0 | hpos
    ·subst h0;exact .l0 _ _
    ·have hsome:∀ j t,j < len→t < r.length→w.cell? ((a.add (j * r.length)).add t)=(f j).2[t]?:=fun j t hj ht=>(World.cells?_some (hf2 j hj).1).2.2 t ht
     have hlen2:∀ j,j < len→(f j).2.length=r.length:=fun j hj=>(World.cells?_some (hf2 j hj).1).2.1
     have h00:=hsome 0 0 hpos hr0;have hg:(f 0).2[0]? = some ((f 0).2[0]'(by rw [hlen2 0 hpos]; exact hr0)):=vQK _;rw [hg] at h00;have hsp:a.spot=none:=by
      have e:(a.add (0 * r.length)).add 0=a:=by simp [Addr.add]
      rw [e] at h00;unfold World.cell? at h00;cases hb:w.heap[a.block]? with
      | none=>simp [hb] at h00
      | some o=>cases o <;> simp [hb] at h00; exact h00.1
     obtain ⟨bb,off,sp'⟩:=a;simp only at hsp;subst hsp;have hbb:bb < w.heap.size:=by
      rw [qYF,qYF] at h00;unfold World.cell? at h00;cases hb:w.heap[bb]? with
      | none=>simp [hb] at h00
      | some o=>exact qZU hb
     refine .l _ bb off len cap r.length (fun j t=>((f j).2[t]?).getD (.bool false)) (by simp) hl (fun q hq => ?_) hbb (fun j t hj ht => ?_) (fun j q t p hq hp => ?_)
     ·obtain ⟨j,hj,rfl⟩:=List.mem_map.1 hq;exact (hf2 j (List.mem_range.1 hj)).2.1
     ·have h1:=hsome j t hj ht;have hg2:(f j).2[t]? = some ((f j).2[t]'(by rw [hlen2 j hj]; exact ht)):=vQK _;rw [qYF,qYF,hg2,Nat.add_assoc] at h1;rw [hg2];exact ⟨h1,(hf2 j hj).2.2.2.2 _ (List.getElem_mem _)⟩
     ·have hj:j < len:=by have:=(List.getElem?_eq_some_iff.1 hq).1; simpa using this
      rw [vZY,List.getElem?_range hj] at hq;cases hq;have htl:=(List.getElem?_eq_some_iff.1 hp).1;have hg2:(f j).2[t]? = some ((f j).2[t]'(by rw [hlen2 j hj,← (hf2 j hj).2.1]; exact htl)):=vQK _
      have:=(hf2 j hj).2.2.2.1.2 t p _ hp hg2
      rw [hg2];exact this
  ·rename_i n e hu;simp only [vQQ] at hs;obtain ⟨r,hr,hs⟩:=hs;obtain ⟨hb,hs⟩:=qY hs;cases hs;simp only [vQJ] at hb;have hk:=vQX hb.1;have hk2:=vQX hb.2;obtain ⟨xs,m,hf,rfl,hl,hxl,hall⟩:=DataW.trod_array hu h;have hwe:DataW.weights P t (.agg (xs.map (·.1)))=DataW.weightsAll P e (xs.map (·.1)):=by
    unfold DataW.weights;rw [hu]
   replace hw:∀ y ∈ DataW.weights P t (.agg (xs.map (·.1))),y≤reachBytes:=hw
   rw [hwe] at hw;obtain rfl:m=fuel:=by omega
   refine (zKB n cs (hl.trans hk2) fun i hi => ?_).good;have h1:=hall i hi;have he:xs[i]? = some (xs[i]'(by omega)):=vQK (by omega);rw [he,hk] at h1;exact zYE m e _ _ g r h1 hr (fun y hy=>hw y (yWU (List.mem_map.2 ⟨_,List.getElem_mem (show i < xs.length by omega),rfl⟩) hy))
  ·rename_i fs hu;simp only [vQQ] at hs;obtain ⟨l,hlm,hs⟩:=hs;obtain ⟨hb,hs⟩:=qY hs;cases hs;simp only [vQJ] at hb;have hk2:=vQX hb.2;obtain ⟨xs,m,hf,rfl,hl,hxl,hall⟩:=DataW.trod_struct hu h;have hwe:DataW.weights P t (.agg (xs.map (·.1)))=DataW.weightsEach P (fs.toList.map (·.type)) (xs.map (·.1)):=by
    unfold DataW.weights;rw [hu]
   replace hw:∀ y ∈ DataW.weights P t (.agg (xs.map (·.1))),y≤reachBytes:=hw
   rw [hwe] at hw;obtain rfl:m=fuel:=by omega
   have hm:=jU hlm
   have:=zKA (w:=w) l 0 cs hb.1 (by rw [vYW]; exact hl.trans hk2) fun y hy=>by
    obtain ⟨i,hi⟩:=List.mem_iff_getElem?.1 hy;have hil:=(List.getElem?_eq_some_iff.1 hi).1;have hl2:i < fs.toList.length:=by rw [hm.1]; exact hil
    have hfi:fs.toList[i]? = some (fs.toList[i]'hl2):=vQK hl2;have h1:=hm.2 i _ y hfi hi;have hfi0:=hfi;generalize fs.toList[i]'hl2=fd at hfi hfi0 h1;simp only [vQQ] at h1;obtain ⟨r,hr,h1⟩:=h1;obtain ⟨hb1,h1⟩:=qY h1;cases h1;have hk:=vQX hb1;have h2:=hall i fd (by simpa using hfi);have he:xs[i]? = some (xs[i]'(by simp at hxl hl2; omega)):=vQK _;rw [he,hk] at h2;exact zYE m fd.type _ _ g r h2 hr (fun y hy=>hw y (yGH (i:=i) (by rw [vZY,hfi0]; rfl) (by rw [vZY,he]; rfl) hy))
   rw [vYW] at this;exact this.good
  ·cases hs
end
section
variable {P:Program} {W:World} {H:Type} {enc:TypeId × Value→H}
def FitsB (row:List Sh) (ps:List PV):Prop:=ps.length=row.length∧∀ (i:Nat) sh p,row[i]? = some sh→ps[i]? = some p→FitB sh p
theorem FitsB.cons {s0:Sh} {row:List Sh} {ps:List PV} (h:FitsB (s0 :: row) ps):∃ p qs,ps=p :: qs∧FitB s0 p∧FitsB row qs:=by
 cases ps with
 | nil=>have:=h.1; simp at this
 | cons p qs=>exact ⟨p,qs,rfl,h.2 0 s0 p rfl rfl,by have:=h.1; simpa using this,fun i sh q h1 h2=>h.2 (i + 1) sh q h1 h2⟩
theorem FitsB.nil {ps:List PV} (h:FitsB [] ps):ps=[]:=List.eq_nil_of_length_eq_zero h.1
theorem FitB.int {k:IntKind} {p:PV} (h:FitB (.i k) p):∃ x,p=.n k x∧(Lit.int k x).wf=true:=by cases h with | i k x h=>exact ⟨x,rfl,h⟩
theorem FitB.str {p:PV} (h:FitB .s p):∃ x,p=.s x:=by cases h with | s x h=>exact ⟨x,rfl⟩
theorem FitB.slc {row:List Sh} {p:PV} (h:FitB (.l row) p):∃ n f,p=.lf n f∧n * (8 * row.length)≤reachBytes∧∀ j,j < n→FitsB row (f j):=by
 cases h with
 | l row n f hn hB hl h=>exact ⟨n,f,rfl,hB,fun j hj=>⟨hl j hj,h j hj⟩⟩
theorem jUD {t:TypeId} {fs:Array Field} {v:Value} {d:DataW H} {p:List MemPlace} {g:Nat} {row:List Sh} (ht:P.underlying t=some (.struct fs)) {r:Reach} {base:Nat} (hv:Value.okWide P W r base t v)
  (h:DataW.Trod enc P W 0 (fun _=>true) true t v d p) (hs:shTB P g t=some row) (hw:∀ y ∈ DataW.weights P t d,y≤reachBytes):∃ ps,RP (fun k=>k < W.heap.size) W (.a ps) v∧FitsB row ps:=by
 have hcs:∃ cs,v=.agg cs:=by
  unfold Value.okWide at hv;cases v <;> simp [ht] at hv
  exact ⟨_,rfl⟩
 obtain ⟨cs,rfl⟩:=hcs;obtain ⟨fuel,h⟩:=h;obtain ⟨ps,h1,h2,h3,h4⟩:=zYE fuel t _ _ g row h hs hw;exact ⟨ps,.a ps cs.toList h3.1 h4 h3.2,h1,h2⟩
end
end Go.Rx
namespace Go.Proofs.YtgmbkkkbfbocnaaGreat.Hp
open Go.Rx Rt Go.Sx Go.RowKit Go.ChangeShapes Go.WideShapes Od Na Nb Nc Nx Ga Gi Ha Hc
theorem xUA {ps:List PV} (h:FitsB shJ ps):∃ a:J,ps=jp a:=by
 unfold shJ at h;obtain ⟨p0,q0,rfl,f0,h⟩:=h.cons;obtain ⟨p1,q1,rfl,f1,h⟩:=h.cons;obtain ⟨p2,q2,rfl,f2,h⟩:=h.cons;obtain ⟨p3,q3,rfl,f3,h⟩:=h.cons;obtain ⟨p4,q4,rfl,f4,h⟩:=h.cons;obtain ⟨p5,q5,rfl,f5,h⟩:=h.cons;obtain ⟨p6,q6,rfl,f6,h⟩:=h.cons;obtain ⟨p7,q7,rfl,f7,h⟩:=h.cons;obtain ⟨p8,q8,rfl,f8,h⟩:=h.cons;obtain ⟨p9,q9,rfl,f9,h⟩:=h.cons;obtain ⟨p10,q10,rfl,f10,h⟩:=h.cons;obtain ⟨p11,q11,rfl,f11,h⟩:=h.cons;obtain rfl:=h.nil;obtain ⟨x0,rfl⟩:=f0.str;obtain ⟨x1,rfl,_⟩:=f1.int;obtain ⟨x2,rfl,_⟩:=f2.int;obtain ⟨x3,rfl,_⟩:=f3.int;obtain ⟨x4,rfl,_⟩:=f4.int;obtain ⟨x5,rfl,_⟩:=f5.int;obtain ⟨x6,rfl,_⟩:=f6.int;obtain ⟨x7,rfl,_⟩:=f7.int;obtain ⟨x8,rfl,_⟩:=f8.int;obtain ⟨x9,rfl,_⟩:=f9.int;obtain ⟨x10,rfl,_⟩:=f10.int;obtain ⟨x11,rfl,_⟩:=f11.int;exact ⟨⟨x0,x1,x2,⟨x3,x4,x5⟩,x6,x7,x8,x9,x10,x11⟩,rfl⟩
theorem xUG {ps:List PV} (h:FitsB shM ps):∃ a:Ms,ps=mp a:=by
 unfold shM at h;obtain ⟨p0,q0,rfl,f0,h⟩:=h.cons;obtain ⟨p1,q1,rfl,f1,h⟩:=h.cons;obtain ⟨p2,q2,rfl,f2,h⟩:=h.cons;obtain ⟨p3,q3,rfl,f3,h⟩:=h.cons;obtain ⟨p4,q4,rfl,f4,h⟩:=h.cons;obtain rfl:=h.nil;obtain ⟨x0,rfl,_⟩:=f0.int;obtain ⟨x1,rfl,_⟩:=f1.int;obtain ⟨x2,rfl,_⟩:=f2.int;obtain ⟨x3,rfl,_⟩:=f3.int;obtain ⟨x4,rfl,_⟩:=f4.int;exact ⟨⟨x0,x1,⟨x2,x3,x4⟩⟩,rfl⟩
theorem uVD {ps:List PV} (h:FitsB shZ ps):∃ a:Z3,ps=zP a:=by
 unfold shZ at h;obtain ⟨p0,q0,rfl,f0,h⟩:=h.cons;obtain ⟨p1,q1,rfl,f1,h⟩:=h.cons;obtain ⟨p2,q2,rfl,f2,h⟩:=h.cons;obtain rfl:=h.nil;obtain ⟨x0,rfl,_⟩:=f0.int;obtain ⟨x1,rfl,_⟩:=f1.int;obtain ⟨x2,rfl,_⟩:=f2.int;exact ⟨⟨x0,x1,x2⟩,rfl⟩
theorem xUH {ps:List PV} (h:FitsB shK ps):∃ a:Skp,ps=kP a:=by
 unfold shK at h;obtain ⟨p0,q0,rfl,f0,h⟩:=h.cons;obtain ⟨p1,q1,rfl,f1,h⟩:=h.cons;obtain rfl:=h.nil;obtain ⟨x0,rfl,_⟩:=f0.int;obtain ⟨x1,rfl,_⟩:=f1.int;exact ⟨⟨x0,x1⟩,rfl⟩
def shH:List Sh:=[.i .i64,.i .i64,.i .i64,.i .i64]
def shO:List Sh:=[.s,.l shS]
def shI:List Sh:=[.i .i64]
def shG:List Sh:=[.i .i64,.i .i64,.l shI]
theorem xUC {ps:List PV} (h:FitsB shH ps):∃ a:Hnd,ps=hP a:=by
 unfold shH at h;obtain ⟨p0,q0,rfl,f0,h⟩:=h.cons;obtain ⟨p1,q1,rfl,f1,h⟩:=h.cons;obtain ⟨p2,q2,rfl,f2,h⟩:=h.cons;obtain ⟨p3,q3,rfl,f3,h⟩:=h.cons;obtain rfl:=h.nil;obtain ⟨x0,rfl,_⟩:=f0.int;obtain ⟨x1,rfl,_⟩:=f1.int;obtain ⟨x2,rfl,_⟩:=f2.int;obtain ⟨x3,rfl,_⟩:=f3.int;exact ⟨⟨x0,⟨x1,x2,x3⟩⟩,rfl⟩
theorem xUB {ps:List PV} (h:FitsB shI ps):∃ a:Int,ps=(fun x=>[PV.n .i64 x]) a:=by
 unfold shI at h;obtain ⟨p0,q0,rfl,f0,h⟩:=h.cons;obtain rfl:=h.nil;obtain ⟨x0,rfl,_⟩:=f0.int;exact ⟨x0,rfl⟩
theorem uVE {ps:List PV} (h:FitsB shS ps):∃ s:Shp,Sames ps (sP s):=by
 unfold shS at h;obtain ⟨p0,q0,rfl,f0,h⟩:=h.cons;obtain ⟨p1,q1,rfl,f1,h⟩:=h.cons;obtain ⟨p2,q2,rfl,f2,h⟩:=h.cons;obtain rfl:=h.nil;obtain ⟨x0,rfl,_⟩:=f0.int;obtain ⟨x1,rfl,_⟩:=f1.int;obtain ⟨n,f,rfl,_,hr⟩:=f2.slc;obtain ⟨pts,hp⟩:=zUI (⟨0,0,0⟩:Z3) (R:=fun ps z=>ps=zP z) fun j hj=>uVD (hr j hj)
 exact ⟨⟨x0,x1,n,pts⟩,Same.refl _,Same.refl _,qYW hp,trivial⟩
theorem xUV {ps:List PV} (h:FitsB shO ps):∃ o:ObT,o.ns≤8796093021952∧Sames ps (oP o):=by
 unfold shO at h;obtain ⟨p0,q0,rfl,f0,h⟩:=h.cons;obtain ⟨p1,q1,rfl,f1,h⟩:=h.cons;obtain rfl:=h.nil;obtain ⟨x0,rfl⟩:=f0.str;obtain ⟨n,f,rfl,hB,hr⟩:=f1.slc;obtain ⟨shs,hp⟩:=zUI (⟨0,0,0,fun _=>⟨0,0,0⟩⟩:Shp) (R:=fun ps z=>Sames ps (sP z)) fun j hj=>uVE (hr j hj)
 refine ⟨⟨x0,n,shs⟩,?_,Same.refl _,zJH hp,trivial⟩;have hB':n * (8 * 3)≤reachBytes:=hB;unfold reachBytes at hB';show n≤_;omega
theorem xUD {ps:List PV} (h:FitsB shG ps):∃ g:Grp,Sames ps (gPv g):=by
 unfold shG at h;obtain ⟨p0,q0,rfl,f0,h⟩:=h.cons;obtain ⟨p1,q1,rfl,f1,h⟩:=h.cons;obtain ⟨p2,q2,rfl,f2,h⟩:=h.cons;obtain rfl:=h.nil;obtain ⟨x0,rfl,_⟩:=f0.int;obtain ⟨x1,rfl,_⟩:=f1.int;obtain ⟨n,f,rfl,_,hr⟩:=f2.slc;obtain ⟨cf,hp⟩:=zUI (0:Int) (R:=fun ps z=>ps=[PV.n .i64 z]) fun j hj=>xUB (hr j hj)
 exact ⟨⟨x0,x1,n,cf⟩,Same.refl _,Same.refl _,qYW hp,trivial⟩
section
variable {W:World} {H:Type} {enc:TypeId × Value→H} {r:Reach} {base:Nat} {v:Value} {d:DataW H} {p:List MemPlace}
theorem xUK:shTB Tryz.prog 9 42=some [.l shJ,.l shM,.l shS,.l shK,.l shO,.l shZ,.l shH,.l shG,.i .i64]:=by kernel_rfl
set_option maxRecDepth 100000 in
theorem open_wsp (hv:Value.okWide Tryz.prog W r base 42 v) (h:DataW.Trod enc Tryz.prog W 0 (fun _=>true) true 42 v d p) (hw:∀ y ∈ DataW.weights Tryz.prog 42 d,y≤reachBytes):∃ ws:Wsp,okW ws∧RW W (.a (wP ws)) v:=by
 obtain ⟨ps,hr,hf⟩:=jUD Tryz.underlying42 hv h xUK hw;obtain ⟨p1,ps,rfl,f1,hf⟩:=hf.cons;obtain ⟨p2,ps,rfl,f2,hf⟩:=hf.cons;obtain ⟨p3,ps,rfl,f3,hf⟩:=hf.cons;obtain ⟨p4,ps,rfl,f4,hf⟩:=hf.cons;obtain ⟨p5,ps,rfl,f5,hf⟩:=hf.cons;obtain ⟨p6,ps,rfl,f6,hf⟩:=hf.cons;obtain ⟨p7,ps,rfl,f7,hf⟩:=hf.cons;obtain ⟨p8,ps,rfl,f8,hf⟩:=hf.cons;obtain ⟨p9,ps,rfl,f9,hf⟩:=hf.cons;obtain rfl:=hf.nil;obtain ⟨n,f,rfl,_,g1⟩:=f1.slc;obtain ⟨m,g,rfl,_,g2⟩:=f2.slc;obtain ⟨c,a,rfl,_,g3⟩:=f3.slc;obtain ⟨d,b,rfl,_,g4⟩:=f4.slc;obtain ⟨no,fo,rfl,_,g5⟩:=f5.slc;obtain ⟨np,fp,rfl,_,g6⟩:=f6.slc;obtain ⟨nh,fh,rfl,_,g7⟩:=f7.slc;obtain ⟨ng,fg,rfl,_,g8⟩:=f8.slc;obtain ⟨sl,rfl,_⟩:=f9.int;obtain ⟨js,hj⟩:=zUI (⟨ByteArray.empty,0,0,⟨0,0,0⟩,0,0,0,0,0,0⟩:J) (R:=fun ps z=>ps=jp z) fun j hj=>xUA (g1 j hj)
 obtain ⟨ms,hm⟩:=zUI (⟨0,0,⟨0,0,0⟩⟩:Ms) (R:=fun ps z=>ps=mp z) fun j hj=>xUG (g2 j hj)
 obtain ⟨sh,hs⟩:=zUI (⟨0,0,0,fun _=>⟨0,0,0⟩⟩:Shp) (R:=fun ps z=>Sames ps (sP z)) fun j hj=>uVE (g3 j hj)
 obtain ⟨sk,hk⟩:=zUI (⟨0,0⟩:Skp) (R:=fun ps z=>ps=kP z) fun j hj=>xUH (g4 j hj)
 obtain ⟨ob,ho⟩:=zUI (⟨ByteArray.empty,0,fun _=>⟨0,0,0,fun _=>⟨0,0,0⟩⟩⟩:ObT) (R:=fun ps (z:ObT)=>z.ns≤8796093021952∧Sames ps (oP z)) fun j hj=>xUV (g5 j hj)
 obtain ⟨pl,hp⟩:=zUI (⟨0,0,0⟩:Z3) (R:=fun ps z=>ps=zP z) fun j hj=>uVD (g6 j hj)
 obtain ⟨hd,hh⟩:=zUI (⟨0,⟨0,0,0⟩⟩:Hnd) (R:=fun ps z=>ps=hP z) fun j hj=>xUC (g7 j hj)
 obtain ⟨gr,hg⟩:=zUI (⟨0,0,0,fun _=>0⟩:Grp) (R:=fun ps z=>Sames ps (gPv z)) fun j hj=>xUD (g8 j hj)
 have s:Sames [.lf n f,.lf m g,.lf c a,.lf d b,.lf no fo,.lf np fp,.lf nh fh,.lf ng fg,.n .i64 sl] [.lf n (fJ js),.lf m (fM ms),.lf c (fS sh),.lf d (fK sk),.lf no (fO ob),.lf np (fZ pl),.lf nh (fH hd),.lf ng (fG gr),.n .i64 sl]:=⟨qYW hj,qYW hm,zJH hs,qYW hk,zJH fun j hj=>(ho j hj).2,qYW hp,qYW hh,zJH hg,Same.refl _,trivial⟩
 exact ⟨⟨js,ms,sh,sk,n,m,c,d,ob,pl,hd,gr,no,np,nh,ng,sl⟩,fun i hi=>(ho i hi).1,Same.a s _ _ _ hr⟩
end
end Go.Proofs.YtgmbkkkbfbocnaaGreat.Hp
namespace Go.Proofs.YtgmbkkkbfbocnaaGreat.Ag
open Go.Rx Rt
theorem cl94:yK Tryz.prog 94 [.l []] (.v (.l [])):=jJD (qYC (N:=60) yJ zW qHW (by kernel_rfl)) (yKL (e:=128) (sz:=5) (qYC (N:=60) yJ zW qHW (by kernel_rfl)))
theorem cl96:yK Tryz.prog 96 [.l []] (.v (.l [])):=jJD (qYC (N:=60) yJ zW qHW (by kernel_rfl)) (yKL (e:=86) (sz:=2) (qYC (N:=60) yJ zW qHW (by kernel_rfl)))
noncomputable def tC:Known:=[(94,[([.l []],.v (.l []))]),(96,[([.l []],.v (.l []))])]
theorem okC:Known.Ok Tryz.prog tC:=by
 intro x hx y hy;simp only [tC,vYZ,List.not_mem_nil,or_false] at hx;rcases hx with rfl | rfl
 ·simp only [vYZ,List.not_mem_nil,or_false] at hy;subst hy;exact cl94
 ·simp only [vYZ,List.not_mem_nil,or_false] at hy;subst hy;exact cl96
noncomputable def k100:List (List PV × Ret):=[([.n .i32 97],.v (.b true)),
 ([.n .i32 98],.v (.b true)),
 ([.n .i32 111],.v (.b true))]
noncomputable def t100:Known:=(100,k100) :: tC
theorem fQG:Known.Ok Tryz.prog t100:=Known.add yJ zW (okC) (N:=60) (by kernel_rfl)
noncomputable def k53:List (List PV × Ret):=[([.s (ByteArray.mk #[97])],.v (.b true)),
 ([.s (ByteArray.mk #[98])],.v (.b true)),
 ([.s (ByteArray.mk #[111])],.v (.b true))]
noncomputable def t53:Known:=(53,k53) :: t100
theorem ok53:Known.Ok Tryz.prog t53:=Known.add yJ zW (fQG) (N:=60) (by kernel_rfl)
noncomputable def k164:List (List PV × Ret):=[([.a [.l [[.s (ByteArray.mk #[97]),.n .i64 4,.n .i64 (-1),.n .i64 0,.n .i64 0,.n .i64 0,.n .i64 0,.n .i64 64,.n .i64 1,.n .i64 65536,.n .i64 65536,.n .i64 65536],[.s (ByteArray.mk #[98]),.n .i64 5,.n .i64 0,.n .i64 0,.n .i64 0,.n .i64 0,.n .i64 0,.n .i64 64,.n .i64 1,.n .i64 65536,.n .i64 65536,.n .i64 65536]],.l []],.s (ByteArray.mk #[97])],.v (.n .i64 0)),
 ([.a [.l [[.s (ByteArray.mk #[97]),.n .i64 4,.n .i64 (-1),.n .i64 0,.n .i64 0,.n .i64 0,.n .i64 0,.n .i64 64,.n .i64 1,.n .i64 65536,.n .i64 65536,.n .i64 65536],[.s (ByteArray.mk #[98]),.n .i64 5,.n .i64 0,.n .i64 0,.n .i64 0,.n .i64 0,.n .i64 0,.n .i64 64,.n .i64 1,.n .i64 65536,.n .i64 65536,.n .i64 65536]],.l []],.s (ByteArray.mk #[98])],.v (.n .i64 1))]
noncomputable def t164:Known:=(164,k164) :: t53
theorem xHH:Known.Ok Tryz.prog t164:=Known.add yJ zW (ok53) (N:=60) (by kernel_rfl)
noncomputable def k165:List (List PV × Ret):=[([.a [.n .i64 0,.n .i64 0,.n .i64 0]],.v (.b false))]
noncomputable def t165:Known:=(165,k165) :: t164
theorem xHG:Known.Ok Tryz.prog t165:=Known.add yJ zW (xHH) (N:=60) (by kernel_rfl)
noncomputable def k166:List (List PV × Ret):=[([.n .i64 4],.v (.n .i64 4194304)),
 ([.n .i64 5],.v (.n .i64 4194304))]
noncomputable def t166:Known:=(166,k166) :: t165
theorem xHV:Known.Ok Tryz.prog t166:=Known.add yJ zW (xHG) (N:=60) (by kernel_rfl)
noncomputable def k167:List (List PV × Ret):=[([.n .i64 1,.n .i64 1024],.v (.b true)),
 ([.n .i64 65536,.n .i64 1048576],.v (.b true)),
 ([.n .i64 65536,.n .i64 1099511627776],.v (.b true))]
noncomputable def t167:Known:=(167,k167) :: t166
theorem xHW:Known.Ok Tryz.prog t167:=Known.add yJ zW (xHV) (N:=60) (by kernel_rfl)
noncomputable def k136:List (List PV × Ret):=[([.a [.l [[.s (ByteArray.mk #[97]),.n .i64 4,.n .i64 (-1),.n .i64 0,.n .i64 0,.n .i64 0,.n .i64 0,.n .i64 64,.n .i64 1,.n .i64 65536,.n .i64 65536,.n .i64 65536],[.s (ByteArray.mk #[98]),.n .i64 5,.n .i64 0,.n .i64 0,.n .i64 0,.n .i64 0,.n .i64 0,.n .i64 64,.n .i64 1,.n .i64 65536,.n .i64 65536,.n .i64 65536]],.l []],.n .i64 0],.v (.n .i64 0)),
 ([.a [.l [[.s (ByteArray.mk #[97]),.n .i64 4,.n .i64 (-1),.n .i64 0,.n .i64 0,.n .i64 0,.n .i64 0,.n .i64 64,.n .i64 1,.n .i64 65536,.n .i64 65536,.n .i64 65536],[.s (ByteArray.mk #[98]),.n .i64 5,.n .i64 0,.n .i64 0,.n .i64 0,.n .i64 0,.n .i64 0,.n .i64 64,.n .i64 1,.n .i64 65536,.n .i64 65536,.n .i64 65536]],.l []],.n .i64 1],.v (.n .i64 0))]
noncomputable def t136:Known:=(136,k136) :: t167
theorem fQQ:Known.Ok Tryz.prog t136:=Known.add yJ zW (xHW) (N:=60) (by kernel_rfl)
noncomputable def k85:List (List PV × Ret):=[([.a [.l [[.s (ByteArray.mk #[97]),.n .i64 4,.n .i64 (-1),.n .i64 0,.n .i64 0,.n .i64 0,.n .i64 0,.n .i64 64,.n .i64 1,.n .i64 65536,.n .i64 65536,.n .i64 65536],[.s (ByteArray.mk #[98]),.n .i64 5,.n .i64 0,.n .i64 0,.n .i64 0,.n .i64 0,.n .i64 0,.n .i64 64,.n .i64 1,.n .i64 65536,.n .i64 65536,.n .i64 65536]],.l []]],.v (.n .i64 0))]
noncomputable def t85:Known:=(85,k85) :: t136
theorem ok85:Known.Ok Tryz.prog t85:=Known.add yJ zW (fQQ) (N:=60) (by kernel_rfl)
noncomputable def k50:List (List PV × Ret):=[([.a [.l [[.s (ByteArray.mk #[97]),.n .i64 4,.n .i64 (-1),.n .i64 0,.n .i64 0,.n .i64 0,.n .i64 0,.n .i64 64,.n .i64 1,.n .i64 65536,.n .i64 65536,.n .i64 65536],[.s (ByteArray.mk #[98]),.n .i64 5,.n .i64 0,.n .i64 0,.n .i64 0,.n .i64 0,.n .i64 0,.n .i64 64,.n .i64 1,.n .i64 65536,.n .i64 65536,.n .i64 65536]],.l [],.l [],.l []]],.v (.n .i64 0))]
noncomputable def t50:Known:=(50,k50) :: t85
theorem ok50:Known.Ok Tryz.prog t50:=Known.add yJ zW (ok85) (N:=60) (by kernel_rfl)
noncomputable def k99:List (List PV × Ret):=[([.a [.n .i64 16,.n .i64 0,.n .i64 0]],.v (.b true)),
 ([.a [.n .i64 32,.n .i64 8,.n .i64 0]],.v (.b true)),
 ([.a [.n .i64 0,.n .i64 0,.n .i64 0]],.v (.b true)),
 ([.a [.n .i64 1,.n .i64 2,.n .i64 3]],.v (.b true))]
noncomputable def t99:Known:=(99,k99) :: t50
theorem ok99:Known.Ok Tryz.prog t99:=Known.add yJ zW (ok50) (N:=60) (by kernel_rfl)
noncomputable def k51:List (List PV × Ret):=[([.a [.l [[.s (ByteArray.mk #[97]),.n .i64 4,.n .i64 (-1),.n .i64 0,.n .i64 0,.n .i64 0,.n .i64 0,.n .i64 64,.n .i64 1,.n .i64 65536,.n .i64 65536,.n .i64 65536],[.s (ByteArray.mk #[98]),.n .i64 5,.n .i64 0,.n .i64 0,.n .i64 0,.n .i64 0,.n .i64 0,.n .i64 64,.n .i64 1,.n .i64 65536,.n .i64 65536,.n .i64 65536]],.l [],.l [],.l [],.l [[.s (ByteArray.mk #[111]),.l [[.n .i64 0,.n .i64 1,.l [[.n .i64 1,.n .i64 2,.n .i64 3]]]]]],.l [[.n .i64 16,.n .i64 0,.n .i64 0],[.n .i64 32,.n .i64 8,.n .i64 0]],.l [[.n .i64 1,.n .i64 0,.n .i64 0,.n .i64 0]],.l [],.n .i64 0]],.v (.b true))]
noncomputable def t51:Known:=(51,k51) :: t99
theorem ok51:Known.Ok Tryz.prog t51:=Known.add yJ zW (ok99) (N:=60) (by kernel_rfl)
noncomputable def k103:List (List PV × Ret):=[([.a [.n .i64 0,.n .i64 1,.l [[.n .i64 1,.n .i64 2,.n .i64 3]]]],.v (.b true))]
noncomputable def t103:Known:=(103,k103) :: t51
theorem fQV:Known.Ok Tryz.prog t103:=Known.add yJ zW (ok51) (N:=60) (by kernel_rfl)
noncomputable def k55:List (List PV × Ret):=[([.a [.s (ByteArray.mk #[111]),.l [[.n .i64 0,.n .i64 1,.l [[.n .i64 1,.n .i64 2,.n .i64 3]]]]]],.v (.b true))]
noncomputable def t55:Known:=(55,k55) :: t103
theorem ok55:Known.Ok Tryz.prog t55:=Known.add yJ zW (fQV) (N:=60) (by kernel_rfl)
noncomputable def k16:List (List PV × Ret):=[([.a [.l [[.s (ByteArray.mk #[97]),.n .i64 4,.n .i64 (-1),.n .i64 0,.n .i64 0,.n .i64 0,.n .i64 0,.n .i64 64,.n .i64 1,.n .i64 65536,.n .i64 65536,.n .i64 65536],[.s (ByteArray.mk #[98]),.n .i64 5,.n .i64 0,.n .i64 0,.n .i64 0,.n .i64 0,.n .i64 0,.n .i64 64,.n .i64 1,.n .i64 65536,.n .i64 65536,.n .i64 65536]],.l [],.l [],.l [],.l [[.s (ByteArray.mk #[111]),.l [[.n .i64 0,.n .i64 1,.l [[.n .i64 1,.n .i64 2,.n .i64 3]]]]]],.l [[.n .i64 16,.n .i64 0,.n .i64 0],[.n .i64 32,.n .i64 8,.n .i64 0]],.l [[.n .i64 1,.n .i64 0,.n .i64 0,.n .i64 0]],.l [],.n .i64 0]],.v (.n .i64 0))]
noncomputable def t16:Known:=(16,k16) :: t55
theorem ok16:Known.Ok Tryz.prog t16:=Known.add yJ zW (ok55) (N:=60) (by kernel_rfl)
noncomputable def k62:List (List PV × Ret):=[([.a [.l [[.s (ByteArray.mk #[97]),.n .i64 4,.n .i64 (-1),.n .i64 0,.n .i64 0,.n .i64 0,.n .i64 0,.n .i64 64,.n .i64 1,.n .i64 65536,.n .i64 65536,.n .i64 65536],[.s (ByteArray.mk #[98]),.n .i64 5,.n .i64 0,.n .i64 0,.n .i64 0,.n .i64 0,.n .i64 0,.n .i64 64,.n .i64 1,.n .i64 65536,.n .i64 65536,.n .i64 65536]],.l [],.l [],.l [],.l [[.s (ByteArray.mk #[111]),.l [[.n .i64 0,.n .i64 1,.l [[.n .i64 1,.n .i64 2,.n .i64 3]]]]]],.l [[.n .i64 16,.n .i64 0,.n .i64 0],[.n .i64 32,.n .i64 8,.n .i64 0]],.l [[.n .i64 1,.n .i64 0,.n .i64 0,.n .i64 0]],.l [],.n .i64 0],.a [.l [[.n .i64 0]]]],.v (.b true)),
 ([.a [.l [[.s (ByteArray.mk #[97]),.n .i64 4,.n .i64 (-1),.n .i64 0,.n .i64 0,.n .i64 0,.n .i64 0,.n .i64 64,.n .i64 1,.n .i64 65536,.n .i64 65536,.n .i64 65536],[.s (ByteArray.mk #[98]),.n .i64 5,.n .i64 0,.n .i64 0,.n .i64 0,.n .i64 0,.n .i64 0,.n .i64 64,.n .i64 1,.n .i64 65536,.n .i64 65536,.n .i64 65536]],.l [],.l [],.l [],.l [[.s (ByteArray.mk #[111]),.l [[.n .i64 0,.n .i64 1,.l [[.n .i64 1,.n .i64 2,.n .i64 3]]]]]],.l [[.n .i64 16,.n .i64 0,.n .i64 0],[.n .i64 32,.n .i64 8,.n .i64 0]],.l [[.n .i64 1,.n .i64 0,.n .i64 0,.n .i64 0]],.l [],.n .i64 0],.a [.l [[.n .i64 (-1)]]]],.v (.b true))]
noncomputable def t62:Known:=(62,k62) :: t16
theorem ok62:Known.Ok Tryz.prog t62:=Known.add yJ zW (ok16) (N:=60) (by kernel_rfl)
noncomputable def k71:List (List PV × Ret):=[([.a [.l [[.s (ByteArray.mk #[97]),.n .i64 4,.n .i64 (-1),.n .i64 0,.n .i64 0,.n .i64 0,.n .i64 0,.n .i64 64,.n .i64 1,.n .i64 65536,.n .i64 65536,.n .i64 65536],[.s (ByteArray.mk #[98]),.n .i64 5,.n .i64 0,.n .i64 0,.n .i64 0,.n .i64 0,.n .i64 0,.n .i64 64,.n .i64 1,.n .i64 65536,.n .i64 65536,.n .i64 65536]],.l []],.l [[.n .i64 16],[.n .i64 0]]],.v (.b true)),
 ([.a [.l [[.s (ByteArray.mk #[97]),.n .i64 4,.n .i64 (-1),.n .i64 0,.n .i64 0,.n .i64 0,.n .i64 0,.n .i64 64,.n .i64 1,.n .i64 65536,.n .i64 65536,.n .i64 65536],[.s (ByteArray.mk #[98]),.n .i64 5,.n .i64 0,.n .i64 0,.n .i64 0,.n .i64 0,.n .i64 0,.n .i64 64,.n .i64 1,.n .i64 65536,.n .i64 65536,.n .i64 65536]],.l []],.l [[.n .i64 32],[.n .i64 8]]],.v (.b true))]
noncomputable def t71:Known:=(71,k71) :: t62
theorem ok71:Known.Ok Tryz.prog t71:=Known.add yJ zW (ok62) (N:=60) (by kernel_rfl)
noncomputable def k173:List (List PV × Ret):=[([.n .i64 16],.v (.n .i64 16)),
 ([.n .i64 0],.v (.n .i64 0)),
 ([.n .i64 65536],.v (.n .i64 65536)),
 ([.n .i64 32],.v (.n .i64 32)),
 ([.n .i64 8],.v (.n .i64 8))]
noncomputable def t173:Known:=(173,k173) :: t71
theorem xHX:Known.Ok Tryz.prog t173:=Known.add yJ zW (ok71) (N:=60) (by kernel_rfl)
noncomputable def k152:List (List PV × Ret):=[([.n .i64 16,.n .i64 16],.v (.a [.n .i64 16,.n .i64 16])),
 ([.n .i64 0,.n .i64 0],.v (.a [.n .i64 0,.n .i64 0])),
 ([.n .i64 65536,.n .i64 65536],.v (.a [.n .i64 65536,.n .i64 65536])),
 ([.n .i64 32,.n .i64 32],.v (.a [.n .i64 32,.n .i64 32])),
 ([.n .i64 8,.n .i64 8],.v (.a [.n .i64 8,.n .i64 8]))]
noncomputable def t152:Known:=(152,k152) :: t173
theorem xHL:Known.Ok Tryz.prog t152:=Known.add yJ zW (xHX) (N:=60) (by kernel_rfl)
noncomputable def k122:List (List PV × Ret):=[([.n .i64 16],.v (.a [.n .i64 16,.n .i64 16])),
 ([.n .i64 0],.v (.a [.n .i64 0,.n .i64 0])),
 ([.n .i64 65536],.v (.a [.n .i64 65536,.n .i64 65536])),
 ([.n .i64 32],.v (.a [.n .i64 32,.n .i64 32])),
 ([.n .i64 8],.v (.a [.n .i64 8,.n .i64 8]))]
noncomputable def t122:Known:=(122,k122) :: t152
theorem fQX:Known.Ok Tryz.prog t122:=Known.add yJ zW (xHL) (N:=60) (by kernel_rfl)
noncomputable def k121:List (List PV × Ret):=[([.l [[.n .i64 16],[.n .i64 0]],.f 122 [] []],.ow 62 2 (.l [[.n .i64 16,.n .i64 16],[.n .i64 0,.n .i64 0]])),
 ([.l [[.n .i64 32],[.n .i64 8]],.f 122 [] []],.ow 62 2 (.l [[.n .i64 32,.n .i64 32],[.n .i64 8,.n .i64 8]]))]
noncomputable def t121:Known:=(121,k121) :: t122
theorem fQW:Known.Ok Tryz.prog t121:=Known.add yJ zW (fQX) (N:=60) (by kernel_rfl)
noncomputable def k72:List (List PV × Ret):=[([.l [[.n .i64 16],[.n .i64 0]]],.v (.l [[.n .i64 16,.n .i64 16],[.n .i64 0,.n .i64 0]])),
 ([.l [[.n .i64 32],[.n .i64 8]]],.v (.l [[.n .i64 32,.n .i64 32],[.n .i64 8,.n .i64 8]]))]
noncomputable def t72:Known:=(72,k72) :: t121
theorem ok72:Known.Ok Tryz.prog t72:=Known.add yJ zW (fQW) (N:=60) (by kernel_rfl)
noncomputable def k135:List (List PV × Ret):=[([.a [.n .i64 16,.n .i64 16]],.v (.b true)),
 ([.a [.n .i64 0,.n .i64 0]],.v (.b true)),
 ([.a [.n .i64 65536,.n .i64 65536]],.v (.b true)),
 ([.a [.n .i64 32,.n .i64 32]],.v (.b true)),
 ([.a [.n .i64 8,.n .i64 8]],.v (.b true))]
noncomputable def t135:Known:=(135,k135) :: t72
theorem fQZ:Known.Ok Tryz.prog t135:=Known.add yJ zW (ok72) (N:=60) (by kernel_rfl)
noncomputable def k163:List (List PV × Ret):=[([.l [[.n .i64 16,.n .i64 16],[.n .i64 0,.n .i64 0]],.f 134 [] []],.v (.n .i64 (-1))),
 ([.l [[.n .i64 32,.n .i64 32],[.n .i64 8,.n .i64 8]],.f 134 [] []],.v (.n .i64 (-1)))]
noncomputable def t163:Known:=(163,k163) :: t135
theorem xHA:Known.Ok Tryz.prog t163:=Known.add yJ zW (fQZ) (N:=60) (by kernel_rfl)
noncomputable def k133:List (List PV × Ret):=[([.l [[.n .i64 16,.n .i64 16],[.n .i64 0,.n .i64 0]],.f 134 [] []],.v (.b false)),
 ([.l [[.n .i64 32,.n .i64 32],[.n .i64 8,.n .i64 8]],.f 134 [] []],.v (.b false))]
noncomputable def t133:Known:=(133,k133) :: t163
theorem fQY:Known.Ok Tryz.prog t133:=Known.add yJ zW (xHA) (N:=60) (by kernel_rfl)
noncomputable def k84:List (List PV × Ret):=[([.a [.l [[.s (ByteArray.mk #[97]),.n .i64 4,.n .i64 (-1),.n .i64 0,.n .i64 0,.n .i64 0,.n .i64 0,.n .i64 64,.n .i64 1,.n .i64 65536,.n .i64 65536,.n .i64 65536],[.s (ByteArray.mk #[98]),.n .i64 5,.n .i64 0,.n .i64 0,.n .i64 0,.n .i64 0,.n .i64 0,.n .i64 64,.n .i64 1,.n .i64 65536,.n .i64 65536,.n .i64 65536]],.l []],.l [[.n .i64 16,.n .i64 16],[.n .i64 0,.n .i64 0]]],.v (.b true)),
 ([.a [.l [[.s (ByteArray.mk #[97]),.n .i64 4,.n .i64 (-1),.n .i64 0,.n .i64 0,.n .i64 0,.n .i64 0,.n .i64 64,.n .i64 1,.n .i64 65536,.n .i64 65536,.n .i64 65536],[.s (ByteArray.mk #[98]),.n .i64 5,.n .i64 0,.n .i64 0,.n .i64 0,.n .i64 0,.n .i64 0,.n .i64 64,.n .i64 1,.n .i64 65536,.n .i64 65536,.n .i64 65536]],.l []],.l [[.n .i64 32,.n .i64 32],[.n .i64 8,.n .i64 8]]],.v (.b true))]
noncomputable def t84:Known:=(84,k84) :: t133
theorem ok84:Known.Ok Tryz.prog t84:=Known.add yJ zW (fQY) (N:=60) (by kernel_rfl)
noncomputable def k74:List (List PV × Ret):=[([.a [.n .i64 0,.n .i64 0,.n .i64 0]],.v (.a [.n .i64 0,.n .i64 0,.n .i64 0,.n .i64 0,.n .i64 0,.n .i64 0]))]
noncomputable def t74:Known:=(74,k74) :: t84
theorem ok74:Known.Ok Tryz.prog t74:=Known.add yJ zW (ok84) (N:=60) (by kernel_rfl)
noncomputable def k127:List (List PV × Ret):=[([],.v (.a [.n .i64 65536,.n .i64 65536,.n .i64 0,.n .i64 0,.n .i64 0,.n .i64 0,.n .i64 0,.n .i64 0,.n .i64 65536,.n .i64 65536,.n .i64 0,.n .i64 0,.n .i64 0,.n .i64 0,.n .i64 0,.n .i64 0,.n .i64 65536,.n .i64 65536]))]
noncomputable def t127:Known:=(127,k127) :: t74
theorem fQK:Known.Ok Tryz.prog t127:=Known.add yJ zW (ok74) (N:=60) (by kernel_rfl)
noncomputable def k79:List (List PV × Ret):=[([.a [.n .i64 0,.n .i64 0,.n .i64 0,.n .i64 0,.n .i64 0,.n .i64 0]],.v (.a [.n .i64 65536,.n .i64 65536,.n .i64 0,.n .i64 0,.n .i64 0,.n .i64 0,.n .i64 0,.n .i64 0,.n .i64 65536,.n .i64 65536,.n .i64 0,.n .i64 0,.n .i64 0,.n .i64 0,.n .i64 0,.n .i64 0,.n .i64 65536,.n .i64 65536,.n .i64 0,.n .i64 0,.n .i64 0,.n .i64 0,.n .i64 0,.n .i64 0])),
 ([.a [.n .i64 16,.n .i64 16,.n .i64 0,.n .i64 0,.n .i64 0,.n .i64 0]],.v (.a [.n .i64 65536,.n .i64 65536,.n .i64 0,.n .i64 0,.n .i64 0,.n .i64 0,.n .i64 0,.n .i64 0,.n .i64 65536,.n .i64 65536,.n .i64 0,.n .i64 0,.n .i64 0,.n .i64 0,.n .i64 0,.n .i64 0,.n .i64 65536,.n .i64 65536,.n .i64 16,.n .i64 16,.n .i64 0,.n .i64 0,.n .i64 0,.n .i64 0])),
 ([.a [.n .i64 32,.n .i64 32,.n .i64 0,.n .i64 0,.n .i64 0,.n .i64 0]],.v (.a [.n .i64 65536,.n .i64 65536,.n .i64 0,.n .i64 0,.n .i64 0,.n .i64 0,.n .i64 0,.n .i64 0,.n .i64 65536,.n .i64 65536,.n .i64 0,.n .i64 0,.n .i64 0,.n .i64 0,.n .i64 0,.n .i64 0,.n .i64 65536,.n .i64 65536,.n .i64 32,.n .i64 32,.n .i64 0,.n .i64 0,.n .i64 0,.n .i64 0])),
 ([.a [.n .i64 0,.n .i64 0,.n .i64 8,.n .i64 8,.n .i64 0,.n .i64 0]],.v (.a [.n .i64 65536,.n .i64 65536,.n .i64 0,.n .i64 0,.n .i64 0,.n .i64 0,.n .i64 0,.n .i64 0,.n .i64 65536,.n .i64 65536,.n .i64 0,.n .i64 0,.n .i64 0,.n .i64 0,.n .i64 0,.n .i64 0,.n .i64 65536,.n .i64 65536,.n .i64 0,.n .i64 0,.n .i64 8,.n .i64 8,.n .i64 0,.n .i64 0]))]
noncomputable def t79:Known:=(79,k79) :: t127
theorem ok79:Known.Ok Tryz.prog t79:=Known.add yJ zW (fQK) (N:=60) (by kernel_rfl)
noncomputable def k129:List (List PV × Ret):=[([.n .i64 0,.a [.n .i64 16,.n .i64 16]],.v (.a [.n .i64 65536,.n .i64 65536,.n .i64 0,.n .i64 0,.n .i64 0,.n .i64 0,.n .i64 0,.n .i64 0,.n .i64 65536,.n .i64 65536,.n .i64 0,.n .i64 0,.n .i64 0,.n .i64 0,.n .i64 0,.n .i64 0,.n .i64 65536,.n .i64 65536,.n .i64 16,.n .i64 16,.n .i64 0,.n .i64 0,.n .i64 0,.n .i64 0])),
 ([.n .i64 1,.a [.n .i64 0,.n .i64 0]],.v (.a [.n .i64 65536,.n .i64 65536,.n .i64 0,.n .i64 0,.n .i64 0,.n .i64 0,.n .i64 0,.n .i64 0,.n .i64 65536,.n .i64 65536,.n .i64 0,.n .i64 0,.n .i64 0,.n .i64 0,.n .i64 0,.n .i64 0,.n .i64 65536,.n .i64 65536,.n .i64 0,.n .i64 0,.n .i64 0,.n .i64 0,.n .i64 0,.n .i64 0])),
 ([.n .i64 0,.a [.n .i64 32,.n .i64 32]],.v (.a [.n .i64 65536,.n .i64 65536,.n .i64 0,.n .i64 0,.n .i64 0,.n .i64 0,.n .i64 0,.n .i64 0,.n .i64 65536,.n .i64 65536,.n .i64 0,.n .i64 0,.n .i64 0,.n .i64 0,.n .i64 0,.n .i64 0,.n .i64 65536,.n .i64 65536,.n .i64 32,.n .i64 32,.n .i64 0,.n .i64 0,.n .i64 0,.n .i64 0])),
 ([.n .i64 1,.a [.n .i64 8,.n .i64 8]],.v (.a [.n .i64 65536,.n .i64 65536,.n .i64 0,.n .i64 0,.n .i64 0,.n .i64 0,.n .i64 0,.n .i64 0,.n .i64 65536,.n .i64 65536,.n .i64 0,.n .i64 0,.n .i64 0,.n .i64 0,.n .i64 0,.n .i64 0,.n .i64 65536,.n .i64 65536,.n .i64 0,.n .i64 0,.n .i64 8,.n .i64 8,.n .i64 0,.n .i64 0]))]
noncomputable def t129:Known:=(129,k129) :: t79
theorem fQJ:Known.Ok Tryz.prog t129:=Known.add yJ zW (ok79) (N:=60) (by kernel_rfl)
noncomputable def k174:List (List PV × Ret):=[([.a [.n .i64 65536,.n .i64 65536],.a [.n .i64 65536,.n .i64 65536]],.v (.b true)),
 ([.a [.n .i64 0,.n .i64 0],.a [.n .i64 65536,.n .i64 65536]],.v (.b true)),
 ([.a [.n .i64 0,.n .i64 0],.a [.n .i64 0,.n .i64 0]],.v (.b true)),
 ([.a [.n .i64 65536,.n .i64 65536],.a [.n .i64 0,.n .i64 0]],.v (.b true)),
 ([.a [.n .i64 65536,.n .i64 65536],.a [.n .i64 16,.n .i64 16]],.v (.b true)),
 ([.a [.n .i64 0,.n .i64 0],.a [.n .i64 16,.n .i64 16]],.v (.b true)),
 ([.a [.n .i64 16,.n .i64 16],.a [.n .i64 0,.n .i64 0]],.v (.b true)),
 ([.a [.n .i64 65536,.n .i64 65536],.a [.n .i64 32,.n .i64 32]],.v (.b true)),
 ([.a [.n .i64 0,.n .i64 0],.a [.n .i64 32,.n .i64 32]],.v (.b true)),
 ([.a [.n .i64 32,.n .i64 32],.a [.n .i64 0,.n .i64 0]],.v (.b true)),
 ([.a [.n .i64 0,.n .i64 0],.a [.n .i64 8,.n .i64 8]],.v (.b true)),
 ([.a [.n .i64 65536,.n .i64 65536],.a [.n .i64 8,.n .i64 8]],.v (.b true)),
 ([.a [.n .i64 8,.n .i64 8],.a [.n .i64 0,.n .i64 0]],.v (.b true))]
noncomputable def t174:Known:=(174,k174) :: t129
theorem xHU:Known.Ok Tryz.prog t174:=Known.add yJ zW (fQJ) (N:=60) (by kernel_rfl)
noncomputable def k180:List (List PV × Ret):=[([.n .i64 4294967296,.n .i64 16],.v (.n .i64 65536)),
 ([.n .i64 0,.n .i64 16],.v (.n .i64 0)),
 ([.n .i64 1048576,.n .i64 16],.v (.n .i64 16)),
 ([.n .i64 2097152,.n .i64 16],.v (.n .i64 32)),
 ([.n .i64 524288,.n .i64 16],.v (.n .i64 8))]
noncomputable def t180:Known:=(180,k180) :: t174
theorem xHJ:Known.Ok Tryz.prog t180:=Known.add yJ zW (xHU) (N:=60) (by kernel_rfl)
noncomputable def k181:List (List PV × Ret):=[([.n .i64 4294967296,.n .i64 16],.v (.n .i64 65536)),
 ([.n .i64 0,.n .i64 16],.v (.n .i64 0)),
 ([.n .i64 1048576,.n .i64 16],.v (.n .i64 16)),
 ([.n .i64 2097152,.n .i64 16],.v (.n .i64 32)),
 ([.n .i64 524288,.n .i64 16],.v (.n .i64 8))]
noncomputable def t181:Known:=(181,k181) :: t180
theorem xHY:Known.Ok Tryz.prog t181:=Known.add yJ zW (xHJ) (N:=60) (by kernel_rfl)
noncomputable def k175:List (List PV × Ret):=[([.n .i64 4294967296,.n .i64 4294967296],.v (.a [.n .i64 65536,.n .i64 65536])),
 ([.n .i64 0,.n .i64 0],.v (.a [.n .i64 0,.n .i64 0])),
 ([.n .i64 1048576,.n .i64 1048576],.v (.a [.n .i64 16,.n .i64 16])),
 ([.n .i64 2097152,.n .i64 2097152],.v (.a [.n .i64 32,.n .i64 32])),
 ([.n .i64 524288,.n .i64 524288],.v (.a [.n .i64 8,.n .i64 8]))]
noncomputable def t175:Known:=(175,k175) :: t181
theorem xHK:Known.Ok Tryz.prog t175:=Known.add yJ zW (xHY) (N:=60) (by kernel_rfl)
noncomputable def k157:List (List PV × Ret):=[([.a [.n .i64 65536,.n .i64 65536],.a [.n .i64 65536,.n .i64 65536]],.v (.a [.n .i64 65536,.n .i64 65536])),
 ([.a [.n .i64 0,.n .i64 0],.a [.n .i64 0,.n .i64 0]],.v (.a [.n .i64 0,.n .i64 0])),
 ([.a [.n .i64 65536,.n .i64 65536],.a [.n .i64 0,.n .i64 0]],.v (.a [.n .i64 0,.n .i64 0])),
 ([.a [.n .i64 0,.n .i64 0],.a [.n .i64 65536,.n .i64 65536]],.v (.a [.n .i64 0,.n .i64 0])),
 ([.a [.n .i64 65536,.n .i64 65536],.a [.n .i64 16,.n .i64 16]],.v (.a [.n .i64 16,.n .i64 16])),
 ([.a [.n .i64 0,.n .i64 0],.a [.n .i64 16,.n .i64 16]],.v (.a [.n .i64 0,.n .i64 0])),
 ([.a [.n .i64 65536,.n .i64 65536],.a [.n .i64 32,.n .i64 32]],.v (.a [.n .i64 32,.n .i64 32])),
 ([.a [.n .i64 0,.n .i64 0],.a [.n .i64 32,.n .i64 32]],.v (.a [.n .i64 0,.n .i64 0])),
 ([.a [.n .i64 0,.n .i64 0],.a [.n .i64 8,.n .i64 8]],.v (.a [.n .i64 0,.n .i64 0])),
 ([.a [.n .i64 65536,.n .i64 65536],.a [.n .i64 8,.n .i64 8]],.v (.a [.n .i64 8,.n .i64 8]))]
noncomputable def t157:Known:=(157,k157) :: t175
theorem xHC:Known.Ok Tryz.prog t157:=Known.add yJ zW (xHK) (N:=60) (by kernel_rfl)
noncomputable def k156:List (List PV × Ret):=[([.a [.n .i64 0,.n .i64 0],.a [.n .i64 65536,.n .i64 65536]],.v (.a [.n .i64 65536,.n .i64 65536])),
 ([.a [.n .i64 65536,.n .i64 65536],.a [.n .i64 0,.n .i64 0]],.v (.a [.n .i64 65536,.n .i64 65536])),
 ([.a [.n .i64 0,.n .i64 0],.a [.n .i64 0,.n .i64 0]],.v (.a [.n .i64 0,.n .i64 0])),
 ([.a [.n .i64 0,.n .i64 0],.a [.n .i64 16,.n .i64 16]],.v (.a [.n .i64 16,.n .i64 16])),
 ([.a [.n .i64 16,.n .i64 16],.a [.n .i64 0,.n .i64 0]],.v (.a [.n .i64 16,.n .i64 16])),
 ([.a [.n .i64 0,.n .i64 0],.a [.n .i64 32,.n .i64 32]],.v (.a [.n .i64 32,.n .i64 32])),
 ([.a [.n .i64 32,.n .i64 32],.a [.n .i64 0,.n .i64 0]],.v (.a [.n .i64 32,.n .i64 32])),
 ([.a [.n .i64 0,.n .i64 0],.a [.n .i64 8,.n .i64 8]],.v (.a [.n .i64 8,.n .i64 8])),
 ([.a [.n .i64 8,.n .i64 8],.a [.n .i64 0,.n .i64 0]],.v (.a [.n .i64 8,.n .i64 8]))]
noncomputable def t156:Known:=(156,k156) :: t157
theorem xHD:Known.Ok Tryz.prog t156:=Known.add yJ zW (xHC) (N:=60) (by kernel_rfl)
noncomputable def k158:List (List PV × Ret):=[([.n .i64 65536],.v (.n .i64 65536)),
 ([.n .i64 0],.v (.n .i64 0))]
noncomputable def t158:Known:=(158,k158) :: t156
theorem xHB:Known.Ok Tryz.prog t158:=Known.add yJ zW (xHD) (N:=60) (by kernel_rfl)
noncomputable def k126:List (List PV × Ret):=[([.a [.n .i64 65536,.n .i64 65536,.n .i64 0,.n .i64 0,.n .i64 0,.n .i64 0,.n .i64 0,.n .i64 0,.n .i64 65536,.n .i64 65536,.n .i64 0,.n .i64 0,.n .i64 0,.n .i64 0,.n .i64 0,.n .i64 0,.n .i64 65536,.n .i64 65536],.a [.n .i64 65536,.n .i64 65536,.n .i64 0,.n .i64 0,.n .i64 0,.n .i64 0,.n .i64 0,.n .i64 0,.n .i64 65536,.n .i64 65536,.n .i64 0,.n .i64 0,.n .i64 0,.n .i64 0,.n .i64 0,.n .i64 0,.n .i64 65536,.n .i64 65536]],.v (.a [.n .i64 65536,.n .i64 65536,.n .i64 0,.n .i64 0,.n .i64 0,.n .i64 0,.n .i64 0,.n .i64 0,.n .i64 65536,.n .i64 65536,.n .i64 0,.n .i64 0,.n .i64 0,.n .i64 0,.n .i64 0,.n .i64 0,.n .i64 65536,.n .i64 65536]))]
noncomputable def t126:Known:=(126,k126) :: t158
theorem fQU:Known.Ok Tryz.prog t126:=Known.add yJ zW (xHB) (N:=60) (by kernel_rfl)
noncomputable def k155:List (List PV × Ret):=[([.a [.n .i64 65536,.n .i64 65536,.n .i64 0,.n .i64 0,.n .i64 0,.n .i64 0,.n .i64 0,.n .i64 0,.n .i64 65536,.n .i64 65536,.n .i64 0,.n .i64 0,.n .i64 0,.n .i64 0,.n .i64 0,.n .i64 0,.n .i64 65536,.n .i64 65536],.a [.n .i64 16,.n .i64 16,.n .i64 0,.n .i64 0,.n .i64 0,.n .i64 0]],.v (.a [.n .i64 16,.n .i64 16,.n .i64 0,.n .i64 0,.n .i64 0,.n .i64 0])),
 ([.a [.n .i64 65536,.n .i64 65536,.n .i64 0,.n .i64 0,.n .i64 0,.n .i64 0,.n .i64 0,.n .i64 0,.n .i64 65536,.n .i64 65536,.n .i64 0,.n .i64 0,.n .i64 0,.n .i64 0,.n .i64 0,.n .i64 0,.n .i64 65536,.n .i64 65536],.a [.n .i64 0,.n .i64 0,.n .i64 0,.n .i64 0,.n .i64 0,.n .i64 0]],.v (.a [.n .i64 0,.n .i64 0,.n .i64 0,.n .i64 0,.n .i64 0,.n .i64 0])),
 ([.a [.n .i64 65536,.n .i64 65536,.n .i64 0,.n .i64 0,.n .i64 0,.n .i64 0,.n .i64 0,.n .i64 0,.n .i64 65536,.n .i64 65536,.n .i64 0,.n .i64 0,.n .i64 0,.n .i64 0,.n .i64 0,.n .i64 0,.n .i64 65536,.n .i64 65536],.a [.n .i64 32,.n .i64 32,.n .i64 0,.n .i64 0,.n .i64 0,.n .i64 0]],.v (.a [.n .i64 32,.n .i64 32,.n .i64 0,.n .i64 0,.n .i64 0,.n .i64 0])),
 ([.a [.n .i64 65536,.n .i64 65536,.n .i64 0,.n .i64 0,.n .i64 0,.n .i64 0,.n .i64 0,.n .i64 0,.n .i64 65536,.n .i64 65536,.n .i64 0,.n .i64 0,.n .i64 0,.n .i64 0,.n .i64 0,.n .i64 0,.n .i64 65536,.n .i64 65536],.a [.n .i64 0,.n .i64 0,.n .i64 8,.n .i64 8,.n .i64 0,.n .i64 0]],.v (.a [.n .i64 0,.n .i64 0,.n .i64 8,.n .i64 8,.n .i64 0,.n .i64 0]))]
noncomputable def t155:Known:=(155,k155) :: t126
theorem xHE:Known.Ok Tryz.prog t155:=Known.add yJ zW (fQU) (N:=60) (by kernel_rfl)
noncomputable def k154:List (List PV × Ret):=[([.a [.n .i64 0,.n .i64 0,.n .i64 0,.n .i64 0,.n .i64 0,.n .i64 0],.a [.n .i64 16,.n .i64 16,.n .i64 0,.n .i64 0,.n .i64 0,.n .i64 0]],.v (.a [.n .i64 16,.n .i64 16,.n .i64 0,.n .i64 0,.n .i64 0,.n .i64 0])),
 ([.a [.n .i64 0,.n .i64 0,.n .i64 0,.n .i64 0,.n .i64 0,.n .i64 0],.a [.n .i64 0,.n .i64 0,.n .i64 0,.n .i64 0,.n .i64 0,.n .i64 0]],.v (.a [.n .i64 0,.n .i64 0,.n .i64 0,.n .i64 0,.n .i64 0,.n .i64 0])),
 ([.a [.n .i64 16,.n .i64 16,.n .i64 0,.n .i64 0,.n .i64 0,.n .i64 0],.a [.n .i64 0,.n .i64 0,.n .i64 0,.n .i64 0,.n .i64 0,.n .i64 0]],.v (.a [.n .i64 16,.n .i64 16,.n .i64 0,.n .i64 0,.n .i64 0,.n .i64 0])),
 ([.a [.n .i64 0,.n .i64 0,.n .i64 0,.n .i64 0,.n .i64 0,.n .i64 0],.a [.n .i64 32,.n .i64 32,.n .i64 0,.n .i64 0,.n .i64 0,.n .i64 0]],.v (.a [.n .i64 32,.n .i64 32,.n .i64 0,.n .i64 0,.n .i64 0,.n .i64 0])),
 ([.a [.n .i64 0,.n .i64 0,.n .i64 0,.n .i64 0,.n .i64 0,.n .i64 0],.a [.n .i64 0,.n .i64 0,.n .i64 8,.n .i64 8,.n .i64 0,.n .i64 0]],.v (.a [.n .i64 0,.n .i64 0,.n .i64 8,.n .i64 8,.n .i64 0,.n .i64 0])),
 ([.a [.n .i64 32,.n .i64 32,.n .i64 0,.n .i64 0,.n .i64 0,.n .i64 0],.a [.n .i64 0,.n .i64 0,.n .i64 8,.n .i64 8,.n .i64 0,.n .i64 0]],.v (.a [.n .i64 32,.n .i64 32,.n .i64 8,.n .i64 8,.n .i64 0,.n .i64 0])),
 ([.a [.n .i64 32,.n .i64 32,.n .i64 8,.n .i64 8,.n .i64 0,.n .i64 0],.a [.n .i64 0,.n .i64 0,.n .i64 0,.n .i64 0,.n .i64 0,.n .i64 0]],.v (.a [.n .i64 32,.n .i64 32,.n .i64 8,.n .i64 8,.n .i64 0,.n .i64 0]))]
noncomputable def t154:Known:=(154,k154) :: t155
theorem xHF:Known.Ok Tryz.prog t154:=Known.add yJ zW (xHE) (N:=60) (by kernel_rfl)
noncomputable def k153:List (List PV × Ret):=[([.a [.n .i64 16,.n .i64 16,.n .i64 0,.n .i64 0,.n .i64 0,.n .i64 0],.c [.n .i64 65536,.n .i64 65536,.n .i64 0,.n .i64 0,.n .i64 0,.n .i64 0,.n .i64 0,.n .i64 0,.n .i64 65536,.n .i64 65536,.n .i64 0,.n .i64 0,.n .i64 0,.n .i64 0,.n .i64 0,.n .i64 0,.n .i64 65536,.n .i64 65536,.n .i64 0,.n .i64 0,.n .i64 0,.n .i64 0,.n .i64 0,.n .i64 0] 0],.v (.a [.n .i64 16,.n .i64 16,.n .i64 0,.n .i64 0,.n .i64 0,.n .i64 0])),
 ([.a [.n .i64 0,.n .i64 0,.n .i64 0,.n .i64 0,.n .i64 0,.n .i64 0],.c [.n .i64 65536,.n .i64 65536,.n .i64 0,.n .i64 0,.n .i64 0,.n .i64 0,.n .i64 0,.n .i64 0,.n .i64 65536,.n .i64 65536,.n .i64 0,.n .i64 0,.n .i64 0,.n .i64 0,.n .i64 0,.n .i64 0,.n .i64 65536,.n .i64 65536,.n .i64 0,.n .i64 0,.n .i64 0,.n .i64 0,.n .i64 0,.n .i64 0] 0],.v (.a [.n .i64 0,.n .i64 0,.n .i64 0,.n .i64 0,.n .i64 0,.n .i64 0])),
 ([.a [.n .i64 0,.n .i64 0,.n .i64 0,.n .i64 0,.n .i64 0,.n .i64 0],.c [.n .i64 65536,.n .i64 65536,.n .i64 0,.n .i64 0,.n .i64 0,.n .i64 0,.n .i64 0,.n .i64 0,.n .i64 65536,.n .i64 65536,.n .i64 0,.n .i64 0,.n .i64 0,.n .i64 0,.n .i64 0,.n .i64 0,.n .i64 65536,.n .i64 65536,.n .i64 16,.n .i64 16,.n .i64 0,.n .i64 0,.n .i64 0,.n .i64 0] 0],.v (.a [.n .i64 16,.n .i64 16,.n .i64 0,.n .i64 0,.n .i64 0,.n .i64 0])),
 ([.a [.n .i64 32,.n .i64 32,.n .i64 0,.n .i64 0,.n .i64 0,.n .i64 0],.c [.n .i64 65536,.n .i64 65536,.n .i64 0,.n .i64 0,.n .i64 0,.n .i64 0,.n .i64 0,.n .i64 0,.n .i64 65536,.n .i64 65536,.n .i64 0,.n .i64 0,.n .i64 0,.n .i64 0,.n .i64 0,.n .i64 0,.n .i64 65536,.n .i64 65536,.n .i64 0,.n .i64 0,.n .i64 0,.n .i64 0,.n .i64 0,.n .i64 0] 0],.v (.a [.n .i64 32,.n .i64 32,.n .i64 0,.n .i64 0,.n .i64 0,.n .i64 0])),
 ([.a [.n .i64 0,.n .i64 0,.n .i64 8,.n .i64 8,.n .i64 0,.n .i64 0],.c [.n .i64 65536,.n .i64 65536,.n .i64 0,.n .i64 0,.n .i64 0,.n .i64 0,.n .i64 0,.n .i64 0,.n .i64 65536,.n .i64 65536,.n .i64 0,.n .i64 0,.n .i64 0,.n .i64 0,.n .i64 0,.n .i64 0,.n .i64 65536,.n .i64 65536,.n .i64 0,.n .i64 0,.n .i64 0,.n .i64 0,.n .i64 0,.n .i64 0] 0],.v (.a [.n .i64 0,.n .i64 0,.n .i64 8,.n .i64 8,.n .i64 0,.n .i64 0])),
 ([.a [.n .i64 0,.n .i64 0,.n .i64 8,.n .i64 8,.n .i64 0,.n .i64 0],.c [.n .i64 65536,.n .i64 65536,.n .i64 0,.n .i64 0,.n .i64 0,.n .i64 0,.n .i64 0,.n .i64 0,.n .i64 65536,.n .i64 65536,.n .i64 0,.n .i64 0,.n .i64 0,.n .i64 0,.n .i64 0,.n .i64 0,.n .i64 65536,.n .i64 65536,.n .i64 32,.n .i64 32,.n .i64 0,.n .i64 0,.n .i64 0,.n .i64 0] 0],.v (.a [.n .i64 32,.n .i64 32,.n .i64 8,.n .i64 8,.n .i64 0,.n .i64 0])),
 ([.a [.n .i64 0,.n .i64 0,.n .i64 0,.n .i64 0,.n .i64 0,.n .i64 0],.c [.n .i64 65536,.n .i64 65536,.n .i64 0,.n .i64 0,.n .i64 0,.n .i64 0,.n .i64 0,.n .i64 0,.n .i64 65536,.n .i64 65536,.n .i64 0,.n .i64 0,.n .i64 0,.n .i64 0,.n .i64 0,.n .i64 0,.n .i64 65536,.n .i64 65536,.n .i64 32,.n .i64 32,.n .i64 8,.n .i64 8,.n .i64 0,.n .i64 0] 0],.v (.a [.n .i64 32,.n .i64 32,.n .i64 8,.n .i64 8,.n .i64 0,.n .i64 0]))]
noncomputable def t153:Known:=(153,k153) :: t154
theorem xHI:Known.Ok Tryz.prog t153:=Known.add yJ zW (xHF) (N:=60) (by kernel_rfl)
noncomputable def k78:List (List PV × Ret):=[([.a [.n .i64 65536,.n .i64 65536,.n .i64 0,.n .i64 0,.n .i64 0,.n .i64 0,.n .i64 0,.n .i64 0,.n .i64 65536,.n .i64 65536,.n .i64 0,.n .i64 0,.n .i64 0,.n .i64 0,.n .i64 0,.n .i64 0,.n .i64 65536,.n .i64 65536,.n .i64 0,.n .i64 0,.n .i64 0,.n .i64 0,.n .i64 0,.n .i64 0],.a [.n .i64 65536,.n .i64 65536,.n .i64 0,.n .i64 0,.n .i64 0,.n .i64 0,.n .i64 0,.n .i64 0,.n .i64 65536,.n .i64 65536,.n .i64 0,.n .i64 0,.n .i64 0,.n .i64 0,.n .i64 0,.n .i64 0,.n .i64 65536,.n .i64 65536,.n .i64 16,.n .i64 16,.n .i64 0,.n .i64 0,.n .i64 0,.n .i64 0]],.v (.a [.n .i64 65536,.n .i64 65536,.n .i64 0,.n .i64 0,.n .i64 0,.n .i64 0,.n .i64 0,.n .i64 0,.n .i64 65536,.n .i64 65536,.n .i64 0,.n .i64 0,.n .i64 0,.n .i64 0,.n .i64 0,.n .i64 0,.n .i64 65536,.n .i64 65536,.n .i64 16,.n .i64 16,.n .i64 0,.n .i64 0,.n .i64 0,.n .i64 0])),
 ([.a [.n .i64 65536,.n .i64 65536,.n .i64 0,.n .i64 0,.n .i64 0,.n .i64 0,.n .i64 0,.n .i64 0,.n .i64 65536,.n .i64 65536,.n .i64 0,.n .i64 0,.n .i64 0,.n .i64 0,.n .i64 0,.n .i64 0,.n .i64 65536,.n .i64 65536,.n .i64 0,.n .i64 0,.n .i64 0,.n .i64 0,.n .i64 0,.n .i64 0],.a [.n .i64 65536,.n .i64 65536,.n .i64 0,.n .i64 0,.n .i64 0,.n .i64 0,.n .i64 0,.n .i64 0,.n .i64 65536,.n .i64 65536,.n .i64 0,.n .i64 0,.n .i64 0,.n .i64 0,.n .i64 0,.n .i64 0,.n .i64 65536,.n .i64 65536,.n .i64 0,.n .i64 0,.n .i64 0,.n .i64 0,.n .i64 0,.n .i64 0]],.v (.a [.n .i64 65536,.n .i64 65536,.n .i64 0,.n .i64 0,.n .i64 0,.n .i64 0,.n .i64 0,.n .i64 0,.n .i64 65536,.n .i64 65536,.n .i64 0,.n .i64 0,.n .i64 0,.n .i64 0,.n .i64 0,.n .i64 0,.n .i64 65536,.n .i64 65536,.n .i64 0,.n .i64 0,.n .i64 0,.n .i64 0,.n .i64 0,.n .i64 0])),
 ([.a [.n .i64 65536,.n .i64 65536,.n .i64 0,.n .i64 0,.n .i64 0,.n .i64 0,.n .i64 0,.n .i64 0,.n .i64 65536,.n .i64 65536,.n .i64 0,.n .i64 0,.n .i64 0,.n .i64 0,.n .i64 0,.n .i64 0,.n .i64 65536,.n .i64 65536,.n .i64 16,.n .i64 16,.n .i64 0,.n .i64 0,.n .i64 0,.n .i64 0],.a [.n .i64 65536,.n .i64 65536,.n .i64 0,.n .i64 0,.n .i64 0,.n .i64 0,.n .i64 0,.n .i64 0,.n .i64 65536,.n .i64 65536,.n .i64 0,.n .i64 0,.n .i64 0,.n .i64 0,.n .i64 0,.n .i64 0,.n .i64 65536,.n .i64 65536,.n .i64 0,.n .i64 0,.n .i64 0,.n .i64 0,.n .i64 0,.n .i64 0]],.v (.a [.n .i64 65536,.n .i64 65536,.n .i64 0,.n .i64 0,.n .i64 0,.n .i64 0,.n .i64 0,.n .i64 0,.n .i64 65536,.n .i64 65536,.n .i64 0,.n .i64 0,.n .i64 0,.n .i64 0,.n .i64 0,.n .i64 0,.n .i64 65536,.n .i64 65536,.n .i64 16,.n .i64 16,.n .i64 0,.n .i64 0,.n .i64 0,.n .i64 0])),
 ([.a [.n .i64 65536,.n .i64 65536,.n .i64 0,.n .i64 0,.n .i64 0,.n .i64 0,.n .i64 0,.n .i64 0,.n .i64 65536,.n .i64 65536,.n .i64 0,.n .i64 0,.n .i64 0,.n .i64 0,.n .i64 0,.n .i64 0,.n .i64 65536,.n .i64 65536,.n .i64 0,.n .i64 0,.n .i64 0,.n .i64 0,.n .i64 0,.n .i64 0],.a [.n .i64 65536,.n .i64 65536,.n .i64 0,.n .i64 0,.n .i64 0,.n .i64 0,.n .i64 0,.n .i64 0,.n .i64 65536,.n .i64 65536,.n .i64 0,.n .i64 0,.n .i64 0,.n .i64 0,.n .i64 0,.n .i64 0,.n .i64 65536,.n .i64 65536,.n .i64 32,.n .i64 32,.n .i64 0,.n .i64 0,.n .i64 0,.n .i64 0]],.v (.a [.n .i64 65536,.n .i64 65536,.n .i64 0,.n .i64 0,.n .i64 0,.n .i64 0,.n .i64 0,.n .i64 0,.n .i64 65536,.n .i64 65536,.n .i64 0,.n .i64 0,.n .i64 0,.n .i64 0,.n .i64 0,.n .i64 0,.n .i64 65536,.n .i64 65536,.n .i64 32,.n .i64 32,.n .i64 0,.n .i64 0,.n .i64 0,.n .i64 0])),
 ([.a [.n .i64 65536,.n .i64 65536,.n .i64 0,.n .i64 0,.n .i64 0,.n .i64 0,.n .i64 0,.n .i64 0,.n .i64 65536,.n .i64 65536,.n .i64 0,.n .i64 0,.n .i64 0,.n .i64 0,.n .i64 0,.n .i64 0,.n .i64 65536,.n .i64 65536,.n .i64 0,.n .i64 0,.n .i64 0,.n .i64 0,.n .i64 0,.n .i64 0],.a [.n .i64 65536,.n .i64 65536,.n .i64 0,.n .i64 0,.n .i64 0,.n .i64 0,.n .i64 0,.n .i64 0,.n .i64 65536,.n .i64 65536,.n .i64 0,.n .i64 0,.n .i64 0,.n .i64 0,.n .i64 0,.n .i64 0,.n .i64 65536,.n .i64 65536,.n .i64 0,.n .i64 0,.n .i64 8,.n .i64 8,.n .i64 0,.n .i64 0]],.v (.a [.n .i64 65536,.n .i64 65536,.n .i64 0,.n .i64 0,.n .i64 0,.n .i64 0,.n .i64 0,.n .i64 0,.n .i64 65536,.n .i64 65536,.n .i64 0,.n .i64 0,.n .i64 0,.n .i64 0,.n .i64 0,.n .i64 0,.n .i64 65536,.n .i64 65536,.n .i64 0,.n .i64 0,.n .i64 8,.n .i64 8,.n .i64 0,.n .i64 0])),
 ([.a [.n .i64 65536,.n .i64 65536,.n .i64 0,.n .i64 0,.n .i64 0,.n .i64 0,.n .i64 0,.n .i64 0,.n .i64 65536,.n .i64 65536,.n .i64 0,.n .i64 0,.n .i64 0,.n .i64 0,.n .i64 0,.n .i64 0,.n .i64 65536,.n .i64 65536,.n .i64 32,.n .i64 32,.n .i64 0,.n .i64 0,.n .i64 0,.n .i64 0],.a [.n .i64 65536,.n .i64 65536,.n .i64 0,.n .i64 0,.n .i64 0,.n .i64 0,.n .i64 0,.n .i64 0,.n .i64 65536,.n .i64 65536,.n .i64 0,.n .i64 0,.n .i64 0,.n .i64 0,.n .i64 0,.n .i64 0,.n .i64 65536,.n .i64 65536,.n .i64 0,.n .i64 0,.n .i64 8,.n .i64 8,.n .i64 0,.n .i64 0]],.v (.a [.n .i64 65536,.n .i64 65536,.n .i64 0,.n .i64 0,.n .i64 0,.n .i64 0,.n .i64 0,.n .i64 0,.n .i64 65536,.n .i64 65536,.n .i64 0,.n .i64 0,.n .i64 0,.n .i64 0,.n .i64 0,.n .i64 0,.n .i64 65536,.n .i64 65536,.n .i64 32,.n .i64 32,.n .i64 8,.n .i64 8,.n .i64 0,.n .i64 0]))]
noncomputable def t78:Known:=(78,k78) :: t153
theorem ok78:Known.Ok Tryz.prog t78:=Known.add yJ zW (xHI) (N:=60) (by kernel_rfl)
noncomputable def k33:List (List PV × Ret):=[([.a [.s (ByteArray.mk #[97]),.n .i64 4,.n .i64 (-1),.n .i64 0,.n .i64 0,.n .i64 0,.n .i64 0,.n .i64 64,.n .i64 1,.n .i64 65536,.n .i64 65536,.n .i64 65536],.a [.n .i64 16,.n .i64 16]],.v (.a [.n .i64 65536,.n .i64 65536,.n .i64 0,.n .i64 0,.n .i64 0,.n .i64 0,.n .i64 0,.n .i64 0,.n .i64 65536,.n .i64 65536,.n .i64 0,.n .i64 0,.n .i64 0,.n .i64 0,.n .i64 0,.n .i64 0,.n .i64 65536,.n .i64 65536,.n .i64 16,.n .i64 16,.n .i64 0,.n .i64 0,.n .i64 0,.n .i64 0])),
 ([.a [.s (ByteArray.mk #[98]),.n .i64 5,.n .i64 0,.n .i64 0,.n .i64 0,.n .i64 0,.n .i64 0,.n .i64 64,.n .i64 1,.n .i64 65536,.n .i64 65536,.n .i64 65536],.a [.n .i64 0,.n .i64 0]],.v (.a [.n .i64 65536,.n .i64 65536,.n .i64 0,.n .i64 0,.n .i64 0,.n .i64 0,.n .i64 0,.n .i64 0,.n .i64 65536,.n .i64 65536,.n .i64 0,.n .i64 0,.n .i64 0,.n .i64 0,.n .i64 0,.n .i64 0,.n .i64 65536,.n .i64 65536,.n .i64 0,.n .i64 0,.n .i64 0,.n .i64 0,.n .i64 0,.n .i64 0])),
 ([.a [.s (ByteArray.mk #[97]),.n .i64 4,.n .i64 (-1),.n .i64 0,.n .i64 0,.n .i64 0,.n .i64 0,.n .i64 64,.n .i64 1,.n .i64 65536,.n .i64 65536,.n .i64 65536],.a [.n .i64 32,.n .i64 32]],.v (.a [.n .i64 65536,.n .i64 65536,.n .i64 0,.n .i64 0,.n .i64 0,.n .i64 0,.n .i64 0,.n .i64 0,.n .i64 65536,.n .i64 65536,.n .i64 0,.n .i64 0,.n .i64 0,.n .i64 0,.n .i64 0,.n .i64 0,.n .i64 65536,.n .i64 65536,.n .i64 32,.n .i64 32,.n .i64 0,.n .i64 0,.n .i64 0,.n .i64 0])),
 ([.a [.s (ByteArray.mk #[98]),.n .i64 5,.n .i64 0,.n .i64 0,.n .i64 0,.n .i64 0,.n .i64 0,.n .i64 64,.n .i64 1,.n .i64 65536,.n .i64 65536,.n .i64 65536],.a [.n .i64 8,.n .i64 8]],.v (.a [.n .i64 65536,.n .i64 65536,.n .i64 0,.n .i64 0,.n .i64 0,.n .i64 0,.n .i64 0,.n .i64 0,.n .i64 65536,.n .i64 65536,.n .i64 0,.n .i64 0,.n .i64 0,.n .i64 0,.n .i64 0,.n .i64 0,.n .i64 65536,.n .i64 65536,.n .i64 0,.n .i64 0,.n .i64 8,.n .i64 8,.n .i64 0,.n .i64 0]))]
noncomputable def t33:Known:=(33,k33) :: t78
theorem ok33:Known.Ok Tryz.prog t33:=Known.add yJ zW (ok78) (N:=60) (by kernel_rfl)
noncomputable def k86:List (List PV × Ret):=[([.a [.l [[.s (ByteArray.mk #[97]),.n .i64 4,.n .i64 (-1),.n .i64 0,.n .i64 0,.n .i64 0,.n .i64 0,.n .i64 64,.n .i64 1,.n .i64 65536,.n .i64 65536,.n .i64 65536],[.s (ByteArray.mk #[98]),.n .i64 5,.n .i64 0,.n .i64 0,.n .i64 0,.n .i64 0,.n .i64 0,.n .i64 64,.n .i64 1,.n .i64 65536,.n .i64 65536,.n .i64 65536]],.l []],.l [[.n .i64 16,.n .i64 16],[.n .i64 0,.n .i64 0]]],.ow 68 24 (.l [[.n .i64 65536,.n .i64 65536,.n .i64 0,.n .i64 0,.n .i64 0,.n .i64 0,.n .i64 0,.n .i64 0,.n .i64 65536,.n .i64 65536,.n .i64 0,.n .i64 0,.n .i64 0,.n .i64 0,.n .i64 0,.n .i64 0,.n .i64 65536,.n .i64 65536,.n .i64 16,.n .i64 16,.n .i64 0,.n .i64 0,.n .i64 0,.n .i64 0],[.n .i64 65536,.n .i64 65536,.n .i64 0,.n .i64 0,.n .i64 0,.n .i64 0,.n .i64 0,.n .i64 0,.n .i64 65536,.n .i64 65536,.n .i64 0,.n .i64 0,.n .i64 0,.n .i64 0,.n .i64 0,.n .i64 0,.n .i64 65536,.n .i64 65536,.n .i64 16,.n .i64 16,.n .i64 0,.n .i64 0,.n .i64 0,.n .i64 0]])),
 ([.a [.l [[.s (ByteArray.mk #[97]),.n .i64 4,.n .i64 (-1),.n .i64 0,.n .i64 0,.n .i64 0,.n .i64 0,.n .i64 64,.n .i64 1,.n .i64 65536,.n .i64 65536,.n .i64 65536],[.s (ByteArray.mk #[98]),.n .i64 5,.n .i64 0,.n .i64 0,.n .i64 0,.n .i64 0,.n .i64 0,.n .i64 64,.n .i64 1,.n .i64 65536,.n .i64 65536,.n .i64 65536]],.l []],.l [[.n .i64 32,.n .i64 32],[.n .i64 8,.n .i64 8]]],.ow 68 24 (.l [[.n .i64 65536,.n .i64 65536,.n .i64 0,.n .i64 0,.n .i64 0,.n .i64 0,.n .i64 0,.n .i64 0,.n .i64 65536,.n .i64 65536,.n .i64 0,.n .i64 0,.n .i64 0,.n .i64 0,.n .i64 0,.n .i64 0,.n .i64 65536,.n .i64 65536,.n .i64 32,.n .i64 32,.n .i64 0,.n .i64 0,.n .i64 0,.n .i64 0],[.n .i64 65536,.n .i64 65536,.n .i64 0,.n .i64 0,.n .i64 0,.n .i64 0,.n .i64 0,.n .i64 0,.n .i64 65536,.n .i64 65536,.n .i64 0,.n .i64 0,.n .i64 0,.n .i64 0,.n .i64 0,.n .i64 0,.n .i64 65536,.n .i64 65536,.n .i64 32,.n .i64 32,.n .i64 8,.n .i64 8,.n .i64 0,.n .i64 0]]))]
noncomputable def t86:Known:=(86,k86) :: t33
theorem ok86:Known.Ok Tryz.prog t86:=Known.add yJ zW (ok33) (N:=60) (by kernel_rfl)
noncomputable def k38:List (List PV × Ret):=[([.a [.l [[.s (ByteArray.mk #[97]),.n .i64 4,.n .i64 (-1),.n .i64 0,.n .i64 0,.n .i64 0,.n .i64 0,.n .i64 64,.n .i64 1,.n .i64 65536,.n .i64 65536,.n .i64 65536],[.s (ByteArray.mk #[98]),.n .i64 5,.n .i64 0,.n .i64 0,.n .i64 0,.n .i64 0,.n .i64 0,.n .i64 64,.n .i64 1,.n .i64 65536,.n .i64 65536,.n .i64 65536]],.l []],.l [[.n .i64 16,.n .i64 16],[.n .i64 0,.n .i64 0]]],.v (.l [[.n .i64 65536,.n .i64 65536,.n .i64 0,.n .i64 0,.n .i64 0,.n .i64 0,.n .i64 0,.n .i64 0,.n .i64 65536,.n .i64 65536,.n .i64 0,.n .i64 0,.n .i64 0,.n .i64 0,.n .i64 0,.n .i64 0,.n .i64 65536,.n .i64 65536,.n .i64 16,.n .i64 16,.n .i64 0,.n .i64 0,.n .i64 0,.n .i64 0],[.n .i64 65536,.n .i64 65536,.n .i64 0,.n .i64 0,.n .i64 0,.n .i64 0,.n .i64 0,.n .i64 0,.n .i64 65536,.n .i64 65536,.n .i64 0,.n .i64 0,.n .i64 0,.n .i64 0,.n .i64 0,.n .i64 0,.n .i64 65536,.n .i64 65536,.n .i64 16,.n .i64 16,.n .i64 0,.n .i64 0,.n .i64 0,.n .i64 0]])),
 ([.a [.l [[.s (ByteArray.mk #[97]),.n .i64 4,.n .i64 (-1),.n .i64 0,.n .i64 0,.n .i64 0,.n .i64 0,.n .i64 64,.n .i64 1,.n .i64 65536,.n .i64 65536,.n .i64 65536],[.s (ByteArray.mk #[98]),.n .i64 5,.n .i64 0,.n .i64 0,.n .i64 0,.n .i64 0,.n .i64 0,.n .i64 64,.n .i64 1,.n .i64 65536,.n .i64 65536,.n .i64 65536]],.l []],.l [[.n .i64 32,.n .i64 32],[.n .i64 8,.n .i64 8]]],.v (.l [[.n .i64 65536,.n .i64 65536,.n .i64 0,.n .i64 0,.n .i64 0,.n .i64 0,.n .i64 0,.n .i64 0,.n .i64 65536,.n .i64 65536,.n .i64 0,.n .i64 0,.n .i64 0,.n .i64 0,.n .i64 0,.n .i64 0,.n .i64 65536,.n .i64 65536,.n .i64 32,.n .i64 32,.n .i64 0,.n .i64 0,.n .i64 0,.n .i64 0],[.n .i64 65536,.n .i64 65536,.n .i64 0,.n .i64 0,.n .i64 0,.n .i64 0,.n .i64 0,.n .i64 0,.n .i64 65536,.n .i64 65536,.n .i64 0,.n .i64 0,.n .i64 0,.n .i64 0,.n .i64 0,.n .i64 0,.n .i64 65536,.n .i64 65536,.n .i64 32,.n .i64 32,.n .i64 8,.n .i64 8,.n .i64 0,.n .i64 0]]))]
noncomputable def t38:Known:=(38,k38) :: t86
theorem ok38:Known.Ok Tryz.prog t38:=Known.add yJ zW (ok86) (N:=60) (by kernel_rfl)
noncomputable def k73:List (List PV × Ret):=[([.a [.n .i64 65536,.n .i64 65536,.n .i64 0,.n .i64 0,.n .i64 0,.n .i64 0,.n .i64 0,.n .i64 0,.n .i64 65536,.n .i64 65536,.n .i64 0,.n .i64 0,.n .i64 0,.n .i64 0,.n .i64 0,.n .i64 0,.n .i64 65536,.n .i64 65536,.n .i64 16,.n .i64 16,.n .i64 0,.n .i64 0,.n .i64 0,.n .i64 0],.a [.n .i64 0,.n .i64 0,.n .i64 0,.n .i64 0,.n .i64 0,.n .i64 0]],.v (.a [.n .i64 16,.n .i64 16,.n .i64 0,.n .i64 0,.n .i64 0,.n .i64 0])),
 ([.a [.n .i64 65536,.n .i64 65536,.n .i64 0,.n .i64 0,.n .i64 0,.n .i64 0,.n .i64 0,.n .i64 0,.n .i64 65536,.n .i64 65536,.n .i64 0,.n .i64 0,.n .i64 0,.n .i64 0,.n .i64 0,.n .i64 0,.n .i64 65536,.n .i64 65536,.n .i64 32,.n .i64 32,.n .i64 8,.n .i64 8,.n .i64 0,.n .i64 0],.a [.n .i64 0,.n .i64 0,.n .i64 0,.n .i64 0,.n .i64 0,.n .i64 0]],.v (.a [.n .i64 32,.n .i64 32,.n .i64 8,.n .i64 8,.n .i64 0,.n .i64 0]))]
noncomputable def t73:Known:=(73,k73) :: t38
theorem ok73:Known.Ok Tryz.prog t73:=Known.add yJ zW (ok38) (N:=60) (by kernel_rfl)
noncomputable def k24:List (List PV × Ret):=[([.a [.l [[.s (ByteArray.mk #[97]),.n .i64 4,.n .i64 (-1),.n .i64 0,.n .i64 0,.n .i64 0,.n .i64 0,.n .i64 64,.n .i64 1,.n .i64 65536,.n .i64 65536,.n .i64 65536],[.s (ByteArray.mk #[98]),.n .i64 5,.n .i64 0,.n .i64 0,.n .i64 0,.n .i64 0,.n .i64 0,.n .i64 64,.n .i64 1,.n .i64 65536,.n .i64 65536,.n .i64 65536]],.l [],.l [],.l [],.l [[.s (ByteArray.mk #[111]),.l [[.n .i64 0,.n .i64 1,.l [[.n .i64 1,.n .i64 2,.n .i64 3]]]]]],.l [[.n .i64 16,.n .i64 0,.n .i64 0],[.n .i64 32,.n .i64 8,.n .i64 0]],.l [[.n .i64 1,.n .i64 0,.n .i64 0,.n .i64 0]],.l [],.n .i64 0],.n .i64 0,.n .i64 0,.l [[.n .i64 16],[.n .i64 0]]],.v (.b true)),
 ([.a [.l [[.s (ByteArray.mk #[97]),.n .i64 4,.n .i64 (-1),.n .i64 0,.n .i64 0,.n .i64 0,.n .i64 0,.n .i64 64,.n .i64 1,.n .i64 65536,.n .i64 65536,.n .i64 65536],[.s (ByteArray.mk #[98]),.n .i64 5,.n .i64 0,.n .i64 0,.n .i64 0,.n .i64 0,.n .i64 0,.n .i64 64,.n .i64 1,.n .i64 65536,.n .i64 65536,.n .i64 65536]],.l [],.l [],.l [],.l [[.s (ByteArray.mk #[111]),.l [[.n .i64 0,.n .i64 1,.l [[.n .i64 1,.n .i64 2,.n .i64 3]]]]]],.l [[.n .i64 16,.n .i64 0,.n .i64 0],[.n .i64 32,.n .i64 8,.n .i64 0]],.l [[.n .i64 1,.n .i64 0,.n .i64 0,.n .i64 0]],.l [],.n .i64 0],.n .i64 0,.n .i64 1,.l [[.n .i64 32],[.n .i64 8]]],.v (.b true))]
noncomputable def t24:Known:=(24,k24) :: t73
theorem ok24:Known.Ok Tryz.prog t24:=Known.add yJ zW (ok73) (N:=60) (by kernel_rfl)
noncomputable def k44:List (List PV × Ret):=[([.a [.l [[.s (ByteArray.mk #[97]),.n .i64 4,.n .i64 (-1),.n .i64 0,.n .i64 0,.n .i64 0,.n .i64 0,.n .i64 64,.n .i64 1,.n .i64 65536,.n .i64 65536,.n .i64 65536],[.s (ByteArray.mk #[98]),.n .i64 5,.n .i64 0,.n .i64 0,.n .i64 0,.n .i64 0,.n .i64 0,.n .i64 64,.n .i64 1,.n .i64 65536,.n .i64 65536,.n .i64 65536]],.l [],.l [],.l [],.l [[.s (ByteArray.mk #[111]),.l [[.n .i64 0,.n .i64 1,.l [[.n .i64 1,.n .i64 2,.n .i64 3]]]]]],.l [[.n .i64 16,.n .i64 0,.n .i64 0],[.n .i64 32,.n .i64 8,.n .i64 0]],.l [[.n .i64 1,.n .i64 0,.n .i64 0,.n .i64 0]],.l [],.n .i64 0],.a [.l [[.n .i64 0]]],.l [[.n .i64 16],[.n .i64 0]],.n .i64 0,.n .i64 0],.v (.t [.a [.l [[.n .i64 (-1)]]],.b true]))]
noncomputable def t44:Known:=(44,k44) :: t24
theorem ok44:Known.Ok Tryz.prog t44:=Known.add yJ zW (ok24) (N:=60) (by kernel_rfl)
noncomputable def k45:List (List PV × Ret):=[([.a [.l [[.s (ByteArray.mk #[97]),.n .i64 4,.n .i64 (-1),.n .i64 0,.n .i64 0,.n .i64 0,.n .i64 0,.n .i64 64,.n .i64 1,.n .i64 65536,.n .i64 65536,.n .i64 65536],[.s (ByteArray.mk #[98]),.n .i64 5,.n .i64 0,.n .i64 0,.n .i64 0,.n .i64 0,.n .i64 0,.n .i64 64,.n .i64 1,.n .i64 65536,.n .i64 65536,.n .i64 65536]],.l [],.l [],.l [],.l [[.s (ByteArray.mk #[111]),.l [[.n .i64 0,.n .i64 1,.l [[.n .i64 1,.n .i64 2,.n .i64 3]]]]]],.l [[.n .i64 16,.n .i64 0,.n .i64 0],[.n .i64 32,.n .i64 8,.n .i64 0]],.l [[.n .i64 1,.n .i64 0,.n .i64 0,.n .i64 0]],.l [],.n .i64 0],.a [.l [[.n .i64 (-1)]]],.l [[.n .i64 32],[.n .i64 8]],.n .i64 0,.n .i64 1],.v (.t [.a [.l [[.n .i64 1]]],.b true]))]
noncomputable def t45:Known:=(45,k45) :: t44
theorem ok45:Known.Ok Tryz.prog t45:=Known.add yJ zW (ok44) (N:=60) (by kernel_rfl)
noncomputable def k46:List (List PV × Ret):=[([.a [.l [[.s (ByteArray.mk #[97]),.n .i64 4,.n .i64 (-1),.n .i64 0,.n .i64 0,.n .i64 0,.n .i64 0,.n .i64 64,.n .i64 1,.n .i64 65536,.n .i64 65536,.n .i64 65536],[.s (ByteArray.mk #[98]),.n .i64 5,.n .i64 0,.n .i64 0,.n .i64 0,.n .i64 0,.n .i64 0,.n .i64 64,.n .i64 1,.n .i64 65536,.n .i64 65536,.n .i64 65536]],.l [],.l [],.l [],.l [[.s (ByteArray.mk #[111]),.l [[.n .i64 0,.n .i64 1,.l [[.n .i64 1,.n .i64 2,.n .i64 3]]]]]],.l [[.n .i64 16,.n .i64 0,.n .i64 0],[.n .i64 32,.n .i64 8,.n .i64 0]],.l [[.n .i64 1,.n .i64 0,.n .i64 0,.n .i64 0]],.l [],.n .i64 0],.a [.l [[.n .i64 (-1)]]]],.v (.t [.a [.l [[.s (ByteArray.mk #[97]),.n .i64 4,.n .i64 (-1),.n .i64 0,.n .i64 0,.n .i64 0,.n .i64 0,.n .i64 64,.n .i64 1,.n .i64 65536,.n .i64 65536,.n .i64 65536],[.s (ByteArray.mk #[98]),.n .i64 5,.n .i64 0,.n .i64 0,.n .i64 0,.n .i64 0,.n .i64 0,.n .i64 64,.n .i64 1,.n .i64 65536,.n .i64 65536,.n .i64 65536]],.l [],.l [[.n .i64 1,.n .i64 1,.l [[.n .i64 1,.n .i64 2,.n .i64 3]]]],.l []],.n .i64 0]))]
noncomputable def t46:Known:=(46,k46) :: t45
theorem ok46:Known.Ok Tryz.prog t46:=Known.add yJ zW (ok45) (N:=60) (by kernel_rfl)
theorem call:yK Tryz.prog 13 [] (.v (.b true)):=qYC (N:=60) yJ zW (Known.ok (ok46)) (by kernel_rfl:run T (Known.orc t46) 60 13 []=some (.v (.b true)))
end Go.Proofs.YtgmbkkkbfbocnaaGreat.Ag

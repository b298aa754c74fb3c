/- Part 15 of the texts behind the last one: rules and contracts. No condition. -/
import Derived.Test.YtbfcbojgnppacaaGreatMI14
open Bool renaming and_eq_true → vQJ, true_and → vZH
open List renaming getElem?_take → vZV, getD_eq_getElem?_getD → vZG
open Go.IntKind renaming wrap → vJJ
namespace Go.Proofs.YtbfcbojgnppacaaGreat.Uf
open Go.Rx Rt Go.Sx Go.RowKit Od Nb Oe Na Nc Nd Nx Nf Ng Nj Nj2 Nl Nm Pa Pb Ta Tb Ua Ub Uc Ud Ue Sn So Sq Sr
def ccf:Nat × (Nat→Int)→Prop:=fun t=>t.1≤9223372036854775807
def ecf (ja:Nat→J) (ma:Nat→Ms) (na ga:Nat):Nat × (Nat→Int)→List PV:=fun t=>[.a [.lf na (fJ ja),.lf ga (fM ma)],.lf t.1 (fQ t.2)]
noncomputable def o_cf (ja:Nat→J) (ma:Nat→Ms) (na ga:Nat) (x1:Nat × (Nat→Int)→Nat→Int):List PV→Option (Bool × Ret):=o_fm (fun ps=>match ps with | [_,.lf w f]=>(w,unFQ f) | _=>(0,fun _=>0)) ccf (ecf ja ma na ga) (fun t=>.v (.lf na (fQ (x1 t))))
theorem jQQ {ja:Nat→J} {ma:Nat→Ms} {na ga:Nat} {x1:Nat × (Nat→Int)→Nat→Int} (h:∀ t,ccf t→zH Tryz.prog 9 (ecf ja ma na ga t) (.v (.lf na (fQ (x1 t))))):zY Tryz.prog 9 (o_cf ja ma na ga x1):=zUL fun t ht=>h t ht
noncomputable def gcf (ja:Nat→J) (ma:Nat→Ms) (na ga:Nat) (w:Nat) (e:Nat→Int):Bool:=gF1 ccf (ecf ja ma na ga) (w,e)
theorem yUV {ja:Nat→J} {ma:Nat→Ms} {na ga w:Nat} {e:Nat→Int} (h:w≤9223372036854775807):gcf ja ma na ga w e=true:=qXZ h
noncomputable def orlw0 (w1 w2 w3 w4:Nat) (e1 e2 e3 e4:Nat→Int) (nn D x:Int) (ja:Nat→J) (ma:Nat→Ms) (na ga:Nat) (x1:Nat × (Nat→Int)→Nat→Int) (ce:Nat→Cn) (d:Nat) (a b:Int):OrS:=orS [(7,o_cr [] (.v (.b true))),(8,o_cr [.lf w1 (fQ e1)] (.v (.a [.lf na (fJ ja),.lf ga (fM ma)]))),(9,o_cf ja ma na ga x1),(10,o_rn),(13,o_cr [.a [.lf na (fJ ja),.lf ga (fM ma)],.n .i64 (nn % 3),.lf w2 (fQ e2)] (.v (.lf d (fC ce)))),(16,o_cr [.a [.lf na (fJ ja),.lf ga (fM ma)],.lf d (fC ce),.lf na (fQ (x1 (w3,e3))),.lf na (fQ (x1 (w4,e4))),.n .i64 5] (.v (.a [.n .i64 0,.lf 0 (p3 z0 z0),.n .i64 a,.n .i64 b,.l [],.n .i64 0,.l [],.l []]))),(17,o_cr [.a [.lf na (fJ ja),.lf ga (fM ma)],.lf d (fC ce),.lf na (fQ (x1 (w3,e3))),.lf na (fQ (x1 (w4,e4))),.a [.n .i64 0,.lf 0 (p3 z0 z0),.n .i64 a,.n .i64 b,.l [],.n .i64 0,.l [],.l []]] (.v (.b false)))] []
noncomputable def yGG (_ _ _ _:Nat) (_ _ _ _:Nat→Int) (_ D x:Int) (_:Nat→J) (_:Nat→Ms) (_ _:Nat) (_:Nat × (Nat→Int)→Nat→Int) (_:Nat→Cn) (d:Nat) (a b:Int):List (List Nat × kU):=[]
set_option maxRecDepth 100000 in
theorem pxlw0 (w1 w2 w3 w4:Nat) (e1 e2 e3 e4:Nat→Int) (nn D x:Int) (ja:Nat→J) (ma:Nat→Ms) (na ga:Nat) (x1:Nat × (Nat→Int)→Nat→Int) (ce:Nat→Cn) (d:Nat) (a b:Int):qJE Tf (orlw0 w1 w2 w3 w4 e1 e2 e3 e4 nn D x ja ma na ga x1 ce d a b) (zW (yGG w1 w2 w3 w4 e1 e2 e3 e4 nn D x ja ma na ga x1 ce d a b)) 60 5 [.lf w1 (fQ e1),.lf w2 (fQ e2),.lf w3 (fQ e3),.lf w4 (fQ e4),.n .i64 nn,.n .i64 D,.n .i64 x] =
 (bif (g1 [.lf w1 (fQ e1)]) then (bif (gF1 crn ern (nn,3)) then (bif (g1 [.a [.lf na (fJ ja),.lf ga (fM ma)],.n .i64 (nn % 3),.lf w2 (fQ e2)]) then (bif (gcf ja ma na ga w3 e3) then (bif (gcf ja ma na ga w4 e4) then (bif (g1 [.a [.lf na (fJ ja),.lf ga (fM ma)],.lf d (fC ce),.lf na (fQ (x1 (w3,e3))),.lf na (fQ (x1 (w4,e4))),.n .i64 5]) then (bif (g1 [.a [.lf na (fJ ja),.lf ga (fM ma)],.lf d (fC ce),.lf na (fQ (x1 (w3,e3))),.lf na (fQ (x1 (w4,e4))),.a [.n .i64 0,.lf 0 (p3 z0 z0),.n .i64 a,.n .i64 b,.l [],.n .i64 0,.l [],.l []]]) then (bif (g1 []) then some (.v (.b true),[])
 else none)
 else none)
 else none)
 else none)
 else none)
 else none)
 else none)
 else none):=by kernel_rfl
theorem snd_lw0 (w1 w2 w3 w4:Nat) (e1 e2 e3 e4:Nat→Int) (nn D x:Int) (ja:Nat→J) (ma:Nat→Ms) (na ga:Nat) (x1:Nat × (Nat→Int)→Nat→Int) (ce:Nat→Cn) (d:Nat) (a b:Int) (hA:zH Tryz.prog 7 [] (.v (.b true))) (hR:zH Tryz.prog 8 [.lf w1 (fQ e1)] (.v (.a [.lf na (fJ ja),.lf ga (fM ma)]))) (hX:∀ t,ccf t→zH Tryz.prog 9 (ecf ja ma na ga t) (.v (.lf na (fQ (x1 t))))) (hW:zH Tryz.prog 13 [.a [.lf na (fJ ja),.lf ga (fM ma)],.n .i64 (nn % 3),.lf w2 (fQ e2)] (.v (.lf d (fC ce)))) (b3:w3≤9223372036854775807) (b4:w4≤9223372036854775807) (hP:zH Tryz.prog 16 [.a [.lf na (fJ ja),.lf ga (fM ma)],.lf d (fC ce),.lf na (fQ (x1 (w3,e3))),.lf na (fQ (x1 (w4,e4))),.n .i64 5] (.v (.a [.n .i64 0,.lf 0 (p3 z0 z0),.n .i64 a,.n .i64 b,.l [],.n .i64 0,.l [],.l []]))) (hQ:zH Tryz.prog 17 [.a [.lf na (fJ ja),.lf ga (fM ma)],.lf d (fC ce),.lf na (fQ (x1 (w3,e3))),.lf na (fQ (x1 (w4,e4))),.a [.n .i64 0,.lf 0 (p3 z0 z0),.n .i64 a,.n .i64 b,.l [],.n .i64 0,.l [],.l []]] (.v (.b false))):zH Tryz.prog 5 [.lf w1 (fQ e1),.lf w2 (fQ e2),.lf w3 (fQ e3),.lf w4 (fQ e4),.n .i64 nn,.n .i64 D,.n .i64 x] (.v (.b true)):=by
 refine yV (N:=60) (LO:=zW (yGG w1 w2 w3 w4 e1 e2 e3 e4 nn D x ja ma na ga x1 ce d a b)) qQC yZ (qQE (l:=[(7,o_cr [] (.v (.b true))),(8,o_cr [.lf w1 (fQ e1)] (.v (.a [.lf na (fJ ja),.lf ga (fM ma)]))),(9,o_cf ja ma na ga x1),(10,o_rn),(13,o_cr [.a [.lf na (fJ ja),.lf ga (fM ma)],.n .i64 (nn % 3),.lf w2 (fQ e2)] (.v (.lf d (fC ce)))),(16,o_cr [.a [.lf na (fJ ja),.lf ga (fM ma)],.lf d (fC ce),.lf na (fQ (x1 (w3,e3))),.lf na (fQ (x1 (w4,e4))),.n .i64 5] (.v (.a [.n .i64 0,.lf 0 (p3 z0 z0),.n .i64 a,.n .i64 b,.l [],.n .i64 0,.l [],.l []]))),(17,o_cr [.a [.lf na (fJ ja),.lf ga (fM ma)],.lf d (fC ce),.lf na (fQ (x1 (w3,e3))),.lf na (fQ (x1 (w4,e4))),.a [.n .i64 0,.lf 0 (p3 z0 z0),.n .i64 a,.n .i64 b,.l [],.n .i64 0,.l [],.l []]] (.v (.b false)))]) (m:=[]) ⟨qQI hA,qQI hR,jQQ hX,Sn.ok_rn,qQI hW,qQI hP,qQI hQ,trivial⟩ trivial) (fun p S hp => ?_) ?_
 ·refine yX (L:=qG Tf 5) (l:=(yGG w1 w2 w3 w4 e1 e2 e3 e4 nn D x ja ma na ga x1 ce d a b)) (show AllP _ (yGG w1 w2 w3 w4 e1 e2 e3 e4 nn D x ja ma na ga x1 ce d a b) from trivial) p S hp
 ·refine (pxlw0 w1 w2 w3 w4 e1 e2 e3 e4 nn D x ja ma na ga x1 ce d a b).trans ?_;have hu:0≤IntKind.u64.wrap (D % 12):=by rw [yKF ⟨by omega,by omega⟩]; omega
  simp only [g1_t,yUV b3,yUV b4,qXZ (C:=crn) (t:=(nn,3)) ⟨by decide,by decide⟩,vJQ hu,decide_true,vYV,vYG,Bool.not_false,Bool.not_true]
noncomputable def orlw2 (w1 w2 w3 w4:Nat) (e1 e2 e3 e4:Nat→Int) (nn D x:Int) (ja:Nat→J) (ma:Nat→Ms) (na ga:Nat) (x1:Nat × (Nat→Int)→Nat→Int) (ce:Nat→Cn) (d:Nat) (a b pr:Int) (pt:Nat→Int):OrS:=orS [(7,o_cr [] (.v (.b true))),(8,o_cr [.lf w1 (fQ e1)] (.v (.a [.lf na (fJ ja),.lf ga (fM ma)]))),(9,o_cf ja ma na ga x1),(10,o_rn),(13,o_cr [.a [.lf na (fJ ja),.lf ga (fM ma)],.n .i64 (nn % 3),.lf w2 (fQ e2)] (.v (.lf d (fC ce)))),(16,o_cr [.a [.lf na (fJ ja),.lf ga (fM ma)],.lf d (fC ce),.lf na (fQ (x1 (w3,e3))),.lf na (fQ (x1 (w4,e4))),.n .i64 5] (.v (.a [.n .i64 2,.lf 0 (p3 z0 z0),.n .i64 a,.n .i64 b,.l [],.n .i64 pr,.l [],.l []]))),(17,o_cr [.a [.lf na (fJ ja),.lf ga (fM ma)],.lf d (fC ce),.lf na (fQ (x1 (w3,e3))),.lf na (fQ (x1 (w4,e4))),.a [.n .i64 2,.lf 0 (p3 z0 z0),.n .i64 a,.n .i64 b,.l [],.n .i64 pr,.l [],.l []]] (.v (.b true))),(18,o_cr [.lf na (fQ (x1 (w3,e3))),.lf na (fQ (x1 (w4,e4))),.n .i64 a,.n .i64 b] (.v (.t [.lf na (fQ pt),.b true]))),(20,o_cr [.lf na (fQ pt)] (.v (.lf na (fB (ptA pt))))),(19,o_cr [.a [.lf na (fJ ja),.lf ga (fM ma)],.lf d (fC ce),.lf na (fB (ptA pt))] (.v (.b false)))] []
noncomputable def yGW (_ _ _ _:Nat) (_ _ _ _:Nat→Int) (_ D x:Int) (_:Nat→J) (_:Nat→Ms) (_ _:Nat) (_:Nat × (Nat→Int)→Nat→Int) (_:Nat→Cn) (d:Nat) (a b _:Int) (_:Nat→Int):List (List Nat × kU):=[]
set_option maxRecDepth 100000 in
theorem pxlw2 (w1 w2 w3 w4:Nat) (e1 e2 e3 e4:Nat→Int) (nn D x:Int) (ja:Nat→J) (ma:Nat→Ms) (na ga:Nat) (x1:Nat × (Nat→Int)→Nat→Int) (ce:Nat→Cn) (d:Nat) (a b pr:Int) (pt:Nat→Int):qJE Tf (orlw2 w1 w2 w3 w4 e1 e2 e3 e4 nn D x ja ma na ga x1 ce d a b pr pt) (zW (yGW w1 w2 w3 w4 e1 e2 e3 e4 nn D x ja ma na ga x1 ce d a b pr pt)) 60 5 [.lf w1 (fQ e1),.lf w2 (fQ e2),.lf w3 (fQ e3),.lf w4 (fQ e4),.n .i64 nn,.n .i64 D,.n .i64 x] =
 (bif (g1 [.lf w1 (fQ e1)]) then (bif (gF1 crn ern (nn,3)) then (bif (g1 [.a [.lf na (fJ ja),.lf ga (fM ma)],.n .i64 (nn % 3),.lf w2 (fQ e2)]) then (bif (gcf ja ma na ga w3 e3) then (bif (gcf ja ma na ga w4 e4) then (bif (g1 [.a [.lf na (fJ ja),.lf ga (fM ma)],.lf d (fC ce),.lf na (fQ (x1 (w3,e3))),.lf na (fQ (x1 (w4,e4))),.n .i64 5]) then (bif (g1 [.a [.lf na (fJ ja),.lf ga (fM ma)],.lf d (fC ce),.lf na (fQ (x1 (w3,e3))),.lf na (fQ (x1 (w4,e4))),.a [.n .i64 2,.lf 0 (p3 z0 z0),.n .i64 a,.n .i64 b,.l [],.n .i64 pr,.l [],.l []]]) then (bif (g1 [.lf na (fQ (x1 (w3,e3))),.lf na (fQ (x1 (w4,e4))),.n .i64 a,.n .i64 b]) then (bif (g1 []) then (bif (g1 [.lf na (fQ pt)]) then (bif (g1 [.a [.lf na (fJ ja),.lf ga (fM ma)],.lf d (fC ce),.lf na (fB (ptA pt))]) then some (.v (.b true),[])
 else none)
 else none)
 else none)
 else none)
 else none)
 else none)
 else none)
 else none)
 else none)
 else none)
 else none):=by kernel_rfl
theorem snd_lw2 (w1 w2 w3 w4:Nat) (e1 e2 e3 e4:Nat→Int) (nn D x:Int) (ja:Nat→J) (ma:Nat→Ms) (na ga:Nat) (x1:Nat × (Nat→Int)→Nat→Int) (ce:Nat→Cn) (d:Nat) (a b pr:Int) (pt:Nat→Int) (hA:zH Tryz.prog 7 [] (.v (.b true))) (hR:zH Tryz.prog 8 [.lf w1 (fQ e1)] (.v (.a [.lf na (fJ ja),.lf ga (fM ma)]))) (hX:∀ t,ccf t→zH Tryz.prog 9 (ecf ja ma na ga t) (.v (.lf na (fQ (x1 t))))) (hW:zH Tryz.prog 13 [.a [.lf na (fJ ja),.lf ga (fM ma)],.n .i64 (nn % 3),.lf w2 (fQ e2)] (.v (.lf d (fC ce)))) (b3:w3≤9223372036854775807) (b4:w4≤9223372036854775807) (hP:zH Tryz.prog 16 [.a [.lf na (fJ ja),.lf ga (fM ma)],.lf d (fC ce),.lf na (fQ (x1 (w3,e3))),.lf na (fQ (x1 (w4,e4))),.n .i64 5] (.v (.a [.n .i64 2,.lf 0 (p3 z0 z0),.n .i64 a,.n .i64 b,.l [],.n .i64 pr,.l [],.l []]))) (hQ:zH Tryz.prog 17 [.a [.lf na (fJ ja),.lf ga (fM ma)],.lf d (fC ce),.lf na (fQ (x1 (w3,e3))),.lf na (fQ (x1 (w4,e4))),.a [.n .i64 2,.lf 0 (p3 z0 z0),.n .i64 a,.n .i64 b,.l [],.n .i64 pr,.l [],.l []]] (.v (.b true))) (hT:zH Tryz.prog 18 [.lf na (fQ (x1 (w3,e3))),.lf na (fQ (x1 (w4,e4))),.n .i64 a,.n .i64 b] (.v (.t [.lf na (fQ pt),.b true]))) (hB:zH Tryz.prog 20 [.lf na (fQ pt)] (.v (.lf na (fB (ptA pt))))) (hH:zH Tryz.prog 19 [.a [.lf na (fJ ja),.lf ga (fM ma)],.lf d (fC ce),.lf na (fB (ptA pt))] (.v (.b false))):zH Tryz.prog 5 [.lf w1 (fQ e1),.lf w2 (fQ e2),.lf w3 (fQ e3),.lf w4 (fQ e4),.n .i64 nn,.n .i64 D,.n .i64 x] (.v (.b true)):=by
 refine yV (N:=60) (LO:=zW (yGW w1 w2 w3 w4 e1 e2 e3 e4 nn D x ja ma na ga x1 ce d a b pr pt)) qQC yZ (qQE (l:=[(7,o_cr [] (.v (.b true))),(8,o_cr [.lf w1 (fQ e1)] (.v (.a [.lf na (fJ ja),.lf ga (fM ma)]))),(9,o_cf ja ma na ga x1),(10,o_rn),(13,o_cr [.a [.lf na (fJ ja),.lf ga (fM ma)],.n .i64 (nn % 3),.lf w2 (fQ e2)] (.v (.lf d (fC ce)))),(16,o_cr [.a [.lf na (fJ ja),.lf ga (fM ma)],.lf d (fC ce),.lf na (fQ (x1 (w3,e3))),.lf na (fQ (x1 (w4,e4))),.n .i64 5] (.v (.a [.n .i64 2,.lf 0 (p3 z0 z0),.n .i64 a,.n .i64 b,.l [],.n .i64 pr,.l [],.l []]))),(17,o_cr [.a [.lf na (fJ ja),.lf ga (fM ma)],.lf d (fC ce),.lf na (fQ (x1 (w3,e3))),.lf na (fQ (x1 (w4,e4))),.a [.n .i64 2,.lf 0 (p3 z0 z0),.n .i64 a,.n .i64 b,.l [],.n .i64 pr,.l [],.l []]] (.v (.b true))),(18,o_cr [.lf na (fQ (x1 (w3,e3))),.lf na (fQ (x1 (w4,e4))),.n .i64 a,.n .i64 b] (.v (.t [.lf na (fQ pt),.b true]))),(20,o_cr [.lf na (fQ pt)] (.v (.lf na (fB (ptA pt))))),(19,o_cr [.a [.lf na (fJ ja),.lf ga (fM ma)],.lf d (fC ce),.lf na (fB (ptA pt))] (.v (.b false)))]) (m:=[]) ⟨qQI hA,qQI hR,jQQ hX,Sn.ok_rn,qQI hW,qQI hP,qQI hQ,qQI hT,qQI hB,qQI hH,trivial⟩ trivial) (fun p S hp => ?_) ?_
 ·refine yX (L:=qG Tf 5) (l:=(yGW w1 w2 w3 w4 e1 e2 e3 e4 nn D x ja ma na ga x1 ce d a b pr pt)) (show AllP _ (yGW w1 w2 w3 w4 e1 e2 e3 e4 nn D x ja ma na ga x1 ce d a b pr pt) from trivial) p S hp
 ·refine (pxlw2 w1 w2 w3 w4 e1 e2 e3 e4 nn D x ja ma na ga x1 ce d a b pr pt).trans ?_;have hu:0≤IntKind.u64.wrap (D % 12):=by rw [yKF ⟨by omega,by omega⟩]; omega
  simp only [g1_t,yUV b3,yUV b4,qXZ (C:=crn) (t:=(nn,3)) ⟨by decide,by decide⟩,vJQ hu,decide_true,vYV,vYG,Bool.not_false,Bool.not_true]
noncomputable def orlw1 (w1 w2 w3 w4:Nat) (e1 e2 e3 e4:Nat→Int) (nn D x:Int) (ja:Nat→J) (ma:Nat→Ms) (na ga:Nat) (x1:Nat × (Nat→Int)→Nat→Int) (ce:Nat→Cn) (d:Nat) (cnt:Nat) (pd pi:Nat→Int) (pt:Nat→Int):OrS:=orS [(7,o_cr [] (.v (.b true))),(8,o_cr [.lf w1 (fQ e1)] (.v (.a [.lf na (fJ ja),.lf ga (fM ma)]))),(9,o_cf ja ma na ga x1),(10,o_rn),(13,o_cr [.a [.lf na (fJ ja),.lf ga (fM ma)],.n .i64 (nn % 3),.lf w2 (fQ e2)] (.v (.lf d (fC ce)))),(16,o_cr [.a [.lf na (fJ ja),.lf ga (fM ma)],.lf d (fC ce),.lf na (fQ (x1 (w3,e3))),.lf na (fQ (x1 (w4,e4))),.n .i64 5] (.v (.a [.n .i64 1,.lf cnt (p3 pd pi),.n .i64 0,.n .i64 0,.l [],.n .i64 0,.l [],.l []]))),(17,o_cr [.a [.lf na (fJ ja),.lf ga (fM ma)],.lf d (fC ce),.lf na (fQ (x1 (w3,e3))),.lf na (fQ (x1 (w4,e4))),.a [.n .i64 1,.lf cnt (p3 pd pi),.n .i64 0,.n .i64 0,.l [],.n .i64 0,.l [],.l []]] (.v (.b true))),(18,o_cr [.lf na (fQ (x1 (w3,e3))),.lf na (fQ (x1 (w4,e4))),.n .i64 (D % 12),.n .i64 (x % (vJJ .i64 ((vJJ .i64 (1 * 2 ^ (min (IntKind.u64.wrap (D % 12)).toNat 64))) + 1)))] (.v (.t [.lf na (fQ pt),.b true]))),(20,o_cr [.lf na (fQ pt)] (.v (.lf na (fB (ptA pt))))),(19,o_cr [.a [.lf na (fJ ja),.lf ga (fM ma)],.lf d (fC ce),.lf na (fB (ptA pt))] (.v (.b true)))] []
noncomputable def yGV (_ _ _ _:Nat) (_ _ _ _:Nat→Int) (_ D x:Int) (_:Nat→J) (_:Nat→Ms) (_ _:Nat) (_:Nat × (Nat→Int)→Nat→Int) (_:Nat→Cn) (d:Nat) (_:Nat) (pd pi:Nat→Int) (_:Nat→Int):List (List Nat × kU):=[]
set_option maxRecDepth 100000 in
theorem pxlw1 (w1 w2 w3 w4:Nat) (e1 e2 e3 e4:Nat→Int) (nn D x:Int) (ja:Nat→J) (ma:Nat→Ms) (na ga:Nat) (x1:Nat × (Nat→Int)→Nat→Int) (ce:Nat→Cn) (d:Nat) (cnt:Nat) (pd pi:Nat→Int) (pt:Nat→Int):qJE Tf (orlw1 w1 w2 w3 w4 e1 e2 e3 e4 nn D x ja ma na ga x1 ce d cnt pd pi pt) (zW (yGV w1 w2 w3 w4 e1 e2 e3 e4 nn D x ja ma na ga x1 ce d cnt pd pi pt)) 60 5 [.lf w1 (fQ e1),.lf w2 (fQ e2),.lf w3 (fQ e3),.lf w4 (fQ e4),.n .i64 nn,.n .i64 D,.n .i64 x] =
 (bif (g1 [.lf w1 (fQ e1)]) then (bif (gF1 crn ern (nn,3)) then (bif (g1 [.a [.lf na (fJ ja),.lf ga (fM ma)],.n .i64 (nn % 3),.lf w2 (fQ e2)]) then (bif (gcf ja ma na ga w3 e3) then (bif (gcf ja ma na ga w4 e4) then (bif (g1 [.a [.lf na (fJ ja),.lf ga (fM ma)],.lf d (fC ce),.lf na (fQ (x1 (w3,e3))),.lf na (fQ (x1 (w4,e4))),.n .i64 5]) then (bif (g1 [.a [.lf na (fJ ja),.lf ga (fM ma)],.lf d (fC ce),.lf na (fQ (x1 (w3,e3))),.lf na (fQ (x1 (w4,e4))),.a [.n .i64 1,.lf cnt (p3 pd pi),.n .i64 0,.n .i64 0,.l [],.n .i64 0,.l [],.l []]]) then (bif (gF1 crn ern (D,12)) then (bif (decide (0≤(IntKind.u64.wrap (D % 12)))) then (bif (gF1 crn ern (x,(vJJ .i64 ((vJJ .i64 (1 * 2 ^ (min (IntKind.u64.wrap (D % 12)).toNat 64))) + 1)))) then (bif (g1 [.lf na (fQ (x1 (w3,e3))),.lf na (fQ (x1 (w4,e4))),.n .i64 (D % 12),.n .i64 (x % (vJJ .i64 ((vJJ .i64 (1 * 2 ^ (min (IntKind.u64.wrap (D % 12)).toNat 64))) + 1)))]) then (bif (g1 []) then (bif (g1 [.lf na (fQ pt)]) then (bif (g1 [.a [.lf na (fJ ja),.lf ga (fM ma)],.lf d (fC ce),.lf na (fB (ptA pt))]) then some (.v (.b true),[])
 else none)
 else none)
 else none)
 else none)
 else none)
 else none)
 else none)
 else none)
 else none)
 else none)
 else none)
 else none)
 else none)
 else none):=by kernel_rfl
theorem snd_lw1 (w1 w2 w3 w4:Nat) (e1 e2 e3 e4:Nat→Int) (nn D x:Int) (ja:Nat→J) (ma:Nat→Ms) (na ga:Nat) (x1:Nat × (Nat→Int)→Nat→Int) (ce:Nat→Cn) (d:Nat) (cnt:Nat) (pd pi:Nat→Int) (pt:Nat→Int) (hA:zH Tryz.prog 7 [] (.v (.b true))) (hR:zH Tryz.prog 8 [.lf w1 (fQ e1)] (.v (.a [.lf na (fJ ja),.lf ga (fM ma)]))) (hX:∀ t,ccf t→zH Tryz.prog 9 (ecf ja ma na ga t) (.v (.lf na (fQ (x1 t))))) (hW:zH Tryz.prog 13 [.a [.lf na (fJ ja),.lf ga (fM ma)],.n .i64 (nn % 3),.lf w2 (fQ e2)] (.v (.lf d (fC ce)))) (b3:w3≤9223372036854775807) (b4:w4≤9223372036854775807) (hP:zH Tryz.prog 16 [.a [.lf na (fJ ja),.lf ga (fM ma)],.lf d (fC ce),.lf na (fQ (x1 (w3,e3))),.lf na (fQ (x1 (w4,e4))),.n .i64 5] (.v (.a [.n .i64 1,.lf cnt (p3 pd pi),.n .i64 0,.n .i64 0,.l [],.n .i64 0,.l [],.l []]))) (hQ:zH Tryz.prog 17 [.a [.lf na (fJ ja),.lf ga (fM ma)],.lf d (fC ce),.lf na (fQ (x1 (w3,e3))),.lf na (fQ (x1 (w4,e4))),.a [.n .i64 1,.lf cnt (p3 pd pi),.n .i64 0,.n .i64 0,.l [],.n .i64 0,.l [],.l []]] (.v (.b true))) (hT:zH Tryz.prog 18 [.lf na (fQ (x1 (w3,e3))),.lf na (fQ (x1 (w4,e4))),.n .i64 (D % 12),.n .i64 (x % (vJJ .i64 ((vJJ .i64 (1 * 2 ^ (min (IntKind.u64.wrap (D % 12)).toNat 64))) + 1)))] (.v (.t [.lf na (fQ pt),.b true]))) (hB:zH Tryz.prog 20 [.lf na (fQ pt)] (.v (.lf na (fB (ptA pt))))) (hH:zH Tryz.prog 19 [.a [.lf na (fJ ja),.lf ga (fM ma)],.lf d (fC ce),.lf na (fB (ptA pt))] (.v (.b true))) (hK:0 < (vJJ .i64 ((vJJ .i64 (1 * 2 ^ (min (IntKind.u64.wrap (D % 12)).toNat 64))) + 1))∧(vJJ .i64 ((vJJ .i64 (1 * 2 ^ (min (IntKind.u64.wrap (D % 12)).toNat 64))) + 1))≤9223372036854775807):zH Tryz.prog 5 [.lf w1 (fQ e1),.lf w2 (fQ e2),.lf w3 (fQ e3),.lf w4 (fQ e4),.n .i64 nn,.n .i64 D,.n .i64 x] (.v (.b true)):=by
 refine yV (N:=60) (LO:=zW (yGV w1 w2 w3 w4 e1 e2 e3 e4 nn D x ja ma na ga x1 ce d cnt pd pi pt)) qQC yZ (qQE (l:=[(7,o_cr [] (.v (.b true))),(8,o_cr [.lf w1 (fQ e1)] (.v (.a [.lf na (fJ ja),.lf ga (fM ma)]))),(9,o_cf ja ma na ga x1),(10,o_rn),(13,o_cr [.a [.lf na (fJ ja),.lf ga (fM ma)],.n .i64 (nn % 3),.lf w2 (fQ e2)] (.v (.lf d (fC ce)))),(16,o_cr [.a [.lf na (fJ ja),.lf ga (fM ma)],.lf d (fC ce),.lf na (fQ (x1 (w3,e3))),.lf na (fQ (x1 (w4,e4))),.n .i64 5] (.v (.a [.n .i64 1,.lf cnt (p3 pd pi),.n .i64 0,.n .i64 0,.l [],.n .i64 0,.l [],.l []]))),(17,o_cr [.a [.lf na (fJ ja),.lf ga (fM ma)],.lf d (fC ce),.lf na (fQ (x1 (w3,e3))),.lf na (fQ (x1 (w4,e4))),.a [.n .i64 1,.lf cnt (p3 pd pi),.n .i64 0,.n .i64 0,.l [],.n .i64 0,.l [],.l []]] (.v (.b true))),(18,o_cr [.lf na (fQ (x1 (w3,e3))),.lf na (fQ (x1 (w4,e4))),.n .i64 (D % 12),.n .i64 (x % (vJJ .i64 ((vJJ .i64 (1 * 2 ^ (min (IntKind.u64.wrap (D % 12)).toNat 64))) + 1)))] (.v (.t [.lf na (fQ pt),.b true]))),(20,o_cr [.lf na (fQ pt)] (.v (.lf na (fB (ptA pt))))),(19,o_cr [.a [.lf na (fJ ja),.lf ga (fM ma)],.lf d (fC ce),.lf na (fB (ptA pt))] (.v (.b true)))]) (m:=[]) ⟨qQI hA,qQI hR,jQQ hX,Sn.ok_rn,qQI hW,qQI hP,qQI hQ,qQI hT,qQI hB,qQI hH,trivial⟩ trivial) (fun p S hp => ?_) ?_
 ·refine yX (L:=qG Tf 5) (l:=(yGV w1 w2 w3 w4 e1 e2 e3 e4 nn D x ja ma na ga x1 ce d cnt pd pi pt)) (show AllP _ (yGV w1 w2 w3 w4 e1 e2 e3 e4 nn D x ja ma na ga x1 ce d cnt pd pi pt) from trivial) p S hp
 ·refine (pxlw1 w1 w2 w3 w4 e1 e2 e3 e4 nn D x ja ma na ga x1 ce d cnt pd pi pt).trans ?_;have hu:0≤IntKind.u64.wrap (D % 12):=by rw [yKF ⟨by omega,by omega⟩]; omega
  simp only [g1_t,yUV b3,yUV b4,qXZ (C:=crn) (t:=(nn,3)) ⟨by decide,by decide⟩,qXZ (C:=crn) (t:=(D,12)) ⟨by decide,by decide⟩,qXZ (C:=crn) (t:=(x,(vJJ .i64 ((vJJ .i64 (1 * 2 ^ (min (IntKind.u64.wrap (D % 12)).toNat 64))) + 1)))) hK,vJQ hu,decide_true,vYV,vYG,Bool.not_false,Bool.not_true]
theorem lim_of {js:Nat→J} {n:Nat} (h:∀ v,v < n→JM v (js v)):zJG js n:=fun v hv=>by
 have h0:=(h v hv).2.1;unfold JF at h0;obtain ⟨_,_,_,_,_,⟨a,b,c⟩,_⟩:=h0;have hk:limK (js v).kind≤4194304:=by
  unfold limK;split
  ·decide
  ·split <;> decide
 omega
theorem exR_le (h b:Int→Int→Bool) (y:Int→Int→Int):∀ (x:Nat) (d i:Int) (s:Exs),s.1≤4096→(exR h b y x d i s).2.1≤4096:=by
 intro x;induction x with
 | zero =>
  intro d i s hs;rw [exR];split
  ·exact Nat.zero_le _
  split
  ·show s.1 + 1≤4096; omega
  split
  ·exact Nat.zero_le _
  ·exact Nat.zero_le _
 | succ x ih =>
  intro d i s hs;rw [exR];split
  ·exact Nat.zero_le _
  split
  ·show s.1 + 1≤4096; omega
  split
  ·exact Nat.zero_le _
  ·split
   ·exact ih _ _ _ (ih _ _ _ hs)
   ·exact ih _ _ _ hs
theorem firstK_bad {good:Nat→Bool}:∀ {k p:Nat},allN good k p=false→p≤firstK good k p∧firstK good k p < p + k∧good (firstK good k p)=false
 | 0,p,h=>by cases h
 | k + 1,p,h=>by
  unfold firstK;cases hg:good p with
  | false=>exact ⟨Nat.le_refl _,by show p < _; omega,hg⟩
  | true =>
   unfold allN at h;rw [hg,vZH] at h;obtain ⟨h1,h2,h3⟩:=firstK_bad h;exact ⟨by show p≤firstK good k (p + 1); omega,by show firstK good k (p + 1) < _; omega,h3⟩
theorem brk_at {cs:Nat→Cn} {vs:Nat→Iv} {c:Nat} (h:(!nbrB cs vs c)=true):0≤brkI cs vs c∧brkI cs vs c < c∧outR (cs (brkI cs vs c).toNat) (vs (brkI cs vs c).toNat)=true:=by
 have h':nbrB cs vs c=false:=by simpa using h
 unfold nbrB at h';obtain ⟨_,h2,h3⟩:=firstK_bad h';have e:brkI cs vs c=((firstK (fun i:Nat => !(outR (cs i) (vs i))) c 0:Nat):Int):=by
  unfold brkI nbrB;rw [h']; rfl
 rw [e];refine ⟨by omega,by omega,?_⟩;rw [Int.toNat_natCast]
 simpa using h3
theorem mdr_of {js:Nat→J} {n:Nat} (hn:1≤n∧n≤3) (h:∀ v,v < n→JM v (js v)):Mdr js n:=by
 refine ⟨hn,fun v hv => ?_,fun v hv=>(h v hv).2.2⟩;obtain ⟨_,_,a,b,c,_⟩:=(h v hv).2.1;exact ⟨a,b,c⟩
theorem k12 (D:Int):0 < (vJJ .i64 ((vJJ .i64 (1 * 2 ^ (min (IntKind.u64.wrap (D % 12)).toNat 64))) + 1))∧(vJJ .i64 ((vJJ .i64 (1 * 2 ^ (min (IntKind.u64.wrap (D % 12)).toNat 64))) + 1))≤9223372036854775807∧(vJJ .i64 ((vJJ .i64 (1 * 2 ^ (min (IntKind.u64.wrap (D % 12)).toNat 64))) + 1))=2 ^ (D % 12).toNat + 1:=by
 have h0:0≤D % 12:=by omega
 have h1:D % 12 < 12:=by omega
 generalize D % 12=z at h0 h1;obtain ⟨n,rfl⟩:∃ n:Nat,z=(n:Int):=⟨z.toNat,by omega⟩
 have:∀ n:Nat,n < 12→0 < vJJ .i64 ((vJJ .i64 (1 * 2 ^ (min (IntKind.u64.wrap (n:Int)).toNat 64))) + 1)∧vJJ .i64 ((vJJ .i64 (1 * 2 ^ (min (IntKind.u64.wrap (n:Int)).toNat 64))) + 1)≤9223372036854775807∧vJJ .i64 ((vJJ .i64 (1 * 2 ^ (min (IntKind.u64.wrap (n:Int)).toNat 64))) + 1)=2 ^ (n:Int).toNat + 1:=by decide
 exact this n (by omega)
theorem snd_inst (ja:Nat→J) (ma:Nat→Ms) (na ga:Nat) (hr:Mdr ja na) (x1:Nat × (Nat→Int)→Nat→Int) (ce:Nat→Cn) (d:Nat) (w1 w2 w3 w4:Nat) (e1 e2 e3 e4:Nat→Int) (nn D x:Int) (hA:zH Tryz.prog 7 [] (.v (.b true))) (hR:zH Tryz.prog 8 [.lf w1 (fQ e1)] (.v (.a [.lf na (fJ ja),.lf ga (fM ma)]))) (hX:∀ t,ccf t→zH Tryz.prog 9 (ecf ja ma na ga t) (.v (.lf na (fQ (x1 t))))) (hW:zH Tryz.prog 13 [.a [.lf na (fJ ja),.lf ga (fM ma)],.n .i64 (nn % 3),.lf w2 (fQ e2)] (.v (.lf d (fC ce)))) (b3:w3≤9223372036854775807) (b4:w4≤9223372036854775807):zH Tryz.prog 5 [.lf w1 (fQ e1),.lf w2 (fQ e2),.lf w3 (fQ e3),.lf w4 (fQ e4),.n .i64 nn,.n .i64 D,.n .i64 x] (.v (.b true)):=by
 have hP:=snd_pr ja ma na ga ce d (x1 (w3,e3)) (x1 (w4,e4)) na na 5;have hn3:=hr.1;cases hk:okE ja ma na ga ce d (x1 (w3,e3)) (x1 (w4,e4)) na na 5 with
 | false =>
  have e:prE ja ma na ga ce d (x1 (w3,e3)) (x1 (w4,e4)) na na 5=(0,z0,z0,0,0,0,0):=by unfold prE; rw [hk]; rfl
  rw [e] at hP;exact snd_lw0 w1 w2 w3 w4 e1 e2 e3 e4 nn D x ja ma na ga x1 ce d 0 0 hA hR hX hW b3 b4 hP (snd_ac0 ja ma na ga ce d (x1 (w3,e3)) (x1 (w4,e4)) na na 0 0)
 | true =>
  have hk':=hk;unfold okE at hk';simp only [vQJ,decide_eq_true_eq] at hk';obtain ⟨hc,hp,hq,_⟩:=hk';have hc8:=(qKE hc).2.1;have hend:=exR_end (hE ja ma na ga ce d (x1 (w3,e3)) (x1 (w4,e4)) na) (bE ja ma na ga ce d (x1 (w3,e3)) (x1 (w4,e4)) na) (yE ja ma na ga ce d (x1 (w3,e3)) (x1 (w4,e4)) na) (D:=5) (by decide) 5 0 0 (0,z0,z0,0,0,0,0) (by decide) ⟨by decide,by decide,by decide,by decide⟩;have hle:=exR_le (hE ja ma na ga ce d (x1 (w3,e3)) (x1 (w4,e4)) na) (bE ja ma na ga ce d (x1 (w3,e3)) (x1 (w4,e4)) na) (yE ja ma na ga ce d (x1 (w3,e3)) (x1 (w4,e4)) na) 5 0 0 (0,z0,z0,0,0,0,0) (Nat.zero_le _);have ex:exP ja ma na ga ce d (x1 (w3,e3)) (x1 (w4,e4)) na 5=exR (hE ja ma na ga ce d (x1 (w3,e3)) (x1 (w4,e4)) na) (bE ja ma na ga ce d (x1 (w3,e3)) (x1 (w4,e4)) na) (yE ja ma na ga ce d (x1 (w3,e3)) (x1 (w4,e4)) na) 5 0 0 (0,z0,z0,0,0,0,0):=rfl;generalize exR (hE ja ma na ga ce d (x1 (w3,e3)) (x1 (w4,e4)) na) (bE ja ma na ga ce d (x1 (w3,e3)) (x1 (w4,e4)) na) (yE ja ma na ga ce d (x1 (w3,e3)) (x1 (w4,e4)) na) 5 0 0 (0,z0,z0,0,0,0,0)=r at hend hle ex;rcases hend with ⟨r1,_,_,r4,r5⟩ | ⟨r1,a,b,r2,r3⟩
  ·obtain ⟨f,cnt,pd,pi,z1,z2,z3,z4⟩:=r;cases r1;cases r5;have e:prE ja ma na ga ce d (x1 (w3,e3)) (x1 (w4,e4)) na na 5=(cnt,pd,pi,1,0,0,0):=by unfold prE; rw [hk,ex]; rfl
   rw [e] at hP;have hs:Seg (hE ja ma na ga ce d (x1 (w3,e3)) (x1 (w4,e4)) na) 0 cnt pd pi 0 1048576:=by
    have:(0:Int) * tLen 0=0∧(0:Int) * tLen 0 + tLen 0=1048576:=by decide
    rw [this.2,this.1] at r4;exact r4
   have hs':=hs;obtain ⟨pl,p1,p2,p3⟩:=hs';have hv:PrvP ja ma na ga ce d (x1 (w3,e3)) (x1 (w4,e4)) na cnt pd pi pl:=by
    refine ⟨⟨hle,p1,p2,fun v hv => ?_⟩,by omega,by omega,hc,fun v hv => ?_⟩
    ·obtain ⟨q1,_,q3,q4⟩:=p3 v (Nat.zero_le _) hv;exact ⟨q1,q3,q4⟩
    ·obtain ⟨q1,q2,_,_⟩:=p3 v (Nat.zero_le _) hv;obtain ⟨u1,u2⟩:=yKK hp hq (pd v) (pi v) q1.1 q1.2.1 q1.2.2.1 q1.2.2.2;exact ⟨u1,u2,q2⟩
   obtain ⟨k1,k2,k3⟩:=k12 D;have hj:0≤x % (vJJ .i64 ((vJJ .i64 (1 * 2 ^ (min (IntKind.u64.wrap (D % 12)).toNat 64))) + 1))∧x % (vJJ .i64 ((vJJ .i64 (1 * 2 ^ (min (IntKind.u64.wrap (D % 12)).toNat 64))) + 1))≤2 ^ (D % 12).toNat:=by
    rw [k3] at k1 ⊢;have q1:=Int.emod_nonneg x (show (2:Int) ^ (D % 12).toNat + 1 ≠ 0 by omega);have q2:=Int.emod_lt_of_pos x k1;omega
   obtain ⟨i1,i2,i3,i4⟩:=inst_free hr hc hp hq hs (d:=D % 12) (j:=x % (vJJ .i64 ((vJJ .i64 (1 * 2 ^ (min (IntKind.u64.wrap (D % 12)).toNat 64))) + 1))) ⟨by omega,by omega⟩ hj;refine snd_lw1 w1 w2 w3 w4 e1 e2 e3 e4 nn D x ja ma na ga x1 ce d cnt pd pi (aQ (x1 (w3,e3)) (x1 (w4,e4)) (D % 12) (x % (vJJ .i64 ((vJJ .i64 (1 * 2 ^ (min (IntKind.u64.wrap (D % 12)).toNat 64))) + 1)))) hA hR hX hW b3 b4 hP (snd_ac1 ja ma na ga ce d (x1 (w3,e3)) (x1 (w4,e4)) na cnt pd pi pl hv hp hq) (snd_at _ _ _ _ _ _ (by omega) (by omega) i1) (snd_rbx _ _ (by omega) i3) ?_ ⟨k1,k2⟩;have h:=snd_PH ja ma (ptA (aQ (x1 (w3,e3)) (x1 (w4,e4)) (D % 12) (x % (vJJ .i64 ((vJJ .i64 (1 * 2 ^ (min (IntKind.u64.wrap (D % 12)).toNat 64))) + 1))))) na ga na ce d;rw [hc,i2,i4] at h;exact h
  ·rcases r3 with r3 | ⟨r3,r4⟩
   ·obtain ⟨f,r⟩:=r;cases r1;cases r3;have e:prE ja ma na ga ce d (x1 (w3,e3)) (x1 (w4,e4)) na na 5=(0,z0,z0,0,a,b,0):=by unfold prE; rw [hk,ex]; rfl
    rw [e] at hP;exact snd_lw0 w1 w2 w3 w4 e1 e2 e3 e4 nn D x ja ma na ga x1 ce d a b hA hR hX hW b3 b4 hP (snd_ac0 ja ma na ga ce d (x1 (w3,e3)) (x1 (w4,e4)) na na a b)
   ·obtain ⟨f,r⟩:=r;cases r1;cases r4;have e:prE ja ma na ga ce d (x1 (w3,e3)) (x1 (w4,e4)) na na 5=(0,z0,z0,2,a,b,yE ja ma na ga ce d (x1 (w3,e3)) (x1 (w4,e4)) na a b):=by unfold prE; rw [hk,ex]; rfl
    rw [e] at hP;obtain ⟨b1,b2,b3'⟩:=brk_at r3;obtain ⟨u1,u2⟩:=yKK hp hq a b r2.1 r2.2.1 r2.2.2.1 r2.2.2.2;obtain ⟨i1,i2,i3,i4⟩:=inst_coll hr hc hp hq r2 (u:=(yE ja ma na ga ce d (x1 (w3,e3)) (x1 (w4,e4)) na a b).toNat) (by have:yE ja ma na ga ce d (x1 (w3,e3)) (x1 (w4,e4)) na a b < d:=b2; have:0≤yE ja ma na ga ce d (x1 (w3,e3)) (x1 (w4,e4)) na a b:=b1; omega) b3';refine snd_lw2 w1 w2 w3 w4 e1 e2 e3 e4 nn D x ja ma na ga x1 ce d a b (yE ja ma na ga ce d (x1 (w3,e3)) (x1 (w4,e4)) na a b) (aQ (x1 (w3,e3)) (x1 (w4,e4)) a b) hA hR hX hW b3 b4 hP (snd_ac2 ja ma na ga ce d (x1 (w3,e3)) (x1 (w4,e4)) na a b _ hc hp hq (by omega) u1 u2 b1 b2 b3') (snd_at _ _ _ _ _ _ (by omega) (by omega) i1) (snd_rbx _ _ (by omega) i3) ?_;have h:=snd_PH ja ma (ptA (aQ (x1 (w3,e3)) (x1 (w4,e4)) a b)) na ga na ce d;rw [hc,i2,i4] at h;exact h
theorem snd_law (la lb lc ld:List Int) (nn D x:Int) (ha:la.length≤9223372036854775807) (hb:lb.length≤9223372036854775807) (hc:lc.length≤9223372036854775807) (hd:ld.length≤9223372036854775807) (hA:zH Tryz.prog 7 [] (.v (.b true))) :
  zH Tryz.prog 5 [zXB la,zXB lb,zXB lc,zXB ld,.n .i64 nn,.n .i64 D,.n .i64 x] (.v (.b true)):=by
 have hr:=(rbF_ok (t:=(la.length,0,iqOf la)) ⟨Nat.zero_le _,ha⟩).1;have hlim:=lim_of hr.2.2.2.1;obtain ⟨x1,hX⟩:=choose_all (fun _=>0) (C:=ccf) (R:=fun t x=>zH Tryz.prog 9 (ecf (rbF (la.length,0,iqOf la)).1 (rbF (la.length,0,iqOf la)).2.1 (rbF (la.length,0,iqOf la)).2.2.1 (rbF (la.length,0,iqOf la)).2.2.2.1 t) (.v (.lf (rbF (la.length,0,iqOf la)).2.2.1 (fQ x)))) fun t ht=>by
  have h3:=hr.2.1.2;obtain ⟨q,_,hq⟩:=cfg_ex t.1 t.2 (rbF (la.length,0,iqOf la)).1 (rbF (la.length,0,iqOf la)).2.1 (rbF (la.length,0,iqOf la)).2.2.1 (rbF (la.length,0,iqOf la)).2.2.2.1 ht (Nat.le_trans h3 (by decide)) hlim;exact ⟨q,hq⟩
 have hn3:1≤(rbF (la.length,0,iqOf la)).2.2.1∧(rbF (la.length,0,iqOf la)).2.2.1≤50:=⟨hr.2.1.1,Nat.le_trans hr.2.1.2 (by decide)⟩
 have hu:nn % 3=(((nn % 3).toNat:Nat):Int):=by omega
 obtain ⟨ce,hW⟩:=wide_ex lb.length (iqOf lb) (rbF (la.length,0,iqOf la)).1 (rbF (la.length,0,iqOf la)).2.1 _ (rbF (la.length,0,iqOf la)).2.2.2.1 (nn % 3).toNat hb hn3 (by omega);rw [← hu] at hW;refine snd_args (fun F w vals h=>Sames.al (xs:=[zXB la,zXB lb,zXB lc,zXB ld,.n .i64 nn,.n .i64 D,.n .i64 x]) (ys:=[.lf la.length (fQ (iqOf la)),.lf lb.length (fQ (iqOf lb)),.lf lc.length (fQ (iqOf lc)),.lf ld.length (fQ (iqOf ld)),.n .i64 nn,.n .i64 D,.n .i64 x]) ⟨zQX la,zQX lb,zQX lc,zQX ld,Same.refl _,Same.refl _,Same.refl _,trivial⟩ h) ?_;exact snd_inst _ _ _ _ (mdr_of hr.2.1 hr.2.2.2.1) x1 ce _ _ _ _ _ _ _ _ _ nn D x hA (snd_Rob _ _ ha) hX hW hc hd
end Go.Proofs.YtbfcbojgnppacaaGreat.Uf
namespace Go.Proofs.YtbfcbojgnppacaaGreat.Ax
open Go.Rx Rt
noncomputable def k128:List (List PV × Ret):=[([.a [.n .i64 65536,.n .i64 65536,.n .i64 0,.n .i64 0,.n .i64 0,.n .i64 0,.n .i64 0,.n .i64 0,.n .i64 65536,.n .i64 65536,.n .i64 0,.n .i64 0,.n .i64 0,.n .i64 0,.n .i64 0,.n .i64 0,.n .i64 65536,.n .i64 65536,.n .i64 0,.n .i64 0,.n .i64 0,.n .i64 0,.n .i64 0,.n .i64 0],.a [.n .i64 65536,.n .i64 65536,.n .i64 0,.n .i64 0,.n .i64 0,.n .i64 0,.n .i64 0,.n .i64 0,.n .i64 65536,.n .i64 65536,.n .i64 0,.n .i64 0,.n .i64 0,.n .i64 0,.n .i64 0,.n .i64 0,.n .i64 65536,.n .i64 65536,.n .i64 3,.n .i64 4,.n .i64 0,.n .i64 0,.n .i64 0,.n .i64 0]],.v (.a [.n .i64 65536,.n .i64 65536,.n .i64 0,.n .i64 0,.n .i64 0,.n .i64 0,.n .i64 0,.n .i64 0,.n .i64 65536,.n .i64 65536,.n .i64 0,.n .i64 0,.n .i64 0,.n .i64 0,.n .i64 0,.n .i64 0,.n .i64 65536,.n .i64 65536,.n .i64 3,.n .i64 4,.n .i64 0,.n .i64 0,.n .i64 0,.n .i64 0])),
 ([.a [.n .i64 65536,.n .i64 65536,.n .i64 0,.n .i64 0,.n .i64 0,.n .i64 0,.n .i64 0,.n .i64 0,.n .i64 65536,.n .i64 65536,.n .i64 0,.n .i64 0,.n .i64 0,.n .i64 0,.n .i64 0,.n .i64 0,.n .i64 65536,.n .i64 65536,.n .i64 0,.n .i64 0,.n .i64 0,.n .i64 0,.n .i64 0,.n .i64 0],.a [.n .i64 65536,.n .i64 65536,.n .i64 0,.n .i64 0,.n .i64 0,.n .i64 0,.n .i64 0,.n .i64 0,.n .i64 65536,.n .i64 65536,.n .i64 0,.n .i64 0,.n .i64 0,.n .i64 0,.n .i64 0,.n .i64 0,.n .i64 65536,.n .i64 65536,.n .i64 0,.n .i64 0,.n .i64 5,.n .i64 7,.n .i64 0,.n .i64 0]],.v (.a [.n .i64 65536,.n .i64 65536,.n .i64 0,.n .i64 0,.n .i64 0,.n .i64 0,.n .i64 0,.n .i64 0,.n .i64 65536,.n .i64 65536,.n .i64 0,.n .i64 0,.n .i64 0,.n .i64 0,.n .i64 0,.n .i64 0,.n .i64 65536,.n .i64 65536,.n .i64 0,.n .i64 0,.n .i64 5,.n .i64 7,.n .i64 0,.n .i64 0])),
 ([.a [.n .i64 65536,.n .i64 65536,.n .i64 0,.n .i64 0,.n .i64 0,.n .i64 0,.n .i64 0,.n .i64 0,.n .i64 65536,.n .i64 65536,.n .i64 0,.n .i64 0,.n .i64 0,.n .i64 0,.n .i64 0,.n .i64 0,.n .i64 65536,.n .i64 65536,.n .i64 3,.n .i64 4,.n .i64 0,.n .i64 0,.n .i64 0,.n .i64 0],.a [.n .i64 65536,.n .i64 65536,.n .i64 0,.n .i64 0,.n .i64 0,.n .i64 0,.n .i64 0,.n .i64 0,.n .i64 65536,.n .i64 65536,.n .i64 0,.n .i64 0,.n .i64 0,.n .i64 0,.n .i64 0,.n .i64 0,.n .i64 65536,.n .i64 65536,.n .i64 0,.n .i64 0,.n .i64 5,.n .i64 7,.n .i64 0,.n .i64 0]],.v (.a [.n .i64 65536,.n .i64 65536,.n .i64 0,.n .i64 0,.n .i64 0,.n .i64 0,.n .i64 0,.n .i64 0,.n .i64 65536,.n .i64 65536,.n .i64 0,.n .i64 0,.n .i64 0,.n .i64 0,.n .i64 0,.n .i64 0,.n .i64 65536,.n .i64 65536,.n .i64 3,.n .i64 4,.n .i64 5,.n .i64 7,.n .i64 0,.n .i64 0])),
 ([.a [.n .i64 65536,.n .i64 65536,.n .i64 0,.n .i64 0,.n .i64 0,.n .i64 0,.n .i64 0,.n .i64 0,.n .i64 65536,.n .i64 65536,.n .i64 0,.n .i64 0,.n .i64 0,.n .i64 0,.n .i64 0,.n .i64 0,.n .i64 65536,.n .i64 65536,.n .i64 0,.n .i64 0,.n .i64 0,.n .i64 0,.n .i64 0,.n .i64 0],.a [.n .i64 65536,.n .i64 65536,.n .i64 0,.n .i64 0,.n .i64 0,.n .i64 0,.n .i64 0,.n .i64 0,.n .i64 65536,.n .i64 65536,.n .i64 0,.n .i64 0,.n .i64 0,.n .i64 0,.n .i64 0,.n .i64 0,.n .i64 65536,.n .i64 65536,.n .i64 0,.n .i64 64,.n .i64 0,.n .i64 0,.n .i64 0,.n .i64 0]],.v (.a [.n .i64 65536,.n .i64 65536,.n .i64 0,.n .i64 0,.n .i64 0,.n .i64 0,.n .i64 0,.n .i64 0,.n .i64 65536,.n .i64 65536,.n .i64 0,.n .i64 0,.n .i64 0,.n .i64 0,.n .i64 0,.n .i64 0,.n .i64 65536,.n .i64 65536,.n .i64 0,.n .i64 64,.n .i64 0,.n .i64 0,.n .i64 0,.n .i64 0])),
 ([.a [.n .i64 65536,.n .i64 65536,.n .i64 0,.n .i64 0,.n .i64 0,.n .i64 0,.n .i64 0,.n .i64 0,.n .i64 65536,.n .i64 65536,.n .i64 0,.n .i64 0,.n .i64 0,.n .i64 0,.n .i64 0,.n .i64 0,.n .i64 65536,.n .i64 65536,.n .i64 0,.n .i64 0,.n .i64 0,.n .i64 0,.n .i64 0,.n .i64 0],.a [.n .i64 65536,.n .i64 65536,.n .i64 0,.n .i64 0,.n .i64 0,.n .i64 0,.n .i64 0,.n .i64 0,.n .i64 65536,.n .i64 65536,.n .i64 0,.n .i64 0,.n .i64 0,.n .i64 0,.n .i64 0,.n .i64 0,.n .i64 65536,.n .i64 65536,.n .i64 0,.n .i64 0,.n .i64 2,.n .i64 8,.n .i64 0,.n .i64 0]],.v (.a [.n .i64 65536,.n .i64 65536,.n .i64 0,.n .i64 0,.n .i64 0,.n .i64 0,.n .i64 0,.n .i64 0,.n .i64 65536,.n .i64 65536,.n .i64 0,.n .i64 0,.n .i64 0,.n .i64 0,.n .i64 0,.n .i64 0,.n .i64 65536,.n .i64 65536,.n .i64 0,.n .i64 0,.n .i64 2,.n .i64 8,.n .i64 0,.n .i64 0])),
 ([.a [.n .i64 65536,.n .i64 65536,.n .i64 0,.n .i64 0,.n .i64 0,.n .i64 0,.n .i64 0,.n .i64 0,.n .i64 65536,.n .i64 65536,.n .i64 0,.n .i64 0,.n .i64 0,.n .i64 0,.n .i64 0,.n .i64 0,.n .i64 65536,.n .i64 65536,.n .i64 0,.n .i64 64,.n .i64 0,.n .i64 0,.n .i64 0,.n .i64 0],.a [.n .i64 65536,.n .i64 65536,.n .i64 0,.n .i64 0,.n .i64 0,.n .i64 0,.n .i64 0,.n .i64 0,.n .i64 65536,.n .i64 65536,.n .i64 0,.n .i64 0,.n .i64 0,.n .i64 0,.n .i64 0,.n .i64 0,.n .i64 65536,.n .i64 65536,.n .i64 0,.n .i64 0,.n .i64 2,.n .i64 8,.n .i64 0,.n .i64 0]],.v (.a [.n .i64 65536,.n .i64 65536,.n .i64 0,.n .i64 0,.n .i64 0,.n .i64 0,.n .i64 0,.n .i64 0,.n .i64 65536,.n .i64 65536,.n .i64 0,.n .i64 0,.n .i64 0,.n .i64 0,.n .i64 0,.n .i64 0,.n .i64 65536,.n .i64 65536,.n .i64 0,.n .i64 64,.n .i64 2,.n .i64 8,.n .i64 0,.n .i64 0]))]
noncomputable def t128:Known:=(128,k128) :: ([]:Known)
theorem ok128:Known.Ok Tryz.prog t128:=Known.add yH yZ (Known.nil _) (N:=60) (by kernel_rfl)
noncomputable def k97:List (List PV × Ret):=[([.a [.l [[.s (ByteArray.mk #[97]),.n .i64 4,.n .i64 (-1),.n .i64 0,.n .i64 0,.n .i64 0,.n .i64 0,.n .i64 64,.n .i64 1,.n .i64 65536,.n .i64 65536,.n .i64 65536],[.s (ByteArray.mk #[98]),.n .i64 5,.n .i64 0,.n .i64 0,.n .i64 0,.n .i64 0,.n .i64 0,.n .i64 64,.n .i64 1,.n .i64 65536,.n .i64 65536,.n .i64 65536]],.l []],.l [[.n .i64 3,.n .i64 4],[.n .i64 5,.n .i64 7]]],.ow 129 24 (.l [[.n .i64 65536,.n .i64 65536,.n .i64 0,.n .i64 0,.n .i64 0,.n .i64 0,.n .i64 0,.n .i64 0,.n .i64 65536,.n .i64 65536,.n .i64 0,.n .i64 0,.n .i64 0,.n .i64 0,.n .i64 0,.n .i64 0,.n .i64 65536,.n .i64 65536,.n .i64 3,.n .i64 4,.n .i64 0,.n .i64 0,.n .i64 0,.n .i64 0],[.n .i64 65536,.n .i64 65536,.n .i64 0,.n .i64 0,.n .i64 0,.n .i64 0,.n .i64 0,.n .i64 0,.n .i64 65536,.n .i64 65536,.n .i64 0,.n .i64 0,.n .i64 0,.n .i64 0,.n .i64 0,.n .i64 0,.n .i64 65536,.n .i64 65536,.n .i64 3,.n .i64 4,.n .i64 5,.n .i64 7,.n .i64 0,.n .i64 0]])),
 ([.a [.l [[.s (ByteArray.mk #[97]),.n .i64 4,.n .i64 (-1),.n .i64 0,.n .i64 0,.n .i64 0,.n .i64 0,.n .i64 64,.n .i64 1,.n .i64 65536,.n .i64 65536,.n .i64 65536],[.s (ByteArray.mk #[98]),.n .i64 5,.n .i64 0,.n .i64 0,.n .i64 0,.n .i64 0,.n .i64 0,.n .i64 64,.n .i64 1,.n .i64 65536,.n .i64 65536,.n .i64 65536]],.l []],.l [[.n .i64 0,.n .i64 64],[.n .i64 2,.n .i64 8]]],.ow 129 24 (.l [[.n .i64 65536,.n .i64 65536,.n .i64 0,.n .i64 0,.n .i64 0,.n .i64 0,.n .i64 0,.n .i64 0,.n .i64 65536,.n .i64 65536,.n .i64 0,.n .i64 0,.n .i64 0,.n .i64 0,.n .i64 0,.n .i64 0,.n .i64 65536,.n .i64 65536,.n .i64 0,.n .i64 64,.n .i64 0,.n .i64 0,.n .i64 0,.n .i64 0],[.n .i64 65536,.n .i64 65536,.n .i64 0,.n .i64 0,.n .i64 0,.n .i64 0,.n .i64 0,.n .i64 0,.n .i64 65536,.n .i64 65536,.n .i64 0,.n .i64 0,.n .i64 0,.n .i64 0,.n .i64 0,.n .i64 0,.n .i64 65536,.n .i64 65536,.n .i64 0,.n .i64 64,.n .i64 2,.n .i64 8,.n .i64 0,.n .i64 0]]))]
noncomputable def t97:Known:=(97,k97) :: t128
theorem ok97:Known.Ok Tryz.prog t97:=Known.add yH yZ (ok128) (N:=60) (by kernel_rfl)
noncomputable def k67:List (List PV × Ret):=[([.a [.l [[.s (ByteArray.mk #[97]),.n .i64 4,.n .i64 (-1),.n .i64 0,.n .i64 0,.n .i64 0,.n .i64 0,.n .i64 64,.n .i64 1,.n .i64 65536,.n .i64 65536,.n .i64 65536],[.s (ByteArray.mk #[98]),.n .i64 5,.n .i64 0,.n .i64 0,.n .i64 0,.n .i64 0,.n .i64 0,.n .i64 64,.n .i64 1,.n .i64 65536,.n .i64 65536,.n .i64 65536]],.l []],.l [[.n .i64 3,.n .i64 4],[.n .i64 5,.n .i64 7]]],.v (.l [[.n .i64 65536,.n .i64 65536,.n .i64 0,.n .i64 0,.n .i64 0,.n .i64 0,.n .i64 0,.n .i64 0,.n .i64 65536,.n .i64 65536,.n .i64 0,.n .i64 0,.n .i64 0,.n .i64 0,.n .i64 0,.n .i64 0,.n .i64 65536,.n .i64 65536,.n .i64 3,.n .i64 4,.n .i64 0,.n .i64 0,.n .i64 0,.n .i64 0],[.n .i64 65536,.n .i64 65536,.n .i64 0,.n .i64 0,.n .i64 0,.n .i64 0,.n .i64 0,.n .i64 0,.n .i64 65536,.n .i64 65536,.n .i64 0,.n .i64 0,.n .i64 0,.n .i64 0,.n .i64 0,.n .i64 0,.n .i64 65536,.n .i64 65536,.n .i64 3,.n .i64 4,.n .i64 5,.n .i64 7,.n .i64 0,.n .i64 0]])),
 ([.a [.l [[.s (ByteArray.mk #[97]),.n .i64 4,.n .i64 (-1),.n .i64 0,.n .i64 0,.n .i64 0,.n .i64 0,.n .i64 64,.n .i64 1,.n .i64 65536,.n .i64 65536,.n .i64 65536],[.s (ByteArray.mk #[98]),.n .i64 5,.n .i64 0,.n .i64 0,.n .i64 0,.n .i64 0,.n .i64 0,.n .i64 64,.n .i64 1,.n .i64 65536,.n .i64 65536,.n .i64 65536]],.l []],.l [[.n .i64 0,.n .i64 64],[.n .i64 2,.n .i64 8]]],.v (.l [[.n .i64 65536,.n .i64 65536,.n .i64 0,.n .i64 0,.n .i64 0,.n .i64 0,.n .i64 0,.n .i64 0,.n .i64 65536,.n .i64 65536,.n .i64 0,.n .i64 0,.n .i64 0,.n .i64 0,.n .i64 0,.n .i64 0,.n .i64 65536,.n .i64 65536,.n .i64 0,.n .i64 64,.n .i64 0,.n .i64 0,.n .i64 0,.n .i64 0],[.n .i64 65536,.n .i64 65536,.n .i64 0,.n .i64 0,.n .i64 0,.n .i64 0,.n .i64 0,.n .i64 0,.n .i64 65536,.n .i64 65536,.n .i64 0,.n .i64 0,.n .i64 0,.n .i64 0,.n .i64 0,.n .i64 0,.n .i64 65536,.n .i64 65536,.n .i64 0,.n .i64 64,.n .i64 2,.n .i64 8,.n .i64 0,.n .i64 0]]))]
noncomputable def t67:Known:=(67,k67) :: t97
theorem ok67:Known.Ok Tryz.prog t67:=Known.add yH yZ (ok97) (N:=60) (by kernel_rfl)
noncomputable def k39:List (List PV × Ret):=[([.a [.l [[.s (ByteArray.mk #[97]),.n .i64 4,.n .i64 (-1),.n .i64 0,.n .i64 0,.n .i64 0,.n .i64 0,.n .i64 64,.n .i64 1,.n .i64 65536,.n .i64 65536,.n .i64 65536],[.s (ByteArray.mk #[98]),.n .i64 5,.n .i64 0,.n .i64 0,.n .i64 0,.n .i64 0,.n .i64 0,.n .i64 64,.n .i64 1,.n .i64 65536,.n .i64 65536,.n .i64 65536]],.l []],.l [[.n .i64 0,.n .i64 1,.n .i64 0,.n .i64 0,.n .i64 0,.n .i64 0,.n .i64 1,.n .i64 0,.n .i64 0,.n .i64 9]],.l [[.n .i64 3,.n .i64 4],[.n .i64 5,.n .i64 7]]],.ow 62 2 (.l [[.n .i64 5,.n .i64 7]])),
 ([.a [.l [[.s (ByteArray.mk #[97]),.n .i64 4,.n .i64 (-1),.n .i64 0,.n .i64 0,.n .i64 0,.n .i64 0,.n .i64 64,.n .i64 1,.n .i64 65536,.n .i64 65536,.n .i64 65536],[.s (ByteArray.mk #[98]),.n .i64 5,.n .i64 0,.n .i64 0,.n .i64 0,.n .i64 0,.n .i64 0,.n .i64 64,.n .i64 1,.n .i64 65536,.n .i64 65536,.n .i64 65536]],.l []],.l [[.n .i64 0,.n .i64 1,.n .i64 0,.n .i64 0,.n .i64 0,.n .i64 0,.n .i64 1,.n .i64 0,.n .i64 0,.n .i64 9]],.l [[.n .i64 0,.n .i64 64],[.n .i64 2,.n .i64 8]]],.ow 62 2 (.l [[.n .i64 2,.n .i64 8]]))]
noncomputable def t39:Known:=(39,k39) :: t67
theorem ok39:Known.Ok Tryz.prog t39:=Known.add yH yZ (ok67) (N:=60) (by kernel_rfl)
theorem call:zH Tryz.prog 7 [] (.v (.b true)):=qWL (N:=60) yH yZ (Known.ok (ok39)) (by kernel_rfl:run T (Known.orc t39) 60 7 []=some (.v (.b true)))
end Go.Proofs.YtbfcbojgnppacaaGreat.Ax
namespace Go.Rx
open Go.RowKit Go.Sx Go.ChangeShapes Go.WideShapes
section
variable {P:Program} {W:World} {H:Type} {enc:TypeId × Value→H}
def zWY (W:World) (v:Value) (L:List Int):Prop:=RP (fun k=>k < W.heap.size) W (zXB L) v∧L.length≤9223372036854775807∧∀ x ∈ L,In64 x
theorem zVE {t e:TypeId} {v:Value} {d:DataW H} {p:List MemPlace} (ht:P.underlying t=some (.slice e)) (he:P.underlying e=some (.int .i64)) (hc:P.cellsOf e=1)
  {r:Reach} {base:Nat} (hv:Value.okWide P W r base t v) (h:DataW.Trod enc P W 0 (fun _=>true) true t v d p):∃ L:List Int,zWY W v L:=by
 obtain ⟨a,l,c,rfl⟩:=slice_of ht hv;obtain ⟨fuel,h⟩:=h;have h':DataW.trod enc P W 0 (fun _=>true) true fuel t [.slice a l c]=some (d,p):=h;rcases open_ints ht he hc h' with ⟨h1,_⟩ | ⟨a',len,cap,zs,h1,_,hlc,hcap,hz,_,hcell,hwf⟩
 ·simp at h1;obtain ⟨rfl,rfl,rfl⟩:=h1;exact ⟨[],.l0 none 0,by simp,fun x hx=>by cases hx⟩
 ·simp at h1;obtain ⟨rfl,rfl,rfl⟩:=h1;simp only [if_true] at hz;have hlen:(zs.take l).length=l:=by simp; omega
  have hI:IntsAt W W.heap.size (.slice (some a') l c) (zs.take l):=⟨by have:maxLen=9223372036854775807:=rfl; omega,some a',c,by rw [hlen],fun j hj=>by
   rw [hlen] at hj;have h0:=hcell 0 (by omega);have hj':=hcell j (by omega);have hsp:a'.spot=none:=by
    have e:a'.add 0=a':=by simp [Addr.add]
    rw [e] at h0;unfold World.cell? at h0;cases hb:W.heap[a'.block]? with
    | none=>simp [hb] at h0
    | some o=>cases o <;> simp [hb] at h0; exact h0.1
   obtain ⟨bb,off,sp⟩:=a';simp only at hsp;subst hsp;rw [qUG] at hj';refine ⟨bb,off,rfl,?_,?_⟩
   ·unfold World.cell? at hj';cases hb:W.heap[bb]? with
    | none=>simp [hb] at hj'
    | some o=>exact qZF hb
   ·rw [hj'];simp [vZG,vZV,hj]⟩
  refine ⟨zs.take l,?_,hI.1,fun x hx => ?_⟩
  ·have:=rp_of_ints (F:=fun k=>k < W.heap.size) (w:=W) (L:=zs.take l) (a:=some a') (c:=c) (by rw [hlen]; exact hI) (by rw [hlen]; exact hlc) fun k hk=>hk
   rw [hlen] at this;exact this
  ·have:=hwf x (List.mem_of_mem_take hx)
   simpa [Lit.wf,IntKind.has,IntKind.min,IntKind.max,IntKind.signed,IntKind.bits,In64] using this
end
end Go.Rx
namespace Go.Proofs.YtbfcbojgnppacaaGreat
open Go.Rx Go.Sx Go.RowKit Od Nb
theorem wManifoldInstants (v0:Value) (L0:List Int) (v1:Value) (L1:List Int) (v2:Value) (L2:List Int) (v3:Value) (L3:List Int) (a4:Int) (a5:Int) (a6:Int) (W:World) (h0:zWY W v0 L0) (h1:zWY W v1 L1) (h2:zWY W v2 L2) (h3:zWY W v3 L3):Calls Tryz.prog 5 #[v0,v1,v2,v3,.int .i64 a4,.int .i64 a5,.int .i64 a6] W (Rets (.bool true) W) :=
 rets_of_sndR (Uf.snd_law _ _ _ _ _ _ _ h0.2.1 h1.2.1 h2.2.1 h3.2.1 Ax.call) rfl (qWH h0.1 (qWH h1.1 (qWH h2.1 (qWH h3.1 (qWH (.n _ _) (qWH (.n _ _) (qWH (.n _ _) yWF)))))))
end Go.Proofs.YtbfcbojgnppacaaGreat

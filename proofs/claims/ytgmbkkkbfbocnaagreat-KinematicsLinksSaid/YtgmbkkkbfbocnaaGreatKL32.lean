/- Part 32 of the texts behind the last one: rules and contracts. No condition. -/
import Derived.Test.YtgmbkkkbfbocnaaGreatKL31
open Option renaming bind_eq_some_iff → vQQ
open Option.some renaming injEq → vQZ
open Prod.mk renaming injEq → vQY
open Bool renaming and_eq_true → vQJ
open Go.IntKind renaming wrap → vJJ
namespace Go.Proofs.YtgmbkkkbfbocnaaGreat.Gd
open Go.Rx Rt Go.Sx Go.RowKit Od Na Nb Nc Nx Nf Ga Gb Gc
noncomputable def zQQ:List PV→Option (Bool × Ret):=fun ps=>match ps with
 | [.a z']=>(z3D z').bind fun z=>some (true,.v (.a (v3C (V3.of z))))
 | _=>none
theorem yZJ:zX Tryz.prog 36 zQQ:=by
 intro ps r h;unfold zQQ at h;split at h
 ·simp only [vQQ,vQZ,vQY] at h;obtain ⟨z,hz,hg,rfl⟩:=h;rw [jKJ hz];exact qK (qU Tryz.func36 (by kernel_rfl) (by kernel_rfl)) rfl rfl (fun w=>jKX _ _ _ w)
 ·cases h
noncomputable def L6:OrL:=(36,zQQ) :: L5
theorem kKX:AllP (fun x:Nat × (List PV→Option (Bool × Ret))=>zX Tryz.prog x.1 x.2) L6:=⟨yZJ,L5_ok⟩
noncomputable def yXY:List PV→Option (Bool × Ret):=fun ps=>match ps with
 | [.a p',.a v']=>(poD p').bind fun p=>(v3D v').bind fun v=>some (true,.v (.a (v3C (Po.app p v))))
 | _=>none
theorem ok_qApply:zX Tryz.prog 35 yXY:=by
 intro ps r h;unfold yXY at h;split at h
 ·simp only [vQQ,vQZ,vQY] at h;obtain ⟨p,hp,v,hv,hg,rfl⟩:=h;rw [yKY hp];rw [zZK hv];exact qK (qU Tryz.func35 (by kernel_rfl) (by kernel_rfl)) rfl rfl (fun w=>qApply _ _ _ _ _ _ _ _ _ _ _ _ _ _ _ _ _ _ _ _ _ _ _ _ _ _ _ _ _ _ w)
 ·cases h
noncomputable def L7:OrL:=(35,yXY) :: L6
theorem jHG:AllP (fun x:Nat × (List PV→Option (Bool × Ret))=>zX Tryz.prog x.1 x.2) L7:=⟨ok_qApply,kKX⟩
noncomputable def qKW:List PV→Option (Bool × Ret):=fun ps=>match ps with
 | []=>some (true,.v (.a (poC (Po.rest))))
 | _=>none
theorem zYQ:zX Tryz.prog 88 qKW:=by
 intro ps r h;unfold qKW at h;split at h
 ·simp only [vQZ,vQY] at h;obtain ⟨hg,rfl⟩:=h;exact qK (qU Tryz.func88 (by kernel_rfl) (by kernel_rfl)) rfl rfl (fun w=>pIdentity  w)
 ·cases h
noncomputable def L8:OrL:=(88,qKW) :: L7
theorem kKU:AllP (fun x:Nat × (List PV→Option (Bool × Ret))=>zX Tryz.prog x.1 x.2) L8:=⟨zYQ,jHG⟩
noncomputable def zKU:List PV→Option (Bool × Ret):=fun ps=>match ps with
 | []=>some (true,.v (.a (poC (Po.rest))))
 | _=>none
theorem yUW:zX Tryz.prog 90 zKU:=by
 intro ps r h;unfold zKU at h;split at h
 ·simp only [vQZ,vQY] at h;obtain ⟨hg,rfl⟩:=h;exact qK (qU Tryz.func90 (by kernel_rfl) (by kernel_rfl)) rfl rfl (fun w=>qRest  w)
 ·cases h
noncomputable def L9:OrL:=(90,zKU) :: L8
theorem kJY:AllP (fun x:Nat × (List PV→Option (Bool × Ret))=>zX Tryz.prog x.1 x.2) L9:=⟨yUW,kKU⟩
def fV (g:Nat→V3):Nat→List PV:=fun v=>Rx.v3C (g v)
def plF (s:Shp) (po:Po):Nat→V3:=fun i=>Po.app po (V3.of (s.pts i))
def unPo (r:List PV):Po:=match r with
 | [.n _ a0,.n _ a1,.n _ a2,.n _ a3,.n _ a4,.n _ a5,.n _ a6,.n _ a7,.n _ a8,.n _ a9,.n _ a10,.n _ a11,.n _ a12,.n _ a13,.n _ a14,.n _ a15,.n _ a16,.n _ a17,.n _ a18,.n _ a19,.n _ a20,.n _ a21,.n _ a22,.n _ a23]=>⟨⟨⟨⟨a0,a1⟩,⟨a2,a3⟩,⟨a4,a5⟩⟩,⟨⟨a6,a7⟩,⟨a8,a9⟩,⟨a10,a11⟩⟩,⟨⟨a12,a13⟩,⟨a14,a15⟩,⟨a16,a17⟩⟩⟩,⟨⟨a18,a19⟩,⟨a20,a21⟩,⟨a22,a23⟩⟩⟩
 | _=>Po.rest
def plN (s:Shp):Nat:=bif shOk s then s.np else 0
theorem jQG {s:Shp} (h:shOk s=true):1≤s.np∧s.np≤8:=by
 unfold shOk at h;simp only [vQJ,Bool.not_eq_true',Bool.or_eq_false_iff,decide_eq_false_iff_not] at h;omega
noncomputable def orPp (s:Shp) (po:Po):OrS:=orS ((103,o_pk) :: L9) []
noncomputable def hPp (s:Shp) (po:Po) (i:Int) (q:Nat→Nat→Int):St:=⟨[(3,.p 3 0),(5,.o 14),(16,.v (.lf s.np (fZ s.pts))),(17,.v (.n .i64 (s.np:Int))),(18,.v (.n .i64 i))],[(3,.blk [.v (.n .i64 (po).r.x.x.lo),.v (.n .i64 (po).r.x.x.hi),.v (.n .i64 (po).r.x.y.lo),.v (.n .i64 (po).r.x.y.hi),.v (.n .i64 (po).r.x.z.lo),.v (.n .i64 (po).r.x.z.hi),.v (.n .i64 (po).r.y.x.lo),.v (.n .i64 (po).r.y.x.hi),.v (.n .i64 (po).r.y.y.lo),.v (.n .i64 (po).r.y.y.hi),.v (.n .i64 (po).r.y.z.lo),.v (.n .i64 (po).r.y.z.hi),.v (.n .i64 (po).r.z.x.lo),.v (.n .i64 (po).r.z.x.hi),.v (.n .i64 (po).r.z.y.lo),.v (.n .i64 (po).r.z.y.hi),.v (.n .i64 (po).r.z.z.lo),.v (.n .i64 (po).r.z.z.hi),.v (.n .i64 (po).t.x.lo),.v (.n .i64 (po).t.x.hi),.v (.n .i64 (po).t.y.lo),.v (.n .i64 (po).t.y.hi),.v (.n .i64 (po).t.z.lo),.v (.n .i64 (po).t.z.hi)]),(14,.reg 66 6 (.fo (s.np:Int).toNat (fun v=>[.n .i64 (q v 0),.n .i64 (q v 1),.n .i64 (q v 2),.n .i64 (q v 3),.n .i64 (q v 4),.n .i64 (q v 5)])))]⟩
set_option maxRecDepth 100000 in
theorem rdPp (G:St→Option (Ret × Mem)) (K:Cont) (s:Shp) (po:Po) (i:Int) (q:Nat→Nat→Int):uX 60 (cxS Tf (orPp s po) 60 89 (ntmF Tf 89)) (evX Tf (orPp s po) 60 89 (ntmF Tf 89)) (qX []) (qQ Tf 89 [0,1,0,1,1,1]) [0,1,0,1,1,1] (Tf.hint 89 (qG (qQ Tf 89 [0,1,0,1,1,1]))) K G (hPp s po i q) =
 (bif (decide (i < (s.np:Int))) then (bif (inB i s.np) then (bif (inB i (s.np:Int).toNat) then (G (hPp s po (vJJ .i64 (i + 1)) (fun v k=>List.getD [(bif (Nat.beq v (i).toNat) then (Po.app (po) (V3.of (s.pts (i).toNat))).x.lo else (q v 0)),(bif (Nat.beq v (i).toNat) then (Po.app (po) (V3.of (s.pts (i).toNat))).x.hi else (q v 1)),(bif (Nat.beq v (i).toNat) then (Po.app (po) (V3.of (s.pts (i).toNat))).y.lo else (q v 2)),(bif (Nat.beq v (i).toNat) then (Po.app (po) (V3.of (s.pts (i).toNat))).y.hi else (q v 3)),(bif (Nat.beq v (i).toNat) then (Po.app (po) (V3.of (s.pts (i).toNat))).z.lo else (q v 4)),(bif (Nat.beq v (i).toNat) then (Po.app (po) (V3.of (s.pts (i).toNat))).z.hi else (q v 5))] k 0)))
 else none)
 else none)
 else (K (.exit 0) ⟨[(5,.o 14)],[(14,.reg 66 6 (.fo (s.np:Int).toNat (fun v=>[.n .i64 (q v 0),.n .i64 (q v 1),.n .i64 (q v 2),.n .i64 (q v 3),.n .i64 (q v 4),.n .i64 (q v 5)])))]⟩)):=by kernel_rfl
def nxPp (s:Shp) (po:Po) (i:Nat) (q:Nat→Nat→Int):Nat→Nat→Int:=fun v k=>List.getD [bif Nat.beq v i then (plF s po i).x.lo else q v 0,bif Nat.beq v i then (plF s po i).x.hi else q v 1,bif Nat.beq v i then (plF s po i).y.lo else q v 2,bif Nat.beq v i then (plF s po i).y.hi else q v 3,bif Nat.beq v i then (plF s po i).z.lo else q v 4,bif Nat.beq v i then (plF s po i).z.hi else q v 5] k 0
theorem lpPp (K:Cont) (s:Shp) (po:Po) (hk:s.np≤50):LFX 60 (cxS Tf (orPp s po) 60 89 (ntmF Tf 89)) (evX Tf (orPp s po) 60 89 (ntmF Tf 89)) (qX []) (qQ Tf 89 [0,1,0,1,1,1]) [0,1,0,1,1,1] (Tf.hint 89 (qG (qQ Tf 89 [0,1,0,1,1,1]))) K 60 (hPp s po 0 (fun v k=>List.getD [0,0,0,0,0,0] k 0))=(K (.exit 0) ⟨[(5,.o 14)],[(14,.reg 66 6 (.fo (s.np:Int).toNat (fun v=>[.n .i64 ((jZ (nxPp s po) s.np 0 (fun v k=>List.getD [0,0,0,0,0,0] k 0)) v 0),.n .i64 ((jZ (nxPp s po) s.np 0 (fun v k=>List.getD [0,0,0,0,0,0] k 0)) v 1),.n .i64 ((jZ (nxPp s po) s.np 0 (fun v k=>List.getD [0,0,0,0,0,0] k 0)) v 2),.n .i64 ((jZ (nxPp s po) s.np 0 (fun v k=>List.getD [0,0,0,0,0,0] k 0)) v 3),.n .i64 ((jZ (nxPp s po) s.np 0 (fun v k=>List.getD [0,0,0,0,0,0] k 0)) v 4),.n .i64 ((jZ (nxPp s po) s.np 0 (fun v k=>List.getD [0,0,0,0,0,0] k 0)) v 5)])))]⟩):=by
 refine (qJU (L:=LFX 60 (cxS Tf (orPp s po) 60 89 (ntmF Tf 89)) (evX Tf (orPp s po) 60 89 (ntmF Tf 89)) (qX []) (qQ Tf 89 [0,1,0,1,1,1]) [0,1,0,1,1,1] (Tf.hint 89 (qG (qQ Tf 89 [0,1,0,1,1,1]))) K) (stp:=uX 60 (cxS Tf (orPp s po) 60 89 (ntmF Tf 89)) (evX Tf (orPp s po) 60 89 (ntmF Tf 89)) (qX []) (qQ Tf 89 [0,1,0,1,1,1]) [0,1,0,1,1,1] (Tf.hint 89 (qG (qQ Tf 89 [0,1,0,1,1,1]))) K) (fun _ _=>rfl) (fun (i:Nat) (q:Nat→Nat→Int)=>hPp s po (i:Int) q) (fun _ _=>True) (fun _ _=>true) (nxPp s po) (c:=s.np) (fun q=>(K (.exit 0) ⟨[(5,.o 14)],[(14,.reg 66 6 (.fo (s.np:Int).toNat (fun v=>[.n .i64 (q v 0),.n .i64 (q v 1),.n .i64 (q v 2),.n .i64 (q v 3),.n .i64 (q v 4),.n .i64 (q v 5)])))]⟩)) (fun _ _=>none) (fun G i q hi _ => ?_) (fun _ _ _ _ _=>trivial) (fun G q _ => ?_) s.np 0 60 _ (by omega) (by omega) trivial).trans (qYQ s.np 0 _)
 ·refine (rdPp G K s po i q).trans ?_;simp only [vJQ (show (i:Int) < (s.np:Int) by omega),qZH (show i < 1000000 by omega),kX (show i < s.np by omega),toN,vYV]
  all_goals rfl
 ·refine (rdPp G K s po (s.np:Int) q).trans ?_;rw [vYH (show ¬ (s.np:Int) < (s.np:Int) by omega)];rfl
theorem rwPp (s:Shp) (po:Po):∀ v,v < s.np→(jZ (nxPp s po) s.np 0 (fun v k=>List.getD [0,0,0,0,0,0] k 0)) v 0=(plF s po v).x.lo∧(jZ (nxPp s po) s.np 0 (fun v k=>List.getD [0,0,0,0,0,0] k 0)) v 1=(plF s po v).x.hi∧(jZ (nxPp s po) s.np 0 (fun v k=>List.getD [0,0,0,0,0,0] k 0)) v 2=(plF s po v).y.lo∧(jZ (nxPp s po) s.np 0 (fun v k=>List.getD [0,0,0,0,0,0] k 0)) v 3=(plF s po v).y.hi∧(jZ (nxPp s po) s.np 0 (fun v k=>List.getD [0,0,0,0,0,0] k 0)) v 4=(plF s po v).z.lo∧(jZ (nxPp s po) s.np 0 (fun v k=>List.getD [0,0,0,0,0,0] k 0)) v 5=(plF s po v).z.hi:=by
 refine qKJ (Q:=fun (i:Nat) (q:Nat→Nat→Int)=>∀ v,v < i→q v 0=(plF s po v).x.lo∧q v 1=(plF s po v).x.hi∧q v 2=(plF s po v).y.lo∧q v 3=(plF s po v).y.hi∧q v 4=(plF s po v).z.lo∧q v 5=(plF s po v).z.hi) (c:=s.np) (fun i q hi h v hv => ?_) s.np 0 _ (by omega) (fun v hv=>absurd hv (by omega));by_cases e:v=i
 ·subst e;refine ⟨?_,?_,?_,?_,?_,?_⟩ <;> (show (bif Nat.beq v v then _ else _)=_; rw [qWX,vJQ rfl]; rfl)
 ·have h':=h v (by omega);have eb:Nat.beq v i=false:=by rw [qWX,vYH e]
  refine ⟨?_,?_,?_,?_,?_,?_⟩ <;> (show (bif Nat.beq v i then _ else _)=_; rw [eb])
  ·exact h'.1
  ·exact h'.2.1
  ·exact h'.2.2.1
  ·exact h'.2.2.2.1
  ·exact h'.2.2.2.2.1
  ·exact h'.2.2.2.2.2
def plR (s:Shp) (po:Po):Nat→List PV:=(fun v=>[.n .i64 ((jZ (nxPp s po) s.np 0 (fun v k=>List.getD [0,0,0,0,0,0] k 0)) v 0),.n .i64 ((jZ (nxPp s po) s.np 0 (fun v k=>List.getD [0,0,0,0,0,0] k 0)) v 1),.n .i64 ((jZ (nxPp s po) s.np 0 (fun v k=>List.getD [0,0,0,0,0,0] k 0)) v 2),.n .i64 ((jZ (nxPp s po) s.np 0 (fun v k=>List.getD [0,0,0,0,0,0] k 0)) v 3),.n .i64 ((jZ (nxPp s po) s.np 0 (fun v k=>List.getD [0,0,0,0,0,0] k 0)) v 4),.n .i64 ((jZ (nxPp s po) s.np 0 (fun v k=>List.getD [0,0,0,0,0,0] k 0)) v 5)])
noncomputable def jUQ (s:Shp) (po:Po):List (List Nat × kV):=[([0,1,0,1,1,1],sumF (fun _:Unit=>(hPp s po 0 (fun v k=>List.getD [0,0,0,0,0,0] k 0))) (fun _=>()) (fun _ K=>(bif (decide (s.np≤50)) then (K (.exit 0) ⟨[(5,.o 14)],[(14,.reg 66 6 (.fo (s.np:Int).toNat (fun v=>[.n .i64 ((jZ (nxPp s po) s.np 0 (fun v k=>List.getD [0,0,0,0,0,0] k 0)) v 0),.n .i64 ((jZ (nxPp s po) s.np 0 (fun v k=>List.getD [0,0,0,0,0,0] k 0)) v 1),.n .i64 ((jZ (nxPp s po) s.np 0 (fun v k=>List.getD [0,0,0,0,0,0] k 0)) v 2),.n .i64 ((jZ (nxPp s po) s.np 0 (fun v k=>List.getD [0,0,0,0,0,0] k 0)) v 3),.n .i64 ((jZ (nxPp s po) s.np 0 (fun v k=>List.getD [0,0,0,0,0,0] k 0)) v 4),.n .i64 ((jZ (nxPp s po) s.np 0 (fun v k=>List.getD [0,0,0,0,0,0] k 0)) v 5)])))]⟩) else none)))]
set_option maxRecDepth 100000 in
theorem pxppl0 (s:Shp) (po:Po):qWH Tf (orPp s po) (qX (jUQ s po)) 60 89 [.a (sP s),.a (Rx.poC (po))] =
 (bif (gF1 cpk epk s) then (bif (shOk s) then (bif (decide (0≤(s.np:Int))) then (bif (decide ((s.np:Int)≤(s.np:Int))) then (bif (decide ((s.np:Int)≤1000000)) then (bif (gSt (hPp s po 0 (fun v k=>List.getD [0,0,0,0,0,0] k 0)) (hPp s po 0 (fun v k=>List.getD [0,0,0,0,0,0] k 0))) then (bif (decide (s.np≤50)) then some (.ow 66 6 (.fo (s.np:Int).toNat (plR s po)),[])
 else none)
 else none)
 else none)
 else none)
 else none)
 else some (.v (.l []),[]))
 else none):=by kernel_rfl
theorem snd_ppl0 (s:Shp) (po:Po):yH Tryz.prog 89 [.a (sP s),.a (Rx.poC (po))] (bif shOk s then .ow 66 6 (.fo s.np (plR s po)) else .v (.l [])):=by
 refine yU (N:=60) (LO:=qX (jUQ s po)) qQV yJ (qQH (l:=((103,o_pk) :: L9)) (m:=[]) ⟨ok_pk,kJY⟩ trivial) (fun p S hp => ?_) ?_
 ·refine yY (L:=qQ Tf 89) (l:=(jUQ s po)) (show AllP _ (jUQ s po) from ⟨?_,trivial⟩) p S hp
  ·dsimp only;refine qQU (T:=Tf) (o:=(orPp s po)) (f:=89) (LO:=qX []) (p:=[0,1,0,1,1,1]) qZY ?_;intro t K r hr;obtain ⟨hg,hr⟩:=qY hr;have hk:=vJZ hg;exact (lpPp K s po hk).trans hr
 ·refine (pxppl0 s po).trans ?_;rw [qGQ (C:=cpk) (t:=s) trivial];cases h:shOk s with
  | false=>rfl
  | true =>
   have hb:=jQG h;simp only [vYV,Bool.not_true,vYG,jK,vJQ (show s.np≤50 by omega),vJQ (show (0:Int)≤(s.np:Int) by omega),vJQ (show (s.np:Int)≤(s.np:Int) by omega),vJQ (show (s.np:Int)≤1000000 by omega),toN]
   all_goals rfl
theorem snd_ppl (s:Shp) (po:Po):yH Tryz.prog 89 [.a (sP s),.a (Rx.poC po)] (.v (.lf (plN s) (fV (plF s po)))):=by
 have h0:=snd_ppl0 s po;unfold plN;cases h:shOk s with
 | true =>
  rw [h] at h0;refine qUU (qYH fun j (hj:j < s.np) => ?_) (zGH h0);obtain ⟨h1,h2,h3,h4,h5,h6⟩:=rwPp s po j hj;show [PV.n .i64 ((jZ (nxPp s po) s.np 0 (fun v k=>List.getD [0,0,0,0,0,0] k 0)) j 0),PV.n .i64 ((jZ (nxPp s po) s.np 0 (fun v k=>List.getD [0,0,0,0,0,0] k 0)) j 1),PV.n .i64 ((jZ (nxPp s po) s.np 0 (fun v k=>List.getD [0,0,0,0,0,0] k 0)) j 2),PV.n .i64 ((jZ (nxPp s po) s.np 0 (fun v k=>List.getD [0,0,0,0,0,0] k 0)) j 3),PV.n .i64 ((jZ (nxPp s po) s.np 0 (fun v k=>List.getD [0,0,0,0,0,0] k 0)) j 4),PV.n .i64 ((jZ (nxPp s po) s.np 0 (fun v k=>List.getD [0,0,0,0,0,0] k 0)) j 5)]=_;rw [h1,h2,h3,h4,h5,h6];rfl
 | false =>
  rw [h] at h0;exact qUU (Same.lf rfl) h0
noncomputable def orPr (s:Shp) (po:Po):OrS:=orS ((107,o_rk) :: L9) []
noncomputable def hPr (s:Shp) (po:Po) (i:Int) (r:Nat) (q:Nat→Nat→Int):St:=⟨[(2,.p 2 0),(3,.p 3 0),(5,.o 27),(6,.v (.n .i64 i))],[(2,.blk [.v (.n .i64 s.link),.v (.n .i64 s.rad),.v (.lf s.np (fZ s.pts))]),(3,.blk [.v (.n .i64 (po).r.x.x.lo),.v (.n .i64 (po).r.x.x.hi),.v (.n .i64 (po).r.x.y.lo),.v (.n .i64 (po).r.x.y.hi),.v (.n .i64 (po).r.x.z.lo),.v (.n .i64 (po).r.x.z.hi),.v (.n .i64 (po).r.y.x.lo),.v (.n .i64 (po).r.y.x.hi),.v (.n .i64 (po).r.y.y.lo),.v (.n .i64 (po).r.y.y.hi),.v (.n .i64 (po).r.y.z.lo),.v (.n .i64 (po).r.y.z.hi),.v (.n .i64 (po).r.z.x.lo),.v (.n .i64 (po).r.z.x.hi),.v (.n .i64 (po).r.z.y.lo),.v (.n .i64 (po).r.z.y.hi),.v (.n .i64 (po).r.z.z.lo),.v (.n .i64 (po).r.z.z.hi),.v (.n .i64 (po).t.x.lo),.v (.n .i64 (po).t.x.hi),.v (.n .i64 (po).t.y.lo),.v (.n .i64 (po).t.y.hi),.v (.n .i64 (po).t.z.lo),.v (.n .i64 (po).t.z.hi)]),(27,.reg 66 6 (.fo r (fun v=>[.n .i64 (q v 0),.n .i64 (q v 1),.n .i64 (q v 2),.n .i64 (q v 3),.n .i64 (q v 4),.n .i64 (q v 5)])))]⟩
set_option maxRecDepth 100000 in
theorem rdPr (G:St→Option (Ret × Mem)) (K:Cont) (s:Shp) (po:Po) (i:Int) (r:Nat) (q:Nat→Nat→Int):uX 60 (cxS Tf (orPr s po) 60 91 (ntmF Tf 91)) (evX Tf (orPr s po) 60 91 (ntmF Tf 91)) (qX []) (qQ Tf 91 [0,1,0,1,1,1]) [0,1,0,1,1,1] (Tf.hint 91 (qG (qQ Tf 91 [0,1,0,1,1,1]))) K G (hPr s po i r q) =
 (bif (decide (i < (s.np:Int))) then (bif (inB i s.np) then (bif (decide (r + 1≤1000000)) then (G (hPr s po (vJJ .i64 (i + 1)) (r + 1) (fun v k=>List.getD [(bif (Nat.beq v r) then (Po.app (po) (V3.of (s.pts (i).toNat))).x.lo else (q v 0)),(bif (Nat.beq v r) then (Po.app (po) (V3.of (s.pts (i).toNat))).x.hi else (q v 1)),(bif (Nat.beq v r) then (Po.app (po) (V3.of (s.pts (i).toNat))).y.lo else (q v 2)),(bif (Nat.beq v r) then (Po.app (po) (V3.of (s.pts (i).toNat))).y.hi else (q v 3)),(bif (Nat.beq v r) then (Po.app (po) (V3.of (s.pts (i).toNat))).z.lo else (q v 4)),(bif (Nat.beq v r) then (Po.app (po) (V3.of (s.pts (i).toNat))).z.hi else (q v 5))] k 0)))
 else none)
 else none)
 else (K (.exit 0) ⟨[(5,.o 27)],[(27,.reg 66 6 (.fo r (fun v=>[.n .i64 (q v 0),.n .i64 (q v 1),.n .i64 (q v 2),.n .i64 (q v 3),.n .i64 (q v 4),.n .i64 (q v 5)])))]⟩)):=by kernel_rfl
def nxPr (s:Shp) (po:Po) (i:Nat) (q:Nat→Nat→Int):Nat→Nat→Int:=fun v k=>List.getD [bif Nat.beq v i then (plF s po i).x.lo else q v 0,bif Nat.beq v i then (plF s po i).x.hi else q v 1,bif Nat.beq v i then (plF s po i).y.lo else q v 2,bif Nat.beq v i then (plF s po i).y.hi else q v 3,bif Nat.beq v i then (plF s po i).z.lo else q v 4,bif Nat.beq v i then (plF s po i).z.hi else q v 5] k 0
theorem lpPr (K:Cont) (s:Shp) (po:Po) (hk:s.np≤50):LFX 60 (cxS Tf (orPr s po) 60 91 (ntmF Tf 91)) (evX Tf (orPr s po) 60 91 (ntmF Tf 91)) (qX []) (qQ Tf 91 [0,1,0,1,1,1]) [0,1,0,1,1,1] (Tf.hint 91 (qG (qQ Tf 91 [0,1,0,1,1,1]))) K 60 (hPr s po 0 0 (fun v k=>List.getD [0,0,0,0,0,0] k 0))=(K (.exit 0) ⟨[(5,.o 27)],[(27,.reg 66 6 (.fo s.np (fun v=>[.n .i64 ((jZ (nxPr s po) s.np 0 (fun v k=>List.getD [0,0,0,0,0,0] k 0)) v 0),.n .i64 ((jZ (nxPr s po) s.np 0 (fun v k=>List.getD [0,0,0,0,0,0] k 0)) v 1),.n .i64 ((jZ (nxPr s po) s.np 0 (fun v k=>List.getD [0,0,0,0,0,0] k 0)) v 2),.n .i64 ((jZ (nxPr s po) s.np 0 (fun v k=>List.getD [0,0,0,0,0,0] k 0)) v 3),.n .i64 ((jZ (nxPr s po) s.np 0 (fun v k=>List.getD [0,0,0,0,0,0] k 0)) v 4),.n .i64 ((jZ (nxPr s po) s.np 0 (fun v k=>List.getD [0,0,0,0,0,0] k 0)) v 5)])))]⟩):=by
 refine (qJU (L:=LFX 60 (cxS Tf (orPr s po) 60 91 (ntmF Tf 91)) (evX Tf (orPr s po) 60 91 (ntmF Tf 91)) (qX []) (qQ Tf 91 [0,1,0,1,1,1]) [0,1,0,1,1,1] (Tf.hint 91 (qG (qQ Tf 91 [0,1,0,1,1,1]))) K) (stp:=uX 60 (cxS Tf (orPr s po) 60 91 (ntmF Tf 91)) (evX Tf (orPr s po) 60 91 (ntmF Tf 91)) (qX []) (qQ Tf 91 [0,1,0,1,1,1]) [0,1,0,1,1,1] (Tf.hint 91 (qG (qQ Tf 91 [0,1,0,1,1,1]))) K) (fun _ _=>rfl) (fun (i:Nat) (q:Nat→Nat→Int)=>hPr s po (i:Int) i q) (fun _ _=>True) (fun _ _=>true) (nxPr s po) (c:=s.np) (fun q=>(K (.exit 0) ⟨[(5,.o 27)],[(27,.reg 66 6 (.fo s.np (fun v=>[.n .i64 (q v 0),.n .i64 (q v 1),.n .i64 (q v 2),.n .i64 (q v 3),.n .i64 (q v 4),.n .i64 (q v 5)])))]⟩)) (fun _ _=>none) (fun G i q hi _ => ?_) (fun _ _ _ _ _=>trivial) (fun G q _ => ?_) s.np 0 60 _ (by omega) (by omega) trivial).trans (qYQ s.np 0 _)
 ·refine (rdPr G K s po i i q).trans ?_;simp only [vJQ (show (i:Int) < (s.np:Int) by omega),qZH (show i < 1000000 by omega),kX (show i < s.np by omega),toN,vYV,vJQ (show i + 1≤1000000 by omega)]
  all_goals rfl
 ·refine (rdPr G K s po (s.np:Int) s.np q).trans ?_;rw [vYH (show ¬ (s.np:Int) < (s.np:Int) by omega)];rfl
theorem rwPr (s:Shp) (po:Po):∀ v,v < s.np→(jZ (nxPr s po) s.np 0 (fun v k=>List.getD [0,0,0,0,0,0] k 0)) v 0=(plF s po v).x.lo∧(jZ (nxPr s po) s.np 0 (fun v k=>List.getD [0,0,0,0,0,0] k 0)) v 1=(plF s po v).x.hi∧(jZ (nxPr s po) s.np 0 (fun v k=>List.getD [0,0,0,0,0,0] k 0)) v 2=(plF s po v).y.lo∧(jZ (nxPr s po) s.np 0 (fun v k=>List.getD [0,0,0,0,0,0] k 0)) v 3=(plF s po v).y.hi∧(jZ (nxPr s po) s.np 0 (fun v k=>List.getD [0,0,0,0,0,0] k 0)) v 4=(plF s po v).z.lo∧(jZ (nxPr s po) s.np 0 (fun v k=>List.getD [0,0,0,0,0,0] k 0)) v 5=(plF s po v).z.hi:=by
 refine qKJ (Q:=fun (i:Nat) (q:Nat→Nat→Int)=>∀ v,v < i→q v 0=(plF s po v).x.lo∧q v 1=(plF s po v).x.hi∧q v 2=(plF s po v).y.lo∧q v 3=(plF s po v).y.hi∧q v 4=(plF s po v).z.lo∧q v 5=(plF s po v).z.hi) (c:=s.np) (fun i q hi h v hv => ?_) s.np 0 _ (by omega) (fun v hv=>absurd hv (by omega));by_cases e:v=i
 ·subst e;refine ⟨?_,?_,?_,?_,?_,?_⟩ <;> (show (bif Nat.beq v v then _ else _)=_; rw [qWX,vJQ rfl]; rfl)
 ·have h':=h v (by omega);have eb:Nat.beq v i=false:=by rw [qWX,vYH e]
  refine ⟨?_,?_,?_,?_,?_,?_⟩ <;> (show (bif Nat.beq v i then _ else _)=_; rw [eb])
  ·exact h'.1
  ·exact h'.2.1
  ·exact h'.2.2.1
  ·exact h'.2.2.2.1
  ·exact h'.2.2.2.2.1
  ·exact h'.2.2.2.2.2
def prR (s:Shp) (po:Po):Nat→List PV:=(fun v=>[.n .i64 ((jZ (nxPr s po) s.np 0 (fun v k=>List.getD [0,0,0,0,0,0] k 0)) v 0),.n .i64 ((jZ (nxPr s po) s.np 0 (fun v k=>List.getD [0,0,0,0,0,0] k 0)) v 1),.n .i64 ((jZ (nxPr s po) s.np 0 (fun v k=>List.getD [0,0,0,0,0,0] k 0)) v 2),.n .i64 ((jZ (nxPr s po) s.np 0 (fun v k=>List.getD [0,0,0,0,0,0] k 0)) v 3),.n .i64 ((jZ (nxPr s po) s.np 0 (fun v k=>List.getD [0,0,0,0,0,0] k 0)) v 4),.n .i64 ((jZ (nxPr s po) s.np 0 (fun v k=>List.getD [0,0,0,0,0,0] k 0)) v 5)])
noncomputable def jKH (s:Shp) (po:Po):List (List Nat × kV):=[([0,1,0,1,1,1],sumF (fun _:Unit=>(hPr s po 0 0 (fun v k=>List.getD [0,0,0,0,0,0] k 0))) (fun _=>()) (fun _ K=>(bif (decide (s.np≤50)) then (K (.exit 0) ⟨[(5,.o 27)],[(27,.reg 66 6 (.fo s.np (fun v=>[.n .i64 ((jZ (nxPr s po) s.np 0 (fun v k=>List.getD [0,0,0,0,0,0] k 0)) v 0),.n .i64 ((jZ (nxPr s po) s.np 0 (fun v k=>List.getD [0,0,0,0,0,0] k 0)) v 1),.n .i64 ((jZ (nxPr s po) s.np 0 (fun v k=>List.getD [0,0,0,0,0,0] k 0)) v 2),.n .i64 ((jZ (nxPr s po) s.np 0 (fun v k=>List.getD [0,0,0,0,0,0] k 0)) v 3),.n .i64 ((jZ (nxPr s po) s.np 0 (fun v k=>List.getD [0,0,0,0,0,0] k 0)) v 4),.n .i64 ((jZ (nxPr s po) s.np 0 (fun v k=>List.getD [0,0,0,0,0,0] k 0)) v 5)])))]⟩) else none)))]
set_option maxRecDepth 100000 in
theorem pxrpl0 (s:Shp) (po:Po):qWH Tf (orPr s po) (qX (jKH s po)) 60 91 [.a (sP s),.a (Rx.poC (po))] =
 (bif (gF1 crk erk s) then (bif (shOk s) then (bif (gSt (hPr s po 0 0 (fun v k=>List.getD [0,0,0,0,0,0] k 0)) (hPr s po 0 0 (fun v k=>List.getD [0,0,0,0,0,0] k 0))) then (bif (decide (s.np≤50)) then some (.ow 66 6 (.fo s.np (prR s po)),[])
 else none)
 else none)
 else some (.v (.l []),[]))
 else none):=by kernel_rfl
theorem snd_rpl0 (s:Shp) (po:Po):yH Tryz.prog 91 [.a (sP s),.a (Rx.poC (po))] (bif shOk s then .ow 66 6 (.fo s.np (prR s po)) else .v (.l [])):=by
 refine yU (N:=60) (LO:=qX (jKH s po)) qQV yJ (qQH (l:=((107,o_rk) :: L9)) (m:=[]) ⟨ok_rk,kJY⟩ trivial) (fun p S hp => ?_) ?_
 ·refine yY (L:=qQ Tf 91) (l:=(jKH s po)) (show AllP _ (jKH s po) from ⟨?_,trivial⟩) p S hp
  ·dsimp only;refine qQU (T:=Tf) (o:=(orPr s po)) (f:=91) (LO:=qX []) (p:=[0,1,0,1,1,1]) qZY ?_;intro t K r hr;obtain ⟨hg,hr⟩:=qY hr;have hk:=vJZ hg;exact (lpPr K s po hk).trans hr
 ·refine (pxrpl0 s po).trans ?_;rw [qGQ (C:=crk) (t:=s) trivial];cases h:shOk s with
  | false=>rfl
  | true =>
   have hb:=jQG h;simp only [vYV,Bool.not_true,vYG,jK,vJQ (show s.np≤50 by omega),toN]
   all_goals rfl
theorem snd_rpl (s:Shp) (po:Po):yH Tryz.prog 91 [.a (sP s),.a (Rx.poC po)] (.v (.lf (plN s) (fV (plF s po)))):=by
 have h0:=snd_rpl0 s po;unfold plN;cases h:shOk s with
 | true =>
  rw [h] at h0;refine qUU (qYH fun j (hj:j < s.np) => ?_) (zGH h0);obtain ⟨h1,h2,h3,h4,h5,h6⟩:=rwPr s po j hj;show [PV.n .i64 ((jZ (nxPr s po) s.np 0 (fun v k=>List.getD [0,0,0,0,0,0] k 0)) j 0),PV.n .i64 ((jZ (nxPr s po) s.np 0 (fun v k=>List.getD [0,0,0,0,0,0] k 0)) j 1),PV.n .i64 ((jZ (nxPr s po) s.np 0 (fun v k=>List.getD [0,0,0,0,0,0] k 0)) j 2),PV.n .i64 ((jZ (nxPr s po) s.np 0 (fun v k=>List.getD [0,0,0,0,0,0] k 0)) j 3),PV.n .i64 ((jZ (nxPr s po) s.np 0 (fun v k=>List.getD [0,0,0,0,0,0] k 0)) j 4),PV.n .i64 ((jZ (nxPr s po) s.np 0 (fun v k=>List.getD [0,0,0,0,0,0] k 0)) j 5)]=_;rw [h1,h2,h3,h4,h5,h6];rfl
 | false =>
  rw [h] at h0;exact qUU (Same.lf rfl) h0
def cpp:Shp × Po→Prop:=fun t=>match t with | (s,po)=>True
def epp:Shp × Po→List PV:=fun t=>match t with | (s,po)=>[.a (sP s),.a (Rx.poC po)]
noncomputable def rpp:Shp × Po→Ret:=fun t=>match t with | (s,po)=>.v (.lf (plN s) (fV (plF s po)))
def dpp:List PV→Shp × Po:=fun ps=>match ps with
 | [.a r,.a q]=>(unS r,unPo q)
 | _=>(⟨0,0,0,fun _=>⟨0,0,0⟩⟩,Po.rest)
noncomputable def o_pp:List PV→Option (Bool × Ret):=o_fm dpp cpp epp rpp
theorem ok_pp:zX Tryz.prog 89 o_pp:=zGW fun t h=>by
 obtain ⟨s,po⟩:=t;exact snd_ppl s po
def cpr:Shp × Po→Prop:=fun t=>match t with | (s,po)=>True
def epr:Shp × Po→List PV:=fun t=>match t with | (s,po)=>[.a (sP s),.a (Rx.poC po)]
noncomputable def rpr:Shp × Po→Ret:=fun t=>match t with | (s,po)=>.v (.lf (plN s) (fV (plF s po)))
def dpr:List PV→Shp × Po:=fun ps=>match ps with
 | [.a r,.a q]=>(unS r,unPo q)
 | _=>(⟨0,0,0,fun _=>⟨0,0,0⟩⟩,Po.rest)
noncomputable def o_pr:List PV→Option (Bool × Ret):=o_fm dpr cpr epr rpr
theorem ok_pr:zX Tryz.prog 91 o_pr:=zGW fun t h=>by
 obtain ⟨s,po⟩:=t;exact snd_rpl s po
end Go.Proofs.YtgmbkkkbfbocnaaGreat.Gd

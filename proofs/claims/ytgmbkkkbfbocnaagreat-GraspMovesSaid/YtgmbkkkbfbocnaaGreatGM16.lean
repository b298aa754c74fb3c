/- Part 16 of the texts behind the last one: rules and contracts. No condition. -/
import Derived.Test.YtgmbkkkbfbocnaaGreatGM15
open Option renaming bind_eq_some_iff → vQQ
open Option.some renaming injEq → vQZ
open Prod.mk renaming injEq → vQY
open Bool renaming and_eq_true → vQJ, and_self → vZJ, true_and → vZH
open Go.IntKind renaming wrap → vJJ
namespace Go.Proofs.YtgmbkkkbfbocnaaGreat.Gd
open Go.Rx Rt Go.Sx Go.RowKit Od Na Nb Nc Nx Nf Ga Gb Gc
noncomputable def zQU:List PV→Option (Bool × Ret):=fun ps=>match ps with
 | [.a z']=>(z3D z').bind fun z=>some (true,.v (.a (v3C (V3.of z))))
 | _=>none
theorem yJU:zJ Tryz.prog 36 zQU:=by
 intro ps r h;unfold zQU at h;split at h
 ·simp only [vQQ,vQZ,vQY] at h;obtain ⟨z,hz,hg,rfl⟩:=h;rw [jXH hz];exact qX (qW Tryz.func36 (by kernel_rfl) (by kernel_rfl)) rfl rfl (fun w=>rPoint _ _ _ w)
 ·cases h
noncomputable def L6:OrL:=(36,zQU) :: L5
theorem kHQ:AllP (fun x:Nat × (List PV→Option (Bool × Ret))=>zJ Tryz.prog x.1 x.2) L6:=⟨yJU,L5_ok⟩
noncomputable def yGQ:List PV→Option (Bool × Ret):=fun ps=>match ps with
 | [.a p',.a v']=>(poD p').bind fun p=>(v3D v').bind fun v=>some (true,.v (.a (v3C (Po.app p v))))
 | _=>none
theorem ok_qApply:zJ Tryz.prog 35 yGQ:=by
 intro ps r h;unfold yGQ at h;split at h
 ·simp only [vQQ,vQZ,vQY] at h;obtain ⟨p,hp,v,hv,hg,rfl⟩:=h;rw [yXY hp];rw [zZX hv];exact qX (qW Tryz.func35 (by kernel_rfl) (by kernel_rfl)) rfl rfl (fun w=>qApply _ _ _ _ _ _ _ _ _ _ _ _ _ _ _ _ _ _ _ _ _ _ _ _ _ _ _ _ _ _ w)
 ·cases h
noncomputable def L7:OrL:=(35,yGQ) :: L6
theorem kJY:AllP (fun x:Nat × (List PV→Option (Bool × Ret))=>zJ Tryz.prog x.1 x.2) L7:=⟨ok_qApply,kHQ⟩
noncomputable def qUW:List PV→Option (Bool × Ret):=fun ps=>match ps with
 | []=>some (true,.v (.a (poC (Po.rest))))
 | _=>none
theorem zYQ:zJ Tryz.prog 88 qUW:=by
 intro ps r h;unfold qUW at h;split at h
 ·simp only [vQZ,vQY] at h;obtain ⟨hg,rfl⟩:=h;exact qX (qW Tryz.func88 (by kernel_rfl) (by kernel_rfl)) rfl rfl (fun w=>pIdentity  w)
 ·cases h
noncomputable def L8:OrL:=(88,qUW) :: L7
theorem kGH:AllP (fun x:Nat × (List PV→Option (Bool × Ret))=>zJ Tryz.prog x.1 x.2) L8:=⟨zYQ,kJY⟩
noncomputable def zKV:List PV→Option (Bool × Ret):=fun ps=>match ps with
 | []=>some (true,.v (.a (poC (Po.rest))))
 | _=>none
theorem yVK:zJ Tryz.prog 90 zKV:=by
 intro ps r h;unfold zKV at h;split at h
 ·simp only [vQZ,vQY] at h;obtain ⟨hg,rfl⟩:=h;exact qX (qW Tryz.func90 (by kernel_rfl) (by kernel_rfl)) rfl rfl (fun w=>qRest  w)
 ·cases h
noncomputable def L9:OrL:=(90,zKV) :: L8
theorem kVQ:AllP (fun x:Nat × (List PV→Option (Bool × Ret))=>zJ Tryz.prog x.1 x.2) L9:=⟨yVK,kGH⟩
def fV (g:Nat→V3):Nat→List PV:=fun v=>Rx.v3C (g v)
def plF (s:Shp) (po:Po):Nat→V3:=fun i=>Po.app po (V3.of (s.pts i))
def unPo (r:List PV):Po:=match r with
 | [.n _ a0,.n _ a1,.n _ a2,.n _ a3,.n _ a4,.n _ a5,.n _ a6,.n _ a7,.n _ a8,.n _ a9,.n _ a10,.n _ a11,.n _ a12,.n _ a13,.n _ a14,.n _ a15,.n _ a16,.n _ a17,.n _ a18,.n _ a19,.n _ a20,.n _ a21,.n _ a22,.n _ a23]=>⟨⟨⟨⟨a0,a1⟩,⟨a2,a3⟩,⟨a4,a5⟩⟩,⟨⟨a6,a7⟩,⟨a8,a9⟩,⟨a10,a11⟩⟩,⟨⟨a12,a13⟩,⟨a14,a15⟩,⟨a16,a17⟩⟩⟩,⟨⟨a18,a19⟩,⟨a20,a21⟩,⟨a22,a23⟩⟩⟩
 | _=>Po.rest
def plN (s:Shp):Nat:=bif shOk s then s.np else 0
theorem jJU {s:Shp} (h:shOk s=true):1≤s.np∧s.np≤8:=by
 unfold shOk at h;simp only [vQJ,Bool.not_eq_true',Bool.or_eq_false_iff,decide_eq_false_iff_not] at h;omega
noncomputable def orPr (s:Shp) (_:Po):OrS:=orS ((107,o_rk) :: L9) []
noncomputable def hPr (s:Shp) (po:Po) (i:Int) (r:Nat) (q:Nat→Nat→Int):St:=⟨[(2,.p 2 0),(3,.p 3 0),(5,.o 27),(6,.v (.n .i64 i))],[(2,.blk [.v (.n .i64 s.link),.v (.n .i64 s.rad),.v (.lf s.np (fZ s.pts))]),(3,.blk [.v (.n .i64 (po).r.x.x.lo),.v (.n .i64 (po).r.x.x.hi),.v (.n .i64 (po).r.x.y.lo),.v (.n .i64 (po).r.x.y.hi),.v (.n .i64 (po).r.x.z.lo),.v (.n .i64 (po).r.x.z.hi),.v (.n .i64 (po).r.y.x.lo),.v (.n .i64 (po).r.y.x.hi),.v (.n .i64 (po).r.y.y.lo),.v (.n .i64 (po).r.y.y.hi),.v (.n .i64 (po).r.y.z.lo),.v (.n .i64 (po).r.y.z.hi),.v (.n .i64 (po).r.z.x.lo),.v (.n .i64 (po).r.z.x.hi),.v (.n .i64 (po).r.z.y.lo),.v (.n .i64 (po).r.z.y.hi),.v (.n .i64 (po).r.z.z.lo),.v (.n .i64 (po).r.z.z.hi),.v (.n .i64 (po).t.x.lo),.v (.n .i64 (po).t.x.hi),.v (.n .i64 (po).t.y.lo),.v (.n .i64 (po).t.y.hi),.v (.n .i64 (po).t.z.lo),.v (.n .i64 (po).t.z.hi)]),(27,.reg 66 6 (.fo r (fun v=>[.n .i64 (q v 0),.n .i64 (q v 1),.n .i64 (q v 2),.n .i64 (q v 3),.n .i64 (q v 4),.n .i64 (q v 5)])))]⟩
set_option maxRecDepth 100000 in
theorem rdPr (G:St→Option (Ret × Mem)) (K:Cont) (s:Shp) (po:Po) (i:Int) (r:Nat) (q:Nat→Nat→Int):kZ 60 (cxS Tf (orPr s po) 60 91 (ntmF Tf 91)) (evX Tf (orPr s po) 60 91 (ntmF Tf 91)) (qZ []) (qQ Tf 91 [0,1,0,1,1,1]) [0,1,0,1,1,1] (Tf.hint 91 (qJ (qQ Tf 91 [0,1,0,1,1,1]))) K G (hPr s po i r q) =
 (bif (decide (i < (s.np:Int))) then (bif (inB i s.np) then (bif (decide (r + 1≤1000000)) then (G (hPr s po (vJJ .i64 (i + 1)) (r + 1) (fun v k=>List.getD [(bif (Nat.beq v r) then (Po.app (po) (V3.of (s.pts (i).toNat))).x.lo else (q v 0)),(bif (Nat.beq v r) then (Po.app (po) (V3.of (s.pts (i).toNat))).x.hi else (q v 1)),(bif (Nat.beq v r) then (Po.app (po) (V3.of (s.pts (i).toNat))).y.lo else (q v 2)),(bif (Nat.beq v r) then (Po.app (po) (V3.of (s.pts (i).toNat))).y.hi else (q v 3)),(bif (Nat.beq v r) then (Po.app (po) (V3.of (s.pts (i).toNat))).z.lo else (q v 4)),(bif (Nat.beq v r) then (Po.app (po) (V3.of (s.pts (i).toNat))).z.hi else (q v 5))] k 0)))
 else none)
 else none)
 else (K (.exit 0) ⟨[(5,.o 27)],[(27,.reg 66 6 (.fo r (fun v=>[.n .i64 (q v 0),.n .i64 (q v 1),.n .i64 (q v 2),.n .i64 (q v 3),.n .i64 (q v 4),.n .i64 (q v 5)])))]⟩)):=by kernel_rfl
def nxPr (s:Shp) (po:Po) (i:Nat) (q:Nat→Nat→Int):Nat→Nat→Int:=fun v k=>List.getD [bif Nat.beq v i then (plF s po i).x.lo else q v 0,bif Nat.beq v i then (plF s po i).x.hi else q v 1,bif Nat.beq v i then (plF s po i).y.lo else q v 2,bif Nat.beq v i then (plF s po i).y.hi else q v 3,bif Nat.beq v i then (plF s po i).z.lo else q v 4,bif Nat.beq v i then (plF s po i).z.hi else q v 5] k 0
theorem lpPr (K:Cont) (s:Shp) (po:Po) (_:s.np≤50):LFX 60 (cxS Tf (orPr s po) 60 91 (ntmF Tf 91)) (evX Tf (orPr s po) 60 91 (ntmF Tf 91)) (qZ []) (qQ Tf 91 [0,1,0,1,1,1]) [0,1,0,1,1,1] (Tf.hint 91 (qJ (qQ Tf 91 [0,1,0,1,1,1]))) K 60 (hPr s po 0 0 (fun v k=>List.getD [0,0,0,0,0,0] k 0))=(K (.exit 0) ⟨[(5,.o 27)],[(27,.reg 66 6 (.fo s.np (fun v=>[.n .i64 ((qZX (nxPr s po) s.np 0 (fun v k=>List.getD [0,0,0,0,0,0] k 0)) v 0),.n .i64 ((qZX (nxPr s po) s.np 0 (fun v k=>List.getD [0,0,0,0,0,0] k 0)) v 1),.n .i64 ((qZX (nxPr s po) s.np 0 (fun v k=>List.getD [0,0,0,0,0,0] k 0)) v 2),.n .i64 ((qZX (nxPr s po) s.np 0 (fun v k=>List.getD [0,0,0,0,0,0] k 0)) v 3),.n .i64 ((qZX (nxPr s po) s.np 0 (fun v k=>List.getD [0,0,0,0,0,0] k 0)) v 4),.n .i64 ((qZX (nxPr s po) s.np 0 (fun v k=>List.getD [0,0,0,0,0,0] k 0)) v 5)])))]⟩):=by
 refine (uK (L:=LFX 60 (cxS Tf (orPr s po) 60 91 (ntmF Tf 91)) (evX Tf (orPr s po) 60 91 (ntmF Tf 91)) (qZ []) (qQ Tf 91 [0,1,0,1,1,1]) [0,1,0,1,1,1] (Tf.hint 91 (qJ (qQ Tf 91 [0,1,0,1,1,1]))) K) (stp:=kZ 60 (cxS Tf (orPr s po) 60 91 (ntmF Tf 91)) (evX Tf (orPr s po) 60 91 (ntmF Tf 91)) (qZ []) (qQ Tf 91 [0,1,0,1,1,1]) [0,1,0,1,1,1] (Tf.hint 91 (qJ (qQ Tf 91 [0,1,0,1,1,1]))) K) (fun _ _=>rfl) (fun (i:Nat) (q:Nat→Nat→Int)=>hPr s po (i:Int) i q) (fun _ _=>True) (fun _ _=>true) (nxPr s po) (c:=s.np) (fun q=>(K (.exit 0) ⟨[(5,.o 27)],[(27,.reg 66 6 (.fo s.np (fun v=>[.n .i64 (q v 0),.n .i64 (q v 1),.n .i64 (q v 2),.n .i64 (q v 3),.n .i64 (q v 4),.n .i64 (q v 5)])))]⟩)) (fun _ _=>none) (fun G i q hi _ => ?_) (fun _ _ _ _ _=>trivial) (fun G q _ => ?_) s.np 0 60 _ (by omega) (by omega) trivial).trans (qXH s.np 0 _)
 ·refine (rdPr G K s po i i q).trans ?_;simp only [vJQ (show (i:Int) < (s.np:Int) by omega),kW (show i < 1000000 by omega),yX (show i < s.np by omega),toN,vYV,vJQ (show i + 1≤1000000 by omega)]
  all_goals rfl
 ·refine (rdPr G K s po (s.np:Int) s.np q).trans ?_;rw [vYH (show ¬ (s.np:Int) < (s.np:Int) by omega)];rfl
theorem rwPr (s:Shp) (po:Po):∀ v,v < s.np→(qZX (nxPr s po) s.np 0 (fun v k=>List.getD [0,0,0,0,0,0] k 0)) v 0=(plF s po v).x.lo∧(qZX (nxPr s po) s.np 0 (fun v k=>List.getD [0,0,0,0,0,0] k 0)) v 1=(plF s po v).x.hi∧(qZX (nxPr s po) s.np 0 (fun v k=>List.getD [0,0,0,0,0,0] k 0)) v 2=(plF s po v).y.lo∧(qZX (nxPr s po) s.np 0 (fun v k=>List.getD [0,0,0,0,0,0] k 0)) v 3=(plF s po v).y.hi∧(qZX (nxPr s po) s.np 0 (fun v k=>List.getD [0,0,0,0,0,0] k 0)) v 4=(plF s po v).z.lo∧(qZX (nxPr s po) s.np 0 (fun v k=>List.getD [0,0,0,0,0,0] k 0)) v 5=(plF s po v).z.hi:=by
 refine qYX (Q:=fun (i:Nat) (q:Nat→Nat→Int)=>∀ v,v < i→q v 0=(plF s po v).x.lo∧q v 1=(plF s po v).x.hi∧q v 2=(plF s po v).y.lo∧q v 3=(plF s po v).y.hi∧q v 4=(plF s po v).z.lo∧q v 5=(plF s po v).z.hi) (c:=s.np) (fun i q hi h v hv => ?_) s.np 0 _ (by omega) (fun v hv=>absurd hv (by omega));by_cases e:v=i
 ·subst e;refine ⟨?_,?_,?_,?_,?_,?_⟩ <;> (show (bif Nat.beq v v then _ else _)=_; rw [zUQ,vJQ rfl]; rfl)
 ·have h':=h v (by omega);have eb:Nat.beq v i=false:=by rw [zUQ,vYH e]
  refine ⟨?_,?_,?_,?_,?_,?_⟩ <;> (show (bif Nat.beq v i then _ else _)=_; rw [eb])
  ·exact h'.1
  ·exact h'.2.1
  ·exact h'.2.2.1
  ·exact h'.2.2.2.1
  ·exact h'.2.2.2.2.1
  ·exact h'.2.2.2.2.2
def prR (s:Shp) (po:Po):Nat→List PV:=(fun v=>[.n .i64 ((qZX (nxPr s po) s.np 0 (fun v k=>List.getD [0,0,0,0,0,0] k 0)) v 0),.n .i64 ((qZX (nxPr s po) s.np 0 (fun v k=>List.getD [0,0,0,0,0,0] k 0)) v 1),.n .i64 ((qZX (nxPr s po) s.np 0 (fun v k=>List.getD [0,0,0,0,0,0] k 0)) v 2),.n .i64 ((qZX (nxPr s po) s.np 0 (fun v k=>List.getD [0,0,0,0,0,0] k 0)) v 3),.n .i64 ((qZX (nxPr s po) s.np 0 (fun v k=>List.getD [0,0,0,0,0,0] k 0)) v 4),.n .i64 ((qZX (nxPr s po) s.np 0 (fun v k=>List.getD [0,0,0,0,0,0] k 0)) v 5)])
noncomputable def jWV (s:Shp) (po:Po):List (List Nat × jK):=[([0,1,0,1,1,1],sumF (fun _:Unit=>(hPr s po 0 0 (fun v k=>List.getD [0,0,0,0,0,0] k 0))) (fun _=>()) (fun _ K=>(bif (decide (s.np≤50)) then (K (.exit 0) ⟨[(5,.o 27)],[(27,.reg 66 6 (.fo s.np (fun v=>[.n .i64 ((qZX (nxPr s po) s.np 0 (fun v k=>List.getD [0,0,0,0,0,0] k 0)) v 0),.n .i64 ((qZX (nxPr s po) s.np 0 (fun v k=>List.getD [0,0,0,0,0,0] k 0)) v 1),.n .i64 ((qZX (nxPr s po) s.np 0 (fun v k=>List.getD [0,0,0,0,0,0] k 0)) v 2),.n .i64 ((qZX (nxPr s po) s.np 0 (fun v k=>List.getD [0,0,0,0,0,0] k 0)) v 3),.n .i64 ((qZX (nxPr s po) s.np 0 (fun v k=>List.getD [0,0,0,0,0,0] k 0)) v 4),.n .i64 ((qZX (nxPr s po) s.np 0 (fun v k=>List.getD [0,0,0,0,0,0] k 0)) v 5)])))]⟩) else none)))]
set_option maxRecDepth 100000 in
theorem pxrpl0 (s:Shp) (po:Po):qQU Tf (orPr s po) (qZ (jWV s po)) 60 91 [.a (sP s),.a (Rx.poC (po))] =
 (bif (gF1 crk erk s) then (bif (shOk s) then (bif (gSt (hPr s po 0 0 (fun v k=>List.getD [0,0,0,0,0,0] k 0)) (hPr s po 0 0 (fun v k=>List.getD [0,0,0,0,0,0] k 0))) then (bif (decide (s.np≤50)) then some (.ow 66 6 (.fo s.np (prR s po)),[])
 else none)
 else none)
 else some (.v (.l []),[]))
 else none):=by kernel_rfl
theorem snd_rpl0 (s:Shp) (po:Po):yK Tryz.prog 91 [.a (sP s),.a (Rx.poC (po))] (bif shOk s then .ow 66 6 (.fo s.np (prR s po)) else .v (.l [])):=by
 refine zW (N:=60) (LO:=qZ (jWV s po)) jH zG (kY (l:=((107,o_rk) :: L9)) (m:=[]) ⟨ok_rk,kVQ⟩ trivial) (fun p S hp => ?_) ?_
 ·refine zU (L:=qQ Tf 91) (l:=(jWV s po)) (show AllP _ (jWV s po) from ⟨?_,trivial⟩) p S hp
  ·dsimp only;refine kQ (T:=Tf) (o:=(orPr s po)) (f:=91) (LO:=qZ []) (p:=[0,1,0,1,1,1]) kJ ?_;intro t K r hr;obtain ⟨hg,hr⟩:=qY hr;have hk:=vJZ hg;exact (lpPr K s po hk).trans hr
 ·refine (pxrpl0 s po).trans ?_;rw [jU (C:=crk) (t:=s) trivial];cases h:shOk s with
  | false=>rfl
  | true =>
   have hb:=jJU h;simp only [vYV,Bool.not_true,vYG,yU,vJQ (show s.np≤50 by omega),toN]
   all_goals rfl
theorem snd_rpl (s:Shp) (po:Po):yK Tryz.prog 91 [.a (sP s),.a (Rx.poC po)] (.v (.lf (plN s) (fV (plF s po)))):=by
 have h0:=snd_rpl0 s po;unfold plN;cases h:shOk s with
 | true =>
  rw [h] at h0;refine qZZ (qWW fun j (hj:j < s.np) => ?_) (yQK h0);obtain ⟨h1,h2,h3,h4,h5,h6⟩:=rwPr s po j hj;show [PV.n .i64 ((qZX (nxPr s po) s.np 0 (fun v k=>List.getD [0,0,0,0,0,0] k 0)) j 0),PV.n .i64 ((qZX (nxPr s po) s.np 0 (fun v k=>List.getD [0,0,0,0,0,0] k 0)) j 1),PV.n .i64 ((qZX (nxPr s po) s.np 0 (fun v k=>List.getD [0,0,0,0,0,0] k 0)) j 2),PV.n .i64 ((qZX (nxPr s po) s.np 0 (fun v k=>List.getD [0,0,0,0,0,0] k 0)) j 3),PV.n .i64 ((qZX (nxPr s po) s.np 0 (fun v k=>List.getD [0,0,0,0,0,0] k 0)) j 4),PV.n .i64 ((qZX (nxPr s po) s.np 0 (fun v k=>List.getD [0,0,0,0,0,0] k 0)) j 5)]=_;rw [h1,h2,h3,h4,h5,h6];rfl
 | false =>
  rw [h] at h0;exact qZZ (Same.lf rfl) h0
def cpr:Shp × Po→Prop:=fun t=>match t with | (_,_)=>True
def epr:Shp × Po→List PV:=fun t=>match t with | (s,po)=>[.a (sP s),.a (Rx.poC po)]
noncomputable def rpr:Shp × Po→Ret:=fun t=>match t with | (s,po)=>.v (.lf (plN s) (fV (plF s po)))
def dpr:List PV→Shp × Po:=fun ps=>match ps with
 | [.a r,.a q]=>(unS r,unPo q)
 | _=>(⟨0,0,0,fun _=>⟨0,0,0⟩⟩,Po.rest)
noncomputable def o_pr:List PV→Option (Bool × Ret):=o_fm dpr cpr epr rpr
theorem ok_pr:zJ Tryz.prog 91 o_pr:=qQV fun t h=>by
 obtain ⟨s,po⟩:=t;exact snd_rpl s po
end Go.Proofs.YtgmbkkkbfbocnaaGreat.Gd
namespace Go.Proofs.YtgmbkkkbfbocnaaGreat.Ge
open Go.Rx Rt Go.Sx Go.RowKit Od Na Nb Nc Nx Nf Ga Gb Gc Gd
def pzF (js:Nat→J) (bx:Nat→Iv) (n:Nat) (l:Int):Po:=bif decide (l = -1) then Po.rest else LP js bx n l.toNat
def ptR (js:Nat→J) (bx:Nat→Iv) (sh:Nat→Shp) (n:Nat):Nat→List PV:=fun i=>[.lf (plN (sh i)) (fV (plF (sh i) (pzF js bx n (sh i).link)))]
theorem yYW {js:Nat→J} {ms:Nat→Ms} {sh:Nat→Shp} {sk:Nat→Skp} {n m c d:Nat} (h:sErr js ms sh sk n m c d=0):rErr js ms n m=0∧c≤24∧∀ i,i < c→shE n (sh i)=0:=by
 unfold sErr at h;by_cases h1:rErr js ms n m=0
 ·rw [vJQ h1,vYV] at h;by_cases h2:24 < (c:Int)
  ·rw [vJQ h2,vYV] at h; exact absurd h (by decide)
  ·rw [vYH h2,vYG] at h;cases h3:shG sh n c with
   | true=>exact ⟨h1,by omega,fun i hi=>vJZ (allN_iff.1 h3 i (Nat.zero_le _) (by omega))⟩
   | false =>
    rw [h3,vYG] at h;have hf:∀ k p,allN (fun i:Nat=>decide (shE n (sh i)=0)) k p=false→shE n (sh (Rx.firstK (fun i:Nat=>decide (shE n (sh i)=0)) k p)) ≠ 0:=by
     intro k;induction k with
     | zero=>intro p hp; cases hp
     | succ k ih =>
      intro p hp;unfold allN at hp;unfold Rx.firstK;by_cases h0:shE n (sh p)=0
      ·rw [vJQ h0] at hp ⊢;exact ih _ (by simpa using hp)
      ·rw [vYH h0];exact h0
    exact absurd h (hf c 0 h3)
 ·rw [vYH h1,vYG] at h; exact absurd h h1
theorem shE_spec {n:Nat} {s:Shp} (h:shE n s=0):(-1≤s.link∧s.link < (n:Int))∧shOk s=true:=by
 unfold shE at h;cases h1:isLk n s.link with
 | false=>rw [h1] at h; exact absurd (show (902:Int)=0 from h) (by decide)
 | true =>
  rw [h1,Bool.not_true,Bool.false_or] at h;unfold isLk at h1;rw [vQJ,decide_eq_true_eq,decide_eq_true_eq] at h1;refine ⟨h1,?_⟩;unfold shOk;cases h2:(decide (s.rad < 1) || (decide (1048576 < s.rad) || (decide ((s.np:Int) < 1) || decide (8 < (s.np:Int))))) with
  | true=>rw [h2] at h; exact absurd (show (902:Int)=0 from h) (by decide)
  | false =>
   rw [h2,vYG] at h;cases h3:yWH s with
   | true=>rfl
   | false=>rw [h3] at h; exact absurd (show (805:Int)=0 from h) (by decide)
theorem lk_of {js:Nat→J} {ms:Nat→Ms} {bx:Nat→Iv} {n m k:Nat} (h:(decide (rErr js ms n m=0) && isB bx n k)=true):rErr js ms n m=0∧k=n∧allV bx n=true:=by
 unfold isB at h;simp only [vQJ,decide_eq_true_eq] at h;obtain ⟨h1,h2,h3⟩:=h;have e:k=n:=by omega
 exact ⟨h1,e,e ▸ h3⟩
theorem kl_of {js:Nat→J} {ms:Nat→Ms} {bx:Nat→Iv} {n m k:Nat} (h:(decide (rErr js ms n m=0) && isB bx n k)=true):yK Tryz.prog 86 [.a [.lf n (fJ js),.lf m (fM ms)],.lf k (fB bx)] (.v (.lf n (fP (LP js bx n)))):=by
 obtain ⟨h1,rfl,h3⟩:=lk_of h;exact snd_kl js ms bx k m (by have:=zHX h1; omega) (rerr_par h1)
theorem rl_of {js:Nat→J} {ms:Nat→Ms} {bx:Nat→Iv} {n m k:Nat} (h:(decide (rErr js ms n m=0) && isB bx n k)=true):yK Tryz.prog 22 [.a [.lf n (fJ js),.lf m (fM ms)],.lf k (fB bx)] (.v (.lf n (fP (LP js bx n)))):=by
 obtain ⟨h1,rfl,h3⟩:=lk_of h;exact snd_rl js ms bx k m h1 h3
noncomputable def orRq (js:Nat→J) (ms:Nat→Ms) (sh:Nat→Shp) (sk:Nat→Skp) (n m c d:Nat) (bx:Nat→Iv) (k:Nat):OrS:=orS ((66,o_lk [.a [.lf n (fJ js),.lf m (fM ms)],.lf k (fB bx)] (decide (n≤50)) (.v (.b (isB bx n k)))) :: (56,o_cr [.a [.lf n (fJ js),.lf m (fM ms),.lf c (fS sh),.lf d (fK sk)]] (.v (.n .i64 (sErr js ms sh sk n m c d)))) :: (22,o_lk [.a [.lf n (fJ js),.lf m (fM ms)],.lf k (fB bx)] (decide (rErr js ms n m=0) && isB bx n k) (.v (.lf n (fP (LP js bx n))))) :: (91,o_pr) :: L9) []
noncomputable def hRq (js:Nat→J) (ms:Nat→Ms) (sh:Nat→Shp) (sk:Nat→Skp) (n m c d:Nat) (bx:Nat→Iv) (k:Nat) (i:Int) (r:Nat) (g:Nat→PV):St:=⟨[(2,.p 2 0),(5,.v (.lf n (fP (LP js bx n)))),(6,.o 56),(7,.v (.n .i64 i))],[(2,.blk [.v (.lf n (fJ js)),.v (.lf m (fM ms)),.v (.lf c (fS sh)),.v (.lf d (fK sk))]),(56,.reg 138 1 (.fo r (fun v=>[(g v)])))]⟩
set_option maxRecDepth 100000 in
theorem rdRq (G:St→Option (Ret × Mem)) (K:Cont) (js:Nat→J) (ms:Nat→Ms) (sh:Nat→Shp) (sk:Nat→Skp) (n m c d:Nat) (bx:Nat→Iv) (k:Nat) (i:Int) (r:Nat) (g:Nat→PV):kZ 60 (cxS Tf (orRq js ms sh sk n m c d bx k) 60 41 (ntmF Tf 41)) (evX Tf (orRq js ms sh sk n m c d bx k) 60 41 (ntmF Tf 41)) (qZ []) (qQ Tf 41 [0,1,0,1,1,1,1]) [0,1,0,1,1,1,1] (Tf.hint 41 (qJ (qQ Tf 41 [0,1,0,1,1,1,1]))) K G (hRq js ms sh sk n m c d bx k i r g) =
 (bif (decide (i < (c:Int))) then (bif (inB i c) then (bif (!decide ((sh (i).toNat).link=(-1))) then (bif (inB i c) then (bif (inB (sh (i).toNat).link n) then (bif (inB i c) then (bif (gF1 cpr epr ((sh (i).toNat),(LP js bx n ((sh (i).toNat).link).toNat))) then (bif (decide (r + 1≤1000000)) then (G (hRq js ms sh sk n m c d bx k (vJJ .i64 (i + 1)) (r + 1) (fun v=>(zXJ (Nat.beq v r) (.lf (plN (sh (i).toNat)) (fV (plF (sh (i).toNat) (LP js bx n ((sh (i).toNat).link).toNat)))) (g v)))))
 else none)
 else none)
 else none)
 else none)
 else none)
 else (bif (inB i c) then (bif (gF1 cpr epr ((sh (i).toNat),(Po.rest))) then (bif (decide (r + 1≤1000000)) then (G (hRq js ms sh sk n m c d bx k (vJJ .i64 (i + 1)) (r + 1) (fun v=>(zXJ (Nat.beq v r) (.lf (plN (sh (i).toNat)) (fV (plF (sh (i).toNat) (Po.rest)))) (g v)))))
 else none)
 else none)
 else none))
 else none)
 else (K (.exit 0) ⟨[(6,.o 56)],[(56,.reg 138 1 (.fo r (fun v=>[(g v)])))]⟩)):=by kernel_rfl
noncomputable def nxRq (js:Nat→J) (_:Nat→Ms) (sh:Nat→Shp) (_:Nat→Skp) (n m c d:Nat) (bx:Nat→Iv) (k:Nat) (i:Nat) (g:Nat→PV):Nat→PV:=fun v=>zXJ (Nat.beq v i) (.lf (plN (sh i)) (fV (plF (sh i) (pzF js bx n (sh i).link)))) (g v)
theorem lpRq (K:Cont) (js:Nat→J) (ms:Nat→Ms) (sh:Nat→Shp) (sk:Nat→Skp) (n m c d:Nat) (bx:Nat→Iv) (k:Nat) (_:c≤24) (hL:∀ i,i < c → -1≤(sh i).link∧(sh i).link < (n:Int)):LFX 60 (cxS Tf (orRq js ms sh sk n m c d bx k) 60 41 (ntmF Tf 41)) (evX Tf (orRq js ms sh sk n m c d bx k) 60 41 (ntmF Tf 41)) (qZ []) (qQ Tf 41 [0,1,0,1,1,1,1]) [0,1,0,1,1,1,1] (Tf.hint 41 (qJ (qQ Tf 41 [0,1,0,1,1,1,1]))) K 60 (hRq js ms sh sk n m c d bx k 0 0 (fun _=>.zs))=(K (.exit 0) ⟨[(6,.o 56)],[(56,.reg 138 1 (.fo c (fun v=>[((qZX (nxRq js ms sh sk n m c d bx k) c 0 (fun _=>.zs)) v)])))]⟩):=by
 refine (uK (L:=LFX 60 (cxS Tf (orRq js ms sh sk n m c d bx k) 60 41 (ntmF Tf 41)) (evX Tf (orRq js ms sh sk n m c d bx k) 60 41 (ntmF Tf 41)) (qZ []) (qQ Tf 41 [0,1,0,1,1,1,1]) [0,1,0,1,1,1,1] (Tf.hint 41 (qJ (qQ Tf 41 [0,1,0,1,1,1,1]))) K) (stp:=kZ 60 (cxS Tf (orRq js ms sh sk n m c d bx k) 60 41 (ntmF Tf 41)) (evX Tf (orRq js ms sh sk n m c d bx k) 60 41 (ntmF Tf 41)) (qZ []) (qQ Tf 41 [0,1,0,1,1,1,1]) [0,1,0,1,1,1,1] (Tf.hint 41 (qJ (qQ Tf 41 [0,1,0,1,1,1,1]))) K) (fun _ _=>rfl) (fun (i:Nat) (g:Nat→PV)=>hRq js ms sh sk n m c d bx k (i:Int) i g) (fun _ _=>True) (fun _ _=>true) (nxRq js ms sh sk n m c d bx k) (c:=c) (fun g=>(K (.exit 0) ⟨[(6,.o 56)],[(56,.reg 138 1 (.fo c (fun v=>[(g v)])))]⟩)) (fun _ _=>none) (fun G i g hi _ => ?_) (fun _ _ _ _ _=>trivial) (fun G g _ => ?_) c 0 60 _ (by omega) (by omega) trivial).trans (qXH c 0 _)
 ·refine (rdRq G K js ms sh sk n m c d bx k i i g).trans ?_;simp only [vJQ (show (i:Int) < (c:Int) by omega),kW (show i < 1000000 by omega),yX (show i < c by omega),toN,vYV,vJQ (show i + 1≤1000000 by omega)];have hl:=hL i hi;by_cases h:(sh i).link = -1
  ·rw [vJQ h,Bool.not_true,vYG,jU (C:=cpr) (t:=(sh i,Po.rest)) trivial,vYV];unfold nxRq pzF;rw [vJQ h];rfl
  ·have hb:inB (sh i).link n=true:=by
    unfold inB;rw [vJQ (show 0≤(sh i).link by omega),vJQ (show (sh i).link.toNat < n by omega)];rfl
   rw [vYH h,Bool.not_false,vYV,hb,vYV,jU (C:=cpr) (t:=(sh i,LP js bx n (sh i).link.toNat)) trivial,vYV];unfold nxRq pzF;rw [vYH h];rfl
 ·refine (rdRq G K js ms sh sk n m c d bx k (c:Int) c g).trans ?_;rw [vYH (show ¬ (c:Int) < (c:Int) by omega)];rfl
theorem rwRq (js:Nat→J) (ms:Nat→Ms) (sh:Nat→Shp) (sk:Nat→Skp) (n m c d:Nat) (bx:Nat→Iv) (k:Nat):∀ v,v < c→(qZX (nxRq js ms sh sk n m c d bx k) c 0 (fun _=>.zs)) v=.lf (plN (sh v)) (fV (plF (sh v) (pzF js bx n (sh v).link))):=by
 refine qYX (Q:=fun (i:Nat) (g:Nat→PV)=>∀ v,v < i→g v=.lf (plN (sh v)) (fV (plF (sh v) (pzF js bx n (sh v).link)))) (c:=c) (fun i g hi h v hv => ?_) c 0 _ (by omega) (fun v hv=>absurd hv (by omega));show zXJ (Nat.beq v i) _ (g v)=_;by_cases e:v=i
 ·subst e;rw [zUQ,vJQ rfl,merge2_t]
 ·rw [zUQ,vYH e,merge2_f];exact h v (by omega)
noncomputable def rqR (js:Nat→J) (ms:Nat→Ms) (sh:Nat→Shp) (sk:Nat→Skp) (n m c d:Nat) (bx:Nat→Iv) (k:Nat):Nat→List PV:=fun v=>[((qZX (nxRq js ms sh sk n m c d bx k) c 0 (fun _=>.zs)) v)]
noncomputable def zXK (js:Nat→J) (ms:Nat→Ms) (sh:Nat→Shp) (sk:Nat→Skp) (n m c d:Nat) (bx:Nat→Iv) (k:Nat):List (List Nat × jK):=[([0,1,0,1,1,1,1],sumF (fun _:Unit=>(hRq js ms sh sk n m c d bx k 0 0 (fun _=>.zs))) (fun _=>()) (fun _ K=>(bif gP (sErr js ms sh sk n m c d=0) then (K (.exit 0) ⟨[(6,.o 56)],[(56,.reg 138 1 (.fo c (fun v=>[((qZX (nxRq js ms sh sk n m c d bx k) c 0 (fun _=>.zs)) v)])))]⟩) else none)))]
set_option maxRecDepth 100000 in
theorem kQZ (js:Nat→J) (ms:Nat→Ms) (sh:Nat→Shp) (sk:Nat→Skp) (n m c d:Nat) (bx:Nat→Iv) (k:Nat):qQU Tf (orRq js ms sh sk n m c d bx k) (qZ (zXK js ms sh sk n m c d bx k)) 60 41 [.a [.lf n (fJ js),.lf m (fM ms),.lf c (fS sh),.lf d (fK sk)],.lf k (fB bx)] =
 (bif (g1 [.a [.lf n (fJ js),.lf m (fM ms),.lf c (fS sh),.lf d (fK sk)]]) then (bif (!decide ((sErr js ms sh sk n m c d)=0)) then some (.v (.l []),[])
 else (bif (g1 [.a [.lf n (fJ js),.lf m (fM ms)],.lf k (fB bx)] && decide (n≤50)) then (bif (isB bx n k) then (bif (g1 [.a [.lf n (fJ js),.lf m (fM ms)],.lf k (fB bx)] && (decide (rErr js ms n m=0) && isB bx n k)) then (bif (gSt (hRq js ms sh sk n m c d bx k 0 0 (fun _=>.zs)) (hRq js ms sh sk n m c d bx k 0 0 (fun _=>.zs))) then (bif gP (sErr js ms sh sk n m c d=0) then some (.ow 138 1 (.fo c (rqR js ms sh sk n m c d bx k)),[])
 else none)
 else none)
 else none)
 else some (.v (.l []),[]))
 else none))
 else none):=by kernel_rfl
theorem yWU (js:Nat→J) (ms:Nat→Ms) (sh:Nat→Shp) (sk:Nat→Skp) (n m c d:Nat) (bx:Nat→Iv) (k:Nat) (_:k≤9223372036854775807):yK Tryz.prog 41 [.a [.lf n (fJ js),.lf m (fM ms),.lf c (fS sh),.lf d (fK sk)],.lf k (fB bx)] (bif isB bx n k && decide (sErr js ms sh sk n m c d=0) then .ow 138 1 (.fo c (rqR js ms sh sk n m c d bx k)) else .v (.l [])):=by
 refine zW (N:=60) (LO:=qZ (zXK js ms sh sk n m c d bx k)) jH zG (kY (l:=((66,o_lk [.a [.lf n (fJ js),.lf m (fM ms)],.lf k (fB bx)] (decide (n≤50)) (.v (.b (isB bx n k)))) :: (56,o_cr [.a [.lf n (fJ js),.lf m (fM ms),.lf c (fS sh),.lf d (fK sk)]] (.v (.n .i64 (sErr js ms sh sk n m c d)))) :: (22,o_lk [.a [.lf n (fJ js),.lf m (fM ms)],.lf k (fB bx)] (decide (rErr js ms n m=0) && isB bx n k) (.v (.lf n (fP (LP js bx n))))) :: (91,o_pr) :: L9)) (m:=[]) ⟨yVU (fun h=>jJJ js ms bx n m k (vJZ h)),zJX (snd_rcs js ms sh sk n m c d),yVU (fun h=>rl_of h),ok_pr,kVQ⟩ trivial) (fun p S hp => ?_) ?_
 ·refine zU (L:=qQ Tf 41) (l:=(zXK js ms sh sk n m c d bx k)) (show AllP _ (zXK js ms sh sk n m c d bx k) from ⟨?_,trivial⟩) p S hp
  ·dsimp only;refine kQ (T:=Tf) (o:=(orRq js ms sh sk n m c d bx k)) (f:=41) (LO:=qZ []) (p:=[0,1,0,1,1,1,1]) kJ ?_;intro t K r hr;obtain ⟨hg,hr⟩:=qY hr
   skip
   exact (lpRq K js ms sh sk n m c d bx k (yYW (kK hg)).2.1 (fun i hi=>(shE_spec ((yYW (kK hg)).2.2 i hi)).1)).trans hr
 ·refine (kQZ js ms sh sk n m c d bx k).trans ?_;rw [g1_t];by_cases h:sErr js ms sh sk n m c d=0
  ·obtain ⟨h1,h2,_⟩:=yYW h;rw [g1_t,vJQ (show n≤50 by have:=zHX h1; omega),vJQ h];cases hb:isB bx n k with
   | false=>rfl
   | true =>
    simp only [g1_t,vJQ h1,vZJ,vYV,Bool.not_true,vYG,yU,zYJ h]
    all_goals rfl
  ·rw [vYH h,Bool.and_false]; rfl
theorem snd_rpt (js:Nat→J) (ms:Nat→Ms) (sh:Nat→Shp) (sk:Nat→Skp) (n m c d:Nat) (bx:Nat→Iv) (k:Nat) (hk:k≤9223372036854775807):yK Tryz.prog 41 [.a [.lf n (fJ js),.lf m (fM ms),.lf c (fS sh),.lf d (fK sk)],.lf k (fB bx)] (.v (.lf (bif isB bx n k && decide (sErr js ms sh sk n m c d=0) then c else 0) (ptR js bx sh n))):=by
 have h0:=yWU js ms sh sk n m c d bx k hk;cases h:(isB bx n k && decide (sErr js ms sh sk n m c d=0)) with
 | true =>
  rw [h] at h0;refine qZZ (qWW fun j (hj:j < c) => ?_) (yQK h0);show [((qZX (nxRq js ms sh sk n m c d bx k) c 0 (fun _=>.zs)) j)]=_;rw [rwRq js ms sh sk n m c d bx k j hj];rfl
 | false =>
  rw [h] at h0;exact qZZ (Same.lf rfl) h0
end Go.Proofs.YtgmbkkkbfbocnaaGreat.Ge
namespace Go.Proofs.YtgmbkkkbfbocnaaGreat.Gf
open Go.Rx Rt Go.Sx Go.RowKit Od Na Nb Nc Nx Nf Ga Gb Gc Gd Ge
theorem allN_t {n:Nat}:allN (fun _:Nat=>true) n 0=true:=allN_iff.2 fun _ _ _=>rfl
noncomputable def hsp (q:Nat→Po) (n:Nat) (i:Int):St:=⟨[(0,.v (.lf n (fP q))),(1,.v (.lf n (fP q))),(5,.v (.n .i64 i))],[]⟩
def fVV (g:Nat→Nat) (x:Nat→Nat→V3):Nat→List PV:=fun v=>[.lf (g v) (fV (x v))]
noncomputable def hsl (g:Nat→Nat) (x:Nat→Nat→V3) (c:Nat) (i:Int):St:=⟨[(0,.v (.lf c (fVV g x))),(1,.v (.lf c (fVV g x))),(5,.v (.n .i64 i))],[]⟩
end Go.Proofs.YtgmbkkkbfbocnaaGreat.Gf
namespace Go.Proofs.YtgmbkkkbfbocnaaGreat.Gg
open Go.Rx Rt Go.Sx Go.RowKit Od Na Nb Nc Nx Nf Ga Gb Gc Gd Ge Gf
noncomputable def orkaa (js:Nat→J) (ms:Nat→Ms) (bx:Nat→Iv) (n m k:Nat):OrS:=orS [(84,o_lk [.a [.lf n (fJ js),.lf m (fM ms)],.lf k (fB bx)] (decide (k≤9223372036854775807)) (.v (.b (isB bx n k)))),(85,o_cr [.a [.lf n (fJ js),.lf m (fM ms)]] (.v (.n .i64 (rErr js ms n m)))),(86,o_lk [.a [.lf n (fJ js),.lf m (fM ms)],.lf k (fB bx)] (decide (rErr js ms n m=0) && isB bx n k) (.v (.lf n (fP (LP js bx n)))))] []
noncomputable def kUH (_:Nat→J) (_:Nat→Ms) (_:Nat→Iv) (n m k:Nat):List (List Nat × jK):=[]
set_option maxRecDepth 100000 in
theorem pxkaa (js:Nat→J) (ms:Nat→Ms) (bx:Nat→Iv) (n m k:Nat):qQU Tf (orkaa js ms bx n m k) (qZ (kUH js ms bx n m k)) 60 38 [.a [.lf n (fJ js),.lf m (fM ms)],.lf k (fB bx)] =
 (bif (g1 [.a [.lf n (fJ js),.lf m (fM ms)],.lf k (fB bx)] && decide (k≤9223372036854775807)) then (bif (isB bx n k) then (bif (g1 [.a [.lf n (fJ js),.lf m (fM ms)]]) then (bif (!decide ((rErr js ms n m)=0)) then some (.v (.l []),[])
 else (bif (g1 [.a [.lf n (fJ js),.lf m (fM ms)],.lf k (fB bx)] && (decide (rErr js ms n m=0) && isB bx n k)) then some (.v (.lf n (fP (LP js bx n))),[])
 else none))
 else none)
 else some (.v (.l []),[]))
 else none):=by kernel_rfl
theorem snd_kaa (js:Nat→J) (ms:Nat→Ms) (bx:Nat→Iv) (n m k:Nat) (hk:k≤9223372036854775807):yK Tryz.prog 38 [.a [.lf n (fJ js),.lf m (fM ms)],.lf k (fB bx)] (.v (bif (decide (rErr js ms n m=0) && isB bx n k) then .lf n (fP (LP js bx n)) else .l [])):=by
 refine zW (N:=60) (LO:=qZ (kUH js ms bx n m k)) jH zG (kY (l:=[(84,o_lk [.a [.lf n (fJ js),.lf m (fM ms)],.lf k (fB bx)] (decide (k≤9223372036854775807)) (.v (.b (isB bx n k)))),(85,o_cr [.a [.lf n (fJ js),.lf m (fM ms)]] (.v (.n .i64 (rErr js ms n m)))),(86,o_lk [.a [.lf n (fJ js),.lf m (fM ms)],.lf k (fB bx)] (decide (rErr js ms n m=0) && isB bx n k) (.v (.lf n (fP (LP js bx n)))))]) (m:=[]) ⟨yVU (fun h=>snd_isP js ms bx n m k (vJZ h)),zJX (jJK js ms n m),yVU (fun h=>kl_of h),trivial⟩ trivial) (fun p S hp => ?_) ?_
 ·refine zU (L:=qQ Tf 38) (l:=(kUH js ms bx n m k)) (show AllP _ (kUH js ms bx n m k) from trivial) p S hp
 ·refine (pxkaa js ms bx n m k).trans ?_;rw [g1_t,vJQ hk];cases hb:isB bx n k with
  | false=>rw [Bool.and_false]; rfl
  | true =>
   rw [g1_t];by_cases h:rErr js ms n m=0
   ·simp only [vJQ h,g1_t,vZJ,vYV,Bool.not_true,vYG]
   ·rw [vYH h]; rfl
theorem snd_kaT (js:Nat→J) (ms:Nat→Ms) (bx:Nat→Iv) (n m k:Nat) (hk:k≤9223372036854775807):yK Tryz.prog 38 [.a [.lf n (fJ js),.lf m (fM ms)],.lf k (fB bx)] (.v (.lf (bif (decide (rErr js ms n m=0) && isB bx n k) then n else 0) (fP (LP js bx n)))):=by
 have h0:=snd_kaa js ms bx n m k hk;cases h:(decide (rErr js ms n m=0) && isB bx n k) with
 | true=>rw [h] at h0; exact h0
 | false=>rw [h] at h0; exact qZZ (Same.lf rfl) h0
noncomputable def orrlN (js:Nat→J) (ms:Nat→Ms) (bx:Nat→Iv) (n m k:Nat):OrS:=orS [(65,o_cr [.a [.lf n (fJ js),.lf m (fM ms)]] (.v (.n .i64 (rErr js ms n m)))),(66,o_lk [.a [.lf n (fJ js),.lf m (fM ms)],.lf k (fB bx)] (decide (n≤50)) (.v (.b (isB bx n k))))] []
noncomputable def kKV:List (List Nat × jK):=[([0,1,0,1,1,1],fun _ _=>none)]
set_option maxRecDepth 100000 in
theorem pxrlN (js:Nat→J) (ms:Nat→Ms) (bx:Nat→Iv) (n m k:Nat):qQU Tf (orrlN js ms bx n m k) (qZ kKV) 60 22 [.a [.lf n (fJ js),.lf m (fM ms)],.lf k (fB bx)] =
 (bif (g1 [.a [.lf n (fJ js),.lf m (fM ms)]]) then (bif (!decide ((rErr js ms n m)=0)) then some (.v (.l []),[])
 else (bif (g1 [.a [.lf n (fJ js),.lf m (fM ms)],.lf k (fB bx)] && decide (n≤50)) then (bif (isB bx n k) then none
 else some (.v (.l []),[]))
 else none))
 else none):=by kernel_rfl
theorem snd_rlT (js:Nat→J) (ms:Nat→Ms) (bx:Nat→Iv) (n m k:Nat):yK Tryz.prog 22 [.a [.lf n (fJ js),.lf m (fM ms)],.lf k (fB bx)] (.v (.lf (bif (decide (rErr js ms n m=0) && isB bx n k) then n else 0) (fP (LP js bx n)))):=by
 cases h:(decide (rErr js ms n m=0) && isB bx n k) with
 | true=>exact rl_of h
 | false =>
  refine qZZ (x:=.l []) (Same.lf rfl) ?_;refine zW (N:=60) (LO:=qZ kKV) jH zG (kY (l:=[(65,o_cr [.a [.lf n (fJ js),.lf m (fM ms)]] (.v (.n .i64 (rErr js ms n m)))),(66,o_lk [.a [.lf n (fJ js),.lf m (fM ms)],.lf k (fB bx)] (decide (n≤50)) (.v (.b (isB bx n k))))]) (m:=[]) ⟨zJX (yWX js ms n m),yVU (fun h=>jJJ js ms bx n m k (vJZ h)),trivial⟩ trivial) (fun p S hp => ?_) ?_
  ·refine zU (L:=qQ Tf 22) (l:=kKV) (show AllP _ kKV from ⟨?_,trivial⟩) p S hp;intro K K' K0 σ r hK hs;cases hs
  ·refine (pxrlN js ms bx n m k).trans ?_;rw [g1_t];by_cases h1:rErr js ms n m=0
   ·have hn:=zHX h1;rw [vJQ h1,vZH] at h;rw [vJQ h1,g1_t,vJQ (show n≤50 by omega),h];rfl
   ·rw [vYH h1]; rfl
end Go.Proofs.YtgmbkkkbfbocnaaGreat.Gg
namespace Go.Proofs.YtgmbkkkbfbocnaaGreat.Ha
open Go.Rx Rt Go.Sx Go.RowKit Od Na Nb Nc Nx Nf Ga Gb Gc Gd Ge Gf Gg
structure ObT where
 name:ByteArray
 ns:Nat
 shs:Nat→Shp
structure Hnd where
 link:Int
 off:Z3
structure Grp where
 hand:Int
 place:Int
 na:Nat
 cf:Nat→Int
structure Wsp where
 js:Nat→J
 ms:Nat→Ms
 sh:Nat→Shp
 sk:Nat→Skp
 n:Nat
 m:Nat
 c:Nat
 d:Nat
 ob:Nat→ObT
 pl:Nat→Z3
 hd:Nat→Hnd
 gr:Nat→Grp
 no:Nat
 np:Nat
 nh:Nat
 ng:Nat
 slack:Int
def oP (o:ObT):List PV:=[.s o.name,.lf o.ns (fS o.shs)]
def fO (ob:Nat→ObT):Nat→List PV:=fun v=>oP (ob v)
def hP (h:Hnd):List PV:=[.n .i64 h.link,.n .i64 h.off.x,.n .i64 h.off.y,.n .i64 h.off.z]
def fH (hd:Nat→Hnd):Nat→List PV:=fun v=>hP (hd v)
def gPv (g:Grp):List PV:=[.n .i64 g.hand,.n .i64 g.place,.lf g.na (fQ g.cf)]
def fG (gr:Nat→Grp):Nat→List PV:=fun v=>gPv (gr v)
def wP (ws:Wsp):List PV:=[.lf ws.n (fJ ws.js),.lf ws.m (fM ws.ms),.lf ws.c (fS ws.sh),.lf ws.d (fK ws.sk),.lf ws.no (fO ws.ob),.lf ws.np (fZ ws.pl),.lf ws.nh (fH ws.hd),.lf ws.ng (fG ws.gr),.n .i64 ws.slack]
def unO (r:List PV):ObT:=match r with
 | [.s a,.lf k f]=>⟨a,k,unFS f⟩
 | _=>⟨ByteArray.empty,0,fun _=>⟨0,0,0,fun _=>⟨0,0,0⟩⟩⟩
def unH (r:List PV):Hnd:=match r with
 | [.n _ a,.n _ x,.n _ y,.n _ z]=>⟨a,⟨x,y,z⟩⟩
 | _=>⟨0,⟨0,0,0⟩⟩
def unG (r:List PV):Grp:=match r with
 | [.n _ a,.n _ b,.lf k f]=>⟨a,b,k,unFQ f⟩
 | _=>⟨0,0,0,fun _=>0⟩
def unW (r:List PV):Wsp:=match r with
 | [.lf n js,.lf m ms,.lf c sh,.lf d sk,.lf no ob,.lf np pl,.lf nh hd,.lf ng gr,.n _ s]=>⟨unFJ js,unFM ms,unFS sh,unFK sk,n,m,c,d,fun v=>unO (ob v),unFZ pl,fun v=>unH (hd v),fun v=>unG (gr v),no,np,nh,ng,s⟩
 | _=>⟨fun _=>⟨ByteArray.empty,0,0,⟨0,0,0⟩,0,0,0,0,0,0⟩,fun _=>⟨0,0,⟨0,0,0⟩⟩,fun _=>⟨0,0,0,fun _=>⟨0,0,0⟩⟩,fun _=>⟨0,0⟩,0,0,0,0,fun _=>⟨ByteArray.empty,0,fun _=>⟨0,0,0,fun _=>⟨0,0,0⟩⟩⟩,fun _=>⟨0,0,0⟩,fun _=>⟨0,⟨0,0,0⟩⟩,fun _=>⟨0,0,0,fun _=>0⟩,0,0,0,0,0⟩
theorem mmz (x:Int):decide (min (max x (-2097152)) 2097152=x)=(!decide (x < -2097152) && !decide (2097152 < x)):=by
 by_cases h1:x < -2097152
 ·rw [vJQ h1,vYH (show ¬ min (max x (-2097152)) 2097152=x by omega)]; rfl
 ·rw [vYH h1];by_cases h2:2097152 < x
  ·rw [vJQ h2,vYH (show ¬ min (max x (-2097152)) 2097152=x by omega)]; rfl
  ·rw [vYH h2,vJQ (show min (max x (-2097152)) 2097152=x by omega)]; rfl
noncomputable def ornea (_:Z3):OrS:=orS [] []
noncomputable def kUU (_:Z3):List (List Nat × jK):=[]
set_option maxRecDepth 100000 in
theorem pxnea (z:Z3):qQU Tf (ornea z) (qZ (kUU z)) 60 99 [.a [.n .i64 z.x,.n .i64 z.y,.n .i64 z.z]] =
 (bif ((decide ((min (max z.x (-2097152)) 2097152)=z.x)) && ((decide ((min (max z.y (-2097152)) 2097152)=z.y)) && ((decide ((min (max z.z (-2097152)) 2097152)=z.z)) && true))) then some (.v (.b true),[])
 else some (.v (.b false),[])):=by kernel_rfl
theorem snd_nea (z:Z3):yK Tryz.prog 99 [.a [.n .i64 z.x,.n .i64 z.y,.n .i64 z.z]] (.v (.b (zOk 2097152 z))):=by
 refine zW (N:=60) (LO:=qZ (kUU z)) jH zG (kY (l:=[]) (m:=[]) trivial trivial) (fun p S hp => ?_) ?_
 ·refine zU (L:=qQ Tf 99) (l:=(kUU z)) (show AllP _ (kUU z) from trivial) p S hp
 ·refine (pxnea z).trans ?_;have e:((decide ((min (max z.x (-2097152)) 2097152)=z.x)) && ((decide ((min (max z.y (-2097152)) 2097152)=z.y)) && ((decide ((min (max z.z (-2097152)) 2097152)=z.z)) && true)))=zOk 2097152 z:=by
   unfold zOk;simp only [mmz,Bool.and_true]
  rw [e];cases zOk 2097152 z <;> rfl
def cne:Z3→Prop:=fun t=>match t with | _=>True
def ene:Z3→List PV:=fun t=>match t with | z=>[.a (zP z)]
noncomputable def rne:Z3→Ret:=fun t=>match t with | z=>.v (.b (zOk 2097152 z))
def dne:List PV→Z3:=fun ps=>match ps with
 | [.a r]=>unZ r
 | _=>⟨0,0,0⟩
noncomputable def o_ne:List PV→Option (Bool × Ret):=o_fm dne cne ene rne
theorem ok_ne:zJ Tryz.prog 99 o_ne:=qQV fun t h=>by
 revert h; revert t; intro z h
 exact snd_nea z
noncomputable def ornq (_:Z3):OrS:=orS [] []
noncomputable def lsnq (_:Z3):List (List Nat × jK):=[]
set_option maxRecDepth 100000 in
theorem pxnq (z:Z3):qQU Tf (ornq z) (qZ (lsnq z)) 60 57 [.a [.n .i64 z.x,.n .i64 z.y,.n .i64 z.z],.n .i64 2097152] =
 (bif (decide (z.x < (-2097152))) then some (.v (.b false),[])
 else (bif (decide (2097152 < z.x)) then some (.v (.b false),[])
 else (bif (decide (z.y < (-2097152))) then some (.v (.b false),[])
 else (bif (decide (2097152 < z.y)) then some (.v (.b false),[])
 else (bif (decide (z.z < (-2097152))) then some (.v (.b false),[])
 else (bif (decide (2097152 < z.z)) then some (.v (.b false),[])
 else some (.v (.b true),[]))))))):=by kernel_rfl
theorem snd_nq (z:Z3):yK Tryz.prog 57 [.a [.n .i64 z.x,.n .i64 z.y,.n .i64 z.z],.n .i64 2097152] (.v (.b (zOk 2097152 z))):=by
 refine zW (N:=60) (LO:=qZ (lsnq z)) jH zG (kY (l:=[]) (m:=[]) trivial trivial) (fun p S hp => ?_) ?_
 ·refine zU (L:=qQ Tf 57) (l:=(lsnq z)) (show AllP _ (lsnq z) from trivial) p S hp
 ·refine (pxnq z).trans ?_;unfold zOk;cases decide (z.x < -2097152) <;> cases decide (2097152 < z.x) <;> cases decide (z.y < -2097152) <;> cases decide (2097152 < z.y) <;> cases decide (z.z < -2097152) <;> cases decide (2097152 < z.z) <;> rfl
def cnq:Z3→Prop:=fun t=>match t with | _=>True
def enq:Z3→List PV:=fun t=>match t with | z=>[.a (zP z),.n .i64 2097152]
noncomputable def rnq:Z3→Ret:=fun t=>match t with | z=>.v (.b (zOk 2097152 z))
def dnq:List PV→Z3:=fun ps=>match ps with
 | [.a r,.n _ _]=>(unZ r)
 | _=>⟨0,0,0⟩
noncomputable def o_nq:List PV→Option (Bool × Ret):=o_fm dnq cnq enq rnq
theorem ok_nq:zJ Tryz.prog 57 o_nq:=qQV fun t h=>by
 revert h; revert t; intro z h
 exact snd_nq z
def sOk (s:Shp):Bool:=shOk s && (decide (s.link=0) && allN (fun k:Nat=>zOk 2097152 (s.pts k)) s.np 0)
def soOk (o:ObT):Bool:=allN (fun i:Nat=>sOk (o.shs i)) o.ns 0 && decide (0 < (o.ns:Int))
def slS (σ:St) (k:Nat):Shp:=match qQG σ.S k with
 | some (.v (.lf n f))=>⟨0,0,n,unFZ f⟩
 | _=>⟨0,0,0,fun _=>⟨0,0,0⟩⟩
noncomputable def orSo (o:ObT):OrS:=orS [(103,o_pk),(99,o_ne)] []
noncomputable def hSi (o:ObT) (i:Int) (s:Shp) (k:Int):St:=⟨[(1,.p 1 0),(8,.v (.lf o.ns (fS o.shs))),(9,.v (.n .i64 (o.ns:Int))),(10,.v (.n .i64 i)),(23,.v (.lf s.np (fZ s.pts))),(24,.v (.n .i64 (s.np:Int))),(25,.v (.n .i64 k))],[(1,.blk [.v (.s o.name),.v (.lf o.ns (fS o.shs))])]⟩
set_option maxRecDepth 100000 in
theorem rdSi (G:St→Option (Ret × Mem)) (K:Cont) (o:ObT) (i:Int) (s:Shp) (k:Int):kZ (o.ns + 100) (cxS Tf (orSo o) (o.ns + 100) 55 (ntmF Tf 55)) (evX Tf (orSo o) (o.ns + 100) 55 (ntmF Tf 55)) (qZ []) (qQ Tf 55 [0,1,1,1,0,0,1,1,0,0,1,0,1]) [0,1,1,1,0,0,1,1,0,0,1,0,1] (Tf.hint 55 (qJ (qQ Tf 55 [0,1,1,1,0,0,1,1,0,0,1,0,1]))) K G (hSi o i s k) =
 (bif (decide (k < (s.np:Int))) then (bif (inB k s.np) then (bif (gF1 cne ene (s.pts (k).toNat)) then (bif (zOk 2097152 (s.pts (k).toNat)) then (G (hSi o i s (vJJ .i64 (k + 1))))
 else (K .ret ⟨[(1,.p 1 0),(2,.v (.b false)),(8,.v (.lf o.ns (fS o.shs))),(9,.v (.n .i64 (o.ns:Int))),(10,.v (.n .i64 i))],[(1,.blk [.v (.s o.name),.v (.lf o.ns (fS o.shs))])]⟩))
 else none)
 else none)
 else (K (.exit 2) ⟨[(1,.p 1 0),(8,.v (.lf o.ns (fS o.shs))),(9,.v (.n .i64 (o.ns:Int))),(10,.v (.n .i64 i))],[(1,.blk [.v (.s o.name),.v (.lf o.ns (fS o.shs))])]⟩)):=by kernel_rfl
theorem lpSi (K:Cont) (o:ObT) (i:Int) (s:Shp) (_:s.np≤50):LFX (o.ns + 100) (cxS Tf (orSo o) (o.ns + 100) 55 (ntmF Tf 55)) (evX Tf (orSo o) (o.ns + 100) 55 (ntmF Tf 55)) (qZ []) (qQ Tf 55 [0,1,1,1,0,0,1,1,0,0,1,0,1]) [0,1,1,1,0,0,1,1,0,0,1,0,1] (Tf.hint 55 (qJ (qQ Tf 55 [0,1,1,1,0,0,1,1,0,0,1,0,1]))) K (o.ns + 100) (hSi o i s 0)=bif (allN (fun k:Nat=>zOk 2097152 (s.pts k)) s.np 0) then (K (.exit 2) ⟨[(1,.p 1 0),(8,.v (.lf o.ns (fS o.shs))),(9,.v (.n .i64 (o.ns:Int))),(10,.v (.n .i64 i))],[(1,.blk [.v (.s o.name),.v (.lf o.ns (fS o.shs))])]⟩) else (K .ret ⟨[(1,.p 1 0),(2,.v (.b false)),(8,.v (.lf o.ns (fS o.shs))),(9,.v (.n .i64 (o.ns:Int))),(10,.v (.n .i64 i))],[(1,.blk [.v (.s o.name),.v (.lf o.ns (fS o.shs))])]⟩):=by
 refine (uK (L:=LFX (o.ns + 100) (cxS Tf (orSo o) (o.ns + 100) 55 (ntmF Tf 55)) (evX Tf (orSo o) (o.ns + 100) 55 (ntmF Tf 55)) (qZ []) (qQ Tf 55 [0,1,1,1,0,0,1,1,0,0,1,0,1]) [0,1,1,1,0,0,1,1,0,0,1,0,1] (Tf.hint 55 (qJ (qQ Tf 55 [0,1,1,1,0,0,1,1,0,0,1,0,1]))) K) (stp:=kZ (o.ns + 100) (cxS Tf (orSo o) (o.ns + 100) 55 (ntmF Tf 55)) (evX Tf (orSo o) (o.ns + 100) 55 (ntmF Tf 55)) (qZ []) (qQ Tf 55 [0,1,1,1,0,0,1,1,0,0,1,0,1]) [0,1,1,1,0,0,1,1,0,0,1,0,1] (Tf.hint 55 (qJ (qQ Tf 55 [0,1,1,1,0,0,1,1,0,0,1,0,1]))) K) (fun _ _=>rfl) (fun (k:Nat) (_:Unit)=>hSi o i s (k:Int)) (fun _ _=>True) (fun (k:Nat) _=>zOk 2097152 (s.pts k)) (fun _ _=>()) (c:=s.np) (fun _=>(K (.exit 2) ⟨[(1,.p 1 0),(8,.v (.lf o.ns (fS o.shs))),(9,.v (.n .i64 (o.ns:Int))),(10,.v (.n .i64 i))],[(1,.blk [.v (.s o.name),.v (.lf o.ns (fS o.shs))])]⟩)) (fun k _=>(K .ret ⟨[(1,.p 1 0),(2,.v (.b false)),(8,.v (.lf o.ns (fS o.shs))),(9,.v (.n .i64 (o.ns:Int))),(10,.v (.n .i64 i))],[(1,.blk [.v (.s o.name),.v (.lf o.ns (fS o.shs))])]⟩)) (fun G k f hi _ => ?_) (fun _ _ _ _ _=>trivial) (fun G f _ => ?_) (s.np) 0 (o.ns + 100) () (by omega) (by omega) trivial).trans ((jQ _ _ _ _ _).trans (yH _ _ _ _ _))
 ·refine (rdSi G K o i s k).trans ?_;rw [vJQ (show (k:Int) < (s.np:Int) by omega),kW (by omega),yX (show k < s.np by omega),toN,jU (C:=cne) (t:=s.pts k) trivial];cases zOk 2097152 (s.pts k) <;> rfl
 ·refine (rdSi G K o i s (s.np:Int)).trans ?_;rw [vYH (show ¬ (s.np:Int) < (s.np:Int) by omega)];rfl
theorem okSi (o:ObT):∀ p S,qZ [([0,1,1,1,0,0,1,1,0,0,1,0,1],sumF (fun t:Int × Shp=>(hSi o t.1 t.2 0)) (fun σ=>(slI σ 10,slS σ 23)) (fun t K=>(bif (decide (t.2.np≤50)) then (bif (allN (fun k:Nat=>zOk 2097152 (t.2.pts k)) t.2.np 0) then (K (.exit 2) ⟨[(1,.p 1 0),(8,.v (.lf o.ns (fS o.shs))),(9,.v (.n .i64 (o.ns:Int))),(10,.v (.n .i64 t.1))],[(1,.blk [.v (.s o.name),.v (.lf o.ns (fS o.shs))])]⟩) else (K .ret ⟨[(1,.p 1 0),(2,.v (.b false)),(8,.v (.lf o.ns (fS o.shs))),(9,.v (.n .i64 (o.ns:Int))),(10,.v (.n .i64 t.1))],[(1,.blk [.v (.s o.name),.v (.lf o.ns (fS o.shs))])]⟩)) else none)))] p=some S→qQZ (o.ns + 100) (cxS Tf (orSo o) (o.ns + 100) 55 (ntmF Tf 55)) (qQ Tf 55 p) S:=fun p S hp=>by
 refine zU (L:=qQ Tf 55) (l:=[([0,1,1,1,0,0,1,1,0,0,1,0,1],sumF (fun t:Int × Shp=>(hSi o t.1 t.2 0)) (fun σ=>(slI σ 10,slS σ 23)) (fun t K=>(bif (decide (t.2.np≤50)) then (bif (allN (fun k:Nat=>zOk 2097152 (t.2.pts k)) t.2.np 0) then (K (.exit 2) ⟨[(1,.p 1 0),(8,.v (.lf o.ns (fS o.shs))),(9,.v (.n .i64 (o.ns:Int))),(10,.v (.n .i64 t.1))],[(1,.blk [.v (.s o.name),.v (.lf o.ns (fS o.shs))])]⟩) else (K .ret ⟨[(1,.p 1 0),(2,.v (.b false)),(8,.v (.lf o.ns (fS o.shs))),(9,.v (.n .i64 (o.ns:Int))),(10,.v (.n .i64 t.1))],[(1,.blk [.v (.s o.name),.v (.lf o.ns (fS o.shs))])]⟩)) else none)))]) ⟨?_,trivial⟩ p S hp;dsimp only;refine kQ (T:=Tf) (o:=(orSo o)) (f:=55) (LO:=qZ []) (p:=[0,1,1,1,0,0,1,1,0,0,1,0,1]) kJ ?_;intro t K r hr;obtain ⟨hg,hr⟩:=qY hr
 skip
 exact (lpSi K o t.1 t.2 (vJZ hg)).trans hr
noncomputable def hSo (o:ObT) (i:Int):St:=⟨[(1,.p 1 0),(8,.v (.lf o.ns (fS o.shs))),(9,.v (.n .i64 (o.ns:Int))),(10,.v (.n .i64 i))],[(1,.blk [.v (.s o.name),.v (.lf o.ns (fS o.shs))])]⟩
set_option maxRecDepth 100000 in
theorem rdSo (G:St→Option (Ret × Mem)) (K:Cont) (o:ObT) (i:Int):kZ (o.ns + 100) (cxS Tf (orSo o) (o.ns + 100) 55 (ntmF Tf 55)) (evX Tf (orSo o) (o.ns + 100) 55 (ntmF Tf 55)) (qZ [([0,1,1,1,0,0,1,1,0,0,1,0,1],sumF (fun t:Int × Shp=>(hSi o t.1 t.2 0)) (fun σ=>(slI σ 10,slS σ 23)) (fun t K=>(bif (decide (t.2.np≤50)) then (bif (allN (fun k:Nat=>zOk 2097152 (t.2.pts k)) t.2.np 0) then (K (.exit 2) ⟨[(1,.p 1 0),(8,.v (.lf o.ns (fS o.shs))),(9,.v (.n .i64 (o.ns:Int))),(10,.v (.n .i64 t.1))],[(1,.blk [.v (.s o.name),.v (.lf o.ns (fS o.shs))])]⟩) else (K .ret ⟨[(1,.p 1 0),(2,.v (.b false)),(8,.v (.lf o.ns (fS o.shs))),(9,.v (.n .i64 (o.ns:Int))),(10,.v (.n .i64 t.1))],[(1,.blk [.v (.s o.name),.v (.lf o.ns (fS o.shs))])]⟩)) else none)))]) (qQ Tf 55 [0,1,0,1]) [0,1,0,1] (Tf.hint 55 (qJ (qQ Tf 55 [0,1,0,1]))) K G (hSo o i) =
 (bif (decide (i < (o.ns:Int))) then (bif (inB i o.ns) then (bif (gF1 cpk epk (o.shs (i).toNat)) then (bif (shOk (o.shs (i).toNat)) then (bif (!decide ((o.shs (i).toNat).link=0)) then (K .ret ⟨[(1,.p 1 0),(2,.v (.b false))],[(1,.blk [.v (.s o.name),.v (.lf o.ns (fS o.shs))])]⟩)
 else (bif (gSt (hSi o i (o.shs (i).toNat) 0) (hSi o i (o.shs (i).toNat) 0)) then (bif (decide ((o.shs (i).toNat).np≤50)) then (bif (allN (fun k:Nat=>zOk 2097152 ((o.shs (i).toNat).pts k)) (o.shs (i).toNat).np 0) then (G (hSo o (vJJ .i64 (i + 1))))
 else (K .ret ⟨[(1,.p 1 0),(2,.v (.b false))],[(1,.blk [.v (.s o.name),.v (.lf o.ns (fS o.shs))])]⟩))
 else none)
 else none))
 else (K .ret ⟨[(1,.p 1 0),(2,.v (.b false))],[(1,.blk [.v (.s o.name),.v (.lf o.ns (fS o.shs))])]⟩))
 else none)
 else none)
 else (K (.exit 0) ⟨[(1,.p 1 0)],[(1,.blk [.v (.s o.name),.v (.lf o.ns (fS o.shs))])]⟩)):=by kernel_rfl
theorem lpSo (K:Cont) (o:ObT) (_:o.ns≤9223372036854775807):LFX (o.ns + 100) (cxS Tf (orSo o) (o.ns + 100) 55 (ntmF Tf 55)) (evX Tf (orSo o) (o.ns + 100) 55 (ntmF Tf 55)) (qZ [([0,1,1,1,0,0,1,1,0,0,1,0,1],sumF (fun t:Int × Shp=>(hSi o t.1 t.2 0)) (fun σ=>(slI σ 10,slS σ 23)) (fun t K=>(bif (decide (t.2.np≤50)) then (bif (allN (fun k:Nat=>zOk 2097152 (t.2.pts k)) t.2.np 0) then (K (.exit 2) ⟨[(1,.p 1 0),(8,.v (.lf o.ns (fS o.shs))),(9,.v (.n .i64 (o.ns:Int))),(10,.v (.n .i64 t.1))],[(1,.blk [.v (.s o.name),.v (.lf o.ns (fS o.shs))])]⟩) else (K .ret ⟨[(1,.p 1 0),(2,.v (.b false)),(8,.v (.lf o.ns (fS o.shs))),(9,.v (.n .i64 (o.ns:Int))),(10,.v (.n .i64 t.1))],[(1,.blk [.v (.s o.name),.v (.lf o.ns (fS o.shs))])]⟩)) else none)))]) (qQ Tf 55 [0,1,0,1]) [0,1,0,1] (Tf.hint 55 (qJ (qQ Tf 55 [0,1,0,1]))) K (o.ns + 100) (hSo o 0)=bif (allN (fun i:Nat=>sOk (o.shs i)) o.ns 0) then (K (.exit 0) ⟨[(1,.p 1 0)],[(1,.blk [.v (.s o.name),.v (.lf o.ns (fS o.shs))])]⟩) else (K .ret ⟨[(1,.p 1 0),(2,.v (.b false))],[(1,.blk [.v (.s o.name),.v (.lf o.ns (fS o.shs))])]⟩):=by
 refine (uK (L:=LFX (o.ns + 100) (cxS Tf (orSo o) (o.ns + 100) 55 (ntmF Tf 55)) (evX Tf (orSo o) (o.ns + 100) 55 (ntmF Tf 55)) (qZ [([0,1,1,1,0,0,1,1,0,0,1,0,1],sumF (fun t:Int × Shp=>(hSi o t.1 t.2 0)) (fun σ=>(slI σ 10,slS σ 23)) (fun t K=>(bif (decide (t.2.np≤50)) then (bif (allN (fun k:Nat=>zOk 2097152 (t.2.pts k)) t.2.np 0) then (K (.exit 2) ⟨[(1,.p 1 0),(8,.v (.lf o.ns (fS o.shs))),(9,.v (.n .i64 (o.ns:Int))),(10,.v (.n .i64 t.1))],[(1,.blk [.v (.s o.name),.v (.lf o.ns (fS o.shs))])]⟩) else (K .ret ⟨[(1,.p 1 0),(2,.v (.b false)),(8,.v (.lf o.ns (fS o.shs))),(9,.v (.n .i64 (o.ns:Int))),(10,.v (.n .i64 t.1))],[(1,.blk [.v (.s o.name),.v (.lf o.ns (fS o.shs))])]⟩)) else none)))]) (qQ Tf 55 [0,1,0,1]) [0,1,0,1] (Tf.hint 55 (qJ (qQ Tf 55 [0,1,0,1]))) K) (stp:=kZ (o.ns + 100) (cxS Tf (orSo o) (o.ns + 100) 55 (ntmF Tf 55)) (evX Tf (orSo o) (o.ns + 100) 55 (ntmF Tf 55)) (qZ [([0,1,1,1,0,0,1,1,0,0,1,0,1],sumF (fun t:Int × Shp=>(hSi o t.1 t.2 0)) (fun σ=>(slI σ 10,slS σ 23)) (fun t K=>(bif (decide (t.2.np≤50)) then (bif (allN (fun k:Nat=>zOk 2097152 (t.2.pts k)) t.2.np 0) then (K (.exit 2) ⟨[(1,.p 1 0),(8,.v (.lf o.ns (fS o.shs))),(9,.v (.n .i64 (o.ns:Int))),(10,.v (.n .i64 t.1))],[(1,.blk [.v (.s o.name),.v (.lf o.ns (fS o.shs))])]⟩) else (K .ret ⟨[(1,.p 1 0),(2,.v (.b false)),(8,.v (.lf o.ns (fS o.shs))),(9,.v (.n .i64 (o.ns:Int))),(10,.v (.n .i64 t.1))],[(1,.blk [.v (.s o.name),.v (.lf o.ns (fS o.shs))])]⟩)) else none)))]) (qQ Tf 55 [0,1,0,1]) [0,1,0,1] (Tf.hint 55 (qJ (qQ Tf 55 [0,1,0,1]))) K) (fun _ _=>rfl) (fun (i:Nat) (_:Unit)=>hSo o (i:Int)) (fun _ _=>True) (fun (i:Nat) _=>sOk (o.shs i)) (fun _ _=>()) (c:=o.ns) (fun _=>(K (.exit 0) ⟨[(1,.p 1 0)],[(1,.blk [.v (.s o.name),.v (.lf o.ns (fS o.shs))])]⟩)) (fun i _=>(K .ret ⟨[(1,.p 1 0),(2,.v (.b false))],[(1,.blk [.v (.s o.name),.v (.lf o.ns (fS o.shs))])]⟩)) (fun G i f hi _ => ?_) (fun _ _ _ _ _=>trivial) (fun G f _ => ?_) o.ns 0 (o.ns + 100) () (by omega) (by omega) trivial).trans ((jQ _ _ _ _ _).trans (yH _ _ _ _ _))
 ·refine (rdSo G K o i).trans ?_;rw [vJQ (show (i:Int) < (o.ns:Int) by omega),jYG (by omega),yX (show i < o.ns by omega),toN,jU (C:=cpk) (t:=o.shs i) trivial];unfold sOk;cases h:shOk (o.shs i) with
  | false=>rfl
  | true =>
   have hb:=jJU h;by_cases hl:(o.shs i).link=0
   ·rw [vJQ hl,yU,vJQ (show (o.shs i).np≤50 by omega)];cases allN (fun k:Nat=>zOk 2097152 ((o.shs i).pts k)) (o.shs i).np 0 <;> rfl
   ·rw [vYH hl]; rfl
 ·refine (rdSo G K o o.ns).trans ?_;rw [vYH (show ¬ (o.ns:Int) < (o.ns:Int) by omega)];rfl
noncomputable def kKJ (o:ObT):List (List Nat × jK):=[([0,1,0,1],sumF (fun _:Unit=>(hSo o 0)) (fun _=>()) (fun _ K=>(bif (decide (o.ns≤9223372036854775807)) then (bif (allN (fun i:Nat=>sOk (o.shs i)) o.ns 0) then (K (.exit 0) ⟨[(1,.p 1 0)],[(1,.blk [.v (.s o.name),.v (.lf o.ns (fS o.shs))])]⟩) else (K .ret ⟨[(1,.p 1 0),(2,.v (.b false))],[(1,.blk [.v (.s o.name),.v (.lf o.ns (fS o.shs))])]⟩)) else none)))]
set_option maxRecDepth 100000 in
theorem pxsol (o:ObT):qQU Tf (orSo o) (qZ (kKJ o)) (o.ns + 100) 55 [.a [.s o.name,.lf o.ns (fS o.shs)]] =
 (bif (gSt (hSo o 0) (hSo o 0)) then (bif (decide (o.ns≤9223372036854775807)) then (bif (allN (fun i:Nat=>sOk (o.shs i)) o.ns 0) then (bif (decide (0 < (o.ns:Int))) then some (.v (.b true),[])
 else some (.v (.b false),[]))
 else some (.v (.b false),[]))
 else none)
 else none):=by kernel_rfl
theorem snd_sol (o:ObT) (ho:o.ns≤9223372036854775807):yK Tryz.prog 55 [.a [.s o.name,.lf o.ns (fS o.shs)]] (.v (.b (soOk o))):=by
 refine zW (N:=(o.ns + 100)) (LO:=qZ (kKJ o)) jH zG (kY (l:=[(103,o_pk),(99,o_ne)]) (m:=[]) ⟨ok_pk,ok_ne,trivial⟩ trivial) (fun p S hp => ?_) ?_
 ·refine zU (L:=qQ Tf 55) (l:=(kKJ o)) (show AllP _ (kKJ o) from ⟨?_,trivial⟩) p S hp
  ·dsimp only;refine kQ (T:=Tf) (o:=(orSo o)) (f:=55) (LO:=(qZ [([0,1,1,1,0,0,1,1,0,0,1,0,1],sumF (fun t:Int × Shp=>(hSi o t.1 t.2 0)) (fun σ=>(slI σ 10,slS σ 23)) (fun t K=>(bif (decide (t.2.np≤50)) then (bif (allN (fun k:Nat=>zOk 2097152 (t.2.pts k)) t.2.np 0) then (K (.exit 2) ⟨[(1,.p 1 0),(8,.v (.lf o.ns (fS o.shs))),(9,.v (.n .i64 (o.ns:Int))),(10,.v (.n .i64 t.1))],[(1,.blk [.v (.s o.name),.v (.lf o.ns (fS o.shs))])]⟩) else (K .ret ⟨[(1,.p 1 0),(2,.v (.b false)),(8,.v (.lf o.ns (fS o.shs))),(9,.v (.n .i64 (o.ns:Int))),(10,.v (.n .i64 t.1))],[(1,.blk [.v (.s o.name),.v (.lf o.ns (fS o.shs))])]⟩)) else none)))])) (p:=[0,1,0,1]) (okSi o) ?_;intro t K r hr;obtain ⟨hg,hr⟩:=qY hr;have ho:=vJZ hg;exact (lpSo K o ho).trans hr
 ·refine (pxsol o).trans ?_;unfold soOk;rw [yU,vJQ ho];cases allN (fun i:Nat=>sOk (o.shs i)) o.ns 0 <;> cases decide (0 < (o.ns:Int)) <;> rfl
def cso:ObT→Prop:=fun t=>match t with | o=>o.ns≤9223372036854775807
def eso:ObT→List PV:=fun t=>match t with | o=>[.a (oP o)]
noncomputable def rso:ObT→Ret:=fun t=>match t with | o=>.v (.b (soOk o))
def dso:List PV→ObT:=fun ps=>match ps with
 | [.a r]=>unO r
 | _=>⟨ByteArray.empty,0,fun _=>⟨0,0,0,fun _=>⟨0,0,0⟩⟩⟩
noncomputable def o_so:List PV→Option (Bool × Ret):=o_fm dso cso eso rso
theorem ok_so:zJ Tryz.prog 55 o_so:=qQV fun t h=>by
 revert h; revert t; intro o h
 exact snd_sol o h
def obOk (o:ObT):Bool:=nmB o.name && soOk o
noncomputable def orOb (o:ObT):OrS:=orS [(106,o_nm),(107,o_rk),(57,o_nq)] []
noncomputable def hOi (o:ObT) (i:Int) (s:Shp) (k:Int):St:=⟨[(1,.p 1 0),(3,.v (.n .i64 i)),(4,.p 4 0),(5,.v (.n .i64 k))],[(1,.blk [.v (.s o.name),.v (.lf o.ns (fS o.shs))]),(4,.blk [.v (.n .i64 s.link),.v (.n .i64 s.rad),.v (.lf s.np (fZ s.pts))])]⟩
set_option maxRecDepth 100000 in
theorem rdOi (G:St→Option (Ret × Mem)) (K:Cont) (o:ObT) (i:Int) (s:Shp) (k:Int):kZ (o.ns + 100) (cxS Tf (orOb o) (o.ns + 100) 59 (ntmF Tf 59)) (evX Tf (orOb o) (o.ns + 100) 59 (ntmF Tf 59)) (qZ []) (qQ Tf 59 [0,1,1,1,0,0,1,0,0,1,0,1,1]) [0,1,1,1,0,0,1,0,0,1,0,1,1] (Tf.hint 59 (qJ (qQ Tf 59 [0,1,1,1,0,0,1,0,0,1,0,1,1]))) K G (hOi o i s k) =
 (bif (decide (k < (s.np:Int))) then (bif (inB k s.np) then (bif (gF1 cnq enq (s.pts (k).toNat)) then (bif (zOk 2097152 (s.pts (k).toNat)) then (G (hOi o i s (vJJ .i64 (k + 1))))
 else (K .ret ⟨[(1,.p 1 0),(2,.v (.b false)),(3,.v (.n .i64 i))],[(1,.blk [.v (.s o.name),.v (.lf o.ns (fS o.shs))])]⟩))
 else none)
 else none)
 else (K (.exit 2) ⟨[(1,.p 1 0),(3,.v (.n .i64 i))],[(1,.blk [.v (.s o.name),.v (.lf o.ns (fS o.shs))])]⟩)):=by kernel_rfl
theorem lpOi (K:Cont) (o:ObT) (i:Int) (s:Shp) (_:s.np≤50):LFX (o.ns + 100) (cxS Tf (orOb o) (o.ns + 100) 59 (ntmF Tf 59)) (evX Tf (orOb o) (o.ns + 100) 59 (ntmF Tf 59)) (qZ []) (qQ Tf 59 [0,1,1,1,0,0,1,0,0,1,0,1,1]) [0,1,1,1,0,0,1,0,0,1,0,1,1] (Tf.hint 59 (qJ (qQ Tf 59 [0,1,1,1,0,0,1,0,0,1,0,1,1]))) K (o.ns + 100) (hOi o i s 0)=bif (allN (fun k:Nat=>zOk 2097152 (s.pts k)) s.np 0) then (K (.exit 2) ⟨[(1,.p 1 0),(3,.v (.n .i64 i))],[(1,.blk [.v (.s o.name),.v (.lf o.ns (fS o.shs))])]⟩) else (K .ret ⟨[(1,.p 1 0),(2,.v (.b false)),(3,.v (.n .i64 i))],[(1,.blk [.v (.s o.name),.v (.lf o.ns (fS o.shs))])]⟩):=by
 refine (uK (L:=LFX (o.ns + 100) (cxS Tf (orOb o) (o.ns + 100) 59 (ntmF Tf 59)) (evX Tf (orOb o) (o.ns + 100) 59 (ntmF Tf 59)) (qZ []) (qQ Tf 59 [0,1,1,1,0,0,1,0,0,1,0,1,1]) [0,1,1,1,0,0,1,0,0,1,0,1,1] (Tf.hint 59 (qJ (qQ Tf 59 [0,1,1,1,0,0,1,0,0,1,0,1,1]))) K) (stp:=kZ (o.ns + 100) (cxS Tf (orOb o) (o.ns + 100) 59 (ntmF Tf 59)) (evX Tf (orOb o) (o.ns + 100) 59 (ntmF Tf 59)) (qZ []) (qQ Tf 59 [0,1,1,1,0,0,1,0,0,1,0,1,1]) [0,1,1,1,0,0,1,0,0,1,0,1,1] (Tf.hint 59 (qJ (qQ Tf 59 [0,1,1,1,0,0,1,0,0,1,0,1,1]))) K) (fun _ _=>rfl) (fun (k:Nat) (_:Unit)=>hOi o i s (k:Int)) (fun _ _=>True) (fun (k:Nat) _=>zOk 2097152 (s.pts k)) (fun _ _=>()) (c:=s.np) (fun _=>(K (.exit 2) ⟨[(1,.p 1 0),(3,.v (.n .i64 i))],[(1,.blk [.v (.s o.name),.v (.lf o.ns (fS o.shs))])]⟩)) (fun k _=>(K .ret ⟨[(1,.p 1 0),(2,.v (.b false)),(3,.v (.n .i64 i))],[(1,.blk [.v (.s o.name),.v (.lf o.ns (fS o.shs))])]⟩)) (fun G k f hi _ => ?_) (fun _ _ _ _ _=>trivial) (fun G f _ => ?_) (s.np) 0 (o.ns + 100) () (by omega) (by omega) trivial).trans ((jQ _ _ _ _ _).trans (yH _ _ _ _ _))
 ·refine (rdOi G K o i s k).trans ?_;rw [vJQ (show (k:Int) < (s.np:Int) by omega),kW (by omega),yX (show k < s.np by omega),toN,jU (C:=cnq) (t:=s.pts k) trivial];cases zOk 2097152 (s.pts k) <;> rfl
 ·refine (rdOi G K o i s (s.np:Int)).trans ?_;rw [vYH (show ¬ (s.np:Int) < (s.np:Int) by omega)];rfl
theorem okOi (o:ObT):∀ p S,qZ [([0,1,1,1,0,0,1,0,0,1,0,1,1],sumF (fun t:Int × Shp=>(hOi o t.1 t.2 0)) (fun σ=>(slI σ 3,bkS σ 4)) (fun t K=>(bif (decide (t.2.np≤50)) then (bif (allN (fun k:Nat=>zOk 2097152 (t.2.pts k)) t.2.np 0) then (K (.exit 2) ⟨[(1,.p 1 0),(3,.v (.n .i64 t.1))],[(1,.blk [.v (.s o.name),.v (.lf o.ns (fS o.shs))])]⟩) else (K .ret ⟨[(1,.p 1 0),(2,.v (.b false)),(3,.v (.n .i64 t.1))],[(1,.blk [.v (.s o.name),.v (.lf o.ns (fS o.shs))])]⟩)) else none)))] p=some S→qQZ (o.ns + 100) (cxS Tf (orOb o) (o.ns + 100) 59 (ntmF Tf 59)) (qQ Tf 59 p) S:=fun p S hp=>by
 refine zU (L:=qQ Tf 59) (l:=[([0,1,1,1,0,0,1,0,0,1,0,1,1],sumF (fun t:Int × Shp=>(hOi o t.1 t.2 0)) (fun σ=>(slI σ 3,bkS σ 4)) (fun t K=>(bif (decide (t.2.np≤50)) then (bif (allN (fun k:Nat=>zOk 2097152 (t.2.pts k)) t.2.np 0) then (K (.exit 2) ⟨[(1,.p 1 0),(3,.v (.n .i64 t.1))],[(1,.blk [.v (.s o.name),.v (.lf o.ns (fS o.shs))])]⟩) else (K .ret ⟨[(1,.p 1 0),(2,.v (.b false)),(3,.v (.n .i64 t.1))],[(1,.blk [.v (.s o.name),.v (.lf o.ns (fS o.shs))])]⟩)) else none)))]) ⟨?_,trivial⟩ p S hp;dsimp only;refine kQ (T:=Tf) (o:=(orOb o)) (f:=59) (LO:=qZ []) (p:=[0,1,1,1,0,0,1,0,0,1,0,1,1]) kJ ?_;intro t K r hr;obtain ⟨hg,hr⟩:=qY hr
 skip
 exact (lpOi K o t.1 t.2 (vJZ hg)).trans hr
noncomputable def hOb (o:ObT) (i:Int):St:=⟨[(1,.p 1 0),(3,.v (.n .i64 i))],[(1,.blk [.v (.s o.name),.v (.lf o.ns (fS o.shs))])]⟩
set_option maxRecDepth 100000 in
theorem rdOb (G:St→Option (Ret × Mem)) (K:Cont) (o:ObT) (i:Int):kZ (o.ns + 100) (cxS Tf (orOb o) (o.ns + 100) 59 (ntmF Tf 59)) (evX Tf (orOb o) (o.ns + 100) 59 (ntmF Tf 59)) (qZ [([0,1,1,1,0,0,1,0,0,1,0,1,1],sumF (fun t:Int × Shp=>(hOi o t.1 t.2 0)) (fun σ=>(slI σ 3,bkS σ 4)) (fun t K=>(bif (decide (t.2.np≤50)) then (bif (allN (fun k:Nat=>zOk 2097152 (t.2.pts k)) t.2.np 0) then (K (.exit 2) ⟨[(1,.p 1 0),(3,.v (.n .i64 t.1))],[(1,.blk [.v (.s o.name),.v (.lf o.ns (fS o.shs))])]⟩) else (K .ret ⟨[(1,.p 1 0),(2,.v (.b false)),(3,.v (.n .i64 t.1))],[(1,.blk [.v (.s o.name),.v (.lf o.ns (fS o.shs))])]⟩)) else none)))]) (qQ Tf 59 [0,1,0,1,1]) [0,1,0,1,1] (Tf.hint 59 (qJ (qQ Tf 59 [0,1,0,1,1]))) K G (hOb o i) =
 (bif (decide (i < (o.ns:Int))) then (bif (inB i o.ns) then (bif (gF1 crk erk (o.shs (i).toNat)) then (bif (shOk (o.shs (i).toNat)) then (bif (!decide ((o.shs (i).toNat).link=0)) then (K .ret ⟨[(2,.v (.b false))],[]⟩)
 else (bif (gSt (hOi o i (o.shs (i).toNat) 0) (hOi o i (o.shs (i).toNat) 0)) then (bif (decide ((o.shs (i).toNat).np≤50)) then (bif (allN (fun k:Nat=>zOk 2097152 ((o.shs (i).toNat).pts k)) (o.shs (i).toNat).np 0) then (G (hOb o (vJJ .i64 (i + 1))))
 else (K .ret ⟨[(2,.v (.b false))],[]⟩))
 else none)
 else none))
 else (K .ret ⟨[(2,.v (.b false))],[]⟩))
 else none)
 else none)
 else (K (.exit 0) ⟨[],[]⟩)):=by kernel_rfl
theorem lpOb (K:Cont) (o:ObT) (_:o.ns≤9223372036854775807):LFX (o.ns + 100) (cxS Tf (orOb o) (o.ns + 100) 59 (ntmF Tf 59)) (evX Tf (orOb o) (o.ns + 100) 59 (ntmF Tf 59)) (qZ [([0,1,1,1,0,0,1,0,0,1,0,1,1],sumF (fun t:Int × Shp=>(hOi o t.1 t.2 0)) (fun σ=>(slI σ 3,bkS σ 4)) (fun t K=>(bif (decide (t.2.np≤50)) then (bif (allN (fun k:Nat=>zOk 2097152 (t.2.pts k)) t.2.np 0) then (K (.exit 2) ⟨[(1,.p 1 0),(3,.v (.n .i64 t.1))],[(1,.blk [.v (.s o.name),.v (.lf o.ns (fS o.shs))])]⟩) else (K .ret ⟨[(1,.p 1 0),(2,.v (.b false)),(3,.v (.n .i64 t.1))],[(1,.blk [.v (.s o.name),.v (.lf o.ns (fS o.shs))])]⟩)) else none)))]) (qQ Tf 59 [0,1,0,1,1]) [0,1,0,1,1] (Tf.hint 59 (qJ (qQ Tf 59 [0,1,0,1,1]))) K (o.ns + 100) (hOb o 0)=bif (allN (fun i:Nat=>sOk (o.shs i)) o.ns 0) then (K (.exit 0) ⟨[],[]⟩) else (K .ret ⟨[(2,.v (.b false))],[]⟩):=by
 refine (uK (L:=LFX (o.ns + 100) (cxS Tf (orOb o) (o.ns + 100) 59 (ntmF Tf 59)) (evX Tf (orOb o) (o.ns + 100) 59 (ntmF Tf 59)) (qZ [([0,1,1,1,0,0,1,0,0,1,0,1,1],sumF (fun t:Int × Shp=>(hOi o t.1 t.2 0)) (fun σ=>(slI σ 3,bkS σ 4)) (fun t K=>(bif (decide (t.2.np≤50)) then (bif (allN (fun k:Nat=>zOk 2097152 (t.2.pts k)) t.2.np 0) then (K (.exit 2) ⟨[(1,.p 1 0),(3,.v (.n .i64 t.1))],[(1,.blk [.v (.s o.name),.v (.lf o.ns (fS o.shs))])]⟩) else (K .ret ⟨[(1,.p 1 0),(2,.v (.b false)),(3,.v (.n .i64 t.1))],[(1,.blk [.v (.s o.name),.v (.lf o.ns (fS o.shs))])]⟩)) else none)))]) (qQ Tf 59 [0,1,0,1,1]) [0,1,0,1,1] (Tf.hint 59 (qJ (qQ Tf 59 [0,1,0,1,1]))) K) (stp:=kZ (o.ns + 100) (cxS Tf (orOb o) (o.ns + 100) 59 (ntmF Tf 59)) (evX Tf (orOb o) (o.ns + 100) 59 (ntmF Tf 59)) (qZ [([0,1,1,1,0,0,1,0,0,1,0,1,1],sumF (fun t:Int × Shp=>(hOi o t.1 t.2 0)) (fun σ=>(slI σ 3,bkS σ 4)) (fun t K=>(bif (decide (t.2.np≤50)) then (bif (allN (fun k:Nat=>zOk 2097152 (t.2.pts k)) t.2.np 0) then (K (.exit 2) ⟨[(1,.p 1 0),(3,.v (.n .i64 t.1))],[(1,.blk [.v (.s o.name),.v (.lf o.ns (fS o.shs))])]⟩) else (K .ret ⟨[(1,.p 1 0),(2,.v (.b false)),(3,.v (.n .i64 t.1))],[(1,.blk [.v (.s o.name),.v (.lf o.ns (fS o.shs))])]⟩)) else none)))]) (qQ Tf 59 [0,1,0,1,1]) [0,1,0,1,1] (Tf.hint 59 (qJ (qQ Tf 59 [0,1,0,1,1]))) K) (fun _ _=>rfl) (fun (i:Nat) (_:Unit)=>hOb o (i:Int)) (fun _ _=>True) (fun (i:Nat) _=>sOk (o.shs i)) (fun _ _=>()) (c:=o.ns) (fun _=>(K (.exit 0) ⟨[],[]⟩)) (fun i _=>(K .ret ⟨[(2,.v (.b false))],[]⟩)) (fun G i f hi _ => ?_) (fun _ _ _ _ _=>trivial) (fun G f _ => ?_) o.ns 0 (o.ns + 100) () (by omega) (by omega) trivial).trans ((jQ _ _ _ _ _).trans (yH _ _ _ _ _))
 ·refine (rdOb G K o i).trans ?_;rw [vJQ (show (i:Int) < (o.ns:Int) by omega),jYG (by omega),yX (show i < o.ns by omega),toN,jU (C:=crk) (t:=o.shs i) trivial];unfold sOk;cases h:shOk (o.shs i) with
  | false=>rfl
  | true =>
   have hb:=jJU h;by_cases hl:(o.shs i).link=0
   ·rw [vJQ hl,yU,vJQ (show (o.shs i).np≤50 by omega)];cases allN (fun k:Nat=>zOk 2097152 ((o.shs i).pts k)) (o.shs i).np 0 <;> rfl
   ·rw [vYH hl]; rfl
 ·refine (rdOb G K o o.ns).trans ?_;rw [vYH (show ¬ (o.ns:Int) < (o.ns:Int) by omega)];rfl
noncomputable def kUJ (o:ObT):List (List Nat × jK):=[([0,1,0,1,1],sumF (fun _:Unit=>(hOb o 0)) (fun _=>()) (fun _ K=>(bif (decide (o.ns≤9223372036854775807)) then (bif (allN (fun i:Nat=>sOk (o.shs i)) o.ns 0) then (K (.exit 0) ⟨[],[]⟩) else (K .ret ⟨[(2,.v (.b false))],[]⟩)) else none)))]
set_option maxRecDepth 100000 in
theorem pxobj (o:ObT):qQU Tf (orOb o) (qZ (kUJ o)) (o.ns + 100) 59 [.a [.s o.name,.lf o.ns (fS o.shs)]] =
 (bif (nmB o.name) then (bif (decide ((o.ns:Int)=0)) then some (.v (.b false),[])
 else (bif (gSt (hOb o 0) (hOb o 0)) then (bif (decide (o.ns≤9223372036854775807)) then (bif (allN (fun i:Nat=>sOk (o.shs i)) o.ns 0) then some (.v (.b true),[])
 else some (.v (.b false),[]))
 else none)
 else none))
 else some (.v (.b false),[])):=by kernel_rfl
theorem snd_obj (o:ObT) (ho:o.ns≤9223372036854775807):yK Tryz.prog 59 [.a [.s o.name,.lf o.ns (fS o.shs)]] (.v (.b (obOk o))):=by
 refine zW (N:=(o.ns + 100)) (LO:=qZ (kUJ o)) jH zG (kY (l:=[(106,o_nm),(107,o_rk),(57,o_nq)]) (m:=[]) ⟨ok_rn,ok_rk,ok_nq,trivial⟩ trivial) (fun p S hp => ?_) ?_
 ·refine zU (L:=qQ Tf 59) (l:=(kUJ o)) (show AllP _ (kUJ o) from ⟨?_,trivial⟩) p S hp
  ·dsimp only;refine kQ (T:=Tf) (o:=(orOb o)) (f:=59) (LO:=(qZ [([0,1,1,1,0,0,1,0,0,1,0,1,1],sumF (fun t:Int × Shp=>(hOi o t.1 t.2 0)) (fun σ=>(slI σ 3,bkS σ 4)) (fun t K=>(bif (decide (t.2.np≤50)) then (bif (allN (fun k:Nat=>zOk 2097152 (t.2.pts k)) t.2.np 0) then (K (.exit 2) ⟨[(1,.p 1 0),(3,.v (.n .i64 t.1))],[(1,.blk [.v (.s o.name),.v (.lf o.ns (fS o.shs))])]⟩) else (K .ret ⟨[(1,.p 1 0),(2,.v (.b false)),(3,.v (.n .i64 t.1))],[(1,.blk [.v (.s o.name),.v (.lf o.ns (fS o.shs))])]⟩)) else none)))])) (p:=[0,1,0,1,1]) (okOi o) ?_;intro t K r hr;obtain ⟨hg,hr⟩:=qY hr;have ho:=vJZ hg;exact (lpOb K o ho).trans hr
 ·refine (pxobj o).trans ?_;unfold obOk soOk;cases nmB o.name with
  | false=>rfl
  | true =>
   by_cases h0:(o.ns:Int)=0
   ·rw [vJQ h0,vYH (show ¬ 0 < (o.ns:Int) by omega),Bool.and_false]; rfl
   ·rw [vYH h0,vJQ (show 0 < (o.ns:Int) by omega),yU,vJQ ho];cases allN (fun i:Nat=>sOk (o.shs i)) o.ns 0 <;> rfl
def cob:ObT→Prop:=fun t=>match t with | o=>o.ns≤9223372036854775807
def eob:ObT→List PV:=fun t=>match t with | o=>[.a (oP o)]
noncomputable def rob:ObT→Ret:=fun t=>match t with | o=>.v (.b (obOk o))
def dob:List PV→ObT:=fun ps=>match ps with
 | [.a r]=>unO r
 | _=>⟨ByteArray.empty,0,fun _=>⟨0,0,0,fun _=>⟨0,0,0⟩⟩⟩
noncomputable def o_ob:List PV→Option (Bool × Ret):=o_fm dob cob eob rob
theorem ok_ob:zJ Tryz.prog 59 o_ob:=qQV fun t h=>by
 revert h; revert t; intro o h
 exact snd_obj o h
end Go.Proofs.YtgmbkkkbfbocnaaGreat.Ha
namespace Go.Proofs.YtgmbkkkbfbocnaaGreat.Nl
open Go.Rx Rt Go.Sx Go.RowKit Od Na Nb Nc Nx
def hEq (js:Nat→J) (q:Nat→Int) (n k:Nat) (i:Int):St:=⟨[(1,.v (.lf k (fQ q))),(2,.v (.f 119 [] [])),(14,.v (.lf n (fJ js))),(15,.v (.n .i64 (n:Int))),(16,.v (.n .i64 i))],[]⟩
set_option maxRecDepth 100000 in
theorem rdEq (G:St→Option (Ret × Mem)) (K:Cont) (js:Nat→J) (q:Nat→Int) (n k:Nat) (i:Int):yWK 60 (cxF T (OrL.k ([]:OrL)) 60 118 (ntmF T 118)) (ckF T (OrL.k ([]:OrL)) 60) (qQ T 118 [0,1,0,1,1]) ((cxF T (OrL.k ([]:OrL)) 60 118 (ntmF T 118)).T.hint (cxF T (OrL.k ([]:OrL)) 60 118 (ntmF T 118)).me (qJ (qQ T 118 [0,1,0,1,1]))) K G (hEq js q n k i) =
 (bif (decide (i < (n:Int))) then (bif (inB i n) then (bif (inB i k) then (bif (decide ((js (i).toNat).lo≤(q (i).toNat))) then (bif (decide ((q (i).toNat)≤(js (i).toNat).hi)) then (G (hEq js q n k (vJJ .i64 (i + 1))))
 else (K .ret ⟨[(6,.v (.b false))],[]⟩))
 else (K .ret ⟨[(6,.v (.b false))],[]⟩))
 else none)
 else none)
 else (K (.exit 0) ⟨[],[]⟩)):=by kernel_rfl
theorem lpEq (K:Cont) (js:Nat→J) (q:Nat→Int) (n k:Nat) (_:n≤50) (_:n=k):LF 60 (cxF T (OrL.k ([]:OrL)) 60 118 (ntmF T 118)) (ckF T (OrL.k ([]:OrL)) 60) (qQ T 118 [0,1,0,1,1]) ((cxF T (OrL.k ([]:OrL)) 60 118 (ntmF T 118)).T.hint (cxF T (OrL.k ([]:OrL)) 60 118 (ntmF T 118)).me (qJ (qQ T 118 [0,1,0,1,1]))) K 60 (hEq js q n k 0)=bif (allN (fun i:Nat=>decide ((js i).lo≤q i) && decide (q i≤(js i).hi)) n 0) then (K (.exit 0) ⟨[],[]⟩) else (K .ret ⟨[(6,.v (.b false))],[]⟩):=by
 refine (yKY (c:=n) (hEq js q n k) (fun i:Nat=>decide ((js i).lo≤q i) && decide (q i≤(js i).hi)) (K (.exit 0) ⟨[],[]⟩) (fun i:Nat=>(K .ret ⟨[(6,.v (.b false))],[]⟩)) (fun G i hi => ?_) (fun G => ?_) n 0 60 (by omega) (by omega)).trans (yH _ _ _ _ _)
 ·refine (rdEq G K js q n k i).trans ?_;rw [vJQ (show (i:Int) < (n:Int) by omega),kW (by omega),yX (show i < n by omega),yX (show i < k by omega),toN];cases decide ((js i).lo≤q i) <;> cases decide (q i≤(js i).hi) <;> rfl
 ·refine (rdEq G K js q n k n).trans ?_;rw [vYH (show ¬ (n:Int) < (n:Int) by omega)];rfl
def insQ (js:Nat→J) (q:Nat→Int) (n k:Nat):Bool:=decide ((n:Int)=(k:Int)) && (allN (fun i:Nat=>decide ((js i).lo≤q i) && decide (q i≤(js i).hi)) n 0)
set_option maxRecDepth 100000 in
theorem pxeveryQ (js:Nat→J) (q:Nat→Int) (n k:Nat):qHV T (OrL.k ([]:OrL)) (qZ [([0,1,0,1,1],uU (hEq js q n k 0) (fun K=>(bif (decide ((n:Int)=(k:Int)) && decide (n≤50)) then (bif (allN (fun i:Nat=>decide ((js i).lo≤q i) && decide (q i≤(js i).hi)) n 0) then (K (.exit 0) ⟨[],[]⟩) else (K .ret ⟨[(6,.v (.b false))],[]⟩)) else none)))]) 60 118 [.lf n (fJ js),.lf k (fQ q),.f 119 [] []] =
 (bif (!decide ((n:Int)=(k:Int))) then some (.v (.b false),[])
 else (bif (gSt (hEq js q n k 0) (hEq js q n k 0)) then (bif (decide ((n:Int)=(k:Int)) && decide (n≤50)) then (bif (allN (fun i:Nat=>decide ((js i).lo≤q i) && decide (q i≤(js i).hi)) n 0) then some (.v (.b true),[])
 else some (.v (.b false),[]))
 else none)
 else none)):=by kernel_rfl
theorem snd_everyQ (js:Nat→J) (q:Nat→Int) (n k:Nat) (hn:n≤50):yK Tryz.prog 118 [.lf n (fJ js),.lf k (fQ q),.f 119 [] []] (.v (.b (insQ js q n k))):=by
 refine uX (N:=60) (LO:=qZ [([0,1,0,1,1],uU (hEq js q n k 0) (fun K=>(bif (decide ((n:Int)=(k:Int)) && decide (n≤50)) then (bif (allN (fun i:Nat=>decide ((js i).lo≤q i) && decide (q i≤(js i).hi)) n 0) then (K (.exit 0) ⟨[],[]⟩) else (K .ret ⟨[(6,.v (.b false))],[]⟩)) else none)))]) yJ zG (OrL.ok (l:=([]:OrL)) trivial) (fun p S hp => ?_) ?_
 ·refine qZK (L:=qQ T 118) (l:=[([0,1,0,1,1],uU (hEq js q n k 0) (fun K=>(bif (decide ((n:Int)=(k:Int)) && decide (n≤50)) then (bif (allN (fun i:Nat=>decide ((js i).lo≤q i) && decide (q i≤(js i).hi)) n 0) then (K (.exit 0) ⟨[],[]⟩) else (K .ret ⟨[(6,.v (.b false))],[]⟩)) else none)))]) (show AllP _ [([0,1,0,1,1],uU (hEq js q n k 0) (fun K=>(bif (decide ((n:Int)=(k:Int)) && decide (n≤50)) then (bif (allN (fun i:Nat=>decide ((js i).lo≤q i) && decide (q i≤(js i).hi)) n 0) then (K (.exit 0) ⟨[],[]⟩) else (K .ret ⟨[(6,.v (.b false))],[]⟩)) else none)))] from ⟨qJH fun K r hr => ?_,trivial⟩) p S hp
  ·obtain ⟨hg,hr⟩:=qY hr;rw [vQJ] at hg;have hn:=vJZ hg.2;have hk:n=k:=by have:=vJZ hg.1; omega
   exact (lpEq K js q n k hn hk).trans hr
 ·refine (pxeveryQ js q n k).trans ?_;unfold insQ;rw [yU,vJQ hn];cases decide ((n:Int)=(k:Int)) <;> cases (allN (fun i:Nat=>decide ((js i).lo≤q i) && decide (q i≤(js i).hi)) n 0) <;> rfl
def qIn (js:Nat→J) (ms:Nat→Ms) (q:Nat→Int) (n m k:Nat):Bool:=decide (rErr js ms n m=0) && insQ js q n k
theorem snd_qIn (js:Nat→J) (ms:Nat→Ms) (q:Nat→Int) (n m k:Nat):yK Tryz.prog 71 [.a [.lf n (fJ js),.lf m (fM ms)],.lf k (fQ q)] (.v (.b (qIn js ms q n m k))):=by
 refine qH (N:=60) yJ zG (OrL.ok (l:=[(85,o_cr [.a [.lf n (fJ js),.lf m (fM ms)]] (.v (.n .i64 (rErr js ms n m)))),(118,o_lk [.lf n (fJ js),.lf k (fQ q),.f 119 [] []] (decide (n≤50)) (.v (.b (insQ js q n k))))]) ⟨zJX (jJK js ms n m),yVU (fun h=>snd_everyQ js q n k (vJZ h)),trivial⟩) ?_;refine (by kernel_rfl:_=bif (g1 [.a [.lf n (fJ js),.lf m (fM ms)]]) then (bif (decide ((rErr js ms n m)=0)) then (bif (g1 [.lf n (fJ js),.lf k (fQ q),.f 119 [] []] && decide (n≤50)) then (bif (insQ js q n k) then some (.v (.b true),[])
 else some (.v (.b false),[]))
 else none)
 else some (.v (.b false),[]))
 else none).trans ?_
 unfold qIn;rw [g1_t,g1_t];by_cases h:rErr js ms n m=0
 ·have:=zHX h
  rw [vJQ h,vJQ (show n≤50 by omega)];cases insQ js q n k <;> rfl
 ·rw [vYH h]; rfl
def hRi (js:Nat→J) (ms:Nat→Ms) (q:Nat→Int) (n m k:Nat) (i:Int):St:=⟨[(1,.v (.lf k (fQ q))),(2,.p 2 0),(5,.v (.n .i64 i))],[(2,.blk [.v (.lf n (fJ js)),.v (.lf m (fM ms))])]⟩
set_option maxRecDepth 100000 in
theorem rdRi (G:St→Option (Ret × Mem)) (K:Cont) (js:Nat→J) (ms:Nat→Ms) (q:Nat→Int) (n m k:Nat) (i:Int):yWK 60 (cxF T (OrL.k [(65,o_cr [.a [.lf n (fJ js),.lf m (fM ms)]] (.v (.n .i64 (rErr js ms n m))))]) 60 58 (ntmF T 58)) (ckF T (OrL.k [(65,o_cr [.a [.lf n (fJ js),.lf m (fM ms)]] (.v (.n .i64 (rErr js ms n m))))]) 60) (qQ T 58 [0,1,0,1,1]) ((cxF T (OrL.k [(65,o_cr [.a [.lf n (fJ js),.lf m (fM ms)]] (.v (.n .i64 (rErr js ms n m))))]) 60 58 (ntmF T 58)).T.hint (cxF T (OrL.k [(65,o_cr [.a [.lf n (fJ js),.lf m (fM ms)]] (.v (.n .i64 (rErr js ms n m))))]) 60 58 (ntmF T 58)).me (qJ (qQ T 58 [0,1,0,1,1]))) K G (hRi js ms q n m k i) =
 (bif (decide (i < (k:Int))) then (bif (inB i k) then (bif (inB i n) then (bif (decide ((q (i).toNat) < (js (i).toNat).lo)) then (K .ret ⟨[(4,.v (.b false))],[]⟩)
 else (bif (inB i k) then (bif (inB i n) then (bif (decide ((js (i).toNat).hi < (q (i).toNat))) then (K .ret ⟨[(4,.v (.b false))],[]⟩)
 else (G (hRi js ms q n m k (vJJ .i64 (i + 1)))))
 else none)
 else none))
 else none)
 else none)
 else (K (.exit 0) ⟨[],[]⟩)):=by kernel_rfl
theorem lpRi (K:Cont) (js:Nat→J) (ms:Nat→Ms) (q:Nat→Int) (n m k:Nat) (_:k≤50) (_:n=k):LF 60 (cxF T (OrL.k [(65,o_cr [.a [.lf n (fJ js),.lf m (fM ms)]] (.v (.n .i64 (rErr js ms n m))))]) 60 58 (ntmF T 58)) (ckF T (OrL.k [(65,o_cr [.a [.lf n (fJ js),.lf m (fM ms)]] (.v (.n .i64 (rErr js ms n m))))]) 60) (qQ T 58 [0,1,0,1,1]) ((cxF T (OrL.k [(65,o_cr [.a [.lf n (fJ js),.lf m (fM ms)]] (.v (.n .i64 (rErr js ms n m))))]) 60 58 (ntmF T 58)).T.hint (cxF T (OrL.k [(65,o_cr [.a [.lf n (fJ js),.lf m (fM ms)]] (.v (.n .i64 (rErr js ms n m))))]) 60 58 (ntmF T 58)).me (qJ (qQ T 58 [0,1,0,1,1]))) K 60 (hRi js ms q n m k 0)=bif (allN (fun i:Nat => !decide (q i < (js i).lo) && !decide ((js i).hi < q i)) k 0) then (K (.exit 0) ⟨[],[]⟩) else (K .ret ⟨[(4,.v (.b false))],[]⟩):=by
 refine (yKY (c:=k) (hRi js ms q n m k) (fun i:Nat => !decide (q i < (js i).lo) && !decide ((js i).hi < q i)) (K (.exit 0) ⟨[],[]⟩) (fun i:Nat=>(K .ret ⟨[(4,.v (.b false))],[]⟩)) (fun G i hi => ?_) (fun G => ?_) k 0 60 (by omega) (by omega)).trans (yH _ _ _ _ _)
 ·refine (rdRi G K js ms q n m k i).trans ?_;rw [vJQ (show (i:Int) < (k:Int) by omega),kW (by omega),yX (show i < k by omega),yX (show i < n by omega),toN];cases decide (q i < (js i).lo) <;> cases decide ((js i).hi < q i) <;> rfl
 ·refine (rdRi G K js ms q n m k k).trans ?_;rw [vYH (show ¬ (k:Int) < (k:Int) by omega)];rfl
def rqIn (js:Nat→J) (ms:Nat→Ms) (q:Nat→Int) (n m k:Nat):Bool:=decide (rErr js ms n m=0) && (decide ((k:Int)=(n:Int)) && (allN (fun i:Nat => !decide (q i < (js i).lo) && !decide ((js i).hi < q i)) k 0))
set_option maxRecDepth 100000 in
theorem pxrqIn0 (js:Nat→J) (ms:Nat→Ms) (q:Nat→Int) (n m k:Nat):qHV T (OrL.k [(65,o_cr [.a [.lf n (fJ js),.lf m (fM ms)]] (.v (.n .i64 (rErr js ms n m))))]) (qZ [([0,1,0,1,1],uU (hRi js ms q n m k 0) (fun K=>(bif (decide (k≤50) && decide (n=k)) then (bif (allN (fun i:Nat => !decide (q i < (js i).lo) && !decide ((js i).hi < q i)) k 0) then (K (.exit 0) ⟨[],[]⟩) else (K .ret ⟨[(4,.v (.b false))],[]⟩)) else none)))]) 60 58 [.a [.lf n (fJ js),.lf m (fM ms)],.lf k (fQ q)] =
 (bif (g1 [.a [.lf n (fJ js),.lf m (fM ms)]]) then (bif (!decide ((rErr js ms n m)=0)) then some (.v (.b false),[])
 else (bif (!decide ((k:Int)=(n:Int))) then some (.v (.b false),[])
 else (bif (gSt (hRi js ms q n m k 0) (hRi js ms q n m k 0)) then (bif (decide (k≤50) && decide (n=k)) then (bif (allN (fun i:Nat => !decide (q i < (js i).lo) && !decide ((js i).hi < q i)) k 0) then some (.v (.b true),[])
 else some (.v (.b false),[]))
 else none)
 else none)))
 else none):=by kernel_rfl
theorem snd_rqIn0 (js:Nat→J) (ms:Nat→Ms) (q:Nat→Int) (n m k:Nat):yK Tryz.prog 58 [.a [.lf n (fJ js),.lf m (fM ms)],.lf k (fQ q)] (.v (.b (rqIn js ms q n m k))):=by
 refine uX (N:=60) (LO:=qZ [([0,1,0,1,1],uU (hRi js ms q n m k 0) (fun K=>(bif (decide (k≤50) && decide (n=k)) then (bif (allN (fun i:Nat => !decide (q i < (js i).lo) && !decide ((js i).hi < q i)) k 0) then (K (.exit 0) ⟨[],[]⟩) else (K .ret ⟨[(4,.v (.b false))],[]⟩)) else none)))]) yJ zG (OrL.ok (l:=[(65,o_cr [.a [.lf n (fJ js),.lf m (fM ms)]] (.v (.n .i64 (rErr js ms n m))))]) ⟨zJX (yWX js ms n m),trivial⟩) (fun p S hp => ?_) ?_
 ·refine qZK (L:=qQ T 58) (l:=[([0,1,0,1,1],uU (hRi js ms q n m k 0) (fun K=>(bif (decide (k≤50) && decide (n=k)) then (bif (allN (fun i:Nat => !decide (q i < (js i).lo) && !decide ((js i).hi < q i)) k 0) then (K (.exit 0) ⟨[],[]⟩) else (K .ret ⟨[(4,.v (.b false))],[]⟩)) else none)))]) (show AllP _ [([0,1,0,1,1],uU (hRi js ms q n m k 0) (fun K=>(bif (decide (k≤50) && decide (n=k)) then (bif (allN (fun i:Nat => !decide (q i < (js i).lo) && !decide ((js i).hi < q i)) k 0) then (K (.exit 0) ⟨[],[]⟩) else (K .ret ⟨[(4,.v (.b false))],[]⟩)) else none)))] from ⟨qJH fun K r hr => ?_,trivial⟩) p S hp
  ·obtain ⟨hg,hr⟩:=qY hr;rw [vQJ] at hg;have hk:=vJZ hg.1;have hn:=vJZ hg.2;exact (lpRi K js ms q n m k hk hn).trans hr
 ·refine (pxrqIn0 js ms q n m k).trans ?_;unfold rqIn;rw [g1_t];by_cases h:rErr js ms n m=0
  ·have:=zHX h
   rw [vJQ h];by_cases e:k=n
   ·subst e;rw [yU,vJQ (show k≤50 by omega),vJQ (show k=k from rfl),vJQ (show (k:Int)=(k:Int) from rfl)];cases (allN (fun i:Nat => !decide (q i < (js i).lo) && !decide ((js i).hi < q i)) k 0) <;> rfl
   ·rw [vYH (show ¬ (k:Int)=(n:Int) by omega)];rfl
  ·rw [vYH h]; rfl
theorem nlt (a b:Int):(!decide (a < b))=decide (b≤a):=by by_cases h:a < b <;> simp [h] <;> omega
theorem rqIn_eq (js:Nat→J) (ms:Nat→Ms) (q:Nat→Int) (n m k:Nat):rqIn js ms q n m k=qIn js ms q n m k:=by
 unfold rqIn qIn insQ;by_cases e:n=k
 ·subst e;simp only [nlt]
 ·rw [vYH (show ¬ (n:Int)=(k:Int) by omega),vYH (show ¬ (k:Int)=(n:Int) by omega)]; rfl
theorem snd_rqIn (js:Nat→J) (ms:Nat→Ms) (q:Nat→Int) (n m k:Nat):yK Tryz.prog 58 [.a [.lf n (fJ js),.lf m (fM ms)],.lf k (fQ q)] (.v (.b (qIn js ms q n m k))):=by
 have h:=snd_rqIn0 js ms q n m k;rw [rqIn_eq] at h;exact h
theorem qIn_spec {js:Nat→J} {ms:Nat→Ms} {q:Nat→Int} {n m k:Nat} (h:qIn js ms q n m k=true):rErr js ms n m=0∧n=k∧∀ i,i < n→(js i).lo≤q i∧q i≤(js i).hi:=by
 unfold qIn insQ at h;simp only [vQJ,decide_eq_true_eq] at h;refine ⟨h.1,by omega,fun i hi => ?_⟩
 have:=allN_iff.1 h.2.2 i (Nat.zero_le _) (by omega)
 simpa [vQJ,decide_eq_true_eq] using this
end Go.Proofs.YtgmbkkkbfbocnaaGreat.Nl

/- Part 18 of the texts behind the last one: rules and contracts. No condition. -/
import Derived.Test.YtgmbkkkbfbocnaaGreatGC17
open Option renaming bind_eq_some_iff → vQQ
open Option.some renaming injEq → vQZ
open Bool renaming and_eq_true → vQJ
open List renaming getElem?_eq_getElem → vQK, mem_cons_of_mem → vQH, mem_cons_self → vZQ, getElem?_map → vZY, drop_zero → vYW
open Nat renaming eq_of_beq_eq_true → vQX, le_of_ble_eq_true → vZX
open Go.IntKind renaming wrap → vJJ
namespace Go.Proofs.YtgmbkkkbfbocnaaGreat.Ho
open Go.Rx Rt Go.Sx Go.RowKit Od Na Nb Nc Nx Nf Nl Nm Ga Gb Gc Gd Ge Gf Gg Sn Ha Hb Hc Hd He Hf Hg Hh Hi Hj Hk Hm Hn
theorem yQU (x k H R:Int) (h:(0 < k∧k≤9223372036854775807)∧(k=9→x % 9=H)∧(k=3→x % 3=R)):yV Tryz.prog 20 [.n .i64 x,.n .i64 k] (.v (.n .i64 (bif decide (k=9) then H else bif decide (k=3) then R else x % k))):=by
 have e:(bif decide (k=9) then H else bif decide (k=3) then R else x % k)=x % k:=by
  by_cases h9:k=9
  ·rw [vJQ h9,vYV,h9]; exact (h.2.1 h9).symm
  ·rw [vYH h9,vYG];by_cases h3:k=3
   ·rw [vJQ h3,vYV,h3]; exact (h.2.2 h3).symm
   ·rw [vYH h3,vYG]
 rw [e]; exact jQG x k h.1
theorem yQK (x k H:Int) (h:(0 < k∧k≤9223372036854775807)∧(k=9→x % 9=H)):yV Tryz.prog 20 [.n .i64 x,.n .i64 k] (.v (.n .i64 (bif decide (k=9) then H else x % k))):=by
 have e:(bif decide (k=9) then H else x % k)=x % k:=by
  by_cases h9:k=9
  ·rw [vJQ h9,vYV,h9]; exact (h.2 h9).symm
  ·rw [vYH h9,vYG]
 rw [e]; exact jQG x k h.1
def ca0:Int × Int→Prop:=fun t=>match t with | (x,k)=>(0 < k∧k≤9223372036854775807)∧(k=9→x % 9=0)
def ea0:Int × Int→List PV:=fun t=>match t with | (x,k)=>[.n .i64 x,.n .i64 k]
noncomputable def ra0:Int × Int→Ret:=fun t=>match t with | (x,k)=>.v (.n .i64 (bif decide (k=9) then 0 else x % k))
def da0:List PV→Int × Int:=fun ps=>match ps with
 | [.n _ x,.n _ k]=>(x,k)
 | _=>(0,0)
noncomputable def o_a0:List PV→Option (Bool × Ret):=o_fm da0 ca0 ea0 ra0
theorem ok_a0:zJ Tryz.prog 20 o_a0:=qYJ fun t h=>by
 obtain ⟨x,k⟩:=t;exact yQK x k 0 h
def alta0 (ws:Wsp) (x:Int):Wsp:=⟨ws.js,ws.ms,ws.sh,ws.sk,ws.n,ws.m,ws.c,ws.d,ws.ob,ws.pl,ws.hd,ws.gr,ws.no,ws.np,ws.nh,ws.ng,(vJJ .i64 ((vJJ .i64 ((x % 3) - 1)) * 65537))⟩
noncomputable def oralta0 (_:Wsp) (_ x:Int):OrS:=orS [(20,o_a0)] []
noncomputable def yWJ (_:Wsp) (_ x:Int):List (List Nat × kY):=[]
set_option maxRecDepth 100000 in
theorem pxalta0 (ws:Wsp) (how x:Int):qYY Tf (oralta0 ws how x) (qZ (yWJ ws how x)) 60 15 [.a (wP ws),.n .i64 how,.n .i64 x] =
 (bif (decide (ws.no≤1000000)) then (bif (decide (ws.np≤1000000)) then (bif (decide (ws.nh≤1000000)) then (bif (decide (ws.ng≤1000000)) then (bif (gF1 ca0 ea0 (how,9)) then (bif (gF1 ca0 ea0 (x,3)) then some (.v (.a [.lf ws.n (fJ ws.js),.lf ws.m (fM ws.ms),.lf ws.c (fS ws.sh),.lf ws.d (fK ws.sk),.lf ws.no (fO ws.ob),.lf ws.np (fZ ws.pl),.lf ws.nh (fH ws.hd),.lf ws.ng (fG ws.gr),.n .i64 (vJJ .i64 ((vJJ .i64 ((x % 3) - 1)) * 65537))]),[])
 else none)
 else none)
 else none)
 else none)
 else none)
 else none):=by kernel_rfl
theorem snd_alta0 (ws:Wsp) (how x:Int) (hH:how % 9=0) (_:ws.no≤1000∧ws.np≤1000∧ws.nh≤1000∧ws.ng≤1000∧ws.c≤1000) (_:0 < ws.no∧0 < ws.np∧0 < ws.nh):yV Tryz.prog 15 [.a (wP ws),.n .i64 how,.n .i64 x] (.v (.a (wP (alta0 ws x)))):=by
 refine yQ (N:=60) (LO:=qZ (yWJ ws how x)) kW zW (kG (l:=[(20,o_a0)]) (m:=[]) ⟨ok_a0,trivial⟩ trivial) (fun p S hp => ?_) ?_
 ·refine zH (L:=qQ Tf 15) (l:=(yWJ ws how x)) (show AllP _ (yWJ ws how x) from trivial) p S hp
 ·refine (pxalta0 ws how x).trans ?_;simp only [vJQ (show ws.no≤1000000 by omega),vJQ (show ws.np≤1000000 by omega),vJQ (show ws.nh≤1000000 by omega),vJQ (show ws.ng≤1000000 by omega),jX (C:=ca0) (t:=(how,9)) ⟨⟨by decide,by decide⟩,fun _=>hH⟩,jX (C:=ca0) (t:=(x,3)) ⟨⟨by decide,by decide⟩,fun h=>absurd h (by decide)⟩,Bool.and_true,vYV];rfl
def ca1a:Int × Int→Prop:=fun t=>match t with | (x,k)=>(0 < k∧k≤9223372036854775807)∧(k=9→x % 9=1)∧(k=3→x % 3=0)
def ea1a:Int × Int→List PV:=fun t=>match t with | (x,k)=>[.n .i64 x,.n .i64 k]
noncomputable def ra1a:Int × Int→Ret:=fun t=>match t with | (x,k)=>.v (.n .i64 (bif decide (k=9) then 1 else bif decide (k=3) then 0 else x % k))
def da1a:List PV→Int × Int:=fun ps=>match ps with
 | [.n _ x,.n _ k]=>(x,k)
 | _=>(0,0)
noncomputable def kJH:List PV→Option (Bool × Ret):=o_fm da1a ca1a ea1a ra1a
theorem ok_a1a:zJ Tryz.prog 20 kJH:=qYJ fun t h=>by
 obtain ⟨x,k⟩:=t;exact yQU x k 1 0 h
def alta1a (ws:Wsp) (x:Int):Wsp:=⟨ws.js,ws.ms,ws.sh,ws.sk,ws.n,ws.m,ws.c,ws.d,ws.ob,(fun v=>(Z3.mk (bif (Nat.beq v 0) then (vJJ .i64 ((vJJ .i64 ((x % 5) - 2)) * 1048577)) else (ws.pl v).x) (bif (Nat.beq v 0) then (ws.pl 0).y else (ws.pl v).y) (bif (Nat.beq v 0) then (ws.pl 0).z else (ws.pl v).z))),ws.hd,ws.gr,ws.no,ws.np,ws.nh,ws.ng,ws.slack⟩
noncomputable def oralta1a (_:Wsp) (_ x:Int):OrS:=orS [(20,kJH)] []
noncomputable def zHX (_:Wsp) (_ x:Int):List (List Nat × kY):=[]
set_option maxRecDepth 100000 in
theorem pxalta1a (ws:Wsp) (how x:Int):qYY Tf (oralta1a ws how x) (qZ (zHX ws how x)) 60 15 [.a (wP ws),.n .i64 how,.n .i64 x] =
 (bif (decide (ws.no≤1000000)) then (bif (decide (ws.np≤1000000)) then (bif (decide (ws.nh≤1000000)) then (bif (decide (ws.ng≤1000000)) then (bif (gF1 ca1a ea1a (how,9)) then (bif (gF1 ca1a ea1a (x,3)) then (bif (gF1 ca1a ea1a (x,5)) then (bif (inB 0 ws.np) then some (.v (.a [.lf ws.n (fJ ws.js),.lf ws.m (fM ws.ms),.lf ws.c (fS ws.sh),.lf ws.d (fK ws.sk),.lf ws.no (fO ws.ob),.lf ws.np (fun v=>[.n .i64 (bif (Nat.beq v 0) then (vJJ .i64 ((vJJ .i64 ((x % 5) - 2)) * 1048577)) else (ws.pl v).x),.n .i64 (bif (Nat.beq v 0) then (ws.pl 0).y else (ws.pl v).y),.n .i64 (bif (Nat.beq v 0) then (ws.pl 0).z else (ws.pl v).z)]),.lf ws.nh (fH ws.hd),.lf ws.ng (fG ws.gr),.n .i64 ws.slack]),[])
 else none)
 else none)
 else none)
 else none)
 else none)
 else none)
 else none)
 else none):=by kernel_rfl
theorem snd_alta1a (ws:Wsp) (how x:Int) (hH:how % 9=1) (hR:x % 3=0) (_:ws.no≤1000∧ws.np≤1000∧ws.nh≤1000∧ws.ng≤1000∧ws.c≤1000) (_:0 < ws.no∧0 < ws.np∧0 < ws.nh):yV Tryz.prog 15 [.a (wP ws),.n .i64 how,.n .i64 x] (.v (.a (wP (alta1a ws x)))):=by
 refine yQ (N:=60) (LO:=qZ (zHX ws how x)) kW zW (kG (l:=[(20,kJH)]) (m:=[]) ⟨ok_a1a,trivial⟩ trivial) (fun p S hp => ?_) ?_
 ·refine zH (L:=qQ Tf 15) (l:=(zHX ws how x)) (show AllP _ (zHX ws how x) from trivial) p S hp
 ·refine (pxalta1a ws how x).trans ?_;simp only [vJQ (show ws.no≤1000000 by omega),vJQ (show ws.np≤1000000 by omega),vJQ (show ws.nh≤1000000 by omega),vJQ (show ws.ng≤1000000 by omega),jX (C:=ca1a) (t:=(how,9)) ⟨⟨by decide,by decide⟩,fun _=>hH,fun h=>absurd h (by decide)⟩,jX (C:=ca1a) (t:=(x,3)) ⟨⟨by decide,by decide⟩,fun h=>absurd h (by decide),fun _=>hR⟩,jX (C:=ca1a) (t:=(x,5)) ⟨⟨by decide,by decide⟩,fun h=>absurd h (by decide),fun h=>absurd h (by decide)⟩,show inB 0 ws.np=true from yU (p:=0) (show 0 < ws.np by omega),Bool.and_true,vYV];rfl
def ca1b:Int × Int→Prop:=fun t=>match t with | (x,k)=>(0 < k∧k≤9223372036854775807)∧(k=9→x % 9=1)∧(k=3→x % 3=1)
def ea1b:Int × Int→List PV:=fun t=>match t with | (x,k)=>[.n .i64 x,.n .i64 k]
noncomputable def ra1b:Int × Int→Ret:=fun t=>match t with | (x,k)=>.v (.n .i64 (bif decide (k=9) then 1 else bif decide (k=3) then 1 else x % k))
def da1b:List PV→Int × Int:=fun ps=>match ps with
 | [.n _ x,.n _ k]=>(x,k)
 | _=>(0,0)
noncomputable def kJG:List PV→Option (Bool × Ret):=o_fm da1b ca1b ea1b ra1b
theorem ok_a1b:zJ Tryz.prog 20 kJG:=qYJ fun t h=>by
 obtain ⟨x,k⟩:=t;exact yQU x k 1 1 h
def alta1b (ws:Wsp) (x:Int):Wsp:=⟨ws.js,ws.ms,ws.sh,ws.sk,ws.n,ws.m,ws.c,ws.d,ws.ob,(fun v=>(Z3.mk (bif (Nat.beq v 0) then (ws.pl 0).x else (ws.pl v).x) (bif (Nat.beq v 0) then (vJJ .i64 ((vJJ .i64 ((x % 5) - 2)) * 1048577)) else (ws.pl v).y) (bif (Nat.beq v 0) then (ws.pl 0).z else (ws.pl v).z))),ws.hd,ws.gr,ws.no,ws.np,ws.nh,ws.ng,ws.slack⟩
noncomputable def oralta1b (_:Wsp) (_ x:Int):OrS:=orS [(20,kJG)] []
noncomputable def zHU (_:Wsp) (_ x:Int):List (List Nat × kY):=[]
set_option maxRecDepth 100000 in
theorem pxalta1b (ws:Wsp) (how x:Int):qYY Tf (oralta1b ws how x) (qZ (zHU ws how x)) 60 15 [.a (wP ws),.n .i64 how,.n .i64 x] =
 (bif (decide (ws.no≤1000000)) then (bif (decide (ws.np≤1000000)) then (bif (decide (ws.nh≤1000000)) then (bif (decide (ws.ng≤1000000)) then (bif (gF1 ca1b ea1b (how,9)) then (bif (gF1 ca1b ea1b (x,3)) then (bif (gF1 ca1b ea1b (x,5)) then (bif (inB 0 ws.np) then some (.v (.a [.lf ws.n (fJ ws.js),.lf ws.m (fM ws.ms),.lf ws.c (fS ws.sh),.lf ws.d (fK ws.sk),.lf ws.no (fO ws.ob),.lf ws.np (fun v=>[.n .i64 (bif (Nat.beq v 0) then (ws.pl 0).x else (ws.pl v).x),.n .i64 (bif (Nat.beq v 0) then (vJJ .i64 ((vJJ .i64 ((x % 5) - 2)) * 1048577)) else (ws.pl v).y),.n .i64 (bif (Nat.beq v 0) then (ws.pl 0).z else (ws.pl v).z)]),.lf ws.nh (fH ws.hd),.lf ws.ng (fG ws.gr),.n .i64 ws.slack]),[])
 else none)
 else none)
 else none)
 else none)
 else none)
 else none)
 else none)
 else none):=by kernel_rfl
theorem snd_alta1b (ws:Wsp) (how x:Int) (hH:how % 9=1) (hR:x % 3=1) (_:ws.no≤1000∧ws.np≤1000∧ws.nh≤1000∧ws.ng≤1000∧ws.c≤1000) (_:0 < ws.no∧0 < ws.np∧0 < ws.nh):yV Tryz.prog 15 [.a (wP ws),.n .i64 how,.n .i64 x] (.v (.a (wP (alta1b ws x)))):=by
 refine yQ (N:=60) (LO:=qZ (zHU ws how x)) kW zW (kG (l:=[(20,kJG)]) (m:=[]) ⟨ok_a1b,trivial⟩ trivial) (fun p S hp => ?_) ?_
 ·refine zH (L:=qQ Tf 15) (l:=(zHU ws how x)) (show AllP _ (zHU ws how x) from trivial) p S hp
 ·refine (pxalta1b ws how x).trans ?_;simp only [vJQ (show ws.no≤1000000 by omega),vJQ (show ws.np≤1000000 by omega),vJQ (show ws.nh≤1000000 by omega),vJQ (show ws.ng≤1000000 by omega),jX (C:=ca1b) (t:=(how,9)) ⟨⟨by decide,by decide⟩,fun _=>hH,fun h=>absurd h (by decide)⟩,jX (C:=ca1b) (t:=(x,3)) ⟨⟨by decide,by decide⟩,fun h=>absurd h (by decide),fun _=>hR⟩,jX (C:=ca1b) (t:=(x,5)) ⟨⟨by decide,by decide⟩,fun h=>absurd h (by decide),fun h=>absurd h (by decide)⟩,show inB 0 ws.np=true from yU (p:=0) (show 0 < ws.np by omega),Bool.and_true,vYV];rfl
def ca1c:Int × Int→Prop:=fun t=>match t with | (x,k)=>(0 < k∧k≤9223372036854775807)∧(k=9→x % 9=1)∧(k=3→x % 3=2)
def ea1c:Int × Int→List PV:=fun t=>match t with | (x,k)=>[.n .i64 x,.n .i64 k]
noncomputable def ra1c:Int × Int→Ret:=fun t=>match t with | (x,k)=>.v (.n .i64 (bif decide (k=9) then 1 else bif decide (k=3) then 2 else x % k))
def da1c:List PV→Int × Int:=fun ps=>match ps with
 | [.n _ x,.n _ k]=>(x,k)
 | _=>(0,0)
noncomputable def kJV:List PV→Option (Bool × Ret):=o_fm da1c ca1c ea1c ra1c
theorem ok_a1c:zJ Tryz.prog 20 kJV:=qYJ fun t h=>by
 obtain ⟨x,k⟩:=t;exact yQU x k 1 2 h
def alta1c (ws:Wsp) (x:Int):Wsp:=⟨ws.js,ws.ms,ws.sh,ws.sk,ws.n,ws.m,ws.c,ws.d,ws.ob,(fun v=>(Z3.mk (bif (Nat.beq v 0) then (ws.pl 0).x else (ws.pl v).x) (bif (Nat.beq v 0) then (ws.pl 0).y else (ws.pl v).y) (bif (Nat.beq v 0) then (vJJ .i64 ((vJJ .i64 ((x % 5) - 2)) * 1048577)) else (ws.pl v).z))),ws.hd,ws.gr,ws.no,ws.np,ws.nh,ws.ng,ws.slack⟩
noncomputable def oralta1c (_:Wsp) (_ x:Int):OrS:=orS [(20,kJV)] []
noncomputable def zHK (_:Wsp) (_ x:Int):List (List Nat × kY):=[]
set_option maxRecDepth 100000 in
theorem pxalta1c (ws:Wsp) (how x:Int):qYY Tf (oralta1c ws how x) (qZ (zHK ws how x)) 60 15 [.a (wP ws),.n .i64 how,.n .i64 x] =
 (bif (decide (ws.no≤1000000)) then (bif (decide (ws.np≤1000000)) then (bif (decide (ws.nh≤1000000)) then (bif (decide (ws.ng≤1000000)) then (bif (gF1 ca1c ea1c (how,9)) then (bif (gF1 ca1c ea1c (x,3)) then (bif (gF1 ca1c ea1c (x,5)) then (bif (inB 0 ws.np) then some (.v (.a [.lf ws.n (fJ ws.js),.lf ws.m (fM ws.ms),.lf ws.c (fS ws.sh),.lf ws.d (fK ws.sk),.lf ws.no (fO ws.ob),.lf ws.np (fun v=>[.n .i64 (bif (Nat.beq v 0) then (ws.pl 0).x else (ws.pl v).x),.n .i64 (bif (Nat.beq v 0) then (ws.pl 0).y else (ws.pl v).y),.n .i64 (bif (Nat.beq v 0) then (vJJ .i64 ((vJJ .i64 ((x % 5) - 2)) * 1048577)) else (ws.pl v).z)]),.lf ws.nh (fH ws.hd),.lf ws.ng (fG ws.gr),.n .i64 ws.slack]),[])
 else none)
 else none)
 else none)
 else none)
 else none)
 else none)
 else none)
 else none):=by kernel_rfl
theorem snd_alta1c (ws:Wsp) (how x:Int) (hH:how % 9=1) (hR:x % 3=2) (_:ws.no≤1000∧ws.np≤1000∧ws.nh≤1000∧ws.ng≤1000∧ws.c≤1000) (_:0 < ws.no∧0 < ws.np∧0 < ws.nh):yV Tryz.prog 15 [.a (wP ws),.n .i64 how,.n .i64 x] (.v (.a (wP (alta1c ws x)))):=by
 refine yQ (N:=60) (LO:=qZ (zHK ws how x)) kW zW (kG (l:=[(20,kJV)]) (m:=[]) ⟨ok_a1c,trivial⟩ trivial) (fun p S hp => ?_) ?_
 ·refine zH (L:=qQ Tf 15) (l:=(zHK ws how x)) (show AllP _ (zHK ws how x) from trivial) p S hp
 ·refine (pxalta1c ws how x).trans ?_;simp only [vJQ (show ws.no≤1000000 by omega),vJQ (show ws.np≤1000000 by omega),vJQ (show ws.nh≤1000000 by omega),vJQ (show ws.ng≤1000000 by omega),jX (C:=ca1c) (t:=(how,9)) ⟨⟨by decide,by decide⟩,fun _=>hH,fun h=>absurd h (by decide)⟩,jX (C:=ca1c) (t:=(x,3)) ⟨⟨by decide,by decide⟩,fun h=>absurd h (by decide),fun _=>hR⟩,jX (C:=ca1c) (t:=(x,5)) ⟨⟨by decide,by decide⟩,fun h=>absurd h (by decide),fun h=>absurd h (by decide)⟩,show inB 0 ws.np=true from yU (p:=0) (show 0 < ws.np by omega),Bool.and_true,vYV];rfl
def ca2:Int × Int→Prop:=fun t=>match t with | (x,k)=>(0 < k∧k≤9223372036854775807)∧(k=9→x % 9=2)
def ea2:Int × Int→List PV:=fun t=>match t with | (x,k)=>[.n .i64 x,.n .i64 k]
noncomputable def ra2:Int × Int→Ret:=fun t=>match t with | (x,k)=>.v (.n .i64 (bif decide (k=9) then 2 else x % k))
def da2:List PV→Int × Int:=fun ps=>match ps with
 | [.n _ x,.n _ k]=>(x,k)
 | _=>(0,0)
noncomputable def o_a2:List PV→Option (Bool × Ret):=o_fm da2 ca2 ea2 ra2
theorem ok_a2:zJ Tryz.prog 20 o_a2:=qYJ fun t h=>by
 obtain ⟨x,k⟩:=t;exact yQK x k 2 h
def alta2 (ws:Wsp) (x:Int):Wsp:=⟨ws.js,ws.ms,ws.sh,ws.sk,ws.n,ws.m,ws.c,ws.d,ws.ob,ws.pl,(fun v=>(Hnd.mk (bif (Nat.beq v 0) then (vJJ .i64 ((x % 5) - 2)) else (ws.hd v).link) (Z3.mk (bif (Nat.beq v 0) then (ws.hd 0).off.x else (ws.hd v).off.x) (bif (Nat.beq v 0) then (ws.hd 0).off.y else (ws.hd v).off.y) (bif (Nat.beq v 0) then (ws.hd 0).off.z else (ws.hd v).off.z)))),ws.gr,ws.no,ws.np,ws.nh,ws.ng,ws.slack⟩
noncomputable def oralta2 (_:Wsp) (_ x:Int):OrS:=orS [(20,o_a2)] []
noncomputable def yWY (_:Wsp) (_ x:Int):List (List Nat × kY):=[]
set_option maxRecDepth 100000 in
theorem pxalta2 (ws:Wsp) (how x:Int):qYY Tf (oralta2 ws how x) (qZ (yWY ws how x)) 60 15 [.a (wP ws),.n .i64 how,.n .i64 x] =
 (bif (decide (ws.no≤1000000)) then (bif (decide (ws.np≤1000000)) then (bif (decide (ws.nh≤1000000)) then (bif (decide (ws.ng≤1000000)) then (bif (gF1 ca2 ea2 (how,9)) then (bif (gF1 ca2 ea2 (x,5)) then (bif (inB 0 ws.nh) then some (.v (.a [.lf ws.n (fJ ws.js),.lf ws.m (fM ws.ms),.lf ws.c (fS ws.sh),.lf ws.d (fK ws.sk),.lf ws.no (fO ws.ob),.lf ws.np (fZ ws.pl),.lf ws.nh (fun v=>[.n .i64 (bif (Nat.beq v 0) then (vJJ .i64 ((x % 5) - 2)) else (ws.hd v).link),.n .i64 (bif (Nat.beq v 0) then (ws.hd 0).off.x else (ws.hd v).off.x),.n .i64 (bif (Nat.beq v 0) then (ws.hd 0).off.y else (ws.hd v).off.y),.n .i64 (bif (Nat.beq v 0) then (ws.hd 0).off.z else (ws.hd v).off.z)]),.lf ws.ng (fG ws.gr),.n .i64 ws.slack]),[])
 else none)
 else none)
 else none)
 else none)
 else none)
 else none)
 else none):=by kernel_rfl
theorem snd_alta2 (ws:Wsp) (how x:Int) (hH:how % 9=2) (_:ws.no≤1000∧ws.np≤1000∧ws.nh≤1000∧ws.ng≤1000∧ws.c≤1000) (_:0 < ws.no∧0 < ws.np∧0 < ws.nh):yV Tryz.prog 15 [.a (wP ws),.n .i64 how,.n .i64 x] (.v (.a (wP (alta2 ws x)))):=by
 refine yQ (N:=60) (LO:=qZ (yWY ws how x)) kW zW (kG (l:=[(20,o_a2)]) (m:=[]) ⟨ok_a2,trivial⟩ trivial) (fun p S hp => ?_) ?_
 ·refine zH (L:=qQ Tf 15) (l:=(yWY ws how x)) (show AllP _ (yWY ws how x) from trivial) p S hp
 ·refine (pxalta2 ws how x).trans ?_;simp only [vJQ (show ws.no≤1000000 by omega),vJQ (show ws.np≤1000000 by omega),vJQ (show ws.nh≤1000000 by omega),vJQ (show ws.ng≤1000000 by omega),jX (C:=ca2) (t:=(how,9)) ⟨⟨by decide,by decide⟩,fun _=>hH⟩,jX (C:=ca2) (t:=(x,5)) ⟨⟨by decide,by decide⟩,fun h=>absurd h (by decide)⟩,show inB 0 ws.nh=true from yU (p:=0) (show 0 < ws.nh by omega),Bool.and_true,vYV];rfl
def ca3a:Int × Int→Prop:=fun t=>match t with | (x,k)=>(0 < k∧k≤9223372036854775807)∧(k=9→x % 9=3)∧(k=3→x % 3=0)
def ea3a:Int × Int→List PV:=fun t=>match t with | (x,k)=>[.n .i64 x,.n .i64 k]
noncomputable def ra3a:Int × Int→Ret:=fun t=>match t with | (x,k)=>.v (.n .i64 (bif decide (k=9) then 3 else bif decide (k=3) then 0 else x % k))
def da3a:List PV→Int × Int:=fun ps=>match ps with
 | [.n _ x,.n _ k]=>(x,k)
 | _=>(0,0)
noncomputable def kJW:List PV→Option (Bool × Ret):=o_fm da3a ca3a ea3a ra3a
theorem ok_a3a:zJ Tryz.prog 20 kJW:=qYJ fun t h=>by
 obtain ⟨x,k⟩:=t;exact yQU x k 3 0 h
def alta3a (ws:Wsp) (x:Int):Wsp:=⟨ws.js,ws.ms,ws.sh,ws.sk,ws.n,ws.m,ws.c,ws.d,ws.ob,ws.pl,(fun v=>(Hnd.mk (bif (Nat.beq v 0) then (ws.hd 0).link else (ws.hd v).link) (Z3.mk (bif (Nat.beq v 0) then (vJJ .i64 ((vJJ .i64 ((x % 5) - 2)) * 1048577)) else (ws.hd v).off.x) (bif (Nat.beq v 0) then (ws.hd 0).off.y else (ws.hd v).off.y) (bif (Nat.beq v 0) then (ws.hd 0).off.z else (ws.hd v).off.z)))),ws.gr,ws.no,ws.np,ws.nh,ws.ng,ws.slack⟩
noncomputable def oralta3a (_:Wsp) (_ x:Int):OrS:=orS [(20,kJW)] []
noncomputable def zHJ (_:Wsp) (_ x:Int):List (List Nat × kY):=[]
set_option maxRecDepth 100000 in
theorem pxalta3a (ws:Wsp) (how x:Int):qYY Tf (oralta3a ws how x) (qZ (zHJ ws how x)) 60 15 [.a (wP ws),.n .i64 how,.n .i64 x] =
 (bif (decide (ws.no≤1000000)) then (bif (decide (ws.np≤1000000)) then (bif (decide (ws.nh≤1000000)) then (bif (decide (ws.ng≤1000000)) then (bif (gF1 ca3a ea3a (how,9)) then (bif (gF1 ca3a ea3a (x,3)) then (bif (gF1 ca3a ea3a (x,5)) then (bif (inB 0 ws.nh) then some (.v (.a [.lf ws.n (fJ ws.js),.lf ws.m (fM ws.ms),.lf ws.c (fS ws.sh),.lf ws.d (fK ws.sk),.lf ws.no (fO ws.ob),.lf ws.np (fZ ws.pl),.lf ws.nh (fun v=>[.n .i64 (bif (Nat.beq v 0) then (ws.hd 0).link else (ws.hd v).link),.n .i64 (bif (Nat.beq v 0) then (vJJ .i64 ((vJJ .i64 ((x % 5) - 2)) * 1048577)) else (ws.hd v).off.x),.n .i64 (bif (Nat.beq v 0) then (ws.hd 0).off.y else (ws.hd v).off.y),.n .i64 (bif (Nat.beq v 0) then (ws.hd 0).off.z else (ws.hd v).off.z)]),.lf ws.ng (fG ws.gr),.n .i64 ws.slack]),[])
 else none)
 else none)
 else none)
 else none)
 else none)
 else none)
 else none)
 else none):=by kernel_rfl
theorem snd_alta3a (ws:Wsp) (how x:Int) (hH:how % 9=3) (hR:x % 3=0) (_:ws.no≤1000∧ws.np≤1000∧ws.nh≤1000∧ws.ng≤1000∧ws.c≤1000) (_:0 < ws.no∧0 < ws.np∧0 < ws.nh):yV Tryz.prog 15 [.a (wP ws),.n .i64 how,.n .i64 x] (.v (.a (wP (alta3a ws x)))):=by
 refine yQ (N:=60) (LO:=qZ (zHJ ws how x)) kW zW (kG (l:=[(20,kJW)]) (m:=[]) ⟨ok_a3a,trivial⟩ trivial) (fun p S hp => ?_) ?_
 ·refine zH (L:=qQ Tf 15) (l:=(zHJ ws how x)) (show AllP _ (zHJ ws how x) from trivial) p S hp
 ·refine (pxalta3a ws how x).trans ?_;simp only [vJQ (show ws.no≤1000000 by omega),vJQ (show ws.np≤1000000 by omega),vJQ (show ws.nh≤1000000 by omega),vJQ (show ws.ng≤1000000 by omega),jX (C:=ca3a) (t:=(how,9)) ⟨⟨by decide,by decide⟩,fun _=>hH,fun h=>absurd h (by decide)⟩,jX (C:=ca3a) (t:=(x,3)) ⟨⟨by decide,by decide⟩,fun h=>absurd h (by decide),fun _=>hR⟩,jX (C:=ca3a) (t:=(x,5)) ⟨⟨by decide,by decide⟩,fun h=>absurd h (by decide),fun h=>absurd h (by decide)⟩,show inB 0 ws.nh=true from yU (p:=0) (show 0 < ws.nh by omega),Bool.and_true,vYV];rfl
def ca3b:Int × Int→Prop:=fun t=>match t with | (x,k)=>(0 < k∧k≤9223372036854775807)∧(k=9→x % 9=3)∧(k=3→x % 3=1)
def ea3b:Int × Int→List PV:=fun t=>match t with | (x,k)=>[.n .i64 x,.n .i64 k]
noncomputable def ra3b:Int × Int→Ret:=fun t=>match t with | (x,k)=>.v (.n .i64 (bif decide (k=9) then 3 else bif decide (k=3) then 1 else x % k))
def da3b:List PV→Int × Int:=fun ps=>match ps with
 | [.n _ x,.n _ k]=>(x,k)
 | _=>(0,0)
noncomputable def kJX:List PV→Option (Bool × Ret):=o_fm da3b ca3b ea3b ra3b
theorem ok_a3b:zJ Tryz.prog 20 kJX:=qYJ fun t h=>by
 obtain ⟨x,k⟩:=t;exact yQU x k 3 1 h
def alta3b (ws:Wsp) (x:Int):Wsp:=⟨ws.js,ws.ms,ws.sh,ws.sk,ws.n,ws.m,ws.c,ws.d,ws.ob,ws.pl,(fun v=>(Hnd.mk (bif (Nat.beq v 0) then (ws.hd 0).link else (ws.hd v).link) (Z3.mk (bif (Nat.beq v 0) then (ws.hd 0).off.x else (ws.hd v).off.x) (bif (Nat.beq v 0) then (vJJ .i64 ((vJJ .i64 ((x % 5) - 2)) * 1048577)) else (ws.hd v).off.y) (bif (Nat.beq v 0) then (ws.hd 0).off.z else (ws.hd v).off.z)))),ws.gr,ws.no,ws.np,ws.nh,ws.ng,ws.slack⟩
noncomputable def oralta3b (_:Wsp) (_ x:Int):OrS:=orS [(20,kJX)] []
noncomputable def zHY (_:Wsp) (_ x:Int):List (List Nat × kY):=[]
set_option maxRecDepth 100000 in
theorem pxalta3b (ws:Wsp) (how x:Int):qYY Tf (oralta3b ws how x) (qZ (zHY ws how x)) 60 15 [.a (wP ws),.n .i64 how,.n .i64 x] =
 (bif (decide (ws.no≤1000000)) then (bif (decide (ws.np≤1000000)) then (bif (decide (ws.nh≤1000000)) then (bif (decide (ws.ng≤1000000)) then (bif (gF1 ca3b ea3b (how,9)) then (bif (gF1 ca3b ea3b (x,3)) then (bif (gF1 ca3b ea3b (x,5)) then (bif (inB 0 ws.nh) then some (.v (.a [.lf ws.n (fJ ws.js),.lf ws.m (fM ws.ms),.lf ws.c (fS ws.sh),.lf ws.d (fK ws.sk),.lf ws.no (fO ws.ob),.lf ws.np (fZ ws.pl),.lf ws.nh (fun v=>[.n .i64 (bif (Nat.beq v 0) then (ws.hd 0).link else (ws.hd v).link),.n .i64 (bif (Nat.beq v 0) then (ws.hd 0).off.x else (ws.hd v).off.x),.n .i64 (bif (Nat.beq v 0) then (vJJ .i64 ((vJJ .i64 ((x % 5) - 2)) * 1048577)) else (ws.hd v).off.y),.n .i64 (bif (Nat.beq v 0) then (ws.hd 0).off.z else (ws.hd v).off.z)]),.lf ws.ng (fG ws.gr),.n .i64 ws.slack]),[])
 else none)
 else none)
 else none)
 else none)
 else none)
 else none)
 else none)
 else none):=by kernel_rfl
theorem snd_alta3b (ws:Wsp) (how x:Int) (hH:how % 9=3) (hR:x % 3=1) (_:ws.no≤1000∧ws.np≤1000∧ws.nh≤1000∧ws.ng≤1000∧ws.c≤1000) (_:0 < ws.no∧0 < ws.np∧0 < ws.nh):yV Tryz.prog 15 [.a (wP ws),.n .i64 how,.n .i64 x] (.v (.a (wP (alta3b ws x)))):=by
 refine yQ (N:=60) (LO:=qZ (zHY ws how x)) kW zW (kG (l:=[(20,kJX)]) (m:=[]) ⟨ok_a3b,trivial⟩ trivial) (fun p S hp => ?_) ?_
 ·refine zH (L:=qQ Tf 15) (l:=(zHY ws how x)) (show AllP _ (zHY ws how x) from trivial) p S hp
 ·refine (pxalta3b ws how x).trans ?_;simp only [vJQ (show ws.no≤1000000 by omega),vJQ (show ws.np≤1000000 by omega),vJQ (show ws.nh≤1000000 by omega),vJQ (show ws.ng≤1000000 by omega),jX (C:=ca3b) (t:=(how,9)) ⟨⟨by decide,by decide⟩,fun _=>hH,fun h=>absurd h (by decide)⟩,jX (C:=ca3b) (t:=(x,3)) ⟨⟨by decide,by decide⟩,fun h=>absurd h (by decide),fun _=>hR⟩,jX (C:=ca3b) (t:=(x,5)) ⟨⟨by decide,by decide⟩,fun h=>absurd h (by decide),fun h=>absurd h (by decide)⟩,show inB 0 ws.nh=true from yU (p:=0) (show 0 < ws.nh by omega),Bool.and_true,vYV];rfl
def ca3c:Int × Int→Prop:=fun t=>match t with | (x,k)=>(0 < k∧k≤9223372036854775807)∧(k=9→x % 9=3)∧(k=3→x % 3=2)
def ea3c:Int × Int→List PV:=fun t=>match t with | (x,k)=>[.n .i64 x,.n .i64 k]
noncomputable def ra3c:Int × Int→Ret:=fun t=>match t with | (x,k)=>.v (.n .i64 (bif decide (k=9) then 3 else bif decide (k=3) then 2 else x % k))
def da3c:List PV→Int × Int:=fun ps=>match ps with
 | [.n _ x,.n _ k]=>(x,k)
 | _=>(0,0)
noncomputable def kJU:List PV→Option (Bool × Ret):=o_fm da3c ca3c ea3c ra3c
theorem ok_a3c:zJ Tryz.prog 20 kJU:=qYJ fun t h=>by
 obtain ⟨x,k⟩:=t;exact yQU x k 3 2 h
def alta3c (ws:Wsp) (x:Int):Wsp:=⟨ws.js,ws.ms,ws.sh,ws.sk,ws.n,ws.m,ws.c,ws.d,ws.ob,ws.pl,(fun v=>(Hnd.mk (bif (Nat.beq v 0) then (ws.hd 0).link else (ws.hd v).link) (Z3.mk (bif (Nat.beq v 0) then (ws.hd 0).off.x else (ws.hd v).off.x) (bif (Nat.beq v 0) then (ws.hd 0).off.y else (ws.hd v).off.y) (bif (Nat.beq v 0) then (vJJ .i64 ((vJJ .i64 ((x % 5) - 2)) * 1048577)) else (ws.hd v).off.z)))),ws.gr,ws.no,ws.np,ws.nh,ws.ng,ws.slack⟩
noncomputable def oralta3c (_:Wsp) (_ x:Int):OrS:=orS [(20,kJU)] []
noncomputable def zHZ (_:Wsp) (_ x:Int):List (List Nat × kY):=[]
set_option maxRecDepth 100000 in
theorem pxalta3c (ws:Wsp) (how x:Int):qYY Tf (oralta3c ws how x) (qZ (zHZ ws how x)) 60 15 [.a (wP ws),.n .i64 how,.n .i64 x] =
 (bif (decide (ws.no≤1000000)) then (bif (decide (ws.np≤1000000)) then (bif (decide (ws.nh≤1000000)) then (bif (decide (ws.ng≤1000000)) then (bif (gF1 ca3c ea3c (how,9)) then (bif (gF1 ca3c ea3c (x,3)) then (bif (gF1 ca3c ea3c (x,5)) then (bif (inB 0 ws.nh) then some (.v (.a [.lf ws.n (fJ ws.js),.lf ws.m (fM ws.ms),.lf ws.c (fS ws.sh),.lf ws.d (fK ws.sk),.lf ws.no (fO ws.ob),.lf ws.np (fZ ws.pl),.lf ws.nh (fun v=>[.n .i64 (bif (Nat.beq v 0) then (ws.hd 0).link else (ws.hd v).link),.n .i64 (bif (Nat.beq v 0) then (ws.hd 0).off.x else (ws.hd v).off.x),.n .i64 (bif (Nat.beq v 0) then (ws.hd 0).off.y else (ws.hd v).off.y),.n .i64 (bif (Nat.beq v 0) then (vJJ .i64 ((vJJ .i64 ((x % 5) - 2)) * 1048577)) else (ws.hd v).off.z)]),.lf ws.ng (fG ws.gr),.n .i64 ws.slack]),[])
 else none)
 else none)
 else none)
 else none)
 else none)
 else none)
 else none)
 else none):=by kernel_rfl
theorem snd_alta3c (ws:Wsp) (how x:Int) (hH:how % 9=3) (hR:x % 3=2) (_:ws.no≤1000∧ws.np≤1000∧ws.nh≤1000∧ws.ng≤1000∧ws.c≤1000) (_:0 < ws.no∧0 < ws.np∧0 < ws.nh):yV Tryz.prog 15 [.a (wP ws),.n .i64 how,.n .i64 x] (.v (.a (wP (alta3c ws x)))):=by
 refine yQ (N:=60) (LO:=qZ (zHZ ws how x)) kW zW (kG (l:=[(20,kJU)]) (m:=[]) ⟨ok_a3c,trivial⟩ trivial) (fun p S hp => ?_) ?_
 ·refine zH (L:=qQ Tf 15) (l:=(zHZ ws how x)) (show AllP _ (zHZ ws how x) from trivial) p S hp
 ·refine (pxalta3c ws how x).trans ?_;simp only [vJQ (show ws.no≤1000000 by omega),vJQ (show ws.np≤1000000 by omega),vJQ (show ws.nh≤1000000 by omega),vJQ (show ws.ng≤1000000 by omega),jX (C:=ca3c) (t:=(how,9)) ⟨⟨by decide,by decide⟩,fun _=>hH,fun h=>absurd h (by decide)⟩,jX (C:=ca3c) (t:=(x,3)) ⟨⟨by decide,by decide⟩,fun h=>absurd h (by decide),fun _=>hR⟩,jX (C:=ca3c) (t:=(x,5)) ⟨⟨by decide,by decide⟩,fun h=>absurd h (by decide),fun h=>absurd h (by decide)⟩,show inB 0 ws.nh=true from yU (p:=0) (show 0 < ws.nh by omega),Bool.and_true,vYV];rfl
def ca4:Int × Int→Prop:=fun t=>match t with | (x,k)=>(0 < k∧k≤9223372036854775807)∧(k=9→x % 9=4)
def ea4:Int × Int→List PV:=fun t=>match t with | (x,k)=>[.n .i64 x,.n .i64 k]
noncomputable def ra4:Int × Int→Ret:=fun t=>match t with | (x,k)=>.v (.n .i64 (bif decide (k=9) then 4 else x % k))
def da4:List PV→Int × Int:=fun ps=>match ps with
 | [.n _ x,.n _ k]=>(x,k)
 | _=>(0,0)
noncomputable def o_a4:List PV→Option (Bool × Ret):=o_fm da4 ca4 ea4 ra4
theorem ok_a4:zJ Tryz.prog 20 o_a4:=qYJ fun t h=>by
 obtain ⟨x,k⟩:=t;exact yQK x k 4 h
def alta4 (ws:Wsp) (x:Int):Wsp:=⟨ws.js,ws.ms,ws.sh,ws.sk,ws.n,ws.m,ws.c,ws.d,(fun v=>(ObT.mk (bif (Nat.beq v 0) then (bif (decide ((x % 4)=0)) then (ByteArray.mk #[]) else (bif (decide (((x % 4) - 1)=0)) then (ByteArray.mk #[98]) else (bif (decide ((((x % 4) - 1) - 1)=0)) then (ByteArray.mk #[48]) else (ByteArray.mk #[110,97,109,101,95,116,104,97,116,95,105,115,95,116,111,111,95,108,111,110,103])))) else (ws.ob v).name) (bif (Nat.beq v 0) then (ws.ob 0).ns else (ws.ob v).ns) (fun y=>(Shp.mk (bif (Nat.beq v 0) then ((ws.ob 0).shs y).link else ((ws.ob v).shs y).link) (bif (Nat.beq v 0) then ((ws.ob 0).shs y).rad else ((ws.ob v).shs y).rad) (bif (Nat.beq v 0) then ((ws.ob 0).shs y).np else ((ws.ob v).shs y).np) (fun u=>(Z3.mk (bif (Nat.beq v 0) then (((ws.ob 0).shs y).pts u).x else (((ws.ob v).shs y).pts u).x) (bif (Nat.beq v 0) then (((ws.ob 0).shs y).pts u).y else (((ws.ob v).shs y).pts u).y) (bif (Nat.beq v 0) then (((ws.ob 0).shs y).pts u).z else (((ws.ob v).shs y).pts u).z))))))),ws.pl,ws.hd,ws.gr,ws.no,ws.np,ws.nh,ws.ng,ws.slack⟩
noncomputable def oralta4 (_:Wsp) (_ x:Int):OrS:=orS [(20,o_a4)] []
noncomputable def yWZ (_:Wsp) (_ x:Int):List (List Nat × kY):=[]
set_option maxRecDepth 100000 in
theorem pxalta4 (ws:Wsp) (how x:Int):qYY Tf (oralta4 ws how x) (qZ (yWZ ws how x)) 60 15 [.a (wP ws),.n .i64 how,.n .i64 x] =
 (bif (decide (ws.no≤1000000)) then (bif (decide (ws.np≤1000000)) then (bif (decide (ws.nh≤1000000)) then (bif (decide (ws.ng≤1000000)) then (bif (gF1 ca4 ea4 (how,9)) then (bif (gF1 ca4 ea4 (x,4)) then (bif (inB (x % 4) 4 && true) then (bif (inB 0 ws.no) then some (.v (.a [.lf ws.n (fJ ws.js),.lf ws.m (fM ws.ms),.lf ws.c (fS ws.sh),.lf ws.d (fK ws.sk),.lf ws.no (fun v=>[.s (bif (Nat.beq v 0) then (bif (decide ((x % 4)=0)) then (ByteArray.mk #[]) else (bif (decide (((x % 4) - 1)=0)) then (ByteArray.mk #[98]) else (bif (decide ((((x % 4) - 1) - 1)=0)) then (ByteArray.mk #[48]) else (ByteArray.mk #[110,97,109,101,95,116,104,97,116,95,105,115,95,116,111,111,95,108,111,110,103])))) else (ws.ob v).name),.lf (bif (Nat.beq v 0) then (ws.ob 0).ns else (ws.ob v).ns) (fun y'=>[.n .i64 (bif (Nat.beq v 0) then ((ws.ob 0).shs y').link else ((ws.ob v).shs y').link),.n .i64 (bif (Nat.beq v 0) then ((ws.ob 0).shs y').rad else ((ws.ob v).shs y').rad),.lf (bif (Nat.beq v 0) then ((ws.ob 0).shs y').np else ((ws.ob v).shs y').np) (fun w'=>[.n .i64 (bif (Nat.beq v 0) then (((ws.ob 0).shs y').pts w').x else (((ws.ob v).shs y').pts w').x),.n .i64 (bif (Nat.beq v 0) then (((ws.ob 0).shs y').pts w').y else (((ws.ob v).shs y').pts w').y),.n .i64 (bif (Nat.beq v 0) then (((ws.ob 0).shs y').pts w').z else (((ws.ob v).shs y').pts w').z)])])]),.lf ws.np (fZ ws.pl),.lf ws.nh (fH ws.hd),.lf ws.ng (fG ws.gr),.n .i64 ws.slack]),[])
 else none)
 else none)
 else none)
 else none)
 else none)
 else none)
 else none)
 else none):=by kernel_rfl
theorem snd_alta4 (ws:Wsp) (how x:Int) (hH:how % 9=4) (h1:ws.no≤1000∧ws.np≤1000∧ws.nh≤1000∧ws.ng≤1000∧ws.c≤1000) (h2:0 < ws.no∧0 < ws.np∧0 < ws.nh):yV Tryz.prog 15 [.a (wP ws),.n .i64 how,.n .i64 x] (.v (.a (wP (alta4 ws x)))):=by
 refine yQ (N:=60) (LO:=qZ (yWZ ws how x)) kW zW (kG (l:=[(20,o_a4)]) (m:=[]) ⟨ok_a4,trivial⟩ trivial) (fun p S hp => ?_) ?_
 ·refine zH (L:=qQ Tf 15) (l:=(yWZ ws how x)) (show AllP _ (yWZ ws how x) from trivial) p S hp
 ·refine (pxalta4 ws how x).trans ?_;have hx4:inB (x % 4) 4=true:=by
   have h1:=Int.emod_nonneg x (show (4:Int) ≠ 0 by decide);have h2:=Int.emod_lt_of_pos x (show (0:Int) < 4 by decide);have e:x % 4=(((x % 4).toNat:Nat):Int):=by omega
   rw [e]; exact yU (by omega)
  simp only [vJQ (show ws.no≤1000000 by omega),vJQ (show ws.np≤1000000 by omega),vJQ (show ws.nh≤1000000 by omega),vJQ (show ws.ng≤1000000 by omega),jX (C:=ca4) (t:=(how,9)) ⟨⟨by decide,by decide⟩,fun _=>hH⟩,jX (C:=ca4) (t:=(x,4)) ⟨⟨by decide,by decide⟩,fun h=>absurd h (by decide)⟩,show inB (x % 4) 4=true from hx4,show inB 0 ws.no=true from yU (p:=0) (show 0 < ws.no by omega),Bool.and_true,vYV];rfl
def ca5:Int × Int→Prop:=fun t=>match t with | (x,k)=>(0 < k∧k≤9223372036854775807)∧(k=9→x % 9=5)
def ea5:Int × Int→List PV:=fun t=>match t with | (x,k)=>[.n .i64 x,.n .i64 k]
noncomputable def ra5:Int × Int→Ret:=fun t=>match t with | (x,k)=>.v (.n .i64 (bif decide (k=9) then 5 else x % k))
def da5:List PV→Int × Int:=fun ps=>match ps with
 | [.n _ x,.n _ k]=>(x,k)
 | _=>(0,0)
noncomputable def o_a5:List PV→Option (Bool × Ret):=o_fm da5 ca5 ea5 ra5
theorem ok_a5:zJ Tryz.prog 20 o_a5:=qYJ fun t h=>by
 obtain ⟨x,k⟩:=t;exact yQK x k 5 h
def alta5 (ws:Wsp) (x:Int):Wsp:=⟨ws.js,ws.ms,ws.sh,ws.sk,ws.n,ws.m,ws.c,ws.d,(fun v=>(ObT.mk (bif (Nat.beq v 0) then (ws.ob 0).name else (ws.ob v).name) (bif (Nat.beq v 0) then 1 else (ws.ob v).ns) (fun y=>(Shp.mk (bif (Nat.beq v 0) then (vJJ .i64 ((x % 3) - 1)) else ((ws.ob v).shs y).link) (bif (Nat.beq v 0) then (x % 2) else ((ws.ob v).shs y).rad) (bif (Nat.beq v 0) then 1 else ((ws.ob v).shs y).np) (fun u=>(Z3.mk (bif (Nat.beq v 0) then 0 else (((ws.ob v).shs y).pts u).x) (bif (Nat.beq v 0) then 0 else (((ws.ob v).shs y).pts u).y) (bif (Nat.beq v 0) then 0 else (((ws.ob v).shs y).pts u).z))))))),ws.pl,ws.hd,ws.gr,ws.no,ws.np,ws.nh,ws.ng,ws.slack⟩
noncomputable def oralta5 (_:Wsp) (_ x:Int):OrS:=orS [(20,o_a5)] []
noncomputable def yWQ (_:Wsp) (_ x:Int):List (List Nat × kY):=[]
set_option maxRecDepth 100000 in
theorem pxalta5 (ws:Wsp) (how x:Int):qYY Tf (oralta5 ws how x) (qZ (yWQ ws how x)) 60 15 [.a (wP ws),.n .i64 how,.n .i64 x] =
 (bif (decide (ws.no≤1000000)) then (bif (decide (ws.np≤1000000)) then (bif (decide (ws.nh≤1000000)) then (bif (decide (ws.ng≤1000000)) then (bif (gF1 ca5 ea5 (how,9)) then (bif (gF1 ca5 ea5 (x,3)) then (bif (gF1 ca5 ea5 (x,2)) then (bif (inB 0 ws.no) then some (.v (.a [.lf ws.n (fJ ws.js),.lf ws.m (fM ws.ms),.lf ws.c (fS ws.sh),.lf ws.d (fK ws.sk),.lf ws.no (fun v=>[.s (bif (Nat.beq v 0) then (ws.ob 0).name else (ws.ob v).name),.lf (bif (Nat.beq v 0) then 1 else (ws.ob v).ns) (fun v'=>[.n .i64 (bif (Nat.beq v 0) then (vJJ .i64 ((x % 3) - 1)) else ((ws.ob v).shs v').link),.n .i64 (bif (Nat.beq v 0) then (x % 2) else ((ws.ob v).shs v').rad),.lf (bif (Nat.beq v 0) then 1 else ((ws.ob v).shs v').np) (fun v''=>[.n .i64 (bif (Nat.beq v 0) then 0 else (((ws.ob v).shs v').pts v'').x),.n .i64 (bif (Nat.beq v 0) then 0 else (((ws.ob v).shs v').pts v'').y),.n .i64 (bif (Nat.beq v 0) then 0 else (((ws.ob v).shs v').pts v'').z)])])]),.lf ws.np (fZ ws.pl),.lf ws.nh (fH ws.hd),.lf ws.ng (fG ws.gr),.n .i64 ws.slack]),[])
 else none)
 else none)
 else none)
 else none)
 else none)
 else none)
 else none)
 else none):=by kernel_rfl
theorem snd_alta5 (ws:Wsp) (how x:Int) (hH:how % 9=5) (_:ws.no≤1000∧ws.np≤1000∧ws.nh≤1000∧ws.ng≤1000∧ws.c≤1000) (_:0 < ws.no∧0 < ws.np∧0 < ws.nh):yV Tryz.prog 15 [.a (wP ws),.n .i64 how,.n .i64 x] (.v (.a (wP (alta5 ws x)))):=by
 refine yQ (N:=60) (LO:=qZ (yWQ ws how x)) kW zW (kG (l:=[(20,o_a5)]) (m:=[]) ⟨ok_a5,trivial⟩ trivial) (fun p S hp => ?_) ?_
 ·refine zH (L:=qQ Tf 15) (l:=(yWQ ws how x)) (show AllP _ (yWQ ws how x) from trivial) p S hp
 ·refine (pxalta5 ws how x).trans ?_;simp only [vJQ (show ws.no≤1000000 by omega),vJQ (show ws.np≤1000000 by omega),vJQ (show ws.nh≤1000000 by omega),vJQ (show ws.ng≤1000000 by omega),jX (C:=ca5) (t:=(how,9)) ⟨⟨by decide,by decide⟩,fun _=>hH⟩,jX (C:=ca5) (t:=(x,3)) ⟨⟨by decide,by decide⟩,fun h=>absurd h (by decide)⟩,jX (C:=ca5) (t:=(x,2)) ⟨⟨by decide,by decide⟩,fun h=>absurd h (by decide)⟩,show inB 0 ws.no=true from yU (p:=0) (show 0 < ws.no by omega),Bool.and_true,vYV];rfl
def ca6:Int × Int→Prop:=fun t=>match t with | (x,k)=>(0 < k∧k≤9223372036854775807)∧(k=9→x % 9=6)
def ea6:Int × Int→List PV:=fun t=>match t with | (x,k)=>[.n .i64 x,.n .i64 k]
noncomputable def ra6:Int × Int→Ret:=fun t=>match t with | (x,k)=>.v (.n .i64 (bif decide (k=9) then 6 else x % k))
def da6:List PV→Int × Int:=fun ps=>match ps with
 | [.n _ x,.n _ k]=>(x,k)
 | _=>(0,0)
noncomputable def o_a6:List PV→Option (Bool × Ret):=o_fm da6 ca6 ea6 ra6
theorem ok_a6:zJ Tryz.prog 20 o_a6:=qYJ fun t h=>by
 obtain ⟨x,k⟩:=t;exact yQK x k 6 h
def alta6 (ws:Wsp) (x:Int):Wsp:=⟨ws.js,ws.ms,ws.sh,ws.sk,ws.n,ws.m,ws.c,ws.d,ws.ob,ws.pl,ws.hd,(fun v=>(Grp.mk (bif (Nat.blt v ws.ng) then (ws.gr v).hand else (vJJ .i64 ((x % 5) - 1))) (bif (Nat.blt v ws.ng) then (ws.gr v).place else (vJJ .i64 ((x % 7) - 1))) (bif (Nat.blt v ws.ng) then (ws.gr v).na else 2) (fun u=>(bif (Nat.blt v ws.ng) then ((ws.gr v).cf u) else (bif (Nat.beq u 0) then (x % 80) else 0))))),ws.no,ws.np,ws.nh,(ws.ng + 1),ws.slack⟩
noncomputable def oralta6 (_:Wsp) (_ x:Int):OrS:=orS [(20,o_a6)] []
noncomputable def yXH (_:Wsp) (_ x:Int):List (List Nat × kY):=[]
set_option maxRecDepth 100000 in
theorem pxalta6 (ws:Wsp) (how x:Int):qYY Tf (oralta6 ws how x) (qZ (yXH ws how x)) 60 15 [.a (wP ws),.n .i64 how,.n .i64 x] =
 (bif (decide (ws.no≤1000000)) then (bif (decide (ws.np≤1000000)) then (bif (decide (ws.nh≤1000000)) then (bif (decide (ws.ng≤1000000)) then (bif (gF1 ca6 ea6 (how,9)) then (bif (gF1 ca6 ea6 (x,5)) then (bif (gF1 ca6 ea6 (x,7)) then (bif (gF1 ca6 ea6 (x,80)) then (bif (decide (ws.ng + 1≤1000000)) then some (.v (.a [.lf ws.n (fJ ws.js),.lf ws.m (fM ws.ms),.lf ws.c (fS ws.sh),.lf ws.d (fK ws.sk),.lf ws.no (fO ws.ob),.lf ws.np (fZ ws.pl),.lf ws.nh (fH ws.hd),.lf (ws.ng + 1) (fun v=>[.n .i64 (bif (Nat.blt v ws.ng) then (ws.gr v).hand else (vJJ .i64 ((x % 5) - 1))),.n .i64 (bif (Nat.blt v ws.ng) then (ws.gr v).place else (vJJ .i64 ((x % 7) - 1))),.lf (bif (Nat.blt v ws.ng) then (ws.gr v).na else 2) (fun y'=>[.n .i64 (bif (Nat.blt v ws.ng) then ((ws.gr v).cf y') else (bif (Nat.beq y' 0) then (x % 80) else 0))])]),.n .i64 ws.slack]),[])
 else none)
 else none)
 else none)
 else none)
 else none)
 else none)
 else none)
 else none)
 else none):=by kernel_rfl
theorem snd_alta6 (ws:Wsp) (how x:Int) (hH:how % 9=6) (_:ws.no≤1000∧ws.np≤1000∧ws.nh≤1000∧ws.ng≤1000∧ws.c≤1000) (_:0 < ws.no∧0 < ws.np∧0 < ws.nh):yV Tryz.prog 15 [.a (wP ws),.n .i64 how,.n .i64 x] (.v (.a (wP (alta6 ws x)))):=by
 refine yQ (N:=60) (LO:=qZ (yXH ws how x)) kW zW (kG (l:=[(20,o_a6)]) (m:=[]) ⟨ok_a6,trivial⟩ trivial) (fun p S hp => ?_) ?_
 ·refine zH (L:=qQ Tf 15) (l:=(yXH ws how x)) (show AllP _ (yXH ws how x) from trivial) p S hp
 ·refine (pxalta6 ws how x).trans ?_;simp only [vJQ (show ws.no≤1000000 by omega),vJQ (show ws.np≤1000000 by omega),vJQ (show ws.nh≤1000000 by omega),vJQ (show ws.ng≤1000000 by omega),jX (C:=ca6) (t:=(how,9)) ⟨⟨by decide,by decide⟩,fun _=>hH⟩,jX (C:=ca6) (t:=(x,5)) ⟨⟨by decide,by decide⟩,fun h=>absurd h (by decide)⟩,jX (C:=ca6) (t:=(x,7)) ⟨⟨by decide,by decide⟩,fun h=>absurd h (by decide)⟩,jX (C:=ca6) (t:=(x,80)) ⟨⟨by decide,by decide⟩,fun h=>absurd h (by decide)⟩,vJQ (show ws.ng + 1≤1000000 by omega),Bool.and_true,vYV];rfl
def ca7:Int × Int→Prop:=fun t=>match t with | (x,k)=>(0 < k∧k≤9223372036854775807)∧(k=9→x % 9=7)
def ea7:Int × Int→List PV:=fun t=>match t with | (x,k)=>[.n .i64 x,.n .i64 k]
noncomputable def ra7:Int × Int→Ret:=fun t=>match t with | (x,k)=>.v (.n .i64 (bif decide (k=9) then 7 else x % k))
def da7:List PV→Int × Int:=fun ps=>match ps with
 | [.n _ x,.n _ k]=>(x,k)
 | _=>(0,0)
noncomputable def o_a7:List PV→Option (Bool × Ret):=o_fm da7 ca7 ea7 ra7
theorem ok_a7:zJ Tryz.prog 20 o_a7:=qYJ fun t h=>by
 obtain ⟨x,k⟩:=t;exact yQK x k 7 h
def alta7 (ws:Wsp) (x:Int):Wsp:=⟨ws.js,ws.ms,ws.sh,ws.sk,ws.n,ws.m,ws.c,ws.d,(fun v=>(ObT.mk (bif (Nat.blt v ws.no) then (ws.ob v).name else (ws.ob 0).name) (bif (Nat.blt v ws.no) then (ws.ob v).ns else (ws.ob 0).ns) (fun y=>(Shp.mk (bif (Nat.blt v ws.no) then ((ws.ob v).shs y).link else ((ws.ob 0).shs y).link) (bif (Nat.blt v ws.no) then ((ws.ob v).shs y).rad else ((ws.ob 0).shs y).rad) (bif (Nat.blt v ws.no) then ((ws.ob v).shs y).np else ((ws.ob 0).shs y).np) (fun u=>(Z3.mk (bif (Nat.blt v ws.no) then (((ws.ob v).shs y).pts u).x else (((ws.ob 0).shs y).pts u).x) (bif (Nat.blt v ws.no) then (((ws.ob v).shs y).pts u).y else (((ws.ob 0).shs y).pts u).y) (bif (Nat.blt v ws.no) then (((ws.ob v).shs y).pts u).z else (((ws.ob 0).shs y).pts u).z))))))),ws.pl,ws.hd,ws.gr,(ws.no + 1),ws.np,ws.nh,ws.ng,ws.slack⟩
noncomputable def oralta7 (_:Wsp) (_ x:Int):OrS:=orS [(20,o_a7)] []
noncomputable def yXG (_:Wsp) (_ x:Int):List (List Nat × kY):=[]
set_option maxRecDepth 100000 in
theorem pxalta7 (ws:Wsp) (how x:Int):qYY Tf (oralta7 ws how x) (qZ (yXG ws how x)) 60 15 [.a (wP ws),.n .i64 how,.n .i64 x] =
 (bif (decide (ws.no≤1000000)) then (bif (decide (ws.np≤1000000)) then (bif (decide (ws.nh≤1000000)) then (bif (decide (ws.ng≤1000000)) then (bif (gF1 ca7 ea7 (how,9)) then (bif (inB 0 ws.no) then (bif (decide (ws.no + 1≤1000000)) then some (.v (.a [.lf ws.n (fJ ws.js),.lf ws.m (fM ws.ms),.lf ws.c (fS ws.sh),.lf ws.d (fK ws.sk),.lf (ws.no + 1) (fun v=>[.s (bif (Nat.blt v ws.no) then (ws.ob v).name else (ws.ob 0).name),.lf (bif (Nat.blt v ws.no) then (ws.ob v).ns else (ws.ob 0).ns) (fun y'=>[.n .i64 (bif (Nat.blt v ws.no) then ((ws.ob v).shs y').link else ((ws.ob 0).shs y').link),.n .i64 (bif (Nat.blt v ws.no) then ((ws.ob v).shs y').rad else ((ws.ob 0).shs y').rad),.lf (bif (Nat.blt v ws.no) then ((ws.ob v).shs y').np else ((ws.ob 0).shs y').np) (fun w'=>[.n .i64 (bif (Nat.blt v ws.no) then (((ws.ob v).shs y').pts w').x else (((ws.ob 0).shs y').pts w').x),.n .i64 (bif (Nat.blt v ws.no) then (((ws.ob v).shs y').pts w').y else (((ws.ob 0).shs y').pts w').y),.n .i64 (bif (Nat.blt v ws.no) then (((ws.ob v).shs y').pts w').z else (((ws.ob 0).shs y').pts w').z)])])]),.lf ws.np (fZ ws.pl),.lf ws.nh (fH ws.hd),.lf ws.ng (fG ws.gr),.n .i64 ws.slack]),[])
 else none)
 else none)
 else none)
 else none)
 else none)
 else none)
 else none):=by kernel_rfl
theorem snd_alta7 (ws:Wsp) (how x:Int) (hH:how % 9=7) (_:ws.no≤1000∧ws.np≤1000∧ws.nh≤1000∧ws.ng≤1000∧ws.c≤1000) (_:0 < ws.no∧0 < ws.np∧0 < ws.nh):yV Tryz.prog 15 [.a (wP ws),.n .i64 how,.n .i64 x] (.v (.a (wP (alta7 ws x)))):=by
 refine yQ (N:=60) (LO:=qZ (yXG ws how x)) kW zW (kG (l:=[(20,o_a7)]) (m:=[]) ⟨ok_a7,trivial⟩ trivial) (fun p S hp => ?_) ?_
 ·refine zH (L:=qQ Tf 15) (l:=(yXG ws how x)) (show AllP _ (yXG ws how x) from trivial) p S hp
 ·refine (pxalta7 ws how x).trans ?_;simp only [vJQ (show ws.no≤1000000 by omega),vJQ (show ws.np≤1000000 by omega),vJQ (show ws.nh≤1000000 by omega),vJQ (show ws.ng≤1000000 by omega),jX (C:=ca7) (t:=(how,9)) ⟨⟨by decide,by decide⟩,fun _=>hH⟩,show inB 0 ws.no=true from yU (p:=0) (show 0 < ws.no by omega),vJQ (show ws.no + 1≤1000000 by omega),Bool.and_true,vYV];rfl
def ca8:Int × Int→Prop:=fun t=>match t with | (x,k)=>(0 < k∧k≤9223372036854775807)∧(k=9→x % 9=8)
def ea8:Int × Int→List PV:=fun t=>match t with | (x,k)=>[.n .i64 x,.n .i64 k]
noncomputable def ra8:Int × Int→Ret:=fun t=>match t with | (x,k)=>.v (.n .i64 (bif decide (k=9) then 8 else x % k))
def da8:List PV→Int × Int:=fun ps=>match ps with
 | [.n _ x,.n _ k]=>(x,k)
 | _=>(0,0)
noncomputable def o_a8:List PV→Option (Bool × Ret):=o_fm da8 ca8 ea8 ra8
theorem ok_a8:zJ Tryz.prog 20 o_a8:=qYJ fun t h=>by
 obtain ⟨x,k⟩:=t;exact yQK x k 8 h
def alta8 (ws:Wsp) (x:Int):Wsp:=⟨ws.js,ws.ms,(fun v=>(Shp.mk (bif (Nat.blt v ws.c) then (ws.sh v).link else (vJJ .i64 ((x % 5) - 2))) (bif (Nat.blt v ws.c) then (ws.sh v).rad else (x % 3)) (bif (Nat.blt v ws.c) then (ws.sh v).np else 1) (fun u=>(Z3.mk (bif (Nat.blt v ws.c) then ((ws.sh v).pts u).x else 0) (bif (Nat.blt v ws.c) then ((ws.sh v).pts u).y else 0) (bif (Nat.blt v ws.c) then ((ws.sh v).pts u).z else 0))))),ws.sk,ws.n,ws.m,(ws.c + 1),ws.d,ws.ob,ws.pl,ws.hd,ws.gr,ws.no,ws.np,ws.nh,ws.ng,ws.slack⟩
noncomputable def oralta8 (_:Wsp) (_ x:Int):OrS:=orS [(20,o_a8)] []
noncomputable def yXV (_:Wsp) (_ x:Int):List (List Nat × kY):=[]
set_option maxRecDepth 100000 in
theorem pxalta8 (ws:Wsp) (how x:Int):qYY Tf (oralta8 ws how x) (qZ (yXV ws how x)) 60 15 [.a (wP ws),.n .i64 how,.n .i64 x] =
 (bif (decide (ws.no≤1000000)) then (bif (decide (ws.np≤1000000)) then (bif (decide (ws.nh≤1000000)) then (bif (decide (ws.ng≤1000000)) then (bif (gF1 ca8 ea8 (how,9)) then (bif (decide (ws.c≤1000000)) then (bif (gF1 ca8 ea8 (x,5)) then (bif (gF1 ca8 ea8 (x,3)) then (bif (decide (ws.c + 1≤1000000)) then some (.v (.a [.lf ws.n (fJ ws.js),.lf ws.m (fM ws.ms),.lf (ws.c + 1) (fun v=>[.n .i64 (bif (Nat.blt v ws.c) then (ws.sh v).link else (vJJ .i64 ((x % 5) - 2))),.n .i64 (bif (Nat.blt v ws.c) then (ws.sh v).rad else (x % 3)),.lf (bif (Nat.blt v ws.c) then (ws.sh v).np else 1) (fun w'=>[.n .i64 (bif (Nat.blt v ws.c) then ((ws.sh v).pts w').x else 0),.n .i64 (bif (Nat.blt v ws.c) then ((ws.sh v).pts w').y else 0),.n .i64 (bif (Nat.blt v ws.c) then ((ws.sh v).pts w').z else 0)])]),.lf ws.d (fK ws.sk),.lf ws.no (fO ws.ob),.lf ws.np (fZ ws.pl),.lf ws.nh (fH ws.hd),.lf ws.ng (fG ws.gr),.n .i64 ws.slack]),[])
 else none)
 else none)
 else none)
 else none)
 else none)
 else none)
 else none)
 else none)
 else none):=by kernel_rfl
theorem snd_alta8 (ws:Wsp) (how x:Int) (hH:how % 9=8) (_:ws.no≤1000∧ws.np≤1000∧ws.nh≤1000∧ws.ng≤1000∧ws.c≤1000) (_:0 < ws.no∧0 < ws.np∧0 < ws.nh):yV Tryz.prog 15 [.a (wP ws),.n .i64 how,.n .i64 x] (.v (.a (wP (alta8 ws x)))):=by
 refine yQ (N:=60) (LO:=qZ (yXV ws how x)) kW zW (kG (l:=[(20,o_a8)]) (m:=[]) ⟨ok_a8,trivial⟩ trivial) (fun p S hp => ?_) ?_
 ·refine zH (L:=qQ Tf 15) (l:=(yXV ws how x)) (show AllP _ (yXV ws how x) from trivial) p S hp
 ·refine (pxalta8 ws how x).trans ?_;simp only [vJQ (show ws.no≤1000000 by omega),vJQ (show ws.np≤1000000 by omega),vJQ (show ws.nh≤1000000 by omega),vJQ (show ws.ng≤1000000 by omega),jX (C:=ca8) (t:=(how,9)) ⟨⟨by decide,by decide⟩,fun _=>hH⟩,vJQ (show ws.c≤1000000 by omega),jX (C:=ca8) (t:=(x,5)) ⟨⟨by decide,by decide⟩,fun h=>absurd h (by decide)⟩,jX (C:=ca8) (t:=(x,3)) ⟨⟨by decide,by decide⟩,fun h=>absurd h (by decide)⟩,vJQ (show ws.c + 1≤1000000 by omega),Bool.and_true,vYV];rfl
theorem okc {ws:Wsp} (k0:okW ws) (h0:(ws.ob 0).ns=1) (i:Nat) (hi:i < ws.no):(bif Nat.beq i 0 then (ws.ob 0).ns else (ws.ob i).ns)≤8796093021952:=by
 cases Nat.beq i 0
 ·exact k0 i hi
 ·rw [vYV,h0]; decide
theorem okd {ws:Wsp} (k0:okW ws) (i:Nat) (hi:i < ws.no):(bif Nat.beq i 0 then 1 else (ws.ob i).ns)≤8796093021952:=by
 cases Nat.beq i 0
 ·exact k0 i hi
 ·rw [vYV]; decide
theorem oke {ws:Wsp} (h:∀ i,i < ws.no→(ws.ob i).ns=1) (h0:0 < ws.no) (i:Nat):(bif Nat.blt i ws.no then (ws.ob i).ns else (ws.ob 0).ns)≤8796093021952:=by
 cases hb:Nat.blt i ws.no
 ·rw [vYG,h 0 h0]; decide
 ·rw [Nat.blt_eq] at hb;rw [vYV,h i hb]; decide
theorem alt_ex {ws:Wsp} (h:MadeW ws) (how x:Int):∃ u:Wsp,okW u∧yV Tryz.prog 15 [.a (wP ws),.n .i64 how,.n .i64 x] (.v (.a (wP u))):=by
 have hn:=h.np;have hh:=h.nh;have ho:=h.no;have hg:=h.ng;have hc:=h.c;have b1:ws.no≤1000∧ws.np≤1000∧ws.nh≤1000∧ws.ng≤1000∧ws.c≤1000:=by omega
 have b2:0 < ws.no∧0 < ws.np∧0 < ws.nh:=by omega
 have k0:=yXW h;have hob:∀ i,i < ws.no→(ws.ob i).ns=1:=fun i hi=>(h.ob i hi).2.1
 have e:how % 9=0 ∨ how % 9=1 ∨ how % 9=2 ∨ how % 9=3 ∨ how % 9=4 ∨ how % 9=5 ∨ how % 9=6 ∨ how % 9=7 ∨ how % 9=8:=by omega
 have f:x % 3=0 ∨ x % 3=1 ∨ x % 3=2:=by omega
 rcases e with e | e | e | e | e | e | e | e | e
 ·exact ⟨alta0 ws x,k0,snd_alta0 ws how x e b1 b2⟩
 ·rcases f with f | f | f
  ·exact ⟨alta1a ws x,k0,snd_alta1a ws how x e f b1 b2⟩
  ·exact ⟨alta1b ws x,k0,snd_alta1b ws how x e f b1 b2⟩
  ·exact ⟨alta1c ws x,k0,snd_alta1c ws how x e f b1 b2⟩
 ·exact ⟨alta2 ws x,k0,snd_alta2 ws how x e b1 b2⟩
 ·rcases f with f | f | f
  ·exact ⟨alta3a ws x,k0,snd_alta3a ws how x e f b1 b2⟩
  ·exact ⟨alta3b ws x,k0,snd_alta3b ws how x e f b1 b2⟩
  ·exact ⟨alta3c ws x,k0,snd_alta3c ws how x e f b1 b2⟩
 ·exact ⟨alta4 ws x,fun i hi=>okc k0 (hob 0 b2.1) i hi,snd_alta4 ws how x e b1 b2⟩
 ·exact ⟨alta5 ws x,fun i hi=>okd k0 i hi,snd_alta5 ws how x e b1 b2⟩
 ·exact ⟨alta6 ws x,k0,snd_alta6 ws how x e b1 b2⟩
 ·exact ⟨alta7 ws x,fun i hi=>oke hob b2.1 i,snd_alta7 ws how x e b1 b2⟩
 ·exact ⟨alta8 ws x,k0,snd_alta8 ws how x e b1 b2⟩
end Go.Proofs.YtgmbkkkbfbocnaaGreat.Ho
namespace Go.Proofs.YtgmbkkkbfbocnaaGreat.Hq
open Go.Rx Rt Go.Sx Go.RowKit Od Na Nb Nc Nx Nf Nl Nm Ga Gb Gc Gd Ge Gf Gg Sn Ha Hb Hc Hd He Hf Hg Hh Hi Hj Hk Hm Hn Ho
noncomputable def orlck (_ w2 w3:Wsp) (wl:Nat) (e:Nat→Int) (how x:Int):OrS:=orS [(13,o_cr [] (.v (.b true))),(14,o_cr [.lf wl (fQ e)] (.v (.a (wP w2)))),(15,o_cr [.a (wP w2),.n .i64 how,.n .i64 x] (.v (.a (wP w3)))),(16,o_gk),(17,o_rw)] []
noncomputable def kQH (_ _ _:Wsp) (_:Nat) (e:Nat→Int) (_ x:Int):List (List Nat × kY):=[]
set_option maxRecDepth 100000 in
theorem pxlck (ws w2 w3:Wsp) (wl:Nat) (e:Nat→Int) (how x:Int):qYY Tf (orlck ws w2 w3 wl e how x) (qZ (kQH ws w2 w3 wl e how x)) 60 4 [.a (wP ws),.lf wl (fQ e),.n .i64 how,.n .i64 x] =
 (bif (decide ((ws.n:Int)≤4)) then (bif (decide ((ws.m:Int)≤6)) then (bif (decide ((ws.c:Int)≤6)) then (bif (decide ((ws.d:Int)≤8)) then (bif (decide ((ws.no:Int)≤8)) then (bif (decide ((ws.np:Int)≤12)) then (bif (decide ((ws.nh:Int)≤6)) then (bif (decide ((ws.ng:Int)≤40)) then (bif (g1 [.lf wl (fQ e)]) then (bif (g1 [.a (wP w2),.n .i64 how,.n .i64 x]) then (bif (g1 []) then (bif (gF1 cgk egk ws) then (bif (gF1 crw erw ws) then (bif (decide ((wErr ws)=(wErr ws))) then (bif (gF1 cgk egk w2) then (bif (decide ((wErr w2)=0)) then (bif (gF1 cgk egk w3) then (bif (gF1 crw erw w3) then (bif (decide ((wErr w3)=(wErr w3))) then some (.v (.b true),[])
 else some (.v (.b false),[]))
 else none)
 else none)
 else some (.v (.b false),[]))
 else none)
 else some (.v (.b false),[]))
 else none)
 else none)
 else none)
 else none)
 else none)
 else (bif (g1 []) then some (.v (.b true),[])
 else none))
 else (bif (g1 []) then some (.v (.b true),[])
 else none))
 else (bif (g1 []) then some (.v (.b true),[])
 else none))
 else (bif (g1 []) then some (.v (.b true),[])
 else none))
 else (bif (g1 []) then some (.v (.b true),[])
 else none))
 else (bif (g1 []) then some (.v (.b true),[])
 else none))
 else (bif (g1 []) then some (.v (.b true),[])
 else none))
 else (bif (g1 []) then some (.v (.b true),[])
 else none)):=by kernel_rfl
theorem snd_lck (ws w2 w3:Wsp) (wl:Nat) (e:Nat→Int) (how x:Int) (hA:yV Tryz.prog 13 [] (.v (.b true))) (hW:yV Tryz.prog 14 [.lf wl (fQ e)] (.v (.a (wP w2)))) (hU:yV Tryz.prog 15 [.a (wP w2),.n .i64 how,.n .i64 x] (.v (.a (wP w3)))) (o1:okW ws) (o2:okW w2) (o3:okW w3) (e2:wErr w2=0):yV Tryz.prog 4 [.a (wP ws),.lf wl (fQ e),.n .i64 how,.n .i64 x] (.v (.b true)):=by
 refine yQ (N:=60) (LO:=qZ (kQH ws w2 w3 wl e how x)) kW zW (kG (l:=[(13,o_cr [] (.v (.b true))),(14,o_cr [.lf wl (fQ e)] (.v (.a (wP w2)))),(15,o_cr [.a (wP w2),.n .i64 how,.n .i64 x] (.v (.a (wP w3)))),(16,o_gk),(17,o_rw)]) (m:=[]) ⟨yHY hA,yHY hW,yHY hU,ok_gk,ok_rw,trivial⟩ trivial) (fun p S hp => ?_) ?_
 ·refine zH (L:=qQ Tf 4) (l:=(kQH ws w2 w3 wl e how x)) (show AllP _ (kQH ws w2 w3 wl e how x) from trivial) p S hp
 ·refine (pxlck ws w2 w3 wl e how x).trans ?_;simp only [g1_t,jX (C:=cgk) (t:=ws) o1,jX (C:=crw) (t:=ws) o1,jX (C:=cgk) (t:=w2) o2,jX (C:=cgk) (t:=w3) o3,jX (C:=crw) (t:=w3) o3,e2,decide_true,vYV,Bool.cond_self]
theorem snd_law (hA:yV Tryz.prog 13 [] (.v (.b true))) (ws:Wsp) (o1:okW ws) (l:List Int) (hl:l.length≤9223372036854775807) (how x:Int):yV Tryz.prog 4 [.a (wP ws),jVH l,.n .i64 how,.n .i64 x] (.v (.b true)):=by
 obtain ⟨w2,hm,hW⟩:=wsp_ex l.length (iqOf l) hl;obtain ⟨w3,o3,hU⟩:=alt_ex hm how x;refine snd_args (fun F w vals h=>Sames.al (xs:=[.a (wP ws),jVH l,.n .i64 how,.n .i64 x]) (ys:=[.a (wP ws),.lf l.length (fQ (iqOf l)),.n .i64 how,.n .i64 x]) ⟨fun _ _ _ h=>h,ints_same l,fun _ _ _ h=>h,fun _ _ _ h=>h,trivial⟩ h) ?_;exact snd_lck ws w2 w3 _ _ how x hA hW hU o1 (yXW hm) o3 (made_ok hm)
end Go.Proofs.YtgmbkkkbfbocnaaGreat.Hq
namespace Go.Proofs.YtgmbkkkbfbocnaaGreat.Gi
open Go.Rx Rt Go.Sx Go.RowKit Go.ChangeShapes Go.WideShapes Od Na Nb Nc Nx Ga
def shJ:List Sh:=[.s,.i .i64,.i .i64,.i .i64,.i .i64,.i .i64,.i .i64,.i .i64,.i .i64,.i .i64,.i .i64,.i .i64]
def shM:List Sh:=[.i .i64,.i .i64,.i .i64,.i .i64,.i .i64]
def shZ:List Sh:=[.i .i64,.i .i64,.i .i64]
def kP (s:Skp):List PV:=[.n .i64 s.a,.n .i64 s.b]
def shK:List Sh:=[.i .i64,.i .i64]
def shS:List Sh:=[.i .i64,.i .i64,.l shZ]
theorem sames_len:∀ {xs ys:List PV},Sames xs ys→xs.length=ys.length
 | [],[],_=>rfl
 | _ :: _,_ :: _,h=>congrArg (· + 1) (sames_len h.2)
 | [],_ :: _,h=>h.elim
 | _ :: _,[],h=>h.elim
theorem sames_at:∀ {xs ys:List PV},Sames xs ys→∀ {t:Nat} {y:PV},ys[t]? = some y→∃ x,xs[t]? = some x∧Same x y
 | [],[],_,t,y,h=>by simp at h
 | x :: xs,y :: ys,hs,0,z,h=>by
  simp only [List.getElem?_cons_zero,vQZ] at h;subst h;exact ⟨x,rfl,hs.1⟩
 | x :: xs,y :: ys,hs,t + 1,z,h=>by
  simp only [List.getElem?_cons_succ] at h ⊢;exact sames_at hs.2 h
 | [],_ :: _,h,_,_,_=>h.elim
 | _ :: _,[],h,_,_,_=>h.elim
theorem zHW {n:Nat} {f g:Nat→List PV} (h:∀ j,j < n→Sames (f j) (g j)):Same (.lf n f) (.lf n g):=fun F w v hv=>by
 have h1:=zUV rfl hv;generalize hr:(List.range n).map f=rows at h1;have hl:rows.length=n:=by rw [← hr,List.length_map,List.length_range]
 refine .lf n g v ?_;cases h1 with
 | l0 ad c =>
  have:n=0:=hl.symm
  subst this;exact .l0 _ _
 | l _ b off n' c sz q hn hcap hs hF hc hh =>
  refine .l _ b off n' c sz q (by rw [List.length_map,List.length_range,← hl]; exact hn) hcap (fun r hr' => ?_) hF hc (fun j r t p hj ht => ?_)
  ·obtain ⟨j,hj,rfl⟩:=List.mem_map.1 hr';have hj':=List.mem_range.1 hj;rw [← sames_len (h j hj')];exact hs _ (by rw [← hr]; exact List.mem_map.2 ⟨j,hj,rfl⟩)
  ·have hj':j < n:=by have:=(List.getElem?_eq_some_iff.1 hj).1; simpa using this
   rw [vZY,List.getElem?_range hj'] at hj;cases hj;obtain ⟨x,hx,hxy⟩:=sames_at (h j hj') ht;exact hxy _ _ _ (hh j (f j) t x (by rw [← hr,vZY,List.getElem?_range hj']; rfl) hx)
theorem yYU {α:Type} (a0:α) {n:Nat} {f:Nat→List PV} {R:List PV→α→Prop} (h:∀ j,j < n→∃ a,R (f j) a):∃ g:Nat→α,∀ j,j < n→R (f j) (g j):=by
 have each:∀ j,∃ a:α,j < n→R (f j) a:=fun j=>by
  by_cases hj:j < n
  ·obtain ⟨a,ha⟩:=h j hj; exact ⟨a,fun _=>ha⟩
  ·exact ⟨a0,fun h=>absurd h hj⟩
 obtain ⟨g,hg⟩:=Classical.axiomOfChoice each;exact ⟨g,hg⟩
section
variable {W:World} {H:Type} {enc:TypeId × Value→H} {r:Reach} {base:Nat} {v:Value} {d:DataW H} {p:List MemPlace}
abbrev RW (W:World):PV→Value→Prop:=RP (fun k=>k < W.heap.size) W
end
end Go.Proofs.YtgmbkkkbfbocnaaGreat.Gi
namespace Go.Rx
open Go.RowKit Go.Sx Go.ChangeShapes Go.WideShapes
inductive FitB:Sh→PV→Prop
 | i (k:IntKind) (x:Int) (h:(Lit.int k x).wf=true):FitB (.i k) (.n k x)
 | b (x:Bool):FitB .b (.b x)
 | s (x:ByteArray) (h:x.size≤maxLen):FitB .s (.s x)
 | l (row:List Sh) (n:Nat) (f:Nat→List PV) (hn:n≤maxLen) (hB:n * (8 * row.length)≤reachBytes) (hl:∀ j,j < n→(f j).length=row.length) (h:∀ j,j < n→∀ (i:Nat) sh p,row[i]? = some sh→(f j)[i]? = some p→FitB sh p):FitB (.l row) (.lf n f)
def shTB (P:Program):Nat→TypeId→Option (List Sh)
 | 0,_=>none
 | g + 1,t=>match P.underlying t with
  | some (.int k)=>some [.i k]
  | some .bool=>some [.b]
  | some .string=>some [.s]
  | some (.slice e)=>(shTB P g e).bind fun r=>bif Nat.beq (P.cellsOf e) r.length && Nat.blt 0 r.length && Nat.ble (8 * r.length) (P.bytesOf e) then some [.l r] else none
  | some (.array n e)=>(shTB P g e).bind fun r=>bif Nat.beq (P.cellsOf e) r.length && Nat.beq (P.cellsOf t) (sumL (List.replicate n r)) then some (List.replicate n r).flatten else none
  | some (.struct fs)=>(mapO (fun f:Field=>(shTB P g f.type).bind fun r=>bif Nat.beq (P.cellsOf f.type) r.length then some (f.offset,r) else none) fs.toList).bind fun l =>
    bif jUJ l 0 && Nat.beq (P.cellsOf t) (sumL (l.map (·.2))) then some (l.map (·.2)).flatten else none
  | _=>none
theorem jYW {H:Type} {P:Program} {e:TypeId} {y:Nat}:∀ {l:List (DataW H)} {d:DataW H},d ∈ l→y ∈ d.weights P e→y ∈ DataW.weightsAll P e l
 | d0 :: l,d,hd,hy=>by
  unfold DataW.weightsAll;rcases List.mem_cons.1 hd with rfl | h
  ·exact List.mem_append_left _ hy
  ·exact List.mem_append_right _ (jYW h hy)
theorem mem_each {H:Type} {P:Program} {y:Nat}:∀ {ts:List TypeId} {l:List (DataW H)} {i:Nat} {t:TypeId} {d:DataW H},ts[i]? = some t→l[i]? = some d→y ∈ d.weights P t→y ∈ DataW.weightsEach P ts l
 | [],_,i,_,_,h,_,_=>by simp at h
 | _ :: _,[],i,_,_,_,h,_=>by simp at h
 | t0 :: ts,d0 :: l,0,t,d,h1,h2,hy=>by
  simp only [List.getElem?_cons_zero,vQZ] at h1 h2;subst h1; subst h2;unfold DataW.weightsEach;exact List.mem_append_left _ hy
 | t0 :: ts,d0 :: l,i + 1,t,d,h1,h2,hy=>by
  simp only [List.getElem?_cons_succ] at h1 h2;unfold DataW.weightsEach;exact List.mem_append_right _ (mem_each h1 h2 hy)
section
variable {P:Program} {w:World} {H:Type} {enc:TypeId × Value→H}
def GoodB (w:World) (shs:List Sh) (cs:List Value):Prop:=∃ ps:List PV,ps.length=shs.length∧(∀ (i:Nat) sh p,shs[i]? = some sh→ps[i]? = some p→FitB sh p)∧Al (RP (fun k=>k < w.heap.size) w) ps cs∧∀ v ∈ cs,v.oneCell'=true
theorem GoodB.one {sh:Sh} {p:PV} {v:Value} (h1:FitB sh p) (h2:RP (fun k=>k < w.heap.size) w p v) (h3:v.oneCell'=true):GoodB w [sh] [v] :=
 ⟨[p],rfl,(fun i s0 q hs hq=>by
  match i with
  | 0=>cases hs; cases hq; exact h1
  | i + 1=>cases hs),qUK h2 zYQ,(fun u hu=>by obtain rfl:=List.mem_singleton.1 hu; exact h3)⟩
theorem GoodB.cat {r s:List Sh} {cs ds:List Value} (h1:GoodB w r cs) (h2:GoodB w s ds):GoodB w (r ++ s) (cs ++ ds):=by
 obtain ⟨p,a1,a2,a3,a4⟩:=h1;obtain ⟨q,b1,b2,b3,b4⟩:=h2;refine ⟨p ++ q,by simp [a1,b1],fun i sh x hs hx => ?_,a3.append b3,fun v hv => ?_⟩
 ·rcases Nat.lt_or_ge i r.length with hi | hi
  ·rw [List.getElem?_append_left hi] at hs;rw [List.getElem?_append_left (by omega)] at hx;exact a2 i sh x hs hx
  ·rw [List.getElem?_append_right hi] at hs;rw [List.getElem?_append_right (by omega),a1] at hx;exact b2 _ sh x hs hx
 ·rcases List.mem_append.1 hv with h | h
  ·exact a4 v h
  ·exact b4 v h
def PiecesB (w:World):List (List Sh)→List Value→Prop
 | [],cs=>cs=[]
 | r :: l,cs=>GoodB w r (cs.take r.length)∧PiecesB w l (cs.drop r.length)
theorem PiecesB.good:∀ {l:List (List Sh)} {cs:List Value},PiecesB w l cs→GoodB w l.flatten cs
 | [],cs,h=>by
  have:cs=[]:=h
  subst this;exact ⟨[],rfl,fun i sh p hs=>by simp at hs,zYQ,fun v hv=>by cases hv⟩
 | r :: l,cs,h=>by
  have:=GoodB.cat h.1 h.2.good
  rw [List.take_append_drop] at this;exact this
theorem pieces_arrB {r:List Sh}:∀ (n:Nat) (cs:List Value),cs.length=sumL (List.replicate n r)→(∀ i,i < n→GoodB w r ((cs.drop (i * r.length)).take r.length))→PiecesB w (List.replicate n r) cs
 | 0,cs,hl,_=>by
  have:cs.length=0:=hl
  exact List.length_eq_zero_iff.1 this
 | n + 1,cs,hl,h=>by
  have hl':cs.length=r.length + sumL (List.replicate n r):=hl;refine ⟨by have:=h 0 (by omega); simpa using this,pieces_arrB n _ (by rw [List.length_drop]; omega) fun i hi => ?_⟩
  have:=h (i + 1) (by omega)
  rw [List.drop_drop];rw [show r.length + i * r.length=(i + 1) * r.length by rw [Nat.add_mul]; omega];exact this
theorem pieces_strB:∀ (l:List (Nat × List Sh)) (a:Nat) (cs:List Value),jUJ l a=true→(cs.drop a).length=sumL (l.map (·.2))→(∀ x ∈ l,GoodB w x.2 ((cs.drop x.1).take x.2.length))→PiecesB w (l.map (·.2)) (cs.drop a)
 | [],a,cs,_,hl,_=>List.length_eq_zero_iff.1 hl
 | x :: l,a,cs,hc,hl,h=>by
  simp only [jUJ,vQJ] at hc;have e:=vQX hc.1;have hl':(cs.drop a).length=x.2.length + sumL (l.map (·.2)):=hl;rw [List.length_drop] at hl';have h0:=h x vZQ;rw [e] at h0;refine ⟨h0,?_⟩;show PiecesB w (l.map (·.2)) ((cs.drop a).drop x.2.length);rw [List.drop_drop];exact pieces_strB l (a + x.2.length) cs hc.2 (by rw [List.length_drop]; omega) fun y hy=>h y (vQH _ hy)
theorem zGZ {sp:Nat→Bool} {held:Bool}:∀ (fuel:Nat) (t:TypeId) (cs:List Value) (x:DataW H × List MemPlace) (g:Nat) (shs:List Sh),DataW.trod enc P w 0 sp held fuel t cs=some x→shTB P g t=some shs→(∀ y ∈ DataW.weights P t x.1,y≤reachBytes)→GoodB w shs cs
 | 0,t,cs,x,g,shs,h,_,_=>by simp [DataW.trod] at h
 | fuel + 1,t,cs,x,0,shs,h,hs,_=>by cases hs
 | fuel + 1,t,cs,x,g + 1,shs,h,hs,hw=>by
  unfold shTB at hs;split at hs
  ·rename_i k hu;cases hs;obtain ⟨n,rfl,_,hwf⟩:=DataW.trod_int hu h;exact GoodB.one (.i _ _ hwf) (.n _ _) rfl
  ·rename_i hu;cases hs;obtain ⟨b,rfl,_⟩:=DataW.trod_bool hu h;exact GoodB.one (.b _) (.b _) rfl
  ·rename_i hu;cases hs;obtain ⟨s,rfl,_,hs⟩:=DataW.trod_string hu h;exact GoodB.one (.s _ hs) (.s _) rfl
  ·rename_i e hu;simp only [vQQ] at hs;obtain ⟨r,hr,hs⟩:=hs;obtain ⟨hb,hs⟩:=qY hs;cases hs;simp only [vQJ,Nat.blt_eq] at hb;have hk:=vQX hb.1.1;have hr0:=hb.1.2;have h8:=vZX hb.2;rcases DataW.trod_slice hu h with ⟨rfl,_⟩ | ⟨a,len,cap,elems,rest,n,hf,rfl,rfl,_,hl,hm,hel,hcell,_,_⟩
   ·exact GoodB.one (.l r 0 (fun _=>[]) (Nat.zero_le _) (by rw [Nat.zero_mul]; exact Nat.zero_le _) (fun j hj=>by omega) (fun j hj=>by omega)) (.lf 0 _ _ (.l0 _ _)) rfl
   ·obtain rfl:n=fuel:=by omega
    have hwe:DataW.weights P t (.slice (elems.map (·.1)) (rest.map (·.1)))=((elems.map (·.1)).length + (rest.map (·.1)).length) * P.bytesOf e :: (DataW.weightsAll P e (elems.map (·.1)) ++ DataW.weightsAll P e (rest.map (·.1))):=by
     unfold DataW.weights;rw [hu]
    replace hw:∀ y ∈ DataW.weights P t (.slice (elems.map (·.1)) (rest.map (·.1))),y≤reachBytes:=hw
    rw [hwe] at hw;have hB:len * (8 * r.length)≤reachBytes:=by
     have h0:=hw _ vZQ;rw [List.length_map,List.length_map,hel] at h0;exact Nat.le_trans (Nat.mul_le_mul (Nat.le_add_right _ _) h8) h0
    have each:∀ i,∃ y:List PV × List Value,i < len→w.cells? 0 (a.add (i * r.length)) r.length=some y.2∧y.1.length=r.length∧(∀ (j:Nat) sh p,r[j]? = some sh→y.1[j]? = some p→FitB sh p)∧Al (RP (fun k=>k < w.heap.size) w) y.1 y.2∧∀ v ∈ y.2,v.oneCell'=true:=fun i=>by
     by_cases hi:i < len
     ·have hc:=hcell i hi;have he:elems[i]? = some (elems[i]'(by omega)):=vQK (by omega);rw [he,vQQ] at hc;obtain ⟨cs',h1,h2⟩:=hc;rw [hk] at h1;obtain ⟨ps,b1,b2,b3,b4⟩:=zGZ n e cs' _ g r h2 hr (fun y hy=>hw y (vQH _ (List.mem_append_left _ (jYW (List.mem_map.2 ⟨_,List.getElem_mem (show i < elems.length by omega),rfl⟩) hy))));exact ⟨(ps,cs'),fun _=>⟨h1,b1,b2,b3,b4⟩⟩
     ·exact ⟨([],[]),fun h=>absurd h hi⟩
    obtain ⟨f,hf2⟩:=Classical.axiomOfChoice each;refine GoodB.one (.l r len (fun j=>(f j).1) (by omega) hB (fun j hj=>(hf2 j hj).2.1) (fun j hj=>(hf2 j hj).2.2.1)) (.lf len _ _ ?_) rfl;rcases Nat.eq_zero_or_pos len with h0 | hpos
    ·subst h0;exact .l0 _ _
    ·have hsome:∀ j t,j < len→t < r.length→w.cell? ((a.add (j * r.length)).add t)=(f j).2[t]?:=fun j t hj ht=>(World.cells?_some (hf2 j hj).1).2.2 t ht
     have hlen2:∀ j,j < len→(f j).2.length=r.length:=fun j hj=>(World.cells?_some (hf2 j hj).1).2.1
     have h00:=hsome 0 0 hpos hr0;have hg:(f 0).2[0]? = some ((f 0).2[0]'(by rw [hlen2 0 hpos]; exact hr0)):=vQK _;rw [hg] at h00;have hsp:a.spot=none:=by
      have e:(a.add (0 * r.length)).add 0=a:=by simp [Addr.add]
      rw [e] at h00;unfold World.cell? at h00;cases hb:w.heap[a.block]? with
      | none=>simp [hb] at h00
      | some o=>cases o <;> simp [hb] at h00; exact h00.1
     obtain ⟨bb,off,sp'⟩:=a;simp only at hsp;subst hsp;have hbb:bb < w.heap.size:=by
      rw [qJX,qJX] at h00;unfold World.cell? at h00;cases hb:w.heap[bb]? with
      | none=>simp [hb] at h00
      | some o=>exact qZX hb
     refine .l _ bb off len cap r.length (fun j t=>((f j).2[t]?).getD (.bool false)) (by simp) hl (fun q hq => ?_) hbb (fun j t hj ht => ?_) (fun j q t p hq hp => ?_)
     ·obtain ⟨j,hj,rfl⟩:=List.mem_map.1 hq;exact (hf2 j (List.mem_range.1 hj)).2.1
     ·have h1:=hsome j t hj ht;have hg2:(f j).2[t]? = some ((f j).2[t]'(by rw [hlen2 j hj]; exact ht)):=vQK _;rw [qJX,qJX,hg2,Nat.add_assoc] at h1;rw [hg2];exact ⟨h1,(hf2 j hj).2.2.2.2 _ (List.getElem_mem _)⟩
     ·have hj:j < len:=by have:=(List.getElem?_eq_some_iff.1 hq).1; simpa using this
      rw [vZY,List.getElem?_range hj] at hq;cases hq;have htl:=(List.getElem?_eq_some_iff.1 hp).1;have hg2:(f j).2[t]? = some ((f j).2[t]'(by rw [hlen2 j hj,← (hf2 j hj).2.1]; exact htl)):=vQK _
      have:=(hf2 j hj).2.2.2.1.2 t p _ hp hg2
      rw [hg2];exact this
  ·rename_i n e hu;simp only [vQQ] at hs;obtain ⟨r,hr,hs⟩:=hs;obtain ⟨hb,hs⟩:=qY hs;cases hs;simp only [vQJ] at hb;have hk:=vQX hb.1;have hk2:=vQX hb.2;obtain ⟨xs,m,hf,rfl,hl,hxl,hall⟩:=DataW.trod_array hu h;have hwe:DataW.weights P t (.agg (xs.map (·.1)))=DataW.weightsAll P e (xs.map (·.1)):=by
    unfold DataW.weights;rw [hu]
   replace hw:∀ y ∈ DataW.weights P t (.agg (xs.map (·.1))),y≤reachBytes:=hw
   rw [hwe] at hw;obtain rfl:m=fuel:=by omega
   refine (pieces_arrB n cs (hl.trans hk2) fun i hi => ?_).good;have h1:=hall i hi;have he:xs[i]? = some (xs[i]'(by omega)):=vQK (by omega);rw [he,hk] at h1;exact zGZ m e _ _ g r h1 hr (fun y hy=>hw y (jYW (List.mem_map.2 ⟨_,List.getElem_mem (show i < xs.length by omega),rfl⟩) hy))
  ·rename_i fs hu;simp only [vQQ] at hs;obtain ⟨l,hlm,hs⟩:=hs;obtain ⟨hb,hs⟩:=qY hs;cases hs;simp only [vQJ] at hb;have hk2:=vQX hb.2;obtain ⟨xs,m,hf,rfl,hl,hxl,hall⟩:=DataW.trod_struct hu h;have hwe:DataW.weights P t (.agg (xs.map (·.1)))=DataW.weightsEach P (fs.toList.map (·.type)) (xs.map (·.1)):=by
    unfold DataW.weights;rw [hu]
   replace hw:∀ y ∈ DataW.weights P t (.agg (xs.map (·.1))),y≤reachBytes:=hw
   rw [hwe] at hw;obtain rfl:m=fuel:=by omega
   have hm:=jZ hlm
   have:=pieces_strB (w:=w) l 0 cs hb.1 (by rw [vYW]; exact hl.trans hk2) fun y hy=>by
    obtain ⟨i,hi⟩:=List.mem_iff_getElem?.1 hy;have hil:=(List.getElem?_eq_some_iff.1 hi).1;have hl2:i < fs.toList.length:=by rw [hm.1]; exact hil
    have hfi:fs.toList[i]? = some (fs.toList[i]'hl2):=vQK hl2;have h1:=hm.2 i _ y hfi hi;have hfi0:=hfi;generalize fs.toList[i]'hl2=fd at hfi hfi0 h1;simp only [vQQ] at h1;obtain ⟨r,hr,h1⟩:=h1;obtain ⟨hb1,h1⟩:=qY h1;cases h1;have hk:=vQX hb1;have h2:=hall i fd (by simpa using hfi);have he:xs[i]? = some (xs[i]'(by simp at hxl hl2; omega)):=vQK _;rw [he,hk] at h2;exact zGZ m fd.type _ _ g r h2 hr (fun y hy=>hw y (mem_each (i:=i) (by rw [vZY,hfi0]; rfl) (by rw [vZY,he]; rfl) hy))
   rw [vYW] at this;exact this.good
  ·cases hs
end
section
variable {P:Program} {W:World} {H:Type} {enc:TypeId × Value→H}
def FitsB (row:List Sh) (ps:List PV):Prop:=ps.length=row.length∧∀ (i:Nat) sh p,row[i]? = some sh→ps[i]? = some p→FitB sh p
theorem FitsB.cons {s0:Sh} {row:List Sh} {ps:List PV} (h:FitsB (s0 :: row) ps):∃ p qs,ps=p :: qs∧FitB s0 p∧FitsB row qs:=by
 cases ps with
 | nil=>have:=h.1; simp at this
 | cons p qs=>exact ⟨p,qs,rfl,h.2 0 s0 p rfl rfl,by have:=h.1; simpa using this,fun i sh q h1 h2=>h.2 (i + 1) sh q h1 h2⟩
theorem FitsB.nil {ps:List PV} (h:FitsB [] ps):ps=[]:=List.eq_nil_of_length_eq_zero h.1
theorem FitB.int {k:IntKind} {p:PV} (h:FitB (.i k) p):∃ x,p=.n k x∧(Lit.int k x).wf=true:=by cases h with | i k x h=>exact ⟨x,rfl,h⟩
theorem FitB.str {p:PV} (h:FitB .s p):∃ x,p=.s x:=by cases h with | s x h=>exact ⟨x,rfl⟩
theorem FitB.slc {row:List Sh} {p:PV} (h:FitB (.l row) p):∃ n f,p=.lf n f∧n * (8 * row.length)≤reachBytes∧∀ j,j < n→FitsB row (f j):=by
 cases h with
 | l row n f hn hB hl h=>exact ⟨n,f,rfl,hB,fun j hj=>⟨hl j hj,h j hj⟩⟩
theorem open_strB {t:TypeId} {fs:Array Field} {v:Value} {d:DataW H} {p:List MemPlace} {g:Nat} {row:List Sh} (ht:P.underlying t=some (.struct fs)) {r:Reach} {base:Nat} (hv:Value.okWide P W r base t v)
  (h:DataW.Trod enc P W 0 (fun _=>true) true t v d p) (hs:shTB P g t=some row) (hw:∀ y ∈ DataW.weights P t d,y≤reachBytes):∃ ps,RP (fun k=>k < W.heap.size) W (.a ps) v∧FitsB row ps:=by
 have hcs:∃ cs,v=.agg cs:=by
  unfold Value.okWide at hv;cases v <;> simp [ht] at hv
  exact ⟨_,rfl⟩
 obtain ⟨cs,rfl⟩:=hcs;obtain ⟨fuel,h⟩:=h;obtain ⟨ps,h1,h2,h3,h4⟩:=zGZ fuel t _ _ g row h hs hw;exact ⟨ps,.a ps cs.toList h3.1 h4 h3.2,h1,h2⟩
end
end Go.Rx
namespace Go.Proofs.YtgmbkkkbfbocnaaGreat.Hp
open Go.Rx Rt Go.Sx Go.RowKit Go.ChangeShapes Go.WideShapes Od Na Nb Nc Nx Ga Gi Ha Hc
theorem rowJB {ps:List PV} (h:FitsB shJ ps):∃ a:J,ps=jp a:=by
 unfold shJ at h;obtain ⟨p0,q0,rfl,f0,h⟩:=h.cons;obtain ⟨p1,q1,rfl,f1,h⟩:=h.cons;obtain ⟨p2,q2,rfl,f2,h⟩:=h.cons;obtain ⟨p3,q3,rfl,f3,h⟩:=h.cons;obtain ⟨p4,q4,rfl,f4,h⟩:=h.cons;obtain ⟨p5,q5,rfl,f5,h⟩:=h.cons;obtain ⟨p6,q6,rfl,f6,h⟩:=h.cons;obtain ⟨p7,q7,rfl,f7,h⟩:=h.cons;obtain ⟨p8,q8,rfl,f8,h⟩:=h.cons;obtain ⟨p9,q9,rfl,f9,h⟩:=h.cons;obtain ⟨p10,q10,rfl,f10,h⟩:=h.cons;obtain ⟨p11,q11,rfl,f11,h⟩:=h.cons;obtain rfl:=h.nil;obtain ⟨x0,rfl⟩:=f0.str;obtain ⟨x1,rfl,_⟩:=f1.int;obtain ⟨x2,rfl,_⟩:=f2.int;obtain ⟨x3,rfl,_⟩:=f3.int;obtain ⟨x4,rfl,_⟩:=f4.int;obtain ⟨x5,rfl,_⟩:=f5.int;obtain ⟨x6,rfl,_⟩:=f6.int;obtain ⟨x7,rfl,_⟩:=f7.int;obtain ⟨x8,rfl,_⟩:=f8.int;obtain ⟨x9,rfl,_⟩:=f9.int;obtain ⟨x10,rfl,_⟩:=f10.int;obtain ⟨x11,rfl,_⟩:=f11.int;exact ⟨⟨x0,x1,x2,⟨x3,x4,x5⟩,x6,x7,x8,x9,x10,x11⟩,rfl⟩
theorem rowMB {ps:List PV} (h:FitsB shM ps):∃ a:Ms,ps=mp a:=by
 unfold shM at h;obtain ⟨p0,q0,rfl,f0,h⟩:=h.cons;obtain ⟨p1,q1,rfl,f1,h⟩:=h.cons;obtain ⟨p2,q2,rfl,f2,h⟩:=h.cons;obtain ⟨p3,q3,rfl,f3,h⟩:=h.cons;obtain ⟨p4,q4,rfl,f4,h⟩:=h.cons;obtain rfl:=h.nil;obtain ⟨x0,rfl,_⟩:=f0.int;obtain ⟨x1,rfl,_⟩:=f1.int;obtain ⟨x2,rfl,_⟩:=f2.int;obtain ⟨x3,rfl,_⟩:=f3.int;obtain ⟨x4,rfl,_⟩:=f4.int;exact ⟨⟨x0,x1,⟨x2,x3,x4⟩⟩,rfl⟩
theorem rowZB {ps:List PV} (h:FitsB shZ ps):∃ a:Z3,ps=zP a:=by
 unfold shZ at h;obtain ⟨p0,q0,rfl,f0,h⟩:=h.cons;obtain ⟨p1,q1,rfl,f1,h⟩:=h.cons;obtain ⟨p2,q2,rfl,f2,h⟩:=h.cons;obtain rfl:=h.nil;obtain ⟨x0,rfl,_⟩:=f0.int;obtain ⟨x1,rfl,_⟩:=f1.int;obtain ⟨x2,rfl,_⟩:=f2.int;exact ⟨⟨x0,x1,x2⟩,rfl⟩
theorem rowKB {ps:List PV} (h:FitsB shK ps):∃ a:Skp,ps=kP a:=by
 unfold shK at h;obtain ⟨p0,q0,rfl,f0,h⟩:=h.cons;obtain ⟨p1,q1,rfl,f1,h⟩:=h.cons;obtain rfl:=h.nil;obtain ⟨x0,rfl,_⟩:=f0.int;obtain ⟨x1,rfl,_⟩:=f1.int;exact ⟨⟨x0,x1⟩,rfl⟩
def shH:List Sh:=[.i .i64,.i .i64,.i .i64,.i .i64]
def shO:List Sh:=[.s,.l shS]
def shI:List Sh:=[.i .i64]
def shG:List Sh:=[.i .i64,.i .i64,.l shI]
theorem rowHB {ps:List PV} (h:FitsB shH ps):∃ a:Hnd,ps=hP a:=by
 unfold shH at h;obtain ⟨p0,q0,rfl,f0,h⟩:=h.cons;obtain ⟨p1,q1,rfl,f1,h⟩:=h.cons;obtain ⟨p2,q2,rfl,f2,h⟩:=h.cons;obtain ⟨p3,q3,rfl,f3,h⟩:=h.cons;obtain rfl:=h.nil;obtain ⟨x0,rfl,_⟩:=f0.int;obtain ⟨x1,rfl,_⟩:=f1.int;obtain ⟨x2,rfl,_⟩:=f2.int;obtain ⟨x3,rfl,_⟩:=f3.int;exact ⟨⟨x0,⟨x1,x2,x3⟩⟩,rfl⟩
theorem rowIB {ps:List PV} (h:FitsB shI ps):∃ a:Int,ps=(fun x=>[PV.n .i64 x]) a:=by
 unfold shI at h;obtain ⟨p0,q0,rfl,f0,h⟩:=h.cons;obtain rfl:=h.nil;obtain ⟨x0,rfl,_⟩:=f0.int;exact ⟨x0,rfl⟩
theorem rowSB {ps:List PV} (h:FitsB shS ps):∃ s:Shp,Sames ps (sP s):=by
 unfold shS at h;obtain ⟨p0,q0,rfl,f0,h⟩:=h.cons;obtain ⟨p1,q1,rfl,f1,h⟩:=h.cons;obtain ⟨p2,q2,rfl,f2,h⟩:=h.cons;obtain rfl:=h.nil;obtain ⟨x0,rfl,_⟩:=f0.int;obtain ⟨x1,rfl,_⟩:=f1.int;obtain ⟨n,f,rfl,_,hr⟩:=f2.slc;obtain ⟨pts,hp⟩:=yYU (⟨0,0,0⟩:Z3) (R:=fun ps z=>ps=zP z) fun j hj=>rowZB (hr j hj)
 exact ⟨⟨x0,x1,n,pts⟩,Same.refl _,Same.refl _,zYX hp,trivial⟩
theorem rowOB {ps:List PV} (h:FitsB shO ps):∃ o:ObT,o.ns≤8796093021952∧Sames ps (oP o):=by
 unfold shO at h;obtain ⟨p0,q0,rfl,f0,h⟩:=h.cons;obtain ⟨p1,q1,rfl,f1,h⟩:=h.cons;obtain rfl:=h.nil;obtain ⟨x0,rfl⟩:=f0.str;obtain ⟨n,f,rfl,hB,hr⟩:=f1.slc;obtain ⟨shs,hp⟩:=yYU (⟨0,0,0,fun _=>⟨0,0,0⟩⟩:Shp) (R:=fun ps z=>Sames ps (sP z)) fun j hj=>rowSB (hr j hj)
 refine ⟨⟨x0,n,shs⟩,?_,Same.refl _,zHW hp,trivial⟩;have hB':n * (8 * 3)≤reachBytes:=hB;unfold reachBytes at hB';show n≤_;omega
theorem rowGB {ps:List PV} (h:FitsB shG ps):∃ g:Grp,Sames ps (gPv g):=by
 unfold shG at h;obtain ⟨p0,q0,rfl,f0,h⟩:=h.cons;obtain ⟨p1,q1,rfl,f1,h⟩:=h.cons;obtain ⟨p2,q2,rfl,f2,h⟩:=h.cons;obtain rfl:=h.nil;obtain ⟨x0,rfl,_⟩:=f0.int;obtain ⟨x1,rfl,_⟩:=f1.int;obtain ⟨n,f,rfl,_,hr⟩:=f2.slc;obtain ⟨cf,hp⟩:=yYU (0:Int) (R:=fun ps z=>ps=[PV.n .i64 z]) fun j hj=>rowIB (hr j hj)
 exact ⟨⟨x0,x1,n,cf⟩,Same.refl _,Same.refl _,zYX hp,trivial⟩
section
variable {W:World} {H:Type} {enc:TypeId × Value→H} {r:Reach} {base:Nat} {v:Value} {d:DataW H} {p:List MemPlace}
theorem shT_w:shTB Tryz.prog 9 42=some [.l shJ,.l shM,.l shS,.l shK,.l shO,.l shZ,.l shH,.l shG,.i .i64]:=by kernel_rfl
set_option maxRecDepth 100000 in
theorem open_wsp (hv:Value.okWide Tryz.prog W r base 42 v) (h:DataW.Trod enc Tryz.prog W 0 (fun _=>true) true 42 v d p) (hw:∀ y ∈ DataW.weights Tryz.prog 42 d,y≤reachBytes):∃ ws:Wsp,okW ws∧RW W (.a (wP ws)) v:=by
 obtain ⟨ps,hr,hf⟩:=open_strB Tryz.underlying42 hv h shT_w hw;obtain ⟨p1,ps,rfl,f1,hf⟩:=hf.cons;obtain ⟨p2,ps,rfl,f2,hf⟩:=hf.cons;obtain ⟨p3,ps,rfl,f3,hf⟩:=hf.cons;obtain ⟨p4,ps,rfl,f4,hf⟩:=hf.cons;obtain ⟨p5,ps,rfl,f5,hf⟩:=hf.cons;obtain ⟨p6,ps,rfl,f6,hf⟩:=hf.cons;obtain ⟨p7,ps,rfl,f7,hf⟩:=hf.cons;obtain ⟨p8,ps,rfl,f8,hf⟩:=hf.cons;obtain ⟨p9,ps,rfl,f9,hf⟩:=hf.cons;obtain rfl:=hf.nil;obtain ⟨n,f,rfl,_,g1⟩:=f1.slc;obtain ⟨m,g,rfl,_,g2⟩:=f2.slc;obtain ⟨c,a,rfl,_,g3⟩:=f3.slc;obtain ⟨d,b,rfl,_,g4⟩:=f4.slc;obtain ⟨no,fo,rfl,_,g5⟩:=f5.slc;obtain ⟨np,fp,rfl,_,g6⟩:=f6.slc;obtain ⟨nh,fh,rfl,_,g7⟩:=f7.slc;obtain ⟨ng,fg,rfl,_,g8⟩:=f8.slc;obtain ⟨sl,rfl,_⟩:=f9.int;obtain ⟨js,hj⟩:=yYU (⟨ByteArray.empty,0,0,⟨0,0,0⟩,0,0,0,0,0,0⟩:J) (R:=fun ps z=>ps=jp z) fun j hj=>rowJB (g1 j hj)
 obtain ⟨ms,hm⟩:=yYU (⟨0,0,⟨0,0,0⟩⟩:Ms) (R:=fun ps z=>ps=mp z) fun j hj=>rowMB (g2 j hj)
 obtain ⟨sh,hs⟩:=yYU (⟨0,0,0,fun _=>⟨0,0,0⟩⟩:Shp) (R:=fun ps z=>Sames ps (sP z)) fun j hj=>rowSB (g3 j hj)
 obtain ⟨sk,hk⟩:=yYU (⟨0,0⟩:Skp) (R:=fun ps z=>ps=kP z) fun j hj=>rowKB (g4 j hj)
 obtain ⟨ob,ho⟩:=yYU (⟨ByteArray.empty,0,fun _=>⟨0,0,0,fun _=>⟨0,0,0⟩⟩⟩:ObT) (R:=fun ps (z:ObT)=>z.ns≤8796093021952∧Sames ps (oP z)) fun j hj=>rowOB (g5 j hj)
 obtain ⟨pl,hp⟩:=yYU (⟨0,0,0⟩:Z3) (R:=fun ps z=>ps=zP z) fun j hj=>rowZB (g6 j hj)
 obtain ⟨hd,hh⟩:=yYU (⟨0,⟨0,0,0⟩⟩:Hnd) (R:=fun ps z=>ps=hP z) fun j hj=>rowHB (g7 j hj)
 obtain ⟨gr,hg⟩:=yYU (⟨0,0,0,fun _=>0⟩:Grp) (R:=fun ps z=>Sames ps (gPv z)) fun j hj=>rowGB (g8 j hj)
 have s:Sames [.lf n f,.lf m g,.lf c a,.lf d b,.lf no fo,.lf np fp,.lf nh fh,.lf ng fg,.n .i64 sl] [.lf n (fJ js),.lf m (fM ms),.lf c (fS sh),.lf d (fK sk),.lf no (fO ob),.lf np (fZ pl),.lf nh (fH hd),.lf ng (fG gr),.n .i64 sl]:=⟨zYX hj,zYX hm,zHW hs,zYX hk,zHW fun j hj=>(ho j hj).2,zYX hp,zYX hh,zHW hg,Same.refl _,trivial⟩
 exact ⟨⟨js,ms,sh,sk,n,m,c,d,ob,pl,hd,gr,no,np,nh,ng,sl⟩,fun i hi=>(ho i hi).1,Same.a s _ _ _ hr⟩
end
end Go.Proofs.YtgmbkkkbfbocnaaGreat.Hp

/- Part 14 of the texts behind the last one: rules and contracts. No condition. -/
import Derived.Test.YtmffoiemmlcmfaaGreatPE13
open Option.some renaming injEq → vQZ
open Prod.mk renaming injEq → vQY
open Bool renaming and_eq_true → vQJ, and_self → vZJ, true_and → vZH
open List renaming getElem?_eq_getElem → vQK, mem_of_getElem? → vQG, mem_cons_self → vZQ, getElem?_map → vZY
open Classical renaming propDecidable → vYJ
open Go.IntKind renaming wrap → vJJ
namespace Go.Proofs.YtmffoiemmlcmfaaGreat
open Go.Sx
theorem uJZ:appB Tryz.prog 27 2 1 8=true:=by kernel_rfl
theorem mkCfg (lv:Value) (l:List Int) (aj am:Option Addr) (cj nm cm:Nat) (js:List J) (hn:js.length≤1000) (hjs:∀ j ∈ js,JB j) (w:World) (hl:IntsAt w w.heap.size lv l) (hS:qJJ 12 aj (js.map jc) w):Calls Tryz.prog 7 [.agg #[.slice aj js.length cj,.slice am nm cm],lv].toArray w (jXX (X:=Option Addr × Nat) (fun _=>True) (fun x=>.slice x.1 js.length x.2) (fun x=>OwnF 0 2 1 x.1 x.2 js.length (icC (cfgs l js js.length).1)) w):=by
 refine jY (n:=57) Tryz.func7 rfl rfl rfl ?_;refine qW ?_;refine qZ ?_;refine zYQ 2 rfl rfl rfl rfl ?_; intro b2;refine qJ (qV rfl) rfl rfl rfl ?_;refine qX ?_;refine qQ ?_;refine qW ?_;refine qZ ?_;refine qJ (qK rfl) rfl rfl rfl ?_;refine zHY 11 en20 rfl (fun w' k=>uYV w' (qGH hl k.grow (Nat.le_refl _))) rfl rfl ?_; intro b11;refine qJ (qV rfl) rfl rfl rfl ?_;refine qX ?_;refine qQ ?_;refine qW ?_;refine qZ ?_;refine qJ (qV rfl) rfl rfl rfl ?_;refine qX ?_;refine qQ ?_;refine qW ?_;refine qW ?_;refine jUH 100 2 1 ?_;refine qZ ?_;refine qJ (qV rfl) rfl rfl rfl ?_;refine qX ?_;refine qQ ?_;refine uW ?_;refine zKZ [2,5] [2] (α:=Nat × Nat × Option Addr × Nat × List Int) (fun x=>js.length - x.1) (fun x=>x.1≤js.length∧cfgs l js x.1=(x.2.2.2.2,x.2.1)∧x.2.2.2.2.length=x.1) (fun x=>⟨w,[(100,ownD x.2.2.1,OwnF 0 2 1 x.2.2.1 x.2.2.2.1 x.1 (icC x.2.2.2.2))]⟩) (fun x=>[(6,.slice x.2.2.1 x.1 x.2.2.2.1),(7,.int .i64 (x.1:Int))]) (fun x=>[(11,b11,srcC lv l x.2.1,81)]) (0,0,none,0,[]) rfl rfl ?_ ?_ ?_ ?_ rfl ?_
 ·
  exact ⟨Nat.zero_le _,rfl,rfl⟩
 ·
  exact rfl
 ·
  repeat' first | exact trivial | exact True.intro | refine ⟨rfl,?_⟩
 ·
  repeat' first | exact trivial | exact True.intro | refine ⟨rfl,?_⟩
 rintro ⟨k,q,a,cap,cs⟩ ⟨hk,hsh,hlen⟩
 dsimp only at hk hsh hlen ⊢;refine qW ?_;refine qW ?_;refine qZ ?_;refine qJ (qK rfl) rfl rfl rfl ?_;refine qJ (qU zWU rfl) rfl rfl rfl ?_;refine qJ (yX 2 ty22 rfl rfl rfl) rfl rfl rfl ?_;refine qJ (qUG sl22 rfl) rfl rfl rfl ?_;refine qJ (qVV rfl rfl) rfl rfl rfl ?_;refine qX ?_;refine qQ ?_;refine kZ rfl (fun hc16 => ?_) (fun hc16 => ?_)
 ·
  have h2:k < js.length:=by have:=vJZ hc16; omega
  obtain ⟨j,hjk⟩:∃ j,js[k]? = some j:=⟨_,vQK h2⟩
  have hj:(js.map jc)[k]? = some (jc j):=by rw [vZY,hjk]; rfl
  obtain ⟨bj1,bj2,bj3⟩:=hjs j (vQG hjk);refine kJ ?_;refine qQ ?_;refine qW ?_;refine uW ?_;refine qW ?_;refine doC_all mo (by kernel_rfl) ?_;refine yV (qU zWU rfl) rfl rfl rfl ?_;refine yV (yX 2 ty22 rfl rfl rfl) rfl rfl rfl ?_;refine yV (qK rfl) rfl rfl rfl ?_;refine yV (qYK (e:=55) (uJ hS) (by kernel_rfl) rfl rfl rfl hj h2) rfl rfl rfl ?_;refine yV (zVQ (uJ hS) hj zKQ rfl) rfl rfl rfl ?_;refine yV (zWH k 6 (uJ hS) hj ty2 rfl rfl) rfl rfl rfl ?_;refine yV (qU zWU rfl) rfl rfl rfl ?_;refine yV (yX 2 ty22 rfl rfl rfl) rfl rfl rfl ?_;refine yV (qK rfl) rfl rfl rfl ?_;refine yV (qYK (e:=55) (uJ hS) (by kernel_rfl) rfl rfl rfl hj h2) rfl rfl rfl ?_;refine yV (zVQ (uJ hS) hj zJH rfl) rfl rfl rfl ?_;refine yV (zWH k 7 (uJ hS) hj ty2 rfl rfl) rfl rfl rfl ?_;refine yV (qV rfl) rfl rfl rfl ?_;refine yV (qV rfl) rfl rfl rfl ?_;refine zYZ ?_;refine qQ ?_;refine qW ?_;refine qZ ?_;refine qJ (qK rfl) rfl rfl rfl ?_;refine yZX (F:=vI) 11 hl rfl en21 rfl (fun w' h=>jW _ (by first | omega | assumption | (unfold In64; omega) | decide) w' h) rfl rfl rfl ?_; intro r32 hr32;have br32:=uK hr32 (by first | decide | omega);refine qX ?_;refine qQ ?_;refine uW ?_;refine qW ?_;refine qZ ?_;refine qJ (qUW rfl rfl) rfl rfl rfl ?_;refine qJ (qV rfl) rfl rfl rfl ?_;refine qX ?_;refine qQ ?_;refine kZ rfl (fun hc44 => ?_) (fun hc44 => ?_)
  ·
   refine qZ ?_;refine qJ (qK rfl) rfl rfl rfl ?_;refine qJ (qK rfl) rfl rfl rfl ?_;refine qHQ 48 sl27 ze2 rfl rfl rfl rfl rfl rfl rfl rfl ?_; intro b48;refine qHZ (id2:=48) 100 uJZ rfl rfl rfl rfl rfl rfl rfl (by omega) (by omega) rfl rfl ?_; intro a49 c49 R49 hR49;obtain rfl:=Option.some.inj hR49;refine qJ (qV rfl) rfl rfl rfl ?_;refine qX ?_;refine zU ?_;refine zU ?_;refine qQ ?_;refine qZ ?_;refine qJ (qK rfl) rfl rfl rfl ?_;refine qJ (uQ rfl rfl (zWJ (by omega))) rfl rfl rfl ?_;refine qJ (qV rfl) rfl rfl rfl ?_;refine qX ?_;refine qJV (k + 1,q + 1,a49,c49,cs ++ [j.lo]) (by refine ⟨?_,?_,?_⟩ <;> dsimp only; omega; exact cfg_0 hjk hsh hr32 (vJZ hc44); simp [hlen]) (by show js.length - (k + 1) < js.length - k; omega) (by dsimp only; rw [jKG]; rfl) ?_ ?_ rfl
   repeat' first | exact trivial | exact True.intro | refine ⟨rfl,?_⟩
  ·
   refine qW ?_;refine qZ ?_;refine qJ (qUW rfl rfl) rfl rfl rfl ?_;refine qJ (qV rfl) rfl rfl rfl ?_;refine qX ?_;refine qQ ?_;refine kZ rfl (fun hc50 => ?_) (fun hc50 => ?_)
   ·
    refine qZ ?_;refine qJ (qK rfl) rfl rfl rfl ?_;refine qJ (qK rfl) rfl rfl rfl ?_;refine qHQ 54 sl27 ze2 rfl rfl rfl rfl rfl rfl rfl rfl ?_; intro b54;refine qHZ (id2:=54) 100 uJZ rfl rfl rfl rfl rfl rfl rfl (by omega) (by omega) rfl rfl ?_; intro a55 c55 R55 hR55;obtain rfl:=Option.some.inj hR55;refine qJ (qV rfl) rfl rfl rfl ?_;refine qX ?_;refine zU ?_;refine zU ?_;refine qQ ?_;refine qZ ?_;refine qJ (qK rfl) rfl rfl rfl ?_;refine qJ (uQ rfl rfl (zWJ (by omega))) rfl rfl rfl ?_;refine qJ (qV rfl) rfl rfl rfl ?_;refine qX ?_;refine qJV (k + 1,q + 1,a55,c55,cs ++ [j.hi]) (by refine ⟨?_,?_,?_⟩ <;> dsimp only; omega; exact cfg_1 hjk hsh hr32 (vJZ hc50); simp [hlen]) (by show js.length - (k + 1) < js.length - k; omega) (by dsimp only; rw [jKG]; rfl) ?_ ?_ rfl
    repeat' first | exact trivial | exact True.intro | refine ⟨rfl,?_⟩
   ·
    refine qZ ?_;refine qJ (qK rfl) rfl rfl rfl ?_;refine qJ (qK rfl) rfl rfl rfl ?_;refine qJ (qK rfl) rfl rfl rfl ?_;refine qJ (qK rfl) rfl rfl rfl ?_;refine qJ (qK rfl) rfl rfl rfl ?_;refine qJ (qGW rfl rfl (by first | exact zK ⟨by omega,by omega⟩ | rfl)) rfl rfl rfl ?_;refine qJ (uQ rfl rfl (by first | exact zK ⟨by omega,by omega⟩ | rfl)) rfl rfl rfl ?_;refine yZX (F:=vI) 11 hl rfl en21 rfl (fun w' h=>jW _ (by first | omega | assumption | (unfold In64; omega) | decide) w' h) rfl rfl rfl ?_; intro r40 hr40;have br40:=uK hr40 (by first | decide | omega);refine qJ (uQ rfl rfl (by first | exact zK ⟨by omega,by omega⟩ | rfl)) rfl rfl rfl ?_;refine qHQ 42 sl27 ze2 rfl rfl rfl rfl rfl rfl rfl rfl ?_; intro b42;refine qHZ (id2:=42) 100 uJZ rfl rfl rfl rfl rfl rfl rfl (by omega) (by omega) rfl rfl ?_; intro a43 c43 R43 hR43;obtain rfl:=Option.some.inj hR43;refine qJ (qV rfl) rfl rfl rfl ?_;refine qX ?_;refine zU ?_;refine zU ?_;refine qQ ?_;refine qZ ?_;refine qJ (qK rfl) rfl rfl rfl ?_;refine qJ (uQ rfl rfl (zWJ (by omega))) rfl rfl rfl ?_;refine qJ (qV rfl) rfl rfl rfl ?_;refine qX ?_;refine qJV (k + 1,q + 1 + 1,a43,c43,cs ++ [j.lo + r40]) (by refine ⟨?_,?_,?_⟩ <;> dsimp only; omega; exact cfg_2 hjk hsh hr32 (vJY hc44) (vJY hc50) hr40; simp [hlen]) (by show js.length - (k + 1) < js.length - k; omega) (by dsimp only; rw [jKG]; rfl) ?_ ?_ rfl
    repeat' first | exact trivial | exact True.intro | refine ⟨rfl,?_⟩
 ·
  obtain rfl:k=js.length:=by have:=vJY hc16; omega
  refine zUU ?_;refine kK ?_;refine kK ?_;refine qYX ?_;refine qQ ?_;refine qW ?_;refine qZ ?_;refine qJ (qK rfl) rfl rfl rfl ?_;refine qJ (qV rfl) rfl rfl rfl ?_;refine qX ?_;refine qQ ?_;refine jU ?_;refine zYG (rs:=[.tmp 4]) rfl (resC (uU rfl) (resN)) rfl ?_;intro w2 k2;obtain ⟨_,q2,q3⟩:=k2.facts _ vZQ;exact ⟨(a,cap),trivial,rfl,k2.grow,ownD a,yGQ _ _ _ _ _ _ _,fun z hz=>⟨(q2 z hz).1,(q2 z hz).2.1⟩,by dsimp only; rw [hsh]; exact q3⟩
end Go.Proofs.YtmffoiemmlcmfaaGreat
namespace Go.Proofs.YtmffoiemmlcmfaaGreat.Nu
open Go.Rx Rt Go.Sx Go.RowKit Od Ov Pc Na Nb Nc Nd Nx Nf Ng Nj Nl Nm Nn No Nq Nr Ns
noncomputable def yUH:List PV→Option (Bool × Ret):=fun ps=>match ps with
 | [.n .i64 n,.n .i64 k]=>some (decide (0 < k∧k≤9223372036854775807),.v (.n .i64 (n % k)))
 | _=>none
theorem zGZ:zW Tryz.prog 9 yUH:=by
 intro ps r h;unfold yUH at h;split at h
 ·simp only [vQZ,vQY] at h;obtain ⟨hg,rfl⟩:=h;exact zJ (zQ Tryz.func9 (by kernel_rfl) (by kernel_rfl)) rfl rfl (fun w=>kJZ _ _ (vJZ hg) w)
 ·cases h
theorem near_0 (js:Nat→J) (ms:Nat→Ms) (q:Nat→Int) (n m k:Nat) (c:Cn) (w:Nat) (e:Nat→Int) (hk:k≤50) (hc:zH Tryz.prog 22 [.a [.lf n (fJ js),.lf m (fM ms)],.n .i64 1,.lf 0 (fQ e)] (.ow 63 10 (.l [cp c]))):∃ c':Cn,zH Tryz.prog 8 [.a [.lf n (fJ js),.lf m (fM ms)],.n .i64 1,.lf 0 (fQ e),.lf k (fQ q)] (.ow 63 10 (.l [cp c'])):=by
 refine ⟨bif qOk js ms q n m k c then ⟨c.kind,c.link,c.p,c.n,(vJJ .i64 ((qLo js ms q n m k c) + (-1966080))),(vJJ .i64 ((vJJ .i64 ((qLo js ms q n m k c) + (-1966080))) + 65536))⟩ else c,qG (N:=60) yJ yQ (OrL.ok (l:=[(22,o_cr [.a [.lf n (fJ js),.lf m (fM ms)],.n .i64 1,.lf 0 (fQ e)] (.ow 63 10 (.l [cp c]))),(9,yUH),(13,o_lk [.lf k (fQ q)] (decide (k≤50)) (.v (.lf (bif smQ q k then k else 0) (fB (ptB q))))),(23,o_lk [.a [.lf n (fJ js),.lf m (fM ms)],.a (cp c),.lf (bif smQ q k then k else 0) (fB (ptB q))] (decide (k≤50)) (.v (.t [.a [.n .i64 (qLo js ms q n m k c),.n .i64 (qHi js ms q n m k c)],.b (qOk js ms q n m k c)])))]) ⟨qZX hc,zGZ,qXG (fun h=>zQY q k (vJZ h)),qXG (fun h=>jWZ js ms (ptB q) n m (bif smQ q k then k else 0) c (yXZ (vJZ h))),trivial⟩) ?_⟩;refine (by kernel_rfl:_=bif (g1 [.a [.lf n (fJ js),.lf m (fM ms)],.n .i64 1,.lf 0 (fQ e)]) then (bif (g1 [.lf k (fQ q)] && decide (k≤50)) then (bif (g1 [.a [.lf n (fJ js),.lf m (fM ms)],.a (cp c),.lf (bif smQ q k then k else 0) (fB (ptB q))] && decide (k≤50)) then (bif (qOk js ms q n m k c) then some (.ow 63 10 (.l [[.n .i64 c.kind,.n .i64 c.link,.n .i64 c.p.x,.n .i64 c.p.y,.n .i64 c.p.z,.n .i64 c.n.x,.n .i64 c.n.y,.n .i64 c.n.z,.n .i64 (vJJ .i64 ((qLo js ms q n m k c) + (-1966080))),.n .i64 (vJJ .i64 ((vJJ .i64 ((qLo js ms q n m k c) + (-1966080))) + 65536))]]),[])
 else some (.ow 63 10 (.l [(cp c)]),[]))
 else none)
 else none)
 else none).trans ?_
 simp only [g1_t,vJQ hk,vZJ,vYV];cases qOk js ms q n m k c <;> rfl
theorem near_1 (js:Nat→J) (ms:Nat→Ms) (q:Nat→Int) (n m k:Nat) (c:Cn) (w:Nat) (e:Nat→Int) (hk:k≤50) (hc:zH Tryz.prog 22 [.a [.lf n (fJ js),.lf m (fM ms)],.n .i64 1,.lf 1 (fQ e)] (.ow 63 10 (.l [cp c]))):∃ c':Cn,zH Tryz.prog 8 [.a [.lf n (fJ js),.lf m (fM ms)],.n .i64 1,.lf 1 (fQ e),.lf k (fQ q)] (.ow 63 10 (.l [cp c'])):=by
 refine ⟨bif qOk js ms q n m k c then ⟨c.kind,c.link,c.p,c.n,(vJJ .i64 ((qLo js ms q n m k c) + (vJJ .i64 ((vJJ .i64 (((e (0:Int).toNat) % 61) - 30)) * 65536)))),(vJJ .i64 ((vJJ .i64 ((qLo js ms q n m k c) + (vJJ .i64 ((vJJ .i64 (((e (0:Int).toNat) % 61) - 30)) * 65536)))) + 65536))⟩ else c,qG (N:=60) yJ yQ (OrL.ok (l:=[(22,o_cr [.a [.lf n (fJ js),.lf m (fM ms)],.n .i64 1,.lf 1 (fQ e)] (.ow 63 10 (.l [cp c]))),(9,yUH),(13,o_lk [.lf k (fQ q)] (decide (k≤50)) (.v (.lf (bif smQ q k then k else 0) (fB (ptB q))))),(23,o_lk [.a [.lf n (fJ js),.lf m (fM ms)],.a (cp c),.lf (bif smQ q k then k else 0) (fB (ptB q))] (decide (k≤50)) (.v (.t [.a [.n .i64 (qLo js ms q n m k c),.n .i64 (qHi js ms q n m k c)],.b (qOk js ms q n m k c)])))]) ⟨qZX hc,zGZ,qXG (fun h=>zQY q k (vJZ h)),qXG (fun h=>jWZ js ms (ptB q) n m (bif smQ q k then k else 0) c (yXZ (vJZ h))),trivial⟩) ?_⟩;refine (by kernel_rfl:_=bif (g1 [.a [.lf n (fJ js),.lf m (fM ms)],.n .i64 1,.lf 1 (fQ e)]) then (bif (g1 [.lf k (fQ q)] && decide (k≤50)) then (bif (g1 [.a [.lf n (fJ js),.lf m (fM ms)],.a (cp c),.lf (bif smQ q k then k else 0) (fB (ptB q))] && decide (k≤50)) then (bif (qOk js ms q n m k c) then some (.ow 63 10 (.l [[.n .i64 c.kind,.n .i64 c.link,.n .i64 c.p.x,.n .i64 c.p.y,.n .i64 c.p.z,.n .i64 c.n.x,.n .i64 c.n.y,.n .i64 c.n.z,.n .i64 (vJJ .i64 ((qLo js ms q n m k c) + (vJJ .i64 ((vJJ .i64 (((e (0:Int).toNat) % 61) - 30)) * 65536)))),.n .i64 (vJJ .i64 ((vJJ .i64 ((qLo js ms q n m k c) + (vJJ .i64 ((vJJ .i64 (((e (0:Int).toNat) % 61) - 30)) * 65536)))) + 65536))]]),[])
 else some (.ow 63 10 (.l [(cp c)]),[]))
 else none)
 else none)
 else none).trans ?_
 simp only [g1_t,vJQ hk,vZJ,vYV];cases qOk js ms q n m k c <;> rfl
theorem near_2 (js:Nat→J) (ms:Nat→Ms) (q:Nat→Int) (n m k:Nat) (c:Cn) (w:Nat) (e:Nat→Int) (hk:k≤50) (hc:zH Tryz.prog 22 [.a [.lf n (fJ js),.lf m (fM ms)],.n .i64 1,.lf (w + 2) (fQ e)] (.ow 63 10 (.l [cp c]))):∃ c':Cn,zH Tryz.prog 8 [.a [.lf n (fJ js),.lf m (fM ms)],.n .i64 1,.lf (w + 2) (fQ e),.lf k (fQ q)] (.ow 63 10 (.l [cp c'])):=by
 refine ⟨bif qOk js ms q n m k c then ⟨c.kind,c.link,c.p,c.n,(vJJ .i64 ((qLo js ms q n m k c) + (vJJ .i64 ((vJJ .i64 (((e (0:Int).toNat) % 61) - 30)) * 65536)))),(vJJ .i64 ((vJJ .i64 ((qLo js ms q n m k c) + (vJJ .i64 ((vJJ .i64 (((e (0:Int).toNat) % 61) - 30)) * 65536)))) + (vJJ .i64 ((vJJ .i64 (1 + ((e (1:Int).toNat) % 40))) * 65536))))⟩ else c,qG (N:=60) yJ yQ (OrL.ok (l:=[(22,o_cr [.a [.lf n (fJ js),.lf m (fM ms)],.n .i64 1,.lf (w + 2) (fQ e)] (.ow 63 10 (.l [cp c]))),(9,yUH),(13,o_lk [.lf k (fQ q)] (decide (k≤50)) (.v (.lf (bif smQ q k then k else 0) (fB (ptB q))))),(23,o_lk [.a [.lf n (fJ js),.lf m (fM ms)],.a (cp c),.lf (bif smQ q k then k else 0) (fB (ptB q))] (decide (k≤50)) (.v (.t [.a [.n .i64 (qLo js ms q n m k c),.n .i64 (qHi js ms q n m k c)],.b (qOk js ms q n m k c)])))]) ⟨qZX hc,zGZ,qXG (fun h=>zQY q k (vJZ h)),qXG (fun h=>jWZ js ms (ptB q) n m (bif smQ q k then k else 0) c (yXZ (vJZ h))),trivial⟩) ?_⟩;refine (by kernel_rfl:_=bif (g1 [.a [.lf n (fJ js),.lf m (fM ms)],.n .i64 1,.lf (w + 2) (fQ e)]) then (bif (g1 [.lf k (fQ q)] && decide (k≤50)) then (bif (g1 [.a [.lf n (fJ js),.lf m (fM ms)],.a (cp c),.lf (bif smQ q k then k else 0) (fB (ptB q))] && decide (k≤50)) then (bif (qOk js ms q n m k c) then some (.ow 63 10 (.l [[.n .i64 c.kind,.n .i64 c.link,.n .i64 c.p.x,.n .i64 c.p.y,.n .i64 c.p.z,.n .i64 c.n.x,.n .i64 c.n.y,.n .i64 c.n.z,.n .i64 (vJJ .i64 ((qLo js ms q n m k c) + (vJJ .i64 ((vJJ .i64 (((e (0:Int).toNat) % 61) - 30)) * 65536)))),.n .i64 (vJJ .i64 ((vJJ .i64 ((qLo js ms q n m k c) + (vJJ .i64 ((vJJ .i64 (((e (0:Int).toNat) % 61) - 30)) * 65536)))) + (vJJ .i64 ((vJJ .i64 (1 + ((e (1:Int).toNat) % 40))) * 65536))))]]),[])
 else some (.ow 63 10 (.l [(cp c)]),[]))
 else none)
 else none)
 else none).trans ?_
 simp only [g1_t,vJQ hk,vZJ,vYV];cases qOk js ms q n m k c <;> rfl
theorem snd_near (js:Nat→J) (ms:Nat→Ms) (q:Nat→Int) (n m k:Nat) (c:Cn) (w:Nat) (e:Nat→Int) (hk:k≤50) (hc:zH Tryz.prog 22 [.a [.lf n (fJ js),.lf m (fM ms)],.n .i64 1,.lf w (fQ e)] (.ow 63 10 (.l [cp c]))):∃ c':Cn,zH Tryz.prog 8 [.a [.lf n (fJ js),.lf m (fM ms)],.n .i64 1,.lf w (fQ e),.lf k (fQ q)] (.ow 63 10 (.l [cp c'])):=by
 rcases w with _ | _ | w
 ·exact near_0 js ms q n m k c 0 e hk hc
 ·exact near_1 js ms q n m k c 0 e hk hc
 ·exact near_2 js ms q n m k c w e hk hc
end Go.Proofs.YtmffoiemmlcmfaaGreat.Nu
namespace Go.Proofs.YtmffoiemmlcmfaaGreat.Nv
open Go.Rx Rt Go.Sx Go.RowKit Od Ov Pc Na Nb Nc Nd Nx Nf Ng Nj Nl Nm Nn No Nq Nr Ns Nu
def hSm (q u:Nat→Int) (k l:Nat) (i:Int):St:=⟨[(0,.v (.lf k (fQ q))),(1,.v (.lf l (fQ u))),(5,.v (.n .i64 i))],[]⟩
set_option maxRecDepth 100000 in
theorem rdSm (G:St→Option (Ret × Mem)) (K:Cont) (q u:Nat→Int) (k l:Nat) (i:Int):zKJ 60 (cxF T (OrL.k ([]:OrL)) 60 14 (ntmF T 14)) (ckF T (OrL.k ([]:OrL)) 60) (qY T 14 [0,1,0,1,1]) ((cxF T (OrL.k ([]:OrL)) 60 14 (ntmF T 14)).T.hint (cxF T (OrL.k ([]:OrL)) 60 14 (ntmF T 14)).me (zY (qY T 14 [0,1,0,1,1]))) K G (hSm q u k l i) =
 (bif (decide (i < (k:Int))) then (bif (inB i k) then (bif (inB i l) then (bif (!decide ((q (i).toNat)=(u (i).toNat))) then (K .ret ⟨[(4,.v (.b false))],[]⟩)
 else (G (hSm q u k l (vJJ .i64 (i + 1)))))
 else none)
 else none)
 else (K (.exit 0) ⟨[],[]⟩)):=by kernel_rfl
theorem lpSm (K:Cont) (q u:Nat→Int) (k l:Nat) (hk:k≤50) (hl:k=l):LF 60 (cxF T (OrL.k ([]:OrL)) 60 14 (ntmF T 14)) (ckF T (OrL.k ([]:OrL)) 60) (qY T 14 [0,1,0,1,1]) ((cxF T (OrL.k ([]:OrL)) 60 14 (ntmF T 14)).T.hint (cxF T (OrL.k ([]:OrL)) 60 14 (ntmF T 14)).me (zY (qY T 14 [0,1,0,1,1]))) K 60 (hSm q u k l 0)=bif (allN (fun i:Nat=>decide (q i=u i)) k 0) then (K (.exit 0) ⟨[],[]⟩) else (K .ret ⟨[(4,.v (.b false))],[]⟩):=by
 refine (zJV (c:=k) (hSm q u k l) (fun i:Nat=>decide (q i=u i)) (K (.exit 0) ⟨[],[]⟩) (fun i:Nat=>(K .ret ⟨[(4,.v (.b false))],[]⟩)) (fun G i hi => ?_) (fun G => ?_) k 0 60 (by omega) (by omega)).trans (qYJ _ _ _ _ _)
 ·refine (rdSm G K q u k l i).trans ?_;rw [vJQ (show (i:Int) < (k:Int) by omega),qQQ (by omega),yW (show i < k by omega),yW (show i < l by omega),toN];cases decide (q i=u i) <;> rfl
 ·refine (rdSm G K q u k l k).trans ?_;rw [vYH (show ¬ (k:Int) < (k:Int) by omega)];rfl
def smB (q u:Nat→Int) (k l:Nat):Bool:=decide ((k:Int)=(l:Int)) && (allN (fun i:Nat=>decide (q i=u i)) k 0)
set_option maxRecDepth 100000 in
theorem pxsam (q u:Nat→Int) (k l:Nat):qYH T (OrL.k ([]:OrL)) (zZ [([0,1,0,1,1],jX (hSm q u k l 0) (fun K=>(bif (decide (k≤50) && decide (k=l)) then (bif (allN (fun i:Nat=>decide (q i=u i)) k 0) then (K (.exit 0) ⟨[],[]⟩) else (K .ret ⟨[(4,.v (.b false))],[]⟩)) else none)))]) 60 14 [.lf k (fQ q),.lf l (fQ u)] =
 (bif (!decide ((k:Int)=(l:Int))) then some (.v (.b false),[])
 else (bif (gSt (hSm q u k l 0) (hSm q u k l 0)) then (bif (decide (k≤50) && decide (k=l)) then (bif (allN (fun i:Nat=>decide (q i=u i)) k 0) then some (.v (.b true),[])
 else some (.v (.b false),[]))
 else none)
 else none)):=by kernel_rfl
theorem snd_sam (q u:Nat→Int) (k l:Nat) (hk:k≤50):zH Tryz.prog 14 [.lf k (fQ q),.lf l (fQ u)] (.v (.b (smB q u k l))):=by
 refine jV (N:=60) (LO:=zZ [([0,1,0,1,1],jX (hSm q u k l 0) (fun K=>(bif (decide (k≤50) && decide (k=l)) then (bif (allN (fun i:Nat=>decide (q i=u i)) k 0) then (K (.exit 0) ⟨[],[]⟩) else (K .ret ⟨[(4,.v (.b false))],[]⟩)) else none)))]) yJ yQ (OrL.ok (l:=([]:OrL)) trivial) (fun p S hp => ?_) ?_
 ·refine uY (L:=qY T 14) (l:=[([0,1,0,1,1],jX (hSm q u k l 0) (fun K=>(bif (decide (k≤50) && decide (k=l)) then (bif (allN (fun i:Nat=>decide (q i=u i)) k 0) then (K (.exit 0) ⟨[],[]⟩) else (K .ret ⟨[(4,.v (.b false))],[]⟩)) else none)))]) (show AllP _ [([0,1,0,1,1],jX (hSm q u k l 0) (fun K=>(bif (decide (k≤50) && decide (k=l)) then (bif (allN (fun i:Nat=>decide (q i=u i)) k 0) then (K (.exit 0) ⟨[],[]⟩) else (K .ret ⟨[(4,.v (.b false))],[]⟩)) else none)))] from ⟨qQU fun K r hr => ?_,trivial⟩) p S hp
  ·obtain ⟨hg,hr⟩:=qH hr;rw [vQJ] at hg;have hk:=vJZ hg.1;have hl:=vJZ hg.2;exact (lpSm K q u k l hk hl).trans hr
 ·refine (pxsam q u k l).trans ?_;unfold smB;by_cases e:k=l
  ·rw [yG,vJQ hk,vJQ e,vJQ (show (k:Int)=(l:Int) by omega)];cases (allN (fun i:Nat=>decide (q i=u i)) k 0) <;> rfl
  ·rw [vYH (show ¬ (k:Int)=(l:Int) by omega)];rfl
theorem sam_self (q:Nat→Int) (k:Nat) (hk:k≤50):zH Tryz.prog 14 [.lf k (fQ q),.lf k (fQ q)] (.v (.b true)):=by
 have h:=snd_sam q q k k hk;have e:smB q q k k=true:=by
  unfold smB;rw [vJQ rfl,vZH];exact allN_iff.2 fun i _ _=>vJQ rfl
 rw [e] at h;exact h
noncomputable def gP (p:Prop):Bool:=@decide p (vYJ _)
theorem qWH {p:Prop} (h:p):gP p=true:=@vJQ _ (vYJ _) h
theorem qJH {p:Prop} (h:gP p=true):p:=@vJZ _ (vYJ _) h
noncomputable def gSm (ps:List PV):Bool:=gP (∃ (k:Nat) (q:Nat→Int),k≤50∧ps=[.lf k (fQ q),.lf k (fQ q)])
noncomputable def o_sm:List PV→Option (Bool × Ret):=fun ps=>some (gSm ps,.v (.b true))
theorem ok_sm:zW Tryz.prog 14 o_sm:=by
 intro ps r hh;unfold o_sm at hh;simp only [vQZ,vQY] at hh;obtain ⟨hg,rfl⟩:=hh;obtain ⟨k,q,hk,rfl⟩:=qJH hg;exact sam_self q k hk
def j0:J:=⟨ByteArray.empty,0,0,⟨0,0,0⟩,0,0,0,0,0,0⟩
def m0:Ms:=⟨0,0,⟨0,0,0⟩⟩
def jaOf (l:List Int):Nat→J:=fun i=>(jsOf l 0 (nJ l 0)).1.getD i j0
def maOf (l:List Int):Nat→Ms:=fun i=>(msOf l 0 (nM l 0)).getD i m0
theorem rob_same (l:List Int):Same (robP l) (.a [.lf (nJ l 0) (fJ (jaOf l)),.lf (nM l 0) (fM (maOf l))]):=by
 refine Same.a ⟨Same.lf ?_,Same.lf ?_,trivial⟩
 ·have:=zGV j0 jp (jsOf l 0 (nJ l 0)).1
  rw [zQH] at this;exact this
 ·have:=zGV m0 mp (msOf l 0 (nM l 0))
  rw [zVY] at this;exact this
theorem rob_same' (l:List Int):Same (.a [.lf (nJ l 0) (fJ (jaOf l)),.lf (nM l 0) (fM (maOf l))]) (robP l):=by
 refine Same.a ⟨Same.l ?_,Same.l ?_,trivial⟩
 ·have:=zGV j0 jp (jsOf l 0 (nJ l 0)).1
  rw [zQH] at this;exact this
 ·have:=zGV m0 mp (msOf l 0 (nM l 0))
  rw [zVY] at this;exact this
def iqOf (l:List Int):Nat→Int:=fun i=>l.getD i 0
theorem yQH (l:List Int):Same (zJJ l) (.lf l.length (fQ (iqOf l))):=Same.lf (zGV 0 (fun x=>[PV.n .i64 x]) l)
theorem ints_same' (l:List Int):Same (.lf l.length (fQ (iqOf l))) (zJJ l):=Same.l (zGV 0 (fun x=>[PV.n .i64 x]) l)
noncomputable def kXQ (l a:List Int):List Int:=(cfgs a (jsOf l 0 (nJ l 0)).1 (nJ l 0)).1
theorem cfgOf_len (l a:List Int):(kXQ l a).length=nJ l 0:=cfgs_len _ (by rw [zQH]; exact Nat.le_refl _)
theorem snd_cfg {l a:List Int} (ha:a.length≤9223372036854775807):zH Tryz.prog 7 [robP l,zJJ a] (.v (zJJ (kXQ l a))):=by
 have hl:((kXQ l a).map fun x=>[PV.n .i64 x]).length=nJ l 0:=by rw [List.length_map]; exact cfgOf_len l a
 refine zGK (e:=2) (sz:=1) (yYW (Φ:=fun _=>True) (rows:=(kXQ l a).map fun x=>[PV.n .i64 x]) (zQ Tryz.func7 (by kernel_rfl) (by kernel_rfl)) (yUQ _) (by decide) (fun w F vals hF hal => ?_));obtain ⟨v1,vs,rfl,h1,hal⟩:=qYW hal;obtain ⟨v2,vs,rfl,h2,hal⟩:=qYW hal;obtain rfl:=zUG hal;obtain ⟨aj,cj,am,cm,rfl,hj,hm'⟩:=rob_open hF h1;have h:=mkCfg v2 a aj am cj (nM l 0) cm (jsOf l 0 (nJ l 0)).1 (by rw [zQH]; have:=nJ_b l 0; omega) (jsOf_b l 0 _) w (yKG ha hF h2) hj;rw [zQH] at h;rw [hl,zZK (g:=ic) (fun _=>rfl)];exact h
noncomputable def cqOf (l a:List Int):Nat→Int:=iqOf (kXQ l a)
theorem snd_cfgF {l a:List Int} (ha:a.length≤9223372036854775807):zH Tryz.prog 7 [.a [.lf (nJ l 0) (fJ (jaOf l)),.lf (nM l 0) (fM (maOf l))],zJJ a] (.v (.lf (nJ l 0) (fQ (cqOf l a)))):=by
 refine jYX (ps:=[robP l,zJJ a]) ⟨rob_same' l,Same.refl _,trivial⟩ ?_ (snd_cfg ha)
 have:=yQH (kXQ l a)
 rw [cfgOf_len] at this;exact this
theorem snd_robF {l:List Int} (hl:l.length≤9223372036854775807):zH Tryz.prog 6 [zJJ l] (.v (.a [.lf (nJ l 0) (fJ (jaOf l)),.lf (nM l 0) (fM (maOf l))])):=qQW (rob_same l) (snd_robot hl)
theorem snd_consO {l m:List Int} {n:Nat} (hn:n≤1000) (hm:m.length≤9223372036854775807):zH Tryz.prog 22 [.a [.lf (nJ l 0) (fJ (jaOf l)),.lf (nM l 0) (fM (maOf l))],.n .i64 n,zJJ m] (.ow 63 10 (.l ((jVX l m n).map cp))):=by
 have hl:((jVX l m n).map cp).length=n:=by rw [List.length_map]; exact jQJ _ _ _ _
 refine qZK (fun _ _ _=>Sames.al (ys:=[robP l,_,_]) ⟨rob_same' l,Same.refl _,Same.refl _,trivial⟩) (yYW (e:=63) (sz:=10) (rows:=(jVX l m n).map cp) (Φ:=fun x=>n≤x.2) (zQ Tryz.func22 (by kernel_rfl) (by kernel_rfl)) (yWZ (fun _=>rfl) _) (by decide) (fun w F vals hF hal => ?_));obtain ⟨v1,vs,rfl,h1,hal⟩:=qYW hal;obtain ⟨v2,vs,rfl,h2,hal⟩:=qYW hal;obtain ⟨v3,vs,rfl,h3,hal⟩:=qYW hal;obtain rfl:=zUG hal;obtain ⟨aj,cj,am,cm,rfl,hj,hm'⟩:=rob_open hF h1;obtain rfl:v2=.int .i64 (n:Int):=by cases h2; rfl
 have hb:=nJ_b l 0;rw [hl,zZK (g:=cnc) (fun _=>rfl)];exact mkConsO v3 m aj am cj (nJ l 0) (nM l 0) cm n hn (by omega) w (yKG hm hF h3)
end Go.Proofs.YtmffoiemmlcmfaaGreat.Nv
namespace Go.Proofs.YtmffoiemmlcmfaaGreat.Nw
open Go.Rx Rt Go.Sx Go.RowKit Od Ov Pc Na Nb Nc Nd Nx Nf Ng Nj Nl Nm Nn No Nq Nr Ns Nu Nv
def nrm' (k:Nat) (p:Nat→Int):Nat→Int:=fun i=>bif decide (i < k) then p i else 0
theorem jWW {k:Nat} {p:Nat→Int} {i:Nat} (h:i < k):nrm' k p i=p i:=by unfold nrm'; rw [vJQ h]; rfl
theorem nrm_idem (k:Nat) (p:Nat→Int):nrm' k (nrm' k p)=nrm' k p:=by
 funext i;by_cases h:i < k
 ·rw [jWW h]
 ·unfold nrm';rw [vYH h]; rfl
theorem nrm_ext {k:Nat} {p u:Nat→Int} (h:∀ i,i < k→p i=u i):nrm' k p=nrm' k u:=by
 funext i;by_cases hi:i < k
 ·rw [jWW hi,jWW hi,h i hi]
 ·unfold nrm';rw [vYH hi]; rfl
theorem jKQ (k:Nat) (p:Nat→Int):Same (.lf k (fQ p)) (.lf k (fQ (nrm' k p))):=zQJ fun j hj=>by show [PV.n .i64 _]=[PV.n .i64 _]; rw [jWW hj]
noncomputable def stN (js:Nat→J) (ms:Nat→Ms) (q:Nat→Int) (n m k:Nat) (c:Cn):Nat→Int:=nrm' k (stQ js ms q n m k c)
theorem kXX {js:Nat→J} {ms:Nat→Ms} {q:Nat→Int} {n m k:Nat} {c:Cn} (h:gOk js ms q n m k c=true):qIn js ms (stN js ms q n m k c) n m k=true:=by
 obtain ⟨_,hq,h0,hnk,_,h1,h10⟩:=qUY h;obtain ⟨_,_,hin⟩:=qJK hq;unfold qIn insQ;rw [vJQ h0,vJQ (show (n:Int)=(k:Int) by omega)];simp only [vZH];refine allN_iff.2 fun i _ hi => ?_
 have hl:=(yQY h0 i (by omega)).2.1;have hb:=hin i (by omega)
 have:(js i).lo≤stN js ms q n m k c i∧stN js ms q n m k c i≤(js i).hi:=by
  unfold stN;rw [jWW (by omega)];unfold stQ;cases hQ js ms q n m k c || decide (sS js ms q n m k c=0) with
  | true=>exact hb
  | false =>
   show (js i).lo≤nxE js ms q n m k c i∧nxE js ms q n m k c i≤(js i).hi;unfold nxE;omega
 rw [vJQ this.1,vJQ this.2]; rfl
theorem snd_stpN (js:Nat→J) (ms:Nat→Ms) (q:Nat→Int) (n m k:Nat) (c:Cn) (hk:k≤50):zH Tryz.prog 66 [.a [.lf n (fJ js),.lf m (fM ms)],.a (cp c),.lf k (fQ q)] (.v (.t [.lf (gN js ms q n m k c) (fQ (stN js ms q n m k c)),.b (gOk js ms q n m k c)])):=by
 refine qQW (Same.t (xs:=[_,_]) ⟨?_,Same.refl _,trivial⟩) (snd_stp js ms q n m k c hk);cases h:gOk js ms q n m k c with
 | true =>
  rw [(qUY h).2.2.2.2.1];exact jKQ _ _
 | false=>rw [show gN js ms q n m k c=0 by unfold gN; rw [h]; rfl]; exact zQJ fun j hj=>absurd hj (by omega)
theorem snd_sttN (js:Nat→J) (ms:Nat→Ms) (q:Nat→Int) (n m k:Nat) (c:Cn) (hk:k≤50):zH Tryz.prog 76 [.a [.lf n (fJ js),.lf m (fM ms)],.a (cp c),.lf k (fQ q)] (.v (.t [.lf (gN js ms q n m k c) (fQ (stN js ms q n m k c)),.b (gOk js ms q n m k c)])):=by
 refine qQW (Same.t (xs:=[_,_]) ⟨?_,Same.refl _,trivial⟩) (snd_stt js ms q n m k c hk);cases h:gOk js ms q n m k c with
 | true =>
  rw [(qUY h).2.2.2.2.1];exact jKQ _ _
 | false=>rw [show gN js ms q n m k c=0 by unfold gN; rw [h]; rfl]; exact zQJ fun j hj=>absurd hj (by omega)
def isSp (js:Nat→J) (ms:Nat→Ms) (n m:Nat) (ps:List PV):Prop:=∃ (q:Nat→Int) (k:Nat) (c:Cn),k≤50∧ps=[.a [.lf n (fJ js),.lf m (fM ms)],.a (cp c),.lf k (fQ q)]
def unC (ps:List PV):Cn:=match ps with
 | [.n _ a,.n _ b,.n _ c,.n _ d,.n _ e,.n _ f,.n _ g,.n _ h,.n _ i,.n _ j]=>⟨a,b,⟨c,d,e⟩,⟨f,g,h⟩,i,j⟩
 | _=>⟨0,0,⟨0,0,0⟩,⟨0,0,0⟩,0,0⟩
noncomputable def o_sp (js:Nat→J) (ms:Nat→Ms) (n m:Nat):List PV→Option (Bool × Ret):=fun ps=>match ps with
 | [r,.a c',.lf k f]=>some (gP (isSp js ms n m [r,.a c',.lf k f]),.v (.t [.lf (gN js ms (unFQ f) n m k (unC c')) (fQ (stN js ms (unFQ f) n m k (unC c'))),.b (gOk js ms (unFQ f) n m k (unC c'))]))
 | _=>none
theorem ok_sp (js:Nat→J) (ms:Nat→Ms) (n m:Nat):zW Tryz.prog 66 (o_sp js ms n m):=by
 intro ps r hh;unfold o_sp at hh;split at hh
 ·simp only [vQZ,vQY] at hh;obtain ⟨hg,rfl⟩:=hh;obtain ⟨q,k,c,hk,e⟩:=qJH hg;simp only [List.cons.injEq,PV.a.injEq,PV.lf.injEq,and_true] at e;obtain ⟨rfl,rfl,rfl,rfl⟩:=e;exact snd_stpN js ms _ n m _ _ hk
 ·cases hh
theorem ok_rsp (js:Nat→J) (ms:Nat→Ms) (n m:Nat):zW Tryz.prog 76 (o_sp js ms n m):=by
 intro ps r hh;unfold o_sp at hh;split at hh
 ·simp only [vQZ,vQY] at hh;obtain ⟨hg,rfl⟩:=hh;obtain ⟨q,k,c,hk,e⟩:=qJH hg;simp only [List.cons.injEq,PV.a.injEq,PV.lf.injEq,and_true] at e;obtain ⟨rfl,rfl,rfl,rfl⟩:=e;exact snd_sttN js ms _ n m _ _ hk
 ·cases hh
noncomputable def orIm (js:Nat→J) (ms:Nat→Ms) (q:Nat→Int) (n m k:Nat) (cs:Nat→Cn) (c:Nat):OrL:=[(66,o_sp js ms n m)]
noncomputable def hIm (js:Nat→J) (ms:Nat→Ms) (q:Nat→Int) (n m k:Nat) (cs:Nat→Cn) (c:Nat) (i:Int) (r:Nat) (p:Nat→Int):St:=⟨[(2,.v (.lf r (fQ p))),(3,.p 3 0),(9,.v (.lf c (fC cs))),(10,.v (.n .i64 (c:Int))),(11,.v (.n .i64 i))],[(3,.blk [.v (.lf n (fJ js)),.v (.lf m (fM ms))])]⟩
set_option maxRecDepth 100000 in
theorem rdIm (G:St→Option (Ret × Mem)) (K:Cont) (js:Nat→J) (ms:Nat→Ms) (q:Nat→Int) (n m k:Nat) (cs:Nat→Cn) (c:Nat) (i:Int) (r:Nat) (p:Nat→Int):qZW 60 (cxF Tf (OrL.k (orIm js ms q n m k cs c)) 60 39 (ntmF Tf 39)) (ckF Tf (OrL.k (orIm js ms q n m k cs c)) 60) (zZ []) (qY Tf 39 [0,1,0,1]) [0,1,0,1] (Tf.hint 39 (zY (qY Tf 39 [0,1,0,1]))) K G (hIm js ms q n m k cs c i r p) =
 (bif (decide (i < (c:Int))) then (bif (inB i c) then (bif (gP (isSp js ms n m [.a [.lf n (fJ js),.lf m (fM ms)],.a [.n .i64 (cs (i).toNat).kind,.n .i64 (cs (i).toNat).link,.n .i64 (cs (i).toNat).p.x,.n .i64 (cs (i).toNat).p.y,.n .i64 (cs (i).toNat).p.z,.n .i64 (cs (i).toNat).n.x,.n .i64 (cs (i).toNat).n.y,.n .i64 (cs (i).toNat).n.z,.n .i64 (cs (i).toNat).lo,.n .i64 (cs (i).toNat).hi],.lf r (fQ p)])) then (bif (gOk js ms p n m r (cs (i).toNat)) then (G (hIm js ms q n m k cs c (vJJ .i64 (i + 1)) (gN js ms p n m r (cs (i).toNat)) (stN js ms p n m r (cs (i).toNat))))
 else (G (hIm js ms q n m k cs c (vJJ .i64 (i + 1)) (gN js ms p n m r (cs (i).toNat)) (stN js ms p n m r (cs (i).toNat)))))
 else none)
 else none)
 else (K (.exit 0) ⟨[(2,.v (.lf r (fQ p)))],[]⟩)):=by kernel_rfl
noncomputable def impQ (js:Nat→J) (ms:Nat→Ms) (q:Nat→Int) (n m k:Nat) (cs:Nat→Cn) (c:Nat):Nat→Int:=zWY (fun (i:Nat) (p:Nat→Int)=>stN js ms p n m k (cs i)) c 0 q
theorem jWX {js:Nat→J} {ms:Nat→Ms} {p:Nat→Int} {n m k:Nat} {cs:Nat→Cn} {c:Nat} (hc:cErr js ms n m cs c=true) (hq:qIn js ms p n m k=true) {i:Nat} (hi:i < c):gOk js ms p n m k (cs i)=true:=by
 unfold gOk;rw [jXZ hc hi,hq]; rfl
theorem lpIm (K:Cont) (js:Nat→J) (ms:Nat→Ms) (q:Nat→Int) (n m k:Nat) (cs:Nat→Cn) (c:Nat) (hc:cErr js ms n m cs c=true) (hq:qIn js ms q n m k=true):LFL 60 (cxF Tf (OrL.k (orIm js ms q n m k cs c)) 60 39 (ntmF Tf 39)) (ckF Tf (OrL.k (orIm js ms q n m k cs c)) 60) (zZ []) (qY Tf 39 [0,1,0,1]) [0,1,0,1] (Tf.hint 39 (zY (qY Tf 39 [0,1,0,1]))) K 60 (hIm js ms q n m k cs c 0 k q)=(K (.exit 0) ⟨[(2,.v (.lf k (fQ (impQ js ms q n m k cs c))))],[]⟩):=by
 obtain ⟨_,h8,_⟩:=qWW hc;refine (qWK (L:=LFL 60 (cxF Tf (OrL.k (orIm js ms q n m k cs c)) 60 39 (ntmF Tf 39)) (ckF Tf (OrL.k (orIm js ms q n m k cs c)) 60) (zZ []) (qY Tf 39 [0,1,0,1]) [0,1,0,1] (Tf.hint 39 (zY (qY Tf 39 [0,1,0,1]))) K) (stp:=qZW 60 (cxF Tf (OrL.k (orIm js ms q n m k cs c)) 60 39 (ntmF Tf 39)) (ckF Tf (OrL.k (orIm js ms q n m k cs c)) 60) (zZ []) (qY Tf 39 [0,1,0,1]) [0,1,0,1] (Tf.hint 39 (zY (qY Tf 39 [0,1,0,1]))) K) (fun _ _=>rfl) (fun (i:Nat) (p:Nat→Int)=>hIm js ms q n m k cs c (i:Int) k p) (fun _ p=>qIn js ms p n m k=true) (fun _ _=>true) (fun (i:Nat) (p:Nat→Int)=>stN js ms p n m k (cs i)) (c:=c) (fun p=>(K (.exit 0) ⟨[(2,.v (.lf k (fQ p)))],[]⟩)) (fun _ _=>none) (fun G i p hi hv => ?_) (fun i p hi hv _=>kXX (jWX hc hv hi)) (fun G p _ => ?_) c 0 60 q (by omega) (by omega) hq).trans (zZX c 0 _)
 ·refine (rdIm G K js ms q n m k cs c i k p).trans ?_;have hg:=jWX hc hv hi;obtain ⟨_,_,_,hnk,hgk,h1,h10⟩:=qUY hg;have hs:gP (isSp js ms n m [.a [.lf n (fJ js),.lf m (fM ms)],.a (cp (cs i)),.lf k (fQ p)])=true:=qWH ⟨p,k,cs i,by omega,rfl⟩;simp only [vJQ (show (i:Int) < (c:Int) by omega),qQQ (show i < 1000000 by omega),yW (show i < c by omega),toN,vYV];refine (congrArg (fun b=>bif b then _ else none) hs).trans ?_;rw [vYV,hg,vYV,hgk]
 ·refine (rdIm G K js ms q n m k cs c c k p).trans ?_;rw [vYH (show ¬ (c:Int) < (c:Int) by omega)];rfl
noncomputable def uQY (js:Nat→J) (ms:Nat→Ms) (q:Nat→Int) (n m k:Nat) (cs:Nat→Cn) (c:Nat):List (List Nat × qKX):=[([0,1,0,1],sumF (fun _:Unit=>(hIm js ms q n m k cs c 0 k q)) (fun _=>()) (fun _ K=>(bif (cErr js ms n m cs c && qIn js ms q n m k) then (K (.exit 0) ⟨[(2,.v (.lf k (fQ (impQ js ms q n m k cs c))))],[]⟩) else none)))]
set_option maxRecDepth 100000 in
theorem pximp (js:Nat→J) (ms:Nat→Ms) (q:Nat→Int) (n m k:Nat) (cs:Nat→Cn) (c:Nat):qYH Tf (OrL.k (orIm js ms q n m k cs c)) (zZ (uQY js ms q n m k cs c)) 60 39 [.a [.lf n (fJ js),.lf m (fM ms)],.lf c (fC cs),.lf k (fQ q)] =
 (bif (gSt (hIm js ms q n m k cs c 0 k q) (hIm js ms q n m k cs c 0 k q)) then (bif (cErr js ms n m cs c && qIn js ms q n m k) then some (.v (.lf k (fQ (impQ js ms q n m k cs c))),[])
 else none)
 else none):=by kernel_rfl
theorem snd_imp (js:Nat→J) (ms:Nat→Ms) (q:Nat→Int) (n m k:Nat) (cs:Nat→Cn) (c:Nat) (hc:cErr js ms n m cs c=true) (hq:qIn js ms q n m k=true):zH Tryz.prog 39 [.a [.lf n (fJ js),.lf m (fM ms)],.lf c (fC cs),.lf k (fQ q)] (.v (.lf k (fQ (impQ js ms q n m k cs c)))):=by
 refine kX (N:=60) (LO:=zZ (uQY js ms q n m k cs c)) qVU yQ (OrL.ok (l:=(orIm js ms q n m k cs c)) ⟨ok_sp js ms n m,trivial⟩) (fun p S hp => ?_) ?_
 ·refine kV (L:=qY Tf 39) (l:=(uQY js ms q n m k cs c)) (show AllP _ (uQY js ms q n m k cs c) from ⟨?_,trivial⟩) p S hp
  ·dsimp only;refine qZH (T:=Tf) (ok:=(OrL.k (orIm js ms q n m k cs c))) (f:=39) (LO:=zZ []) (p:=[0,1,0,1]) qJG ?_;intro _ K r hr;obtain ⟨hg,hr⟩:=qH hr;rw [vQJ] at hg;exact (lpIm K js ms q n m k cs c hg.1 hg.2).trans hr
 ·refine (pximp js ms q n m k cs c).trans ?_;rw [yG,hc,hq];rfl
noncomputable def hB (js:Nat→J) (ms:Nat→Ms) (bx:Nat→Iv) (n m kk:Nat) (c:Cn):Bool:=cErr js ms n m (fun _=>c) 1 && (pIn js ms bx n m kk && yZQ (fun _=>c) (vI js bx n (fun _=>c)) 1)
noncomputable def allH (js:Nat→J) (ms:Nat→Ms) (q:Nat→Int) (n m k:Nat) (cs:Nat→Cn) (c:Nat):Bool:=allN (fun i=>hQ js ms q n m k (cs i)) c 0
theorem qIn_pIn {js:Nat→J} {ms:Nat→Ms} {q:Nat→Int} {n m k:Nat} (h:qIn js ms q n m k=true):smQ q k=true∧pIn js ms (ptB q) n m k=true:=by
 obtain ⟨h0,hn,hin⟩:=qJK h;have hs:smQ q k=true:=allN_iff.2 fun i _ hi=>by
  have h1:=yQY h0 i (by omega);have h2:=hin i (by omega);rw [vYH (show ¬ q i < -2147483648 by omega),vYH (show ¬ 2147483648 < q i by omega)]; rfl
 refine ⟨hs,?_⟩;unfold pIn insB;rw [vJQ h0,vJQ (show (n:Int)=(k:Int) by omega)];simp only [vZH];refine allN_iff.2 fun i _ hi => ?_
 have h1:=yQY h0 i (by omega);have h2:=hin i (by omega);unfold Iv.within Iv.valid ptB;simp only [vQJ,decide_eq_true_eq];omega
theorem allH_eq {js:Nat→J} {ms:Nat→Ms} {q:Nat→Int} {n m k:Nat} {cs:Nat→Cn} {c:Nat} (hc:cErr js ms n m cs c=true) (hq:qIn js ms q n m k=true):(cErr js ms n m cs c && (pIn js ms (ptB q) n m (bif smQ q k then k else 0) && yZQ cs (vI js (ptB q) n cs) c))=allH js ms q n m k cs c:=by
 obtain ⟨hs,hp⟩:=qIn_pIn hq;rw [hc,hs,vYV,hp];simp only [vZH];unfold yZQ allH;refine yUK fun i _ hi => ?_
 unfold Nr.hQ;rw [jXZ hc (by omega),hs,vYV,hp];show _=(true && (true && (inR (cs i) (vI js (ptB q) n (fun _=>cs i) 0) && true)));rw [vZH,vZH,Bool.and_true];rfl
def isHb (js:Nat→J) (ms:Nat→Ms) (n m:Nat) (ps:List PV):Prop:=∃ (bx:Nat→Iv) (kk:Nat) (c:Cn),ps=[.a [.lf n (fJ js),.lf m (fM ms)],.l [cp c],.lf kk (fB bx)]
noncomputable def o_hb (js:Nat→J) (ms:Nat→Ms) (n m:Nat):List PV→Option (Bool × Ret):=fun ps=>match ps with
 | [r,.l [c'],.lf k f]=>some (gP (isHb js ms n m [r,.l [c'],.lf k f]),.v (.b (hB js ms (unFB f) n m k (unC c'))))
 | _=>none
theorem ok_hb (js:Nat→J) (ms:Nat→Ms) (n m:Nat):zW Tryz.prog 29 (o_hb js ms n m):=by
 intro ps r hh;unfold o_hb at hh;split at hh
 ·simp only [vQZ,vQY] at hh;obtain ⟨hg,rfl⟩:=hh;obtain ⟨bx,kk,c,e⟩:=qJH hg;simp only [List.cons.injEq,PV.l.injEq,PV.lf.injEq,and_true] at e;obtain ⟨rfl,rfl,rfl,rfl⟩:=e;exact qZK (fun _ _ _=>Sames.al (ys:=[_,_,_]) ⟨Same.refl _,Same.lf rfl,Same.refl _,trivial⟩) (kXG js ms _ n m _ (fun _=>_) 1)
 ·cases hh
noncomputable def o_bq:List PV→Option (Bool × Ret):=fun ps=>match ps with
 | [.lf k f]=>some (decide (k≤50) && gFQ f,.v (.lf (bif smQ (unFQ f) k then k else 0) (fB (ptB (unFQ f)))))
 | _=>none
theorem ok_bq:zW Tryz.prog 30 o_bq:=by
 intro ps r hh;unfold o_bq at hh;split at hh
 ·simp only [vQZ,vQY,vQJ] at hh;obtain ⟨⟨hk,hf⟩,rfl⟩:=hh;rename_i k f
  have:=kXV (unFQ f) k (vJZ hk)
  rw [← yHG hf] at this;exact this
 ·cases hh
theorem ok_rbq:zW Tryz.prog 13 o_bq:=by
 intro ps r hh;unfold o_bq at hh;split at hh
 ·simp only [vQZ,vQY,vQJ] at hh;obtain ⟨⟨hk,hf⟩,rfl⟩:=hh;rename_i k f
  have:=zQY (unFQ f) k (vJZ hk)
  rw [← yHG hf] at this;exact this
 ·cases hh
def isIm (js:Nat→J) (ms:Nat→Ms) (n m:Nat) (cs:Nat→Cn) (c:Nat) (ps:List PV):Prop:=∃ (q:Nat→Int) (k:Nat),cErr js ms n m cs c=true∧qIn js ms q n m k=true∧ps=[.a [.lf n (fJ js),.lf m (fM ms)],.lf c (fC cs),.lf k (fQ q)]
noncomputable def o_im (js:Nat→J) (ms:Nat→Ms) (n m:Nat) (cs:Nat→Cn) (c:Nat):List PV→Option (Bool × Ret):=fun ps=>match ps with
 | [r,l,.lf k f]=>some (gP (isIm js ms n m cs c [r,l,.lf k f]),.v (.lf k (fQ (impQ js ms (unFQ f) n m k cs c))))
 | _=>none
theorem ok_im (js:Nat→J) (ms:Nat→Ms) (n m:Nat) (cs:Nat→Cn) (c:Nat):zW Tryz.prog 39 (o_im js ms n m cs c):=by
 intro ps r hh;unfold o_im at hh;split at hh
 ·simp only [vQZ,vQY] at hh;obtain ⟨hg,rfl⟩:=hh;obtain ⟨q,k,hc,hq,e⟩:=qJH hg;simp only [List.cons.injEq,PV.lf.injEq,and_true] at e;obtain ⟨rfl,rfl,rfl,rfl⟩:=e;exact snd_imp js ms _ n m _ cs c hc hq
 ·cases hh
theorem snd_cl2 (q:Nat→Int) (k:Nat) (h:1≤k∧k≤10):zH Tryz.prog 31 [.lf k (fQ q)] (.v (.lf k (fQ q))):=jYV (zHV q k h)
def hEu (q u:Nat→Int) (k l:Nat) (i:Int):St:=⟨[(0,.v (.lf k (fQ q))),(1,.v (.lf l (fQ u))),(12,.v (.n .i64 (k:Int))),(13,.v (.n .i64 i))],[]⟩
set_option maxRecDepth 100000 in
theorem rdEu (G:St→Option (Ret × Mem)) (K:Cont) (q u:Nat→Int) (k l:Nat) (i:Int):zKJ 60 (cxF T (OrL.k ([]:OrL)) 60 40 (ntmF T 40)) (ckF T (OrL.k ([]:OrL)) 60) (qY T 40 [0,1,0,1,1]) ((cxF T (OrL.k ([]:OrL)) 60 40 (ntmF T 40)).T.hint (cxF T (OrL.k ([]:OrL)) 60 40 (ntmF T 40)).me (zY (qY T 40 [0,1,0,1,1]))) K G (hEu q u k l i) =
 (bif (decide (i < (k:Int))) then (bif (inB i k) then (bif (inB i l) then (bif (!decide ((q (i).toNat)=(u (i).toNat))) then (K .ret ⟨[(4,.v (.b false))],[]⟩)
 else (G (hEu q u k l (vJJ .i64 (i + 1)))))
 else none)
 else none)
 else (K (.exit 0) ⟨[],[]⟩)):=by kernel_rfl
theorem lpEu (K:Cont) (q u:Nat→Int) (k l:Nat) (hk:k≤50) (hl:k=l):LF 60 (cxF T (OrL.k ([]:OrL)) 60 40 (ntmF T 40)) (ckF T (OrL.k ([]:OrL)) 60) (qY T 40 [0,1,0,1,1]) ((cxF T (OrL.k ([]:OrL)) 60 40 (ntmF T 40)).T.hint (cxF T (OrL.k ([]:OrL)) 60 40 (ntmF T 40)).me (zY (qY T 40 [0,1,0,1,1]))) K 60 (hEu q u k l 0)=bif (allN (fun i:Nat=>decide (q i=u i)) k 0) then (K (.exit 0) ⟨[],[]⟩) else (K .ret ⟨[(4,.v (.b false))],[]⟩):=by
 refine (zJV (c:=k) (hEu q u k l) (fun i:Nat=>decide (q i=u i)) (K (.exit 0) ⟨[],[]⟩) (fun i:Nat=>(K .ret ⟨[(4,.v (.b false))],[]⟩)) (fun G i hi => ?_) (fun G => ?_) k 0 60 (by omega) (by omega)).trans (qYJ _ _ _ _ _)
 ·refine (rdEu G K q u k l i).trans ?_;rw [vJQ (show (i:Int) < (k:Int) by omega),qQQ (by omega),yW (show i < k by omega),yW (show i < l by omega),toN];cases decide (q i=u i) <;> rfl
 ·refine (rdEu G K q u k l k).trans ?_;rw [vYH (show ¬ (k:Int) < (k:Int) by omega)];rfl
set_option maxRecDepth 100000 in
theorem pxeql (q u:Nat→Int) (k l:Nat):qYH T (OrL.k ([]:OrL)) (zZ [([0,1,0,1,1],jX (hEu q u k l 0) (fun K=>(bif (decide (k≤50) && decide (k=l)) then (bif (allN (fun i:Nat=>decide (q i=u i)) k 0) then (K (.exit 0) ⟨[],[]⟩) else (K .ret ⟨[(4,.v (.b false))],[]⟩)) else none)))]) 60 40 [.lf k (fQ q),.lf l (fQ u)] =
 (bif (!decide ((k:Int)=(l:Int))) then some (.v (.b false),[])
 else (bif (gSt (hEu q u k l 0) (hEu q u k l 0)) then (bif (decide (k≤50) && decide (k=l)) then (bif (allN (fun i:Nat=>decide (q i=u i)) k 0) then some (.v (.b true),[])
 else some (.v (.b false),[]))
 else none)
 else none)):=by kernel_rfl
theorem snd_eql (q u:Nat→Int) (k l:Nat) (hk:k≤50):zH Tryz.prog 40 [.lf k (fQ q),.lf l (fQ u)] (.v (.b (smB q u k l))):=by
 refine jV (N:=60) (LO:=zZ [([0,1,0,1,1],jX (hEu q u k l 0) (fun K=>(bif (decide (k≤50) && decide (k=l)) then (bif (allN (fun i:Nat=>decide (q i=u i)) k 0) then (K (.exit 0) ⟨[],[]⟩) else (K .ret ⟨[(4,.v (.b false))],[]⟩)) else none)))]) yJ yQ (OrL.ok (l:=([]:OrL)) trivial) (fun p S hp => ?_) ?_
 ·refine uY (L:=qY T 40) (l:=[([0,1,0,1,1],jX (hEu q u k l 0) (fun K=>(bif (decide (k≤50) && decide (k=l)) then (bif (allN (fun i:Nat=>decide (q i=u i)) k 0) then (K (.exit 0) ⟨[],[]⟩) else (K .ret ⟨[(4,.v (.b false))],[]⟩)) else none)))]) (show AllP _ [([0,1,0,1,1],jX (hEu q u k l 0) (fun K=>(bif (decide (k≤50) && decide (k=l)) then (bif (allN (fun i:Nat=>decide (q i=u i)) k 0) then (K (.exit 0) ⟨[],[]⟩) else (K .ret ⟨[(4,.v (.b false))],[]⟩)) else none)))] from ⟨qQU fun K r hr => ?_,trivial⟩) p S hp
  ·obtain ⟨hg,hr⟩:=qH hr;rw [vQJ] at hg;have hk:=vJZ hg.1;have hl:=vJZ hg.2;exact (lpEu K q u k l hk hl).trans hr
 ·refine (pxeql q u k l).trans ?_;unfold smB;by_cases e:k=l
  ·rw [yG,vJQ hk,vJQ e,vJQ (show (k:Int)=(l:Int) by omega)];cases (allN (fun i:Nat=>decide (q i=u i)) k 0) <;> rfl
  ·rw [vYH (show ¬ (k:Int)=(l:Int) by omega)];rfl
def uYG (ps:List PV):Prop:=∃ (q u:Nat→Int) (k l:Nat),k≤50∧ps=[.lf k (fQ q),.lf l (fQ u)]
noncomputable def uYJ:List PV→Option (Bool × Ret):=fun ps=>match ps with
 | [.lf k f,.lf l g]=>some (gP (uYG [.lf k f,.lf l g]),.v (.b (smB (unFQ f) (unFQ g) k l)))
 | _=>none
theorem ok_eq2:zW Tryz.prog 40 uYJ:=by
 intro ps r hh;unfold uYJ at hh;split at hh
 ·simp only [vQZ,vQY] at hh;obtain ⟨hg,rfl⟩:=hh;obtain ⟨q,u,k,l,hk,e⟩:=qJH hg;simp only [List.cons.injEq,PV.lf.injEq,and_true] at e;obtain ⟨⟨rfl,rfl⟩,rfl,rfl⟩:=e;exact snd_eql _ _ _ _ hk
 ·cases hh
noncomputable def orPa (js:Nat→J) (ms:Nat→Ms) (q:Nat→Int) (n m k:Nat) (cs:Nat→Cn) (c:Nat) (rs:Int):OrL:=[(27,o_cr [.a [.lf n (fJ js),.lf m (fM ms)],.lf c (fC cs)] (.v (.b (cErr js ms n m cs c)))),(28,o_cr [.a [.lf n (fJ js),.lf m (fM ms)],.lf k (fQ q)] (.v (.b (qIn js ms q n m k)))),(31,o_lk [.lf k (fQ q)] (decide (1≤k∧k≤10)) (.v (.lf k (fQ q)))),(30,o_bq),(29,o_hb js ms n m),(39,o_im js ms n m cs c),(40,uYJ)]
noncomputable def hPa (js:Nat→J) (ms:Nat→Ms) (q:Nat→Int) (n m k:Nat) (cs:Nat→Cn) (c:Nat) (rs:Int) (i:Int) (s:Int) (r:Nat) (p:Nat→Int):St:=⟨[(1,.v (.lf c (fC cs))),(2,.v (.lf r (fQ p))),(3,.v (.n .i64 rs)),(4,.p 4 0),(11,.v (.n .i64 s)),(40,.v (.lf c (fC cs))),(41,.v (.n .i64 (c:Int))),(42,.v (.n .i64 i))],[(4,.blk [.v (.lf n (fJ js)),.v (.lf m (fM ms))])]⟩
set_option maxRecDepth 100000 in
theorem rdPa (G:St→Option (Ret × Mem)) (K:Cont) (js:Nat→J) (ms:Nat→Ms) (q:Nat→Int) (n m k:Nat) (cs:Nat→Cn) (c:Nat) (rs:Int) (i:Int) (s:Int) (r:Nat) (p:Nat→Int):qZW 100 (cxF Tf (OrL.k (orPa js ms q n m k cs c rs)) 100 17 (ntmF Tf 17)) (ckF Tf (OrL.k (orPa js ms q n m k cs c rs)) 100) (zZ []) (qY Tf 17 [0,1,0,0,0,1,0,0,1,0,1,1,1,0,1]) [0,1,0,0,0,1,0,0,1,0,1,1,1,0,1] (Tf.hint 17 (zY (qY Tf 17 [0,1,0,0,0,1,0,0,1,0,1,1,1,0,1]))) K G (hPa js ms q n m k cs c rs i s r p) =
 (bif (decide (i < (c:Int))) then (bif (inB i c) then (bif (decide (r≤50) && gFQ (fQ p)) then (bif (gP (isHb js ms n m [.a [.lf n (fJ js),.lf m (fM ms)],.l [[.n .i64 (cs (i).toNat).kind,.n .i64 (cs (i).toNat).link,.n .i64 (cs (i).toNat).p.x,.n .i64 (cs (i).toNat).p.y,.n .i64 (cs (i).toNat).p.z,.n .i64 (cs (i).toNat).n.x,.n .i64 (cs (i).toNat).n.y,.n .i64 (cs (i).toNat).n.z,.n .i64 (cs (i).toNat).lo,.n .i64 (cs (i).toNat).hi]],.lf (bif smQ p r then r else 0) (fB (ptB p))])) then (bif (hQ js ms p n m r (cs (i).toNat)) then (G (hPa js ms q n m k cs c rs (vJJ .i64 (i + 1)) s r p))
 else (bif (decide (s=rs)) then (K (.exit 0) ⟨[(1,.v (.lf c (fC cs))),(2,.v (.lf r (fQ p))),(3,.v (.n .i64 rs)),(4,.p 4 0),(11,.v (.n .i64 s))],[(4,.blk [.v (.lf n (fJ js)),.v (.lf m (fM ms))])]⟩)
 else (bif (gP (isIm js ms n m cs c [.a [.lf n (fJ js),.lf m (fM ms)],.lf c (fC cs),.lf r (fQ p)])) then (bif (gP (uYG [.lf r (fQ (impQ js ms p n m r cs c)),.lf r (fQ p)])) then (bif (smB (impQ js ms p n m r cs c) p r r) then (K (.exit 0) ⟨[(1,.v (.lf c (fC cs))),(2,.v (.lf r (fQ p))),(3,.v (.n .i64 rs)),(4,.p 4 0),(11,.v (.n .i64 s))],[(4,.blk [.v (.lf n (fJ js)),.v (.lf m (fM ms))])]⟩)
 else (K (.exit 1) ⟨[(1,.v (.lf c (fC cs))),(2,.v (.lf r (fQ (impQ js ms p n m r cs c)))),(3,.v (.n .i64 rs)),(4,.p 4 0),(11,.v (.n .i64 s))],[(4,.blk [.v (.lf n (fJ js)),.v (.lf m (fM ms))])]⟩))
 else none)
 else none)))
 else none)
 else none)
 else none)
 else (K (.exit 2) ⟨[(1,.v (.lf c (fC cs))),(2,.v (.lf r (fQ p))),(3,.v (.n .i64 rs)),(4,.p 4 0),(11,.v (.n .i64 s))],[(4,.blk [.v (.lf n (fJ js)),.v (.lf m (fM ms))])]⟩)):=by kernel_rfl
theorem lpPa (K:Cont) (js:Nat→J) (ms:Nat→Ms) (q:Nat→Int) (n m k:Nat) (cs:Nat→Cn) (c:Nat) (rs:Int) (s:Int) (p:Nat→Int) (hc:cErr js ms n m cs c=true) (hq:qIn js ms p n m k=true):LFL 100 (cxF Tf (OrL.k (orPa js ms q n m k cs c rs)) 100 17 (ntmF Tf 17)) (ckF Tf (OrL.k (orPa js ms q n m k cs c rs)) 100) (zZ []) (qY Tf 17 [0,1,0,0,0,1,0,0,1,0,1,1,1,0,1]) [0,1,0,0,0,1,0,0,1,0,1,1,1,0,1] (Tf.hint 17 (zY (qY Tf 17 [0,1,0,0,0,1,0,0,1,0,1,1,1,0,1]))) K 100 (hPa js ms q n m k cs c rs 0 s k p)=(bif allH js ms p n m k cs c then (K (.exit 2) ⟨[(1,.v (.lf c (fC cs))),(2,.v (.lf k (fQ p))),(3,.v (.n .i64 rs)),(4,.p 4 0),(11,.v (.n .i64 s))],[(4,.blk [.v (.lf n (fJ js)),.v (.lf m (fM ms))])]⟩) else (bif decide (s=rs) then (K (.exit 0) ⟨[(1,.v (.lf c (fC cs))),(2,.v (.lf k (fQ p))),(3,.v (.n .i64 rs)),(4,.p 4 0),(11,.v (.n .i64 s))],[(4,.blk [.v (.lf n (fJ js)),.v (.lf m (fM ms))])]⟩) else bif smB (impQ js ms p n m k cs c) p k k then (K (.exit 0) ⟨[(1,.v (.lf c (fC cs))),(2,.v (.lf k (fQ p))),(3,.v (.n .i64 rs)),(4,.p 4 0),(11,.v (.n .i64 s))],[(4,.blk [.v (.lf n (fJ js)),.v (.lf m (fM ms))])]⟩) else (K (.exit 1) ⟨[(1,.v (.lf c (fC cs))),(2,.v (.lf k (fQ (impQ js ms p n m k cs c)))),(3,.v (.n .i64 rs)),(4,.p 4 0),(11,.v (.n .i64 s))],[(4,.blk [.v (.lf n (fJ js)),.v (.lf m (fM ms))])]⟩))):=by
 obtain ⟨h0,hn,_⟩:=qJK hq;have h10:=qXU h0;obtain ⟨_,h8,_⟩:=qWW hc;refine (qWK (L:=LFL 100 (cxF Tf (OrL.k (orPa js ms q n m k cs c rs)) 100 17 (ntmF Tf 17)) (ckF Tf (OrL.k (orPa js ms q n m k cs c rs)) 100) (zZ []) (qY Tf 17 [0,1,0,0,0,1,0,0,1,0,1,1,1,0,1]) [0,1,0,0,0,1,0,0,1,0,1,1,1,0,1] (Tf.hint 17 (zY (qY Tf 17 [0,1,0,0,0,1,0,0,1,0,1,1,1,0,1]))) K) (stp:=qZW 100 (cxF Tf (OrL.k (orPa js ms q n m k cs c rs)) 100 17 (ntmF Tf 17)) (ckF Tf (OrL.k (orPa js ms q n m k cs c rs)) 100) (zZ []) (qY Tf 17 [0,1,0,0,0,1,0,0,1,0,1,1,1,0,1]) [0,1,0,0,0,1,0,0,1,0,1,1,1,0,1] (Tf.hint 17 (zY (qY Tf 17 [0,1,0,0,0,1,0,0,1,0,1,1,1,0,1]))) K) (fun _ _=>rfl) (fun (i:Nat) (_:Unit)=>hPa js ms q n m k cs c rs (i:Int) s k p) (fun _ _=>True) (fun (i:Nat) _=>hQ js ms p n m k (cs i)) (fun _ _=>()) (c:=c) (fun _=>(K (.exit 2) ⟨[(1,.v (.lf c (fC cs))),(2,.v (.lf k (fQ p))),(3,.v (.n .i64 rs)),(4,.p 4 0),(11,.v (.n .i64 s))],[(4,.blk [.v (.lf n (fJ js)),.v (.lf m (fM ms))])]⟩)) (fun _ _=>(bif decide (s=rs) then (K (.exit 0) ⟨[(1,.v (.lf c (fC cs))),(2,.v (.lf k (fQ p))),(3,.v (.n .i64 rs)),(4,.p 4 0),(11,.v (.n .i64 s))],[(4,.blk [.v (.lf n (fJ js)),.v (.lf m (fM ms))])]⟩) else bif smB (impQ js ms p n m k cs c) p k k then (K (.exit 0) ⟨[(1,.v (.lf c (fC cs))),(2,.v (.lf k (fQ p))),(3,.v (.n .i64 rs)),(4,.p 4 0),(11,.v (.n .i64 s))],[(4,.blk [.v (.lf n (fJ js)),.v (.lf m (fM ms))])]⟩) else (K (.exit 1) ⟨[(1,.v (.lf c (fC cs))),(2,.v (.lf k (fQ (impQ js ms p n m k cs c)))),(3,.v (.n .i64 rs)),(4,.p 4 0),(11,.v (.n .i64 s))],[(4,.blk [.v (.lf n (fJ js)),.v (.lf m (fM ms))])]⟩))) (fun G i _ hi _ => ?_) (fun _ _ _ _ _=>trivial) (fun G _ _ => ?_) c 0 100 () (by omega) (by omega) trivial).trans ((yVJ _ _ _ _ _).trans (qYJ _ _ _ _ _))
 ·refine (rdPa G K js ms q n m k cs c rs i s k p).trans ?_;have hf:gFQ (fQ p)=true:=(zXQ rfl).1;have e1:gP (isHb js ms n m [.a [.lf n (fJ js),.lf m (fM ms)],.l [[.n .i64 (cs i).kind,.n .i64 (cs i).link,.n .i64 (cs i).p.x,.n .i64 (cs i).p.y,.n .i64 (cs i).p.z,.n .i64 (cs i).n.x,.n .i64 (cs i).n.y,.n .i64 (cs i).n.z,.n .i64 (cs i).lo,.n .i64 (cs i).hi]],.lf (bif smQ p k then k else 0) (fB (ptB p))])=true:=qWH ⟨ptB p,_,cs i,rfl⟩;have e2:gP (isIm js ms n m cs c [.a [.lf n (fJ js),.lf m (fM ms)],.lf c (fC cs),.lf k (fQ p)])=true:=qWH ⟨p,k,hc,hq,rfl⟩;have e3:gP (uYG [.lf k (fQ (impQ js ms p n m k cs c)),.lf k (fQ p)])=true:=qWH ⟨_,_,k,k,by omega,rfl⟩;simp only [vJQ (show (i:Int) < (c:Int) by omega),qQQ (show i < 1000000 by omega),yW (show i < c by omega),toN,vYV,vJQ (show k≤50 by omega),hf,vZJ];rw [e1,e2,e3,vYV];rfl
 ·refine (rdPa G K js ms q n m k cs c rs c s k p).trans ?_;rw [vYH (show ¬ (c:Int) < (c:Int) by omega)];rfl
noncomputable def lfI (σ:St) (k:Nat):Nat→Int:=match qYV σ.S k with
 | some (.v (.lf _ f))=>unFQ f
 | _=>fun _=>0
theorem okPa (js:Nat→J) (ms:Nat→Ms) (q:Nat→Int) (n m k:Nat) (cs:Nat→Cn) (c:Nat) (rs:Int):∀ p S,zZ [([0,1,0,0,0,1,0,0,1,0,1,1,1,0,1],sumF (fun t:Int × (Nat→Int)=>(hPa js ms q n m k cs c rs 0 t.1 k t.2)) (fun σ=>(slI σ 11,lfI σ 2)) (fun t K=>(bif (cErr js ms n m cs c && qIn js ms t.2 n m k) then (bif allH js ms t.2 n m k cs c then (K (.exit 2) ⟨[(1,.v (.lf c (fC cs))),(2,.v (.lf k (fQ t.2))),(3,.v (.n .i64 rs)),(4,.p 4 0),(11,.v (.n .i64 t.1))],[(4,.blk [.v (.lf n (fJ js)),.v (.lf m (fM ms))])]⟩) else (bif decide (t.1=rs) then (K (.exit 0) ⟨[(1,.v (.lf c (fC cs))),(2,.v (.lf k (fQ t.2))),(3,.v (.n .i64 rs)),(4,.p 4 0),(11,.v (.n .i64 t.1))],[(4,.blk [.v (.lf n (fJ js)),.v (.lf m (fM ms))])]⟩) else bif smB (impQ js ms t.2 n m k cs c) t.2 k k then (K (.exit 0) ⟨[(1,.v (.lf c (fC cs))),(2,.v (.lf k (fQ t.2))),(3,.v (.n .i64 rs)),(4,.p 4 0),(11,.v (.n .i64 t.1))],[(4,.blk [.v (.lf n (fJ js)),.v (.lf m (fM ms))])]⟩) else (K (.exit 1) ⟨[(1,.v (.lf c (fC cs))),(2,.v (.lf k (fQ (impQ js ms t.2 n m k cs c)))),(3,.v (.n .i64 rs)),(4,.p 4 0),(11,.v (.n .i64 t.1))],[(4,.blk [.v (.lf n (fJ js)),.v (.lf m (fM ms))])]⟩))) else none)))] p=some S→qGY 100 (cxF Tf (OrL.k (orPa js ms q n m k cs c rs)) 100 17 (ntmF Tf 17)) (qY Tf 17 p) S:=fun p S hp=>by
 refine kV (L:=qY Tf 17) (l:=[([0,1,0,0,0,1,0,0,1,0,1,1,1,0,1],sumF (fun t:Int × (Nat→Int)=>(hPa js ms q n m k cs c rs 0 t.1 k t.2)) (fun σ=>(slI σ 11,lfI σ 2)) (fun t K=>(bif (cErr js ms n m cs c && qIn js ms t.2 n m k) then (bif allH js ms t.2 n m k cs c then (K (.exit 2) ⟨[(1,.v (.lf c (fC cs))),(2,.v (.lf k (fQ t.2))),(3,.v (.n .i64 rs)),(4,.p 4 0),(11,.v (.n .i64 t.1))],[(4,.blk [.v (.lf n (fJ js)),.v (.lf m (fM ms))])]⟩) else (bif decide (t.1=rs) then (K (.exit 0) ⟨[(1,.v (.lf c (fC cs))),(2,.v (.lf k (fQ t.2))),(3,.v (.n .i64 rs)),(4,.p 4 0),(11,.v (.n .i64 t.1))],[(4,.blk [.v (.lf n (fJ js)),.v (.lf m (fM ms))])]⟩) else bif smB (impQ js ms t.2 n m k cs c) t.2 k k then (K (.exit 0) ⟨[(1,.v (.lf c (fC cs))),(2,.v (.lf k (fQ t.2))),(3,.v (.n .i64 rs)),(4,.p 4 0),(11,.v (.n .i64 t.1))],[(4,.blk [.v (.lf n (fJ js)),.v (.lf m (fM ms))])]⟩) else (K (.exit 1) ⟨[(1,.v (.lf c (fC cs))),(2,.v (.lf k (fQ (impQ js ms t.2 n m k cs c)))),(3,.v (.n .i64 rs)),(4,.p 4 0),(11,.v (.n .i64 t.1))],[(4,.blk [.v (.lf n (fJ js)),.v (.lf m (fM ms))])]⟩))) else none)))]) ⟨?_,trivial⟩ p S hp;dsimp only;refine qZH (T:=Tf) (ok:=(OrL.k (orPa js ms q n m k cs c rs))) (f:=17) (LO:=zZ []) (p:=[0,1,0,0,0,1,0,0,1,0,1,1,1,0,1]) qJG ?_;intro t K r hr;obtain ⟨hg,hr⟩:=qH hr;rw [vQJ] at hg;exact (lpPa K js ms q n m k cs c rs t.1 t.2 hg.1 hg.2).trans hr
noncomputable def hPo (js:Nat→J) (ms:Nat→Ms) (q:Nat→Int) (n m k:Nat) (cs:Nat→Cn) (c:Nat) (rs:Int) (s:Int) (p:Nat→Int):St:=⟨[(1,.v (.lf c (fC cs))),(2,.v (.lf k (fQ p))),(3,.v (.n .i64 rs)),(4,.p 4 0),(11,.v (.n .i64 s))],[(4,.blk [.v (.lf n (fJ js)),.v (.lf m (fM ms))])]⟩
set_option maxRecDepth 100000 in
theorem rdPo (G:St→Option (Ret × Mem)) (K:Cont) (js:Nat→J) (ms:Nat→Ms) (q:Nat→Int) (n m k:Nat) (cs:Nat→Cn) (c:Nat) (rs:Int) (s:Int) (p:Nat→Int):qZW 100 (cxF Tf (OrL.k (orPa js ms q n m k cs c rs)) 100 17 (ntmF Tf 17)) (ckF Tf (OrL.k (orPa js ms q n m k cs c rs)) 100) (zZ [([0,1,0,0,0,1,0,0,1,0,1,1,1,0,1],sumF (fun t:Int × (Nat→Int)=>(hPa js ms q n m k cs c rs 0 t.1 k t.2)) (fun σ=>(slI σ 11,lfI σ 2)) (fun t K=>(bif (cErr js ms n m cs c && qIn js ms t.2 n m k) then (bif allH js ms t.2 n m k cs c then (K (.exit 2) ⟨[(1,.v (.lf c (fC cs))),(2,.v (.lf k (fQ t.2))),(3,.v (.n .i64 rs)),(4,.p 4 0),(11,.v (.n .i64 t.1))],[(4,.blk [.v (.lf n (fJ js)),.v (.lf m (fM ms))])]⟩) else (bif decide (t.1=rs) then (K (.exit 0) ⟨[(1,.v (.lf c (fC cs))),(2,.v (.lf k (fQ t.2))),(3,.v (.n .i64 rs)),(4,.p 4 0),(11,.v (.n .i64 t.1))],[(4,.blk [.v (.lf n (fJ js)),.v (.lf m (fM ms))])]⟩) else bif smB (impQ js ms t.2 n m k cs c) t.2 k k then (K (.exit 0) ⟨[(1,.v (.lf c (fC cs))),(2,.v (.lf k (fQ t.2))),(3,.v (.n .i64 rs)),(4,.p 4 0),(11,.v (.n .i64 t.1))],[(4,.blk [.v (.lf n (fJ js)),.v (.lf m (fM ms))])]⟩) else (K (.exit 1) ⟨[(1,.v (.lf c (fC cs))),(2,.v (.lf k (fQ (impQ js ms t.2 n m k cs c)))),(3,.v (.n .i64 rs)),(4,.p 4 0),(11,.v (.n .i64 t.1))],[(4,.blk [.v (.lf n (fJ js)),.v (.lf m (fM ms))])]⟩))) else none)))]) (qY Tf 17 [0,1,0,1,1,1,0,1]) [0,1,0,1,1,1,0,1] (Tf.hint 17 (zY (qY Tf 17 [0,1,0,1,1,1,0,1]))) K G (hPo js ms q n m k cs c rs s p) =
 (bif (decide (s≤rs)) then (bif (gSt (hPa js ms q n m k cs c rs 0 s k p) (hPa js ms q n m k cs c rs 0 s k p)) then (bif (cErr js ms n m cs c && qIn js ms p n m k) then (bif (allH js ms p n m k cs c) then (K .ret ⟨[(3,.v (.n .i64 rs)),(8,.v (.lf k (fQ p))),(9,.v (.n .i64 s)),(10,.v (.b true))],[]⟩)
 else (bif (decide (s=rs)) then (K (.exit 0) ⟨[(3,.v (.n .i64 rs))],[]⟩)
 else (bif (smB (impQ js ms p n m k cs c) p k k) then (K (.exit 0) ⟨[(3,.v (.n .i64 rs))],[]⟩)
 else (G (hPo js ms q n m k cs c rs (vJJ .i64 (s + 1)) (impQ js ms p n m k cs c))))))
 else none)
 else none)
 else (K (.exit 0) ⟨[(3,.v (.n .i64 rs))],[]⟩)):=by kernel_rfl
noncomputable def prj (js:Nat→J) (ms:Nat→Ms) (n m k:Nat) (cs:Nat→Cn) (c:Nat):Nat→Nat→(Nat→Int)→Option (Nat × (Nat→Int))
 | 0,j,p=>bif allH js ms p n m k cs c then some (j,p) else none
 | r + 1,j,p=>bif allH js ms p n m k cs c then some (j,p) else prj js ms n m k cs c r (j + 1) (impQ js ms p n m k cs c)
theorem prj_stuck {js:Nat→J} {ms:Nat→Ms} {n m k:Nat} {cs:Nat→Cn} {c:Nat} {p:Nat→Int} (h:allH js ms p n m k cs c=false) (e:impQ js ms p n m k cs c=p):∀ r j,prj js ms n m k cs c r j p=none
 | 0,j=>by rw [prj,h]; rfl
 | r + 1,j=>by
  rw [prj,h,vYG,e];exact prj_stuck h e r (j + 1)
theorem iterS_inv {τ:Type} {nx:Nat→τ→τ} {Q:Nat→τ→Prop} {c:Nat} (h:∀ i s,i < c→Q i s→Q (i + 1) (nx i s)):∀ r p s,p + r=c→Q p s→Q c (zWY nx r p s)
 | 0,p,s,hp,hq=>by
  obtain rfl:p=c:=by omega
  exact hq
 | r + 1,p,s,hp,hq=>iterS_inv h r (p + 1) (nx p s) (by omega) (h p s (by omega) hq)
theorem jVZ {js:Nat→J} {ms:Nat→Ms} {p:Nat→Int} {n m k:Nat} {cs:Nat→Cn} {c:Nat} (hc:cErr js ms n m cs c=true) (hq:qIn js ms p n m k=true) (hn:nrm' k p=p):qIn js ms (impQ js ms p n m k cs c) n m k=true∧nrm' k (impQ js ms p n m k cs c)=impQ js ms p n m k cs c :=
 iterS_inv (Q:=fun _ p=>qIn js ms p n m k=true∧nrm' k p=p) (c:=c) (fun i s hi h=>⟨kXX (jWX hc h.1 hi),nrm_idem _ _⟩) c 0 p (by omega) ⟨hq,hn⟩
theorem smB_eq {k:Nat} {p u:Nat→Int} (h:smB p u k k=true) (hp:nrm' k p=p) (hu:nrm' k u=u):p=u:=by
 unfold smB at h;rw [vQJ] at h;rw [← hp,← hu];exact nrm_ext fun i hi=>vJZ (allN_iff.1 h.2 i (Nat.zero_le _) (by omega))
noncomputable def dcP (js:Nat→J) (ms:Nat→Ms) (n m k:Nat) (cs:Nat→Cn) (c N:Nat):Nat × (Nat→Int)→(Nat × (Nat→Int)) ⊕ Option (Nat × (Nat→Int)):=fun x =>
 match allH js ms x.2 n m k cs c,decide (x.1=N),smB (impQ js ms x.2 n m k cs c) x.2 k k with
 | true,_,_=>.inr (some x)
 | false,true,_=>.inr none
 | false,false,true=>.inr none
 | false,false,false=>.inl (x.1 + 1,impQ js ms x.2 n m k cs c)
theorem iter_P {js:Nat→J} {ms:Nat→Ms} {n m k:Nat} {cs:Nat→Cn} {c N:Nat} (hc:cErr js ms n m cs c=true):∀ r j f p,j + r=N→r < f→qIn js ms p n m k=true→nrm' k p=p→yQG (dcP js ms n m k cs c N) f (j,p)=some (prj js ms n m k cs c r j p)
 | 0,j,f + 1,p,hj,_,hq,hn=>by
  rw [yQG,prj];unfold dcP;dsimp only;rw [vJQ (show j=N by omega)];cases allH js ms p n m k cs c <;> rfl
 | r + 1,j,f + 1,p,hj,hf,hq,hn=>by
  obtain ⟨h1,h2⟩:=jVZ hc hq hn;rw [yQG,prj];unfold dcP;dsimp only;rw [vYH (show ¬ j=N by omega)];cases h:allH js ms p n m k cs c with
  | true=>rfl
  | false =>
   cases e:smB (impQ js ms p n m k cs c) p k k with
   | true =>
    show some none=some _;rw [vYG,smB_eq e h2 hn,prj_stuck h (smB_eq e h2 hn)]
   | false=>exact iter_P hc r (j + 1) f _ (by omega) (by omega) h1 h2
theorem lpPo (K:Cont) (js:Nat→J) (ms:Nat→Ms) (q:Nat→Int) (n m k:Nat) (cs:Nat→Cn) (c:Nat) (rs:Int) (hc:cErr js ms n m cs c=true) (hq:qIn js ms q n m k=true) (hn:nrm' k q=q) (hr:0≤rs∧rs≤64):LFL 100 (cxF Tf (OrL.k (orPa js ms q n m k cs c rs)) 100 17 (ntmF Tf 17)) (ckF Tf (OrL.k (orPa js ms q n m k cs c rs)) 100) (zZ [([0,1,0,0,0,1,0,0,1,0,1,1,1,0,1],sumF (fun t:Int × (Nat→Int)=>(hPa js ms q n m k cs c rs 0 t.1 k t.2)) (fun σ=>(slI σ 11,lfI σ 2)) (fun t K=>(bif (cErr js ms n m cs c && qIn js ms t.2 n m k) then (bif allH js ms t.2 n m k cs c then (K (.exit 2) ⟨[(1,.v (.lf c (fC cs))),(2,.v (.lf k (fQ t.2))),(3,.v (.n .i64 rs)),(4,.p 4 0),(11,.v (.n .i64 t.1))],[(4,.blk [.v (.lf n (fJ js)),.v (.lf m (fM ms))])]⟩) else (bif decide (t.1=rs) then (K (.exit 0) ⟨[(1,.v (.lf c (fC cs))),(2,.v (.lf k (fQ t.2))),(3,.v (.n .i64 rs)),(4,.p 4 0),(11,.v (.n .i64 t.1))],[(4,.blk [.v (.lf n (fJ js)),.v (.lf m (fM ms))])]⟩) else bif smB (impQ js ms t.2 n m k cs c) t.2 k k then (K (.exit 0) ⟨[(1,.v (.lf c (fC cs))),(2,.v (.lf k (fQ t.2))),(3,.v (.n .i64 rs)),(4,.p 4 0),(11,.v (.n .i64 t.1))],[(4,.blk [.v (.lf n (fJ js)),.v (.lf m (fM ms))])]⟩) else (K (.exit 1) ⟨[(1,.v (.lf c (fC cs))),(2,.v (.lf k (fQ (impQ js ms t.2 n m k cs c)))),(3,.v (.n .i64 rs)),(4,.p 4 0),(11,.v (.n .i64 t.1))],[(4,.blk [.v (.lf n (fJ js)),.v (.lf m (fM ms))])]⟩))) else none)))]) (qY Tf 17 [0,1,0,1,1,1,0,1]) [0,1,0,1,1,1,0,1] (Tf.hint 17 (zY (qY Tf 17 [0,1,0,1,1,1,0,1]))) K 100 (hPo js ms q n m k cs c rs 0 q)=(match prj js ms n m k cs c rs.toNat 0 q with | some x=>(K .ret ⟨[(3,.v (.n .i64 rs)),(8,.v (.lf k (fQ x.2))),(9,.v (.n .i64 (x.1:Int))),(10,.v (.b true))],[]⟩) | none=>(K (.exit 0) ⟨[(3,.v (.n .i64 rs))],[]⟩)):=by
 have hN:(rs.toNat:Int)=rs:=by omega
 have h:=jWG (L:=LFL 100 (cxF Tf (OrL.k (orPa js ms q n m k cs c rs)) 100 17 (ntmF Tf 17)) (ckF Tf (OrL.k (orPa js ms q n m k cs c rs)) 100) (zZ [([0,1,0,0,0,1,0,0,1,0,1,1,1,0,1],sumF (fun t:Int × (Nat→Int)=>(hPa js ms q n m k cs c rs 0 t.1 k t.2)) (fun σ=>(slI σ 11,lfI σ 2)) (fun t K=>(bif (cErr js ms n m cs c && qIn js ms t.2 n m k) then (bif allH js ms t.2 n m k cs c then (K (.exit 2) ⟨[(1,.v (.lf c (fC cs))),(2,.v (.lf k (fQ t.2))),(3,.v (.n .i64 rs)),(4,.p 4 0),(11,.v (.n .i64 t.1))],[(4,.blk [.v (.lf n (fJ js)),.v (.lf m (fM ms))])]⟩) else (bif decide (t.1=rs) then (K (.exit 0) ⟨[(1,.v (.lf c (fC cs))),(2,.v (.lf k (fQ t.2))),(3,.v (.n .i64 rs)),(4,.p 4 0),(11,.v (.n .i64 t.1))],[(4,.blk [.v (.lf n (fJ js)),.v (.lf m (fM ms))])]⟩) else bif smB (impQ js ms t.2 n m k cs c) t.2 k k then (K (.exit 0) ⟨[(1,.v (.lf c (fC cs))),(2,.v (.lf k (fQ t.2))),(3,.v (.n .i64 rs)),(4,.p 4 0),(11,.v (.n .i64 t.1))],[(4,.blk [.v (.lf n (fJ js)),.v (.lf m (fM ms))])]⟩) else (K (.exit 1) ⟨[(1,.v (.lf c (fC cs))),(2,.v (.lf k (fQ (impQ js ms t.2 n m k cs c)))),(3,.v (.n .i64 rs)),(4,.p 4 0),(11,.v (.n .i64 t.1))],[(4,.blk [.v (.lf n (fJ js)),.v (.lf m (fM ms))])]⟩))) else none)))]) (qY Tf 17 [0,1,0,1,1,1,0,1]) [0,1,0,1,1,1,0,1] (Tf.hint 17 (zY (qY Tf 17 [0,1,0,1,1,1,0,1]))) K) (stp:=qZW 100 (cxF Tf (OrL.k (orPa js ms q n m k cs c rs)) 100 17 (ntmF Tf 17)) (ckF Tf (OrL.k (orPa js ms q n m k cs c rs)) 100) (zZ [([0,1,0,0,0,1,0,0,1,0,1,1,1,0,1],sumF (fun t:Int × (Nat→Int)=>(hPa js ms q n m k cs c rs 0 t.1 k t.2)) (fun σ=>(slI σ 11,lfI σ 2)) (fun t K=>(bif (cErr js ms n m cs c && qIn js ms t.2 n m k) then (bif allH js ms t.2 n m k cs c then (K (.exit 2) ⟨[(1,.v (.lf c (fC cs))),(2,.v (.lf k (fQ t.2))),(3,.v (.n .i64 rs)),(4,.p 4 0),(11,.v (.n .i64 t.1))],[(4,.blk [.v (.lf n (fJ js)),.v (.lf m (fM ms))])]⟩) else (bif decide (t.1=rs) then (K (.exit 0) ⟨[(1,.v (.lf c (fC cs))),(2,.v (.lf k (fQ t.2))),(3,.v (.n .i64 rs)),(4,.p 4 0),(11,.v (.n .i64 t.1))],[(4,.blk [.v (.lf n (fJ js)),.v (.lf m (fM ms))])]⟩) else bif smB (impQ js ms t.2 n m k cs c) t.2 k k then (K (.exit 0) ⟨[(1,.v (.lf c (fC cs))),(2,.v (.lf k (fQ t.2))),(3,.v (.n .i64 rs)),(4,.p 4 0),(11,.v (.n .i64 t.1))],[(4,.blk [.v (.lf n (fJ js)),.v (.lf m (fM ms))])]⟩) else (K (.exit 1) ⟨[(1,.v (.lf c (fC cs))),(2,.v (.lf k (fQ (impQ js ms t.2 n m k cs c)))),(3,.v (.n .i64 rs)),(4,.p 4 0),(11,.v (.n .i64 t.1))],[(4,.blk [.v (.lf n (fJ js)),.v (.lf m (fM ms))])]⟩))) else none)))]) (qY Tf 17 [0,1,0,1,1,1,0,1]) [0,1,0,1,1,1,0,1] (Tf.hint 17 (zY (qY Tf 17 [0,1,0,1,1,1,0,1]))) K) (fun _ _=>rfl) (fun _=>rfl) (fun x:Nat × (Nat→Int)=>hPo js ms q n m k cs c rs (x.1:Int) x.2) (fun x=>qIn js ms x.2 n m k=true∧nrm' k x.2=x.2∧x.1≤rs.toNat) (dcP js ms n m k cs c rs.toNat) (fun y=>match y with | some x=>(K .ret ⟨[(3,.v (.n .i64 rs)),(8,.v (.lf k (fQ x.2))),(9,.v (.n .i64 (x.1:Int))),(10,.v (.b true))],[]⟩) | none=>(K (.exit 0) ⟨[(3,.v (.n .i64 rs))],[]⟩)) (fun G x hx => ?_) (fun x y hx hd => ?_) 100 (0,q) ⟨hq,hn,Nat.zero_le _⟩
 ·refine h.trans ?_;rw [iter_P hc rs.toNat 0 100 q (by omega) (by omega) hq hn];rfl
 ·obtain ⟨j,p⟩:=x;obtain ⟨h1,h2,h3⟩:=hx;refine (rdPo G K js ms q n m k cs c rs j p).trans ?_;dsimp only at h1 h2 h3;rw [vJQ (show (j:Int)≤rs by omega),vYV,yG,vYV,hc,h1];unfold dcP;dsimp only;by_cases e:j=rs.toNat
  ·rw [vJQ e,vJQ (show (j:Int)=rs by omega)];cases allH js ms p n m k cs c <;> rfl
  ·rw [vYH e,vYH (show ¬ (j:Int)=rs by omega),qQQ (show j < 1000000 by omega)];cases allH js ms p n m k cs c <;> cases smB (impQ js ms p n m k cs c) p k k <;> rfl
 ·obtain ⟨j,p⟩:=x;obtain ⟨h1,h2,h3⟩:=hx;unfold dcP at hd;dsimp only at h1 h2 h3 hd;split at hd
  ·cases hd
  ·cases hd
  ·cases hd
  ·rename_i hx hy hz;cases hd
   have:=vJY hy
   exact ⟨(jVZ hc h1 h2).1,(jVZ hc h1 h2).2,by show j + 1≤_; omega⟩
noncomputable def pjO (js:Nat→J) (ms:Nat→Ms) (q:Nat→Int) (n m k:Nat) (cs:Nat→Cn) (c:Nat) (rs:Int):Bool:=(prj js ms n m k cs c rs.toNat 0 q).isSome
noncomputable def pjJ (js:Nat→J) (ms:Nat→Ms) (q:Nat→Int) (n m k:Nat) (cs:Nat→Cn) (c:Nat) (rs:Int):Int:=match prj js ms n m k cs c rs.toNat 0 q with
 | some x=>(x.1:Int)
 | none=>0
noncomputable def pjP (js:Nat→J) (ms:Nat→Ms) (q:Nat→Int) (n m k:Nat) (cs:Nat→Cn) (c:Nat) (rs:Int):Nat→Int:=match prj js ms n m k cs c rs.toNat 0 q with
 | some x=>x.2
 | none=>fun _=>0
theorem lpPo' (K:Cont) (js:Nat→J) (ms:Nat→Ms) (q:Nat→Int) (n m k:Nat) (cs:Nat→Cn) (c:Nat) (rs:Int) (hc:cErr js ms n m cs c=true) (hq:qIn js ms q n m k=true) (hn:nrm' k q=q) (hr:0≤rs∧rs≤64):LFL 100 (cxF Tf (OrL.k (orPa js ms q n m k cs c rs)) 100 17 (ntmF Tf 17)) (ckF Tf (OrL.k (orPa js ms q n m k cs c rs)) 100) (zZ [([0,1,0,0,0,1,0,0,1,0,1,1,1,0,1],sumF (fun t:Int × (Nat→Int)=>(hPa js ms q n m k cs c rs 0 t.1 k t.2)) (fun σ=>(slI σ 11,lfI σ 2)) (fun t K=>(bif (cErr js ms n m cs c && qIn js ms t.2 n m k) then (bif allH js ms t.2 n m k cs c then (K (.exit 2) ⟨[(1,.v (.lf c (fC cs))),(2,.v (.lf k (fQ t.2))),(3,.v (.n .i64 rs)),(4,.p 4 0),(11,.v (.n .i64 t.1))],[(4,.blk [.v (.lf n (fJ js)),.v (.lf m (fM ms))])]⟩) else (bif decide (t.1=rs) then (K (.exit 0) ⟨[(1,.v (.lf c (fC cs))),(2,.v (.lf k (fQ t.2))),(3,.v (.n .i64 rs)),(4,.p 4 0),(11,.v (.n .i64 t.1))],[(4,.blk [.v (.lf n (fJ js)),.v (.lf m (fM ms))])]⟩) else bif smB (impQ js ms t.2 n m k cs c) t.2 k k then (K (.exit 0) ⟨[(1,.v (.lf c (fC cs))),(2,.v (.lf k (fQ t.2))),(3,.v (.n .i64 rs)),(4,.p 4 0),(11,.v (.n .i64 t.1))],[(4,.blk [.v (.lf n (fJ js)),.v (.lf m (fM ms))])]⟩) else (K (.exit 1) ⟨[(1,.v (.lf c (fC cs))),(2,.v (.lf k (fQ (impQ js ms t.2 n m k cs c)))),(3,.v (.n .i64 rs)),(4,.p 4 0),(11,.v (.n .i64 t.1))],[(4,.blk [.v (.lf n (fJ js)),.v (.lf m (fM ms))])]⟩))) else none)))]) (qY Tf 17 [0,1,0,1,1,1,0,1]) [0,1,0,1,1,1,0,1] (Tf.hint 17 (zY (qY Tf 17 [0,1,0,1,1,1,0,1]))) K 100 (hPo js ms q n m k cs c rs 0 q)=bif pjO js ms q n m k cs c rs then (K .ret ⟨[(3,.v (.n .i64 rs)),(8,.v (.lf k (fQ (pjP js ms q n m k cs c rs)))),(9,.v (.n .i64 (pjJ js ms q n m k cs c rs))),(10,.v (.b true))],[]⟩) else (K (.exit 0) ⟨[(3,.v (.n .i64 rs))],[]⟩):=by
 rw [lpPo K js ms q n m k cs c rs hc hq hn hr];unfold pjO pjJ pjP;cases prj js ms n m k cs c rs.toNat 0 q <;> rfl
noncomputable def kJG (js:Nat→J) (ms:Nat→Ms) (q:Nat→Int) (n m k:Nat) (cs:Nat→Cn) (c:Nat) (rs:Int):List (List Nat × qKX):=[([0,1,0,1,1,1,0,1],sumF (fun _:Unit=>(hPo js ms q n m k cs c rs 0 q)) (fun _=>()) (fun _ K=>(bif (gP (cErr js ms n m cs c=true∧qIn js ms q n m k=true∧nrm' k q=q∧0≤rs∧rs≤64)) then (bif pjO js ms q n m k cs c rs then (K .ret ⟨[(3,.v (.n .i64 rs)),(8,.v (.lf k (fQ (pjP js ms q n m k cs c rs)))),(9,.v (.n .i64 (pjJ js ms q n m k cs c rs))),(10,.v (.b true))],[]⟩) else (K (.exit 0) ⟨[(3,.v (.n .i64 rs))],[]⟩)) else none)))]
set_option maxRecDepth 100000 in
theorem pxprj0 (js:Nat→J) (ms:Nat→Ms) (q:Nat→Int) (n m k:Nat) (cs:Nat→Cn) (c:Nat) (rs:Int):qYH Tf (OrL.k (orPa js ms q n m k cs c rs)) (zZ (kJG js ms q n m k cs c rs)) 100 17 [.a [.lf n (fJ js),.lf m (fM ms)],.lf c (fC cs),.lf k (fQ q),.n .i64 rs] =
 (bif (g1 [.a [.lf n (fJ js),.lf m (fM ms)],.lf c (fC cs)]) then (bif (cErr js ms n m cs c) then (bif (g1 [.a [.lf n (fJ js),.lf m (fM ms)],.lf k (fQ q)]) then (bif (qIn js ms q n m k) then (bif (decide (rs < 0)) then some (.v (.t [.l [],.n .i64 0,.b false]),[])
 else (bif (decide (64 < rs)) then some (.v (.t [.l [],.n .i64 0,.b false]),[])
 else (bif (g1 [.lf k (fQ q)] && decide (1≤k∧k≤10)) then (bif (gSt (hPo js ms q n m k cs c rs 0 q) (hPo js ms q n m k cs c rs 0 q)) then (bif (gP (cErr js ms n m cs c=true∧qIn js ms q n m k=true∧nrm' k q=q∧0≤rs∧rs≤64)) then (bif (pjO js ms q n m k cs c rs) then some (.v (.t [.lf k (fQ (pjP js ms q n m k cs c rs)),.n .i64 (pjJ js ms q n m k cs c rs),.b true]),[])
 else some (.v (.t [.l [],.n .i64 rs,.b false]),[]))
 else none)
 else none)
 else none)))
 else some (.v (.t [.l [],.n .i64 0,.b false]),[]))
 else none)
 else some (.v (.t [.l [],.n .i64 0,.b false]),[]))
 else none):=by kernel_rfl
theorem snd_prj0 (js:Nat→J) (ms:Nat→Ms) (q:Nat→Int) (n m k:Nat) (cs:Nat→Cn) (c:Nat) (rs:Int) (hn:nrm' k q=q):zH Tryz.prog 17 [.a [.lf n (fJ js),.lf m (fM ms)],.lf c (fC cs),.lf k (fQ q),.n .i64 rs] (bif (cErr js ms n m cs c && qIn js ms q n m k) && decide (0≤rs∧rs≤64) then (bif pjO js ms q n m k cs c rs then .v (.t [.lf k (fQ (pjP js ms q n m k cs c rs)),.n .i64 (pjJ js ms q n m k cs c rs),.b true]) else .v (.t [.l [],.n .i64 rs,.b false])) else .v (.t [.l [],.n .i64 0,.b false])):=by
 refine kX (N:=100) (LO:=zZ (kJG js ms q n m k cs c rs)) qVU yQ (OrL.ok (l:=(orPa js ms q n m k cs c rs)) ⟨qZX (kYV js ms n m cs c),qZX (jGV js ms q n m k),qXG (fun h=>snd_cl2 q k (vJZ h)),ok_bq,ok_hb js ms n m,ok_im js ms n m cs c,ok_eq2,trivial⟩) (fun p S hp => ?_) ?_
 ·refine kV (L:=qY Tf 17) (l:=(kJG js ms q n m k cs c rs)) (show AllP _ (kJG js ms q n m k cs c rs) from ⟨?_,trivial⟩) p S hp
  ·dsimp only;refine qZH (T:=Tf) (ok:=(OrL.k (orPa js ms q n m k cs c rs))) (f:=17) (LO:=(zZ [([0,1,0,0,0,1,0,0,1,0,1,1,1,0,1],sumF (fun t:Int × (Nat→Int)=>(hPa js ms q n m k cs c rs 0 t.1 k t.2)) (fun σ=>(slI σ 11,lfI σ 2)) (fun t K=>(bif (cErr js ms n m cs c && qIn js ms t.2 n m k) then (bif allH js ms t.2 n m k cs c then (K (.exit 2) ⟨[(1,.v (.lf c (fC cs))),(2,.v (.lf k (fQ t.2))),(3,.v (.n .i64 rs)),(4,.p 4 0),(11,.v (.n .i64 t.1))],[(4,.blk [.v (.lf n (fJ js)),.v (.lf m (fM ms))])]⟩) else (bif decide (t.1=rs) then (K (.exit 0) ⟨[(1,.v (.lf c (fC cs))),(2,.v (.lf k (fQ t.2))),(3,.v (.n .i64 rs)),(4,.p 4 0),(11,.v (.n .i64 t.1))],[(4,.blk [.v (.lf n (fJ js)),.v (.lf m (fM ms))])]⟩) else bif smB (impQ js ms t.2 n m k cs c) t.2 k k then (K (.exit 0) ⟨[(1,.v (.lf c (fC cs))),(2,.v (.lf k (fQ t.2))),(3,.v (.n .i64 rs)),(4,.p 4 0),(11,.v (.n .i64 t.1))],[(4,.blk [.v (.lf n (fJ js)),.v (.lf m (fM ms))])]⟩) else (K (.exit 1) ⟨[(1,.v (.lf c (fC cs))),(2,.v (.lf k (fQ (impQ js ms t.2 n m k cs c)))),(3,.v (.n .i64 rs)),(4,.p 4 0),(11,.v (.n .i64 t.1))],[(4,.blk [.v (.lf n (fJ js)),.v (.lf m (fM ms))])]⟩))) else none)))])) (p:=[0,1,0,1,1,1,0,1]) (okPa js ms q n m k cs c rs) ?_;intro _ K r hr;obtain ⟨hg,hr⟩:=qH hr;have hg:=qJH hg;exact (lpPo' K js ms q n m k cs c rs hg.1 hg.2.1 hg.2.2.1 hg.2.2.2).trans hr
 ·refine (pxprj0 js ms q n m k cs c rs).trans ?_;by_cases hr0:rs < 0
  ·rw [vYH (show ¬ (0≤rs∧rs≤64) by omega),Bool.and_false];simp only [g1_t,vJQ hr0,vYV,vYG];cases cErr js ms n m cs c <;> cases qIn js ms q n m k <;> rfl
  by_cases hr1:64 < rs
  ·rw [vYH (show ¬ (0≤rs∧rs≤64) by omega),Bool.and_false];simp only [g1_t,vYH hr0,vJQ hr1,vYV,vYG];cases cErr js ms n m cs c <;> cases qIn js ms q n m k <;> rfl
  cases hc:cErr js ms n m cs c with
  | false=>simp only [g1_t]; rfl
  | true =>
   cases hq:qIn js ms q n m k with
   | false=>simp only [g1_t]; rfl
   | true =>
    obtain ⟨h0,hnk,_⟩:=qJK hq;have h10:=qXU h0;simp only [g1_t,yG,vYH hr0,vYH hr1,vJQ (show 0≤rs∧rs≤64 by omega),vJQ (show 1≤k∧k≤10 by omega),vJQ (show 0≤rs by omega),vZJ,vYV,vYG];have hg2:gP (True∧True∧nrm' k q=q∧0≤rs∧rs≤64)=true:=qWH ⟨trivial,trivial,hn,by omega,by omega⟩;rw [hg2,vYV];cases pjO js ms q n m k cs c rs <;> rfl
end Go.Proofs.YtmffoiemmlcmfaaGreat.Nw
namespace Go.Proofs.YtmffoiemmlcmfaaGreat.Ny
open Go.Rx Rt Go.Sx Go.RowKit Od Ov Pc Na Nb Nc Nd Nx Nf Ng Nj Nl Nm Nn No Nq Nr Ns Nu Nv Nw
noncomputable def hAB (js:Nat→J) (ms:Nat→Ms) (bx:Nat→Iv) (n m kk:Nat) (cs:Nat→Cn) (c:Nat):Bool:=cErr js ms n m cs c && (pIn js ms bx n m kk && yZQ cs (vI js bx n cs) c)
noncomputable def hA (js:Nat→J) (ms:Nat→Ms) (q:Nat→Int) (n m k:Nat) (cs:Nat→Cn) (c:Nat):Bool:=hAB js ms (ptB q) n m (bif smQ q k then k else 0) cs c
def isHA (js:Nat→J) (ms:Nat→Ms) (n m:Nat) (cs:Nat→Cn) (c:Nat) (ps:List PV):Prop:=∃ (bx:Nat→Iv) (kk:Nat),kk≤50∧ps=[.a [.lf n (fJ js),.lf m (fM ms)],.lf c (fC cs),.lf kk (fB bx)]
noncomputable def o_ha (js:Nat→J) (ms:Nat→Ms) (n m:Nat) (cs:Nat→Cn) (c:Nat):List PV→Option (Bool × Ret):=fun ps=>match ps with
 | [r,l,.lf k f]=>some (gP (isHA js ms n m cs c [r,l,.lf k f]),.v (.b (hAB js ms (unFB f) n m k cs c)))
 | _=>none
theorem ok_ha (js:Nat→J) (ms:Nat→Ms) (n m:Nat) (cs:Nat→Cn) (c:Nat):zW Tryz.prog 12 (o_ha js ms n m cs c):=by
 intro ps r hh;unfold o_ha at hh;split at hh
 ·simp only [vQZ,vQY] at hh;obtain ⟨hg,rfl⟩:=hh;obtain ⟨bx,kk,hk,e⟩:=qJH hg;simp only [List.cons.injEq,PV.lf.injEq,and_true] at e;obtain ⟨rfl,rfl,rfl,rfl⟩:=e;exact snd_RHo' js ms _ n m _ cs c hk
 ·cases hh
noncomputable def orRa (js:Nat→J) (ms:Nat→Ms) (q:Nat→Int) (n m k:Nat) (cs:Nat→Cn) (c:Nat) (rs:Int):OrL:=[(34,o_cr [.a [.lf n (fJ js),.lf m (fM ms)],.lf c (fC cs)] (.v (.b (cErr js ms n m cs c)))),(75,o_cr [.a [.lf n (fJ js),.lf m (fM ms)],.lf k (fQ q)] (.v (.b (qIn js ms q n m k)))),(13,o_bq),(12,o_ha js ms n m cs c),(76,o_sp js ms n m)]
noncomputable def hRa (js:Nat→J) (ms:Nat→Ms) (q:Nat→Int) (n m k:Nat) (cs:Nat→Cn) (c:Nat) (rs:Int) (i:Int) (s:Int) (r:Nat) (p:Nat→Int):St:=⟨[(1,.v (.lf c (fC cs))),(2,.v (.lf r (fQ p))),(3,.v (.n .i64 rs)),(4,.p 4 0),(11,.v (.n .i64 s)),(12,.v (.n .i64 i))],[(4,.blk [.v (.lf n (fJ js)),.v (.lf m (fM ms))])]⟩
set_option maxRecDepth 100000 in
theorem rdRa (G:St→Option (Ret × Mem)) (K:Cont) (js:Nat→J) (ms:Nat→Ms) (q:Nat→Int) (n m k:Nat) (cs:Nat→Cn) (c:Nat) (rs:Int) (i:Int) (s:Int) (r:Nat) (p:Nat→Int):qZW 100 (cxF Tf (OrL.k (orRa js ms q n m k cs c rs)) 100 49 (ntmF Tf 49)) (ckF Tf (OrL.k (orRa js ms q n m k cs c rs)) 100) (zZ []) (qY Tf 49 [0,1,1,1,0,0,0,0,1,1,1]) [0,1,1,1,0,0,0,0,1,1,1] (Tf.hint 49 (zY (qY Tf 49 [0,1,1,1,0,0,0,0,1,1,1]))) K G (hRa js ms q n m k cs c rs i s r p) =
 (bif (decide (i < (c:Int))) then (bif (inB i c) then (bif (gP (isSp js ms n m [.a [.lf n (fJ js),.lf m (fM ms)],.a [.n .i64 (cs (i).toNat).kind,.n .i64 (cs (i).toNat).link,.n .i64 (cs (i).toNat).p.x,.n .i64 (cs (i).toNat).p.y,.n .i64 (cs (i).toNat).p.z,.n .i64 (cs (i).toNat).n.x,.n .i64 (cs (i).toNat).n.y,.n .i64 (cs (i).toNat).n.z,.n .i64 (cs (i).toNat).lo,.n .i64 (cs (i).toNat).hi],.lf r (fQ p)])) then (bif (gOk js ms p n m r (cs (i).toNat)) then (G (hRa js ms q n m k cs c rs (vJJ .i64 (i + 1)) s (gN js ms p n m r (cs (i).toNat)) (stN js ms p n m r (cs (i).toNat))))
 else (G (hRa js ms q n m k cs c rs (vJJ .i64 (i + 1)) s (gN js ms p n m r (cs (i).toNat)) (stN js ms p n m r (cs (i).toNat)))))
 else none)
 else none)
 else (K (.exit 2) ⟨[(1,.v (.lf c (fC cs))),(2,.v (.lf r (fQ p))),(3,.v (.n .i64 rs)),(4,.p 4 0),(11,.v (.n .i64 s))],[(4,.blk [.v (.lf n (fJ js)),.v (.lf m (fM ms))])]⟩)):=by kernel_rfl
theorem lpRa (K:Cont) (js:Nat→J) (ms:Nat→Ms) (q:Nat→Int) (n m k:Nat) (cs:Nat→Cn) (c:Nat) (rs:Int) (s:Int) (u:Nat→Int) (hc:cErr js ms n m cs c=true) (hq:qIn js ms u n m k=true):LFL 100 (cxF Tf (OrL.k (orRa js ms q n m k cs c rs)) 100 49 (ntmF Tf 49)) (ckF Tf (OrL.k (orRa js ms q n m k cs c rs)) 100) (zZ []) (qY Tf 49 [0,1,1,1,0,0,0,0,1,1,1]) [0,1,1,1,0,0,0,0,1,1,1] (Tf.hint 49 (zY (qY Tf 49 [0,1,1,1,0,0,0,0,1,1,1]))) K 100 (hRa js ms q n m k cs c rs 0 s k u)=(K (.exit 2) ⟨[(1,.v (.lf c (fC cs))),(2,.v (.lf k (fQ (impQ js ms u n m k cs c)))),(3,.v (.n .i64 rs)),(4,.p 4 0),(11,.v (.n .i64 s))],[(4,.blk [.v (.lf n (fJ js)),.v (.lf m (fM ms))])]⟩):=by
 obtain ⟨_,h8,_⟩:=qWW hc;refine (qWK (L:=LFL 100 (cxF Tf (OrL.k (orRa js ms q n m k cs c rs)) 100 49 (ntmF Tf 49)) (ckF Tf (OrL.k (orRa js ms q n m k cs c rs)) 100) (zZ []) (qY Tf 49 [0,1,1,1,0,0,0,0,1,1,1]) [0,1,1,1,0,0,0,0,1,1,1] (Tf.hint 49 (zY (qY Tf 49 [0,1,1,1,0,0,0,0,1,1,1]))) K) (stp:=qZW 100 (cxF Tf (OrL.k (orRa js ms q n m k cs c rs)) 100 49 (ntmF Tf 49)) (ckF Tf (OrL.k (orRa js ms q n m k cs c rs)) 100) (zZ []) (qY Tf 49 [0,1,1,1,0,0,0,0,1,1,1]) [0,1,1,1,0,0,0,0,1,1,1] (Tf.hint 49 (zY (qY Tf 49 [0,1,1,1,0,0,0,0,1,1,1]))) K) (fun _ _=>rfl) (fun (i:Nat) (p:Nat→Int)=>hRa js ms q n m k cs c rs (i:Int) s k p) (fun _ p=>qIn js ms p n m k=true) (fun _ _=>true) (fun (i:Nat) (p:Nat→Int)=>stN js ms p n m k (cs i)) (c:=c) (fun p=>(K (.exit 2) ⟨[(1,.v (.lf c (fC cs))),(2,.v (.lf k (fQ p))),(3,.v (.n .i64 rs)),(4,.p 4 0),(11,.v (.n .i64 s))],[(4,.blk [.v (.lf n (fJ js)),.v (.lf m (fM ms))])]⟩)) (fun _ _=>none) (fun G i p hi hv => ?_) (fun i p hi hv _=>kXX (jWX hc hv hi)) (fun G p _ => ?_) c 0 100 u (by omega) (by omega) hq).trans (zZX c 0 _)
 ·refine (rdRa G K js ms q n m k cs c rs i s k p).trans ?_;have hg:=jWX hc hv hi;obtain ⟨_,_,_,hnk,hgk,h1,h10⟩:=qUY hg;have hs:gP (isSp js ms n m [.a [.lf n (fJ js),.lf m (fM ms)],.a (cp (cs i)),.lf k (fQ p)])=true:=qWH ⟨p,k,cs i,by omega,rfl⟩;simp only [vJQ (show (i:Int) < (c:Int) by omega),qQQ (show i < 1000000 by omega),yW (show i < c by omega),toN,vYV];refine (congrArg (fun b=>bif b then _ else none) hs).trans ?_;rw [vYV,hg,vYV,hgk]
 ·refine (rdRa G K js ms q n m k cs c rs c s k p).trans ?_;rw [vYH (show ¬ (c:Int) < (c:Int) by omega)];rfl
theorem okRa (js:Nat→J) (ms:Nat→Ms) (q:Nat→Int) (n m k:Nat) (cs:Nat→Cn) (c:Nat) (rs:Int):∀ p S,zZ [([0,1,1,1,0,0,0,0,1,1,1],sumF (fun t:Int × (Nat→Int)=>(hRa js ms q n m k cs c rs 0 t.1 k t.2)) (fun σ=>(slI σ 11,lfI σ 2)) (fun t K=>(bif (cErr js ms n m cs c && qIn js ms t.2 n m k) then (K (.exit 2) ⟨[(1,.v (.lf c (fC cs))),(2,.v (.lf k (fQ (impQ js ms t.2 n m k cs c)))),(3,.v (.n .i64 rs)),(4,.p 4 0),(11,.v (.n .i64 t.1))],[(4,.blk [.v (.lf n (fJ js)),.v (.lf m (fM ms))])]⟩) else none)))] p=some S→qGY 100 (cxF Tf (OrL.k (orRa js ms q n m k cs c rs)) 100 49 (ntmF Tf 49)) (qY Tf 49 p) S:=fun p S hp=>by
 refine kV (L:=qY Tf 49) (l:=[([0,1,1,1,0,0,0,0,1,1,1],sumF (fun t:Int × (Nat→Int)=>(hRa js ms q n m k cs c rs 0 t.1 k t.2)) (fun σ=>(slI σ 11,lfI σ 2)) (fun t K=>(bif (cErr js ms n m cs c && qIn js ms t.2 n m k) then (K (.exit 2) ⟨[(1,.v (.lf c (fC cs))),(2,.v (.lf k (fQ (impQ js ms t.2 n m k cs c)))),(3,.v (.n .i64 rs)),(4,.p 4 0),(11,.v (.n .i64 t.1))],[(4,.blk [.v (.lf n (fJ js)),.v (.lf m (fM ms))])]⟩) else none)))]) ⟨?_,trivial⟩ p S hp;dsimp only;refine qZH (T:=Tf) (ok:=(OrL.k (orRa js ms q n m k cs c rs))) (f:=49) (LO:=zZ []) (p:=[0,1,1,1,0,0,0,0,1,1,1]) qJG ?_;intro t K r hr;obtain ⟨hg,hr⟩:=qH hr;rw [vQJ] at hg;exact (lpRa K js ms q n m k cs c rs t.1 t.2 hg.1 hg.2).trans hr
noncomputable def hRo2 (js:Nat→J) (ms:Nat→Ms) (q:Nat→Int) (n m k:Nat) (cs:Nat→Cn) (c:Nat) (rs:Int) (s:Int) (p:Nat→Int):St:=⟨[(1,.v (.lf c (fC cs))),(2,.v (.lf k (fQ p))),(3,.v (.n .i64 rs)),(4,.p 4 0),(11,.v (.n .i64 s))],[(4,.blk [.v (.lf n (fJ js)),.v (.lf m (fM ms))])]⟩
set_option maxRecDepth 100000 in
theorem rdRo2 (G:St→Option (Ret × Mem)) (K:Cont) (js:Nat→J) (ms:Nat→Ms) (q:Nat→Int) (n m k:Nat) (cs:Nat→Cn) (c:Nat) (rs:Int) (s:Int) (p:Nat→Int):qZW 100 (cxF Tf (OrL.k (orRa js ms q n m k cs c rs)) 100 49 (ntmF Tf 49)) (ckF Tf (OrL.k (orRa js ms q n m k cs c rs)) 100) (zZ [([0,1,1,1,0,0,0,0,1,1,1],sumF (fun t:Int × (Nat→Int)=>(hRa js ms q n m k cs c rs 0 t.1 k t.2)) (fun σ=>(slI σ 11,lfI σ 2)) (fun t K=>(bif (cErr js ms n m cs c && qIn js ms t.2 n m k) then (K (.exit 2) ⟨[(1,.v (.lf c (fC cs))),(2,.v (.lf k (fQ (impQ js ms t.2 n m k cs c)))),(3,.v (.n .i64 rs)),(4,.p 4 0),(11,.v (.n .i64 t.1))],[(4,.blk [.v (.lf n (fJ js)),.v (.lf m (fM ms))])]⟩) else none)))]) (qY Tf 49 [0,1,1,1]) [0,1,1,1] (Tf.hint 49 (zY (qY Tf 49 [0,1,1,1]))) K G (hRo2 js ms q n m k cs c rs s p) =
 (bif (decide (k≤50) && gFQ (fQ p)) then (bif (gP (isHA js ms n m cs c [.a [.lf n (fJ js),.lf m (fM ms)],.lf c (fC cs),.lf (bif smQ p k then k else 0) (fB (ptB p))])) then (bif (hA js ms p n m k cs c) then (K .ret ⟨[(8,.v (.lf k (fQ p))),(9,.v (.n .i64 s)),(10,.v (.b true))],[]⟩)
 else (bif (decide (s=rs)) then (K .ret ⟨[(8,.nl),(9,.v (.n .i64 rs)),(10,.v (.b false))],[]⟩)
 else (bif (gSt (hRa js ms q n m k cs c rs 0 s k p) (hRa js ms q n m k cs c rs 0 s k p)) then (bif (cErr js ms n m cs c && qIn js ms p n m k) then (G (hRo2 js ms q n m k cs c rs (vJJ .i64 (s + 1)) (impQ js ms p n m k cs c)))
 else none)
 else none)))
 else none)
 else none):=by kernel_rfl
theorem hA_eq {js:Nat→J} {ms:Nat→Ms} {q:Nat→Int} {n m k:Nat} {cs:Nat→Cn} {c:Nat} (hc:cErr js ms n m cs c=true) (hq:qIn js ms q n m k=true):hA js ms q n m k cs c=allH js ms q n m k cs c:=allH_eq hc hq
noncomputable def dcR (js:Nat→J) (ms:Nat→Ms) (n m k:Nat) (cs:Nat→Cn) (c N:Nat):Nat × (Nat→Int)→(Nat × (Nat→Int)) ⊕ Option (Nat × (Nat→Int)):=fun x =>
 match allH js ms x.2 n m k cs c,decide (x.1=N) with
 | true,_=>.inr (some x)
 | false,true=>.inr none
 | false,false=>.inl (x.1 + 1,impQ js ms x.2 n m k cs c)
theorem iter_R {js:Nat→J} {ms:Nat→Ms} {n m k:Nat} {cs:Nat→Cn} {c N:Nat}:∀ r j f p,j + r=N→r < f→yQG (dcR js ms n m k cs c N) f (j,p)=some (prj js ms n m k cs c r j p)
 | 0,j,f + 1,p,hj,_=>by
  rw [yQG,prj];unfold dcR;dsimp only;rw [vJQ (show j=N by omega)];cases allH js ms p n m k cs c <;> rfl
 | r + 1,j,f + 1,p,hj,hf=>by
  rw [yQG,prj];unfold dcR;dsimp only;rw [vYH (show ¬ j=N by omega)];cases h:allH js ms p n m k cs c with
  | true=>rfl
  | false=>exact iter_R r (j + 1) f _ (by omega) (by omega)
theorem lpRo2 (K:Cont) (js:Nat→J) (ms:Nat→Ms) (q:Nat→Int) (n m k:Nat) (cs:Nat→Cn) (c:Nat) (rs:Int) (hc:cErr js ms n m cs c=true) (hq:qIn js ms q n m k=true) (hn:nrm' k q=q) (hr:0≤rs∧rs≤64):LFL 100 (cxF Tf (OrL.k (orRa js ms q n m k cs c rs)) 100 49 (ntmF Tf 49)) (ckF Tf (OrL.k (orRa js ms q n m k cs c rs)) 100) (zZ [([0,1,1,1,0,0,0,0,1,1,1],sumF (fun t:Int × (Nat→Int)=>(hRa js ms q n m k cs c rs 0 t.1 k t.2)) (fun σ=>(slI σ 11,lfI σ 2)) (fun t K=>(bif (cErr js ms n m cs c && qIn js ms t.2 n m k) then (K (.exit 2) ⟨[(1,.v (.lf c (fC cs))),(2,.v (.lf k (fQ (impQ js ms t.2 n m k cs c)))),(3,.v (.n .i64 rs)),(4,.p 4 0),(11,.v (.n .i64 t.1))],[(4,.blk [.v (.lf n (fJ js)),.v (.lf m (fM ms))])]⟩) else none)))]) (qY Tf 49 [0,1,1,1]) [0,1,1,1] (Tf.hint 49 (zY (qY Tf 49 [0,1,1,1]))) K 100 (hRo2 js ms q n m k cs c rs 0 q)=bif pjO js ms q n m k cs c rs then (K .ret ⟨[(8,.v (.lf k (fQ (pjP js ms q n m k cs c rs)))),(9,.v (.n .i64 (pjJ js ms q n m k cs c rs))),(10,.v (.b true))],[]⟩) else (K .ret ⟨[(8,.nl),(9,.v (.n .i64 rs)),(10,.v (.b false))],[]⟩):=by
 have hN:(rs.toNat:Int)=rs:=by omega
 obtain ⟨h00,hnk,_⟩:=qJK hq;have h10:=qXU h00;have h:=jWG (L:=LFL 100 (cxF Tf (OrL.k (orRa js ms q n m k cs c rs)) 100 49 (ntmF Tf 49)) (ckF Tf (OrL.k (orRa js ms q n m k cs c rs)) 100) (zZ [([0,1,1,1,0,0,0,0,1,1,1],sumF (fun t:Int × (Nat→Int)=>(hRa js ms q n m k cs c rs 0 t.1 k t.2)) (fun σ=>(slI σ 11,lfI σ 2)) (fun t K=>(bif (cErr js ms n m cs c && qIn js ms t.2 n m k) then (K (.exit 2) ⟨[(1,.v (.lf c (fC cs))),(2,.v (.lf k (fQ (impQ js ms t.2 n m k cs c)))),(3,.v (.n .i64 rs)),(4,.p 4 0),(11,.v (.n .i64 t.1))],[(4,.blk [.v (.lf n (fJ js)),.v (.lf m (fM ms))])]⟩) else none)))]) (qY Tf 49 [0,1,1,1]) [0,1,1,1] (Tf.hint 49 (zY (qY Tf 49 [0,1,1,1]))) K) (stp:=qZW 100 (cxF Tf (OrL.k (orRa js ms q n m k cs c rs)) 100 49 (ntmF Tf 49)) (ckF Tf (OrL.k (orRa js ms q n m k cs c rs)) 100) (zZ [([0,1,1,1,0,0,0,0,1,1,1],sumF (fun t:Int × (Nat→Int)=>(hRa js ms q n m k cs c rs 0 t.1 k t.2)) (fun σ=>(slI σ 11,lfI σ 2)) (fun t K=>(bif (cErr js ms n m cs c && qIn js ms t.2 n m k) then (K (.exit 2) ⟨[(1,.v (.lf c (fC cs))),(2,.v (.lf k (fQ (impQ js ms t.2 n m k cs c)))),(3,.v (.n .i64 rs)),(4,.p 4 0),(11,.v (.n .i64 t.1))],[(4,.blk [.v (.lf n (fJ js)),.v (.lf m (fM ms))])]⟩) else none)))]) (qY Tf 49 [0,1,1,1]) [0,1,1,1] (Tf.hint 49 (zY (qY Tf 49 [0,1,1,1]))) K) (fun _ _=>rfl) (fun _=>rfl) (fun x:Nat × (Nat→Int)=>hRo2 js ms q n m k cs c rs (x.1:Int) x.2) (fun x=>qIn js ms x.2 n m k=true∧nrm' k x.2=x.2∧x.1≤rs.toNat) (dcR js ms n m k cs c rs.toNat) (fun y=>match y with | some x=>(K .ret ⟨[(8,.v (.lf k (fQ x.2))),(9,.v (.n .i64 (x.1:Int))),(10,.v (.b true))],[]⟩) | none=>(K .ret ⟨[(8,.nl),(9,.v (.n .i64 rs)),(10,.v (.b false))],[]⟩)) (fun G x hx => ?_) (fun x y hx hd => ?_) 100 (0,q) ⟨hq,hn,Nat.zero_le _⟩
 ·refine h.trans ?_;rw [iter_R rs.toNat 0 100 q (by omega) (by omega)];unfold pjO pjJ pjP;cases prj js ms n m k cs c rs.toNat 0 q <;> rfl
 ·obtain ⟨j,p⟩:=x;obtain ⟨h1,h2,h3⟩:=hx;refine (rdRo2 G K js ms q n m k cs c rs j p).trans ?_;dsimp only at h1 h2 h3;have hf:gFQ (fQ p)=true:=(zXQ rfl).1;have e1:gP (isHA js ms n m cs c [.a [.lf n (fJ js),.lf m (fM ms)],.lf c (fC cs),.lf (bif smQ p k then k else 0) (fB (ptB p))])=true:=qWH ⟨ptB p,_,yXZ (by omega),rfl⟩;rw [hf,vJQ (show k≤50 by omega),e1,hA_eq hc h1,yG,hc,h1];simp only [vZJ,vYV];unfold dcR;dsimp only;by_cases e:j=rs.toNat
  ·rw [vJQ e,vJQ (show (j:Int)=rs by omega)];cases allH js ms p n m k cs c <;> rfl
  ·rw [vYH e,vYH (show ¬ (j:Int)=rs by omega),qQQ (show j < 1000000 by omega)];cases allH js ms p n m k cs c <;> rfl
 ·obtain ⟨j,p⟩:=x;obtain ⟨h1,h2,h3⟩:=hx;unfold dcR at hd;dsimp only at h1 h2 h3 hd;split at hd
  ·cases hd
  ·cases hd
  ·rename_i hx hy;cases hd
   have:=vJY hy
   exact ⟨(jVZ hc h1 h2).1,(jVZ hc h1 h2).2,by show j + 1≤_; omega⟩
noncomputable def kJK (js:Nat→J) (ms:Nat→Ms) (q:Nat→Int) (n m k:Nat) (cs:Nat→Cn) (c:Nat) (rs:Int):List (List Nat × qKX):=[([0,1,1,1],sumF (fun _:Unit=>(hRo2 js ms q n m k cs c rs 0 q)) (fun _=>()) (fun _ K=>(bif (gP (cErr js ms n m cs c=true∧qIn js ms q n m k=true∧nrm' k q=q∧0≤rs∧rs≤64)) then (bif pjO js ms q n m k cs c rs then (K .ret ⟨[(8,.v (.lf k (fQ (pjP js ms q n m k cs c rs)))),(9,.v (.n .i64 (pjJ js ms q n m k cs c rs))),(10,.v (.b true))],[]⟩) else (K .ret ⟨[(8,.nl),(9,.v (.n .i64 rs)),(10,.v (.b false))],[]⟩)) else none)))]
set_option maxRecDepth 100000 in
theorem pxrpj0 (js:Nat→J) (ms:Nat→Ms) (q:Nat→Int) (n m k:Nat) (cs:Nat→Cn) (c:Nat) (rs:Int):qYH Tf (OrL.k (orRa js ms q n m k cs c rs)) (zZ (kJK js ms q n m k cs c rs)) 100 49 [.a [.lf n (fJ js),.lf m (fM ms)],.lf c (fC cs),.lf k (fQ q),.n .i64 rs] =
 (bif (g1 [.a [.lf n (fJ js),.lf m (fM ms)],.lf c (fC cs)]) then (bif (cErr js ms n m cs c) then (bif (g1 [.a [.lf n (fJ js),.lf m (fM ms)],.lf k (fQ q)]) then (bif (qIn js ms q n m k) then (bif (g1 [.a [.lf n (fJ js),.lf m (fM ms)],.lf k (fQ q)]) then (bif (qIn js ms q n m k) then (bif (decide (rs < 0)) then some (.v (.t [.l [],.n .i64 0,.b false]),[])
 else (bif (decide (64 < rs)) then some (.v (.t [.l [],.n .i64 0,.b false]),[])
 else (bif (gSt (hRo2 js ms q n m k cs c rs 0 q) (hRo2 js ms q n m k cs c rs 0 q)) then (bif (gP (cErr js ms n m cs c=true∧qIn js ms q n m k=true∧nrm' k q=q∧0≤rs∧rs≤64)) then (bif (pjO js ms q n m k cs c rs) then some (.v (.t [.lf k (fQ (pjP js ms q n m k cs c rs)),.n .i64 (pjJ js ms q n m k cs c rs),.b true]),[])
 else some (.v (.t [.l [],.n .i64 rs,.b false]),[]))
 else none)
 else none)))
 else some (.v (.t [.l [],.n .i64 0,.b false]),[]))
 else none)
 else some (.v (.t [.l [],.n .i64 0,.b false]),[]))
 else none)
 else some (.v (.t [.l [],.n .i64 0,.b false]),[]))
 else none):=by kernel_rfl
theorem snd_rpj0 (js:Nat→J) (ms:Nat→Ms) (q:Nat→Int) (n m k:Nat) (cs:Nat→Cn) (c:Nat) (rs:Int) (hn:nrm' k q=q):zH Tryz.prog 49 [.a [.lf n (fJ js),.lf m (fM ms)],.lf c (fC cs),.lf k (fQ q),.n .i64 rs] (bif (cErr js ms n m cs c && qIn js ms q n m k) && decide (0≤rs∧rs≤64) then (bif pjO js ms q n m k cs c rs then .v (.t [.lf k (fQ (pjP js ms q n m k cs c rs)),.n .i64 (pjJ js ms q n m k cs c rs),.b true]) else .v (.t [.l [],.n .i64 rs,.b false])) else .v (.t [.l [],.n .i64 0,.b false])):=by
 refine kX (N:=100) (LO:=zZ (kJK js ms q n m k cs c rs)) qVU yQ (OrL.ok (l:=(orRa js ms q n m k cs c rs)) ⟨qZX (kYW js ms n m cs c),qZX (jYW js ms q n m k),ok_rbq,ok_ha js ms n m cs c,ok_rsp js ms n m,trivial⟩) (fun p S hp => ?_) ?_
 ·refine kV (L:=qY Tf 49) (l:=(kJK js ms q n m k cs c rs)) (show AllP _ (kJK js ms q n m k cs c rs) from ⟨?_,trivial⟩) p S hp
  ·dsimp only;refine qZH (T:=Tf) (ok:=(OrL.k (orRa js ms q n m k cs c rs))) (f:=49) (LO:=(zZ [([0,1,1,1,0,0,0,0,1,1,1],sumF (fun t:Int × (Nat→Int)=>(hRa js ms q n m k cs c rs 0 t.1 k t.2)) (fun σ=>(slI σ 11,lfI σ 2)) (fun t K=>(bif (cErr js ms n m cs c && qIn js ms t.2 n m k) then (K (.exit 2) ⟨[(1,.v (.lf c (fC cs))),(2,.v (.lf k (fQ (impQ js ms t.2 n m k cs c)))),(3,.v (.n .i64 rs)),(4,.p 4 0),(11,.v (.n .i64 t.1))],[(4,.blk [.v (.lf n (fJ js)),.v (.lf m (fM ms))])]⟩) else none)))])) (p:=[0,1,1,1]) (okRa js ms q n m k cs c rs) ?_;intro _ K r hr;obtain ⟨hg,hr⟩:=qH hr;have hg:=qJH hg;exact (lpRo2 K js ms q n m k cs c rs hg.1 hg.2.1 hg.2.2.1 hg.2.2.2).trans hr
 ·refine (pxrpj0 js ms q n m k cs c rs).trans ?_;by_cases hr0:rs < 0
  ·rw [vYH (show ¬ (0≤rs∧rs≤64) by omega),Bool.and_false];simp only [g1_t,vJQ hr0,vYV,vYG];cases cErr js ms n m cs c <;> cases qIn js ms q n m k <;> rfl
  by_cases hr1:64 < rs
  ·rw [vYH (show ¬ (0≤rs∧rs≤64) by omega),Bool.and_false];simp only [g1_t,vYH hr0,vJQ hr1,vYV,vYG];cases cErr js ms n m cs c <;> cases qIn js ms q n m k <;> rfl
  cases hc:cErr js ms n m cs c with
  | false=>simp only [g1_t]; rfl
  | true =>
   cases hq:qIn js ms q n m k with
   | false=>simp only [g1_t]; rfl
   | true =>
    obtain ⟨h0,hnk,_⟩:=qJK hq;have h10:=qXU h0;simp only [g1_t,yG,vYH hr0,vYH hr1,vJQ (show 0≤rs∧rs≤64 by omega),vJQ (show 0≤rs by omega),vZJ,vYV,vYG];have hg2:gP (True∧True∧nrm' k q=q∧0≤rs∧rs≤64)=true:=qWH ⟨trivial,trivial,hn,by omega,by omega⟩;rw [hg2,vYV];cases pjO js ms q n m k cs c rs <;> rfl
noncomputable def prOk (js:Nat→J) (ms:Nat→Ms) (q:Nat→Int) (n m k:Nat) (cs:Nat→Cn) (c:Nat) (rs:Int):Bool:=(cErr js ms n m cs c && qIn js ms q n m k) && decide (0≤rs∧rs≤64)
noncomputable def prB (js:Nat→J) (ms:Nat→Ms) (q:Nat→Int) (n m k:Nat) (cs:Nat→Cn) (c:Nat) (rs:Int):Bool:=prOk js ms (nrm' k q) n m k cs c rs && pjO js ms (nrm' k q) n m k cs c rs
noncomputable def prL (js:Nat→J) (ms:Nat→Ms) (q:Nat→Int) (n m k:Nat) (cs:Nat→Cn) (c:Nat) (rs:Int):Nat:=bif prB js ms q n m k cs c rs then k else 0
noncomputable def prQ (js:Nat→J) (ms:Nat→Ms) (q:Nat→Int) (n m k:Nat) (cs:Nat→Cn) (c:Nat) (rs:Int):Nat→Int:=pjP js ms (nrm' k q) n m k cs c rs
noncomputable def prJ (js:Nat→J) (ms:Nat→Ms) (q:Nat→Int) (n m k:Nat) (cs:Nat→Cn) (c:Nat) (rs:Int):Int:=bif prOk js ms (nrm' k q) n m k cs c rs then (bif pjO js ms (nrm' k q) n m k cs c rs then pjJ js ms (nrm' k q) n m k cs c rs else rs) else 0
theorem snd_both {f:Nat} (js:Nat→J) (ms:Nat→Ms) (q:Nat→Int) (n m k:Nat) (cs:Nat→Cn) (c:Nat) (rs:Int) (h:∀ q:Nat→Int,nrm' k q=q→zH Tryz.prog f [.a [.lf n (fJ js),.lf m (fM ms)],.lf c (fC cs),.lf k (fQ q),.n .i64 rs] (bif (cErr js ms n m cs c && qIn js ms q n m k) && decide (0≤rs∧rs≤64) then (bif pjO js ms q n m k cs c rs then .v (.t [.lf k (fQ (pjP js ms q n m k cs c rs)),.n .i64 (pjJ js ms q n m k cs c rs),.b true]) else .v (.t [.l [],.n .i64 rs,.b false])) else .v (.t [.l [],.n .i64 0,.b false]))):zH Tryz.prog f [.a [.lf n (fJ js),.lf m (fM ms)],.lf c (fC cs),.lf k (fQ q),.n .i64 rs] (.v (.t [.lf (prL js ms q n m k cs c rs) (fQ (prQ js ms q n m k cs c rs)),.n .i64 (prJ js ms q n m k cs c rs),.b (prB js ms q n m k cs c rs)])):=by
 refine qZK (fun _ _ _=>Sames.al (ys:=[_,_,.lf k (fQ (nrm' k q)),_]) ⟨Same.refl _,Same.refl _,jKQ k q,Same.refl _,trivial⟩) ?_;have h0:=h (nrm' k q) (nrm_idem k q);unfold prL prJ prQ prB;change zH Tryz.prog f _ (bif prOk js ms (nrm' k q) n m k cs c rs then _ else _) at h0;cases e:prOk js ms (nrm' k q) n m k cs c rs with
 | false =>
  rw [e,vYG] at h0;exact qQW (Same.t (xs:=[_,_,_]) ⟨Same.lf rfl,Same.refl _,Same.refl _,trivial⟩) h0
 | true =>
  rw [e,vYV] at h0;cases e2:pjO js ms (nrm' k q) n m k cs c rs with
  | false =>
   rw [e2,vYG] at h0;exact qQW (Same.t (xs:=[_,_,_]) ⟨Same.lf rfl,Same.refl _,Same.refl _,trivial⟩) h0
  | true =>
   rw [e2,vYV] at h0;exact h0
theorem snd_prj (js:Nat→J) (ms:Nat→Ms) (q:Nat→Int) (n m k:Nat) (cs:Nat→Cn) (c:Nat) (rs:Int):zH Tryz.prog 17 [.a [.lf n (fJ js),.lf m (fM ms)],.lf c (fC cs),.lf k (fQ q),.n .i64 rs] (.v (.t [.lf (prL js ms q n m k cs c rs) (fQ (prQ js ms q n m k cs c rs)),.n .i64 (prJ js ms q n m k cs c rs),.b (prB js ms q n m k cs c rs)])):=snd_both js ms q n m k cs c rs fun q hn=>snd_prj0 js ms q n m k cs c rs hn
theorem snd_rpj (js:Nat→J) (ms:Nat→Ms) (q:Nat→Int) (n m k:Nat) (cs:Nat→Cn) (c:Nat) (rs:Int):zH Tryz.prog 49 [.a [.lf n (fJ js),.lf m (fM ms)],.lf c (fC cs),.lf k (fQ q),.n .i64 rs] (.v (.t [.lf (prL js ms q n m k cs c rs) (fQ (prQ js ms q n m k cs c rs)),.n .i64 (prJ js ms q n m k cs c rs),.b (prB js ms q n m k cs c rs)])):=snd_both js ms q n m k cs c rs fun q hn=>snd_rpj0 js ms q n m k cs c rs hn
end Go.Proofs.YtmffoiemmlcmfaaGreat.Ny

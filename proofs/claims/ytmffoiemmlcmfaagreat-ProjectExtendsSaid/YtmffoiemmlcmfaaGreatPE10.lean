/- Part 10 of the texts behind the last one: rules and contracts. No condition. -/
import Derived.Test.YtmffoiemmlcmfaaGreatPE9
open Option renaming bind_eq_some_iff → vQQ, bind_some → vYQ
open Option.some renaming injEq → vQZ
open Prod.mk renaming injEq → vQY
open Bool renaming and_eq_true → vQJ, and_self → vZJ, true_and → vZH
open List renaming getElem?_eq_getElem → vQK, length_cons → vQW, length_nil → vQV, mem_cons_of_mem → vQH, mem_cons_self → vZQ, all_eq_true → vZZ, take_succ_cons → vYK, drop_succ_cons → vYU, take_zero → vYX, drop_zero → vYW
open Nat renaming eq_of_beq_eq_true → vQX
open Classical renaming propDecidable → vYJ
open Go.IntKind renaming wrap → vJJ
namespace Go.Proofs.YtmffoiemmlcmfaaGreat
open Go.Sx
theorem ze25:qYU Tryz.prog 25 (.agg #[.slice none 0 0,.slice none 0 0]):=by unfold qYU; kernel_rfl
theorem zWU:qVJ Tryz.prog 25 0 0=true:=by kernel_rfl
theorem ty22:tyB Tryz.prog 22 false 1=true:=by kernel_rfl
theorem en41:kH Tryz.prog 41:=zQ Tryz.func41 (by kernel_rfl) (by kernel_rfl)
theorem sl22:slcB Tryz.prog 22 55 12=true:=by kernel_rfl
theorem app22:appB Tryz.prog 22 55 12 104=true:=by kernel_rfl
theorem fa25_1:qVJ Tryz.prog 25 1 1=true:=by kernel_rfl
theorem ty23:tyB Tryz.prog 23 false 1=true:=by kernel_rfl
theorem la79:qKJ Tryz.prog 79=some ([.int .i64 0,.int .i64 0,.int .i64 0,.int .i64 0,.int .i64 0],[(0,1),(1,1),(2,3)]):=by kernel_rfl
theorem sl23:slcB Tryz.prog 23 79 5=true:=by kernel_rfl
theorem ze79:qYU Tryz.prog 79 (.agg #[.int .i64 0,.int .i64 0,.int .i64 0,.int .i64 0,.int .i64 0]):=by unfold qYU; kernel_rfl
theorem app23:appB Tryz.prog 23 79 5 40=true:=by kernel_rfl
theorem ty25:tyB Tryz.prog 25 true 2=true:=by kernel_rfl
theorem jYH {m e sz cap k:Nat} {a:Option Addr} {ys:List Value} {w:World} (h:OwnF m e sz a cap k ys w):k≤cap:=by
 rcases h.2 with ⟨h1,h2⟩ | ⟨gg,cp,cur,hv,_,_,hc,_⟩
 ·omega
 ·simp only [Value.slice.injEq] at hv;omega
theorem zWJ {k:Nat} (h:k≤1000000):vJJ .i64 ((k:Int) + 1)=((k + 1:Nat):Int):=by
 refine (zK ?_).trans ?_ <;> omega
theorem kZV {n k:Nat} (hn:n≤1000) (h:k < n):vJJ .i64 (((n - k:Nat):Int) - 1)=((n - (k + 1):Nat):Int):=by
 refine (zK ?_).trans ?_ <;> omega
theorem mkRobot {b:Nat} {sl:Value} {L:List Int} {i:Nat} (w:World) (hs:Src w b sl L i):Calls Tryz.prog 19 [.pointer (some ⟨b,0,none⟩)].toArray w (jXX (X:=(Option Addr × Nat) × (Option Addr × Nat)) (fun x=>nJ L i≤x.1.2∧nM L i≤x.2.2) (fun x=>.agg #[.slice x.1.1 (nJ L i) x.1.2,.slice x.2.1 (nM L i) x.2.2]) (fun x w=>qJJ 12 x.1.1 ((jsOf L i (nJ L i)).1.map jc) w∧qJJ 5 x.2.1 ((msOf L i (nM L i)).map mc) w) (srcW w b sl L (robQ L i))):=by
 refine yYQ (n:=49) hs Tryz.func19 rfl rfl rfl ?_;refine qW ?_;refine qZ ?_;refine qKV 2 ze25 rfl rfl rfl ?_; intro b2;refine qX ?_;refine qQ ?_;refine qW ?_;refine qZ ?_;refine qKV 3 ze25 rfl rfl rfl ?_; intro b3;refine qX ?_;refine qQ ?_;refine qW ?_;refine doC_ownA 100 55 12 ?_;refine doC_ownA 101 79 5 ?_;have hn:=nJ_b L i;have hm:=nM_b L i;refine qZ ?_;refine qJ (qK rfl) rfl rfl rfl ?_;refine jK (F:=vI) hs en21 rfl (fun w' h=>jW _ (by first | omega | assumption | (unfold In64; omega) | decide) w' h) rfl rfl ?_; intro r8 hr8;have br8:=uK hr8 (by first | decide | omega);refine qJ (uQ rfl rfl (by first | exact zK ⟨by omega,by omega⟩ | rfl)) rfl rfl rfl ?_;refine qJ (qV rfl) rfl rfl rfl ?_;refine qX ?_;refine qQ ?_;refine qW ?_;refine qW ?_;refine qZ ?_;refine qJ (qV rfl) rfl rfl rfl ?_;refine qX ?_;refine qQ ?_;refine uW ?_;refine zKZ [0,2,3,4] [2] (α:=Nat × Option Addr × Nat) (fun x=>nJ L i - x.1) (fun x=>x.1≤nJ L i) (fun x=>srcB ⟨w,[(101,ownD none,OwnF 0 79 5 none 0 0 []),(100,ownD x.2.1,OwnF 0 55 12 x.2.1 x.2.2 x.1 (jsC L i x.1))]⟩ b sl L (jsOf L i x.1).2) (fun x=>[(5,.int .i64 (x.1:Int))]) (fun x=>[(3,b3,[.slice x.2.1 x.1 x.2.2,.slice none 0 0],25)]) (0,none,0) rfl rfl ?_ ?_ ?_ ?_ rfl ?_
 ·
  exact Nat.zero_le _
 ·
  exact rfl
 ·
  repeat' first | exact trivial | exact True.intro | refine ⟨rfl,?_⟩
 ·
  repeat' first | exact trivial | exact True.intro | refine ⟨rfl,?_⟩
 rintro ⟨k,a,cap⟩ hk
 dsimp only at hk ⊢;refine qW ?_;refine qW ?_;refine qZ ?_;refine qJ (qK rfl) rfl rfl rfl ?_;refine qJ (qK rfl) rfl rfl rfl ?_;refine qJ (qVV rfl rfl) rfl rfl rfl ?_;refine qX ?_;refine qQ ?_;refine kZ rfl (fun hc12 => ?_) (fun hc12 => ?_)
 ·
  have h2:k < nJ L i:=by have:=vJZ hc12; omega
  refine kJ ?_;refine qQ ?_;refine qW ?_;refine uW ?_;refine doC_srcA 6 [4] hs mo (by kernel_rfl) ?_;simp only [vYK,vYX,vYU,vYW];refine qKZ (fun _=>qU zWU rfl) rfl rfl rfl rfl ?_;refine qKZ (fun _=>yX 3 ty22 rfl rfl rfl) rfl rfl rfl rfl ?_;refine qKZ (fun _=>qK rfl) rfl rfl rfl rfl ?_;refine qKZ (fun _=>qK rfl) rfl rfl rfl rfl ?_;refine yZU (F:=jv) hs en41 rfl (fun w' h=>mkJoint _ (by first | omega | assumption | (unfold In64; omega) | decide) w' h) rfl rfl rfl ?_; intro r19 hr19;refine doM_bslice (famA hs _) sl22 ze55 rfl rfl rfl rfl rfl rfl rfl rfl rfl rfl ?_;refine jUV ?_;refine tail_row ?_; intro bb20;refine tail_appendA 100 app22 rfl rfl rfl rfl rfl rfl (by omega) (by omega) rfl rfl ?_; intro a21 c21 R21 hR21;obtain rfl:=Option.some.inj hR21;refine qJ (qU zWU rfl) rfl rfl rfl ?_;refine zV 3 ty22 rfl rfl rfl rfl rfl rfl rfl rfl ?_;refine qX ?_;refine zU ?_;refine qQ ?_;refine qZ ?_;refine qJ (qK rfl) rfl rfl rfl ?_;refine qJ (uQ rfl rfl (zWJ (by omega))) rfl rfl rfl ?_;refine qJ (qV rfl) rfl rfl rfl ?_;refine qX ?_;refine qJV (k + 1,a21,c21) (by show k + 1≤_; omega) (by show nJ L i - (k + 1) < nJ L i - k; omega) (by dsimp only; rw [jsC_succ,← hr19]; rfl) ?_ ?_ rfl
  repeat' first | exact trivial | exact True.intro | refine ⟨rfl,?_⟩
 ·
  obtain rfl:k=nJ L i:=by have:=vJY hc12; omega
  refine zUU ?_;refine kK ?_;refine kK ?_;refine qYX ?_;refine qQ ?_;refine qW ?_;refine qW ?_;refine qZ ?_;refine qJ (qK rfl) rfl rfl rfl ?_;refine jK (F:=vI) hs en21 rfl (fun w' h=>jW _ (by first | omega | assumption | (unfold In64; omega) | decide) w' h) rfl rfl ?_; intro r24 hr24;have br24:=uK hr24 (by first | decide | omega);obtain rfl:r24=((nM L i:Nat):Int):=by rw [hr24]; exact hm.2.symm
  refine qJ (qV rfl) rfl rfl rfl ?_;refine qX ?_;refine qQ ?_;refine uW ?_;refine zKZ [0,2,3,4] [2] (α:=Nat × Option Addr × Nat) (fun x=>nM L i - x.1) (fun x=>x.1≤nM L i) (fun x=>srcB ⟨w,[(101,ownD x.2.1,OwnF 0 79 5 x.2.1 x.2.2 x.1 (msC L i x.1)),(100,ownD a,OwnF 0 55 12 a cap (nJ L i) (jsC L i (nJ L i)))]⟩ b sl L (mQ L i + 1 + 4 * x.1)) (fun x=>[(6,.int .i64 ((nM L i - x.1:Nat):Int))]) (fun x=>[(3,b3,[.slice a (nJ L i) cap,.slice x.2.1 x.1 x.2.2],25)]) (0,none,0) rfl rfl ?_ ?_ ?_ ?_ rfl ?_
  ·
   exact Nat.zero_le _
  ·
   exact rfl
  ·
   repeat' first | exact trivial | exact True.intro | refine ⟨rfl,?_⟩
  ·
   repeat' first | exact trivial | exact True.intro | refine ⟨rfl,?_⟩
  rintro ⟨k2,a2,cap2⟩ hk2
  dsimp only at hk2 ⊢;refine qW ?_;refine qW ?_;refine qZ ?_;refine qJ (qK rfl) rfl rfl rfl ?_;refine qJ (yJK rfl rfl) rfl rfl rfl ?_;refine qX ?_;refine qQ ?_;refine kZ rfl (fun hc26 => ?_) (fun hc26 => ?_)
  ·
   have h3:k2 < nM L i:=by have:=vJZ hc26; omega
   refine kJ ?_;refine qQ ?_;refine qW ?_;refine uW ?_;refine doC_srcA 17 [4,6,9,12] hs mo (by kernel_rfl) ?_;simp only [vYK,vYX,vYU,vYW];refine qKZ (fun _=>qU fa25_1 rfl) rfl rfl rfl rfl ?_;refine qKZ (fun _=>yX 3 ty23 rfl rfl rfl) rfl rfl rfl rfl ?_;refine qKZ (fun _=>qK rfl) rfl rfl rfl rfl ?_;refine qKZ (fun _=>qK rfl) rfl rfl rfl rfl ?_;refine yZU (F:=vI) hs en21 rfl (fun w' h=>jW _ (by first | omega | assumption | (unfold In64; omega) | decide) w' h) rfl rfl rfl ?_; intro r33 hr33;have br33:=uK hr33 (by first | decide | omega);refine qKZ (fun _=>qK rfl) rfl rfl rfl rfl ?_;refine yZU (F:=vI) hs en21 rfl (fun w' h=>jW _ (by first | omega | assumption | (unfold In64; omega) | decide) w' h) rfl rfl rfl ?_; intro r35 hr35;have br35:=uK hr35 (by first | decide | omega);refine qKZ (fun _=>uQ rfl rfl (by first | exact zK ⟨by omega,by omega⟩ | rfl)) rfl rfl rfl rfl ?_;refine qKZ (fun _=>qK rfl) rfl rfl rfl rfl ?_;refine yZU (F:=vI) hs en24 rfl (fun w' h=>qWJ _ (by first | omega | assumption | (unfold In64; omega) | decide) w' h) rfl rfl rfl ?_; intro r38 hr38;have br38:=zVH hr38 (by first | decide | omega);refine qKZ (fun _=>kQ rfl rfl (by first | exact zK ⟨by omega,by omega⟩ | rfl)) rfl rfl rfl rfl ?_;refine qKZ (fun _=>qK rfl) rfl rfl rfl rfl ?_;refine yZU (F:=vI) hs en24 rfl (fun w' h=>qWJ _ (by first | omega | assumption | (unfold In64; omega) | decide) w' h) rfl rfl rfl ?_; intro r41 hr41;have br41:=zVH hr41 (by first | decide | omega);refine qKZ (fun _=>kQ rfl rfl (by first | exact zK ⟨by omega,by omega⟩ | rfl)) rfl rfl rfl rfl ?_;refine qKZ (fun _=>qZV la53 rfl rfl) rfl rfl rfl rfl ?_;refine qKZ (fun _=>qZV la79 rfl rfl) rfl rfl rfl rfl ?_;refine doM_bslice (famA hs _) sl23 ze79 rfl rfl rfl rfl rfl rfl rfl rfl rfl rfl ?_;refine jUV ?_;refine tail_row ?_; intro bb45;refine tail_appendA 101 app23 rfl rfl rfl rfl rfl rfl (by omega) (by omega) rfl rfl ?_; intro a46 c46 R46 hR46;obtain rfl:=Option.some.inj hR46;refine qJ (qU fa25_1 rfl) rfl rfl rfl ?_;refine zV 3 ty23 rfl rfl rfl rfl rfl rfl rfl rfl ?_;refine qX ?_;refine zU ?_;refine qQ ?_;refine qZ ?_;refine qJ (qK rfl) rfl rfl rfl ?_;refine qJ (qGW rfl rfl (kZV (by omega) h3)) rfl rfl rfl ?_;refine qJ (qV rfl) rfl rfl rfl ?_;refine qX ?_;refine qJV (k2 + 1,a46,c46) (by show k2 + 1≤_; omega) (by show nM L i - (k2 + 1) < nM L i - k2; omega) (by dsimp only; rw [msC_succ,hr33,hr35,hr38,hr41,hr8,hn.2.2]; rfl) ?_ ?_ rfl
   repeat' first | exact trivial | exact True.intro | refine ⟨rfl,?_⟩
  ·
   obtain rfl:k2=nM L i:=by have:=vJY hc26; omega
   refine zUU ?_;refine kK ?_;refine kK ?_;refine qYX ?_;refine qQ ?_;refine qW ?_;refine qZ ?_;refine qJ (jG 3 ty25 rfl rfl rfl) rfl rfl rfl ?_;refine zV 2 ty25 rfl rfl rfl rfl rfl rfl rfl rfl ?_;refine qX ?_;refine qQ ?_;refine jU ?_;refine zYG (rs:=[.cell 2 25]) rfl (resC (jH 2 rfl rfl ty25 rfl) (resN)) rfl ?_;intro w2 kn;obtain ⟨_,q2,q3⟩:=kn.facts _ vZQ;obtain ⟨_,q5,q6⟩:=kn.facts _ (vQH _ vZQ);exact ⟨((a,cap),(a2,cap2)),⟨jYH q6,jYH q3⟩,rfl,kn.grow,told_and ⟨ownD a,jGH _ _ _,fun q hq=>⟨(q5 q hq).1,(q5 q hq).2.1⟩,js_slc q6⟩ ⟨ownD a2,jGH _ _ _,fun q hq=>⟨(q2 q hq).1,(q2 q hq).2.1⟩,ms_slc q3⟩⟩
end Go.Proofs.YtmffoiemmlcmfaaGreat
namespace Go.Proofs.YtmffoiemmlcmfaaGreat
open Go.Sx
theorem en20:kH Tryz.prog 20:=zQ Tryz.func20 (by kernel_rfl) (by kernel_rfl)
theorem en42:kH Tryz.prog 42:=zQ Tryz.func42 (by kernel_rfl) (by kernel_rfl)
theorem la63:qKJ Tryz.prog 63=some ([.int .i64 0,.int .i64 0,.int .i64 0,.int .i64 0,.int .i64 0,.int .i64 0,.int .i64 0,.int .i64 0,.int .i64 0,.int .i64 0],[(0,1),(1,1),(2,3),(5,3),(8,1),(9,1)]):=by kernel_rfl
theorem ze63:qYU Tryz.prog 63 (.agg #[.int .i64 0,.int .i64 0,.int .i64 0,.int .i64 0,.int .i64 0,.int .i64 0,.int .i64 0,.int .i64 0,.int .i64 0,.int .i64 0]):=by unfold qYU; kernel_rfl
theorem ty63:tyB Tryz.prog 63 true 10=true:=by kernel_rfl
theorem fa63_4:qVJ Tryz.prog 63 4 8=true:=by kernel_rfl
theorem fa63_5:qVJ Tryz.prog 63 5 9=true:=by kernel_rfl
theorem fa63_1:qVJ Tryz.prog 63 1 1=true:=by kernel_rfl
theorem sl26:slcB Tryz.prog 26 63 10=true:=by kernel_rfl
theorem app26:appB Tryz.prog 26 63 10 80=true:=by kernel_rfl
theorem quo2 {a:Int} (h : -9000000000≤a∧a≤9000000000):vJJ .i64 (a.tdiv 2)=a.tdiv 2:=zK (by
 have:=zWW (a:=a) (b:=2) (by unfold In64; omega) (by decide)
 exact this)
theorem mkConsO (lv:Value) (l:List Int) (aj am:Option Addr) (cj nj nm cm n:Nat) (hn:n≤1000) (hj:1≤nj∧nj≤10) (w:World) (hl:IntsAt w w.heap.size lv l):Calls Tryz.prog 22 [.agg #[.slice aj nj cj,.slice am nm cm],.int .i64 (n:Int),lv].toArray w (jXX (X:=Option Addr × Nat) (fun x=>n≤x.2) (fun x=>.slice x.1 n x.2) (fun x=>OwnF 0 63 10 x.1 x.2 n (cnC (yZV nrm l nj n).1)) w):=by
 refine jY (n:=66) Tryz.func22 rfl rfl rfl ?_;refine qW ?_;refine qZ ?_;refine zYQ 3 rfl rfl rfl rfl ?_; intro b3;refine qJ (qV rfl) rfl rfl rfl ?_;refine qX ?_;refine qQ ?_;refine qW ?_;refine qZ ?_;refine qJ (qK rfl) rfl rfl rfl ?_;refine zHY 11 en20 rfl (fun w' k=>uYV w' (qGH hl k.grow (Nat.le_refl _))) rfl rfl ?_; intro b11;refine qJ (qV rfl) rfl rfl rfl ?_;refine qX ?_;refine qQ ?_;refine qW ?_;refine jUH 100 63 10 ?_;refine qZ ?_;refine qJ (qV rfl) rfl rfl rfl ?_;refine qX ?_;refine qQ ?_;refine qW ?_;refine uW ?_;refine zKZ [3,7] [3] (α:=Nat × Nat × Option Addr × Nat × List Cn) (fun x=>n - x.1) (fun x=>x.1≤n∧yZV nrm l nj x.1=(x.2.2.2.2,x.2.1)∧x.2.2.2.2.length=x.1) (fun x=>⟨w,[(100,ownD x.2.2.1,OwnF 0 63 10 x.2.2.1 x.2.2.2.1 x.1 (cnC x.2.2.2.2))]⟩) (fun x=>[(8,.slice x.2.2.1 x.1 x.2.2.2.1),(1,.int .i64 ((n - x.1:Nat):Int))]) (fun x=>[(11,b11,srcC lv l x.2.1,81)]) (0,0,none,0,[]) rfl rfl ?_ ?_ ?_ ?_ rfl ?_
 ·
  exact ⟨Nat.zero_le _,rfl,rfl⟩
 ·
  exact rfl
 ·
  repeat' first | exact trivial | exact True.intro | refine ⟨rfl,?_⟩
 ·
  repeat' first | exact trivial | exact True.intro | refine ⟨rfl,?_⟩
 rintro ⟨k,q,a,cap,rows⟩ ⟨hk,hsh,hlen⟩
 dsimp only at hk hsh hlen ⊢;refine qW ?_;refine qW ?_;refine qZ ?_;refine qJ (qK rfl) rfl rfl rfl ?_;refine qJ (yJK rfl rfl) rfl rfl rfl ?_;refine qX ?_;refine qQ ?_;refine kZ rfl (fun hc13 => ?_) (fun hc13 => ?_)
 ·
  have h2:k < n:=by have:=vJZ hc13; omega
  refine kJ ?_;refine qQ ?_;refine qW ?_;refine uW ?_;refine qW ?_;refine doC_srcB 11 28 [1,6,8,12,15,20,22,24] rfl mo (by kernel_rfl) ?_;simp only [vYK,vYX,vYU,vYW];refine qKZ (fun _=>qK rfl) rfl rfl rfl rfl ?_;refine zZY (F:=vI) 11 hl rfl en21 rfl (fun w' h=>jW _ (by first | omega | assumption | (unfold In64; omega) | decide) w' h) rfl rfl rfl ?_; intro r17 hr17;have br17:=uK hr17 (by first | decide | omega);refine qKZ (fun _=>qK rfl) rfl rfl rfl rfl ?_;refine qKZ (fun _=>qU zWU rfl) rfl rfl rfl rfl ?_;refine qKZ (fun _=>yX 3 ty22 rfl rfl rfl) rfl rfl rfl rfl ?_;refine qKZ (fun _=>qUG sl22 rfl) rfl rfl rfl rfl ?_;refine zZY (F:=vI) 11 hl rfl en21 rfl (fun w' h=>jW _ (by omega) w' h) rfl rfl rfl ?_; intro r22 hr22;have br22:=uK hr22 (by first | decide | omega);refine qKZ (fun _=>qK rfl) rfl rfl rfl rfl ?_;refine zZY (F:=vI) 11 hl rfl en24 rfl (fun w' h=>qWJ _ (by first | omega | assumption | (unfold In64; omega) | decide) w' h) rfl rfl rfl ?_; intro r24 hr24;have br24:=zVH hr24 (by first | decide | omega);refine qKZ (fun _=>kQ rfl rfl (by first | exact zK ⟨by omega,by omega⟩ | rfl)) rfl rfl rfl rfl ?_;refine qKZ (fun _=>qVW rfl rfl (by first | decide | omega) (quo2 (by omega))) rfl rfl rfl rfl ?_;refine qKZ (fun _=>qK rfl) rfl rfl rfl rfl ?_;refine zZY (F:=vI) 11 hl rfl en24 rfl (fun w' h=>qWJ _ (by first | omega | assumption | (unfold In64; omega) | decide) w' h) rfl rfl rfl ?_; intro r28 hr28;have br28:=zVH hr28 (by first | decide | omega);refine qKZ (fun _=>kQ rfl rfl (by first | exact zK ⟨by omega,by omega⟩ | rfl)) rfl rfl rfl rfl ?_;refine qKZ (fun _=>qK rfl) rfl rfl rfl rfl ?_;refine zZY (F:=vI) 11 hl rfl en24 rfl (fun w' h=>qWJ _ (by first | omega | assumption | (unfold In64; omega) | decide) w' h) rfl rfl rfl ?_; intro r31 hr31;have br31:=zVH hr31 (by first | decide | omega);refine qKZ (fun _=>kQ rfl rfl (by first | exact zK ⟨by omega,by omega⟩ | rfl)) rfl rfl rfl rfl ?_;refine qKZ (fun _=>qVW rfl rfl (by first | decide | omega) (quo2 (by omega))) rfl rfl rfl rfl ?_;refine qKZ (fun _=>qZV la53 rfl rfl) rfl rfl rfl rfl ?_;refine qKZ (fun _=>qK rfl) rfl rfl rfl rfl ?_;refine zZY (F:=vI) 11 hl rfl en21 rfl (fun w' h=>jW _ (by first | omega | assumption | (unfold In64; omega) | decide) w' h) rfl rfl rfl ?_; intro r36 hr36;have br36:=uK hr36 (by first | decide | omega);refine qKZ (fun _=>qK rfl) rfl rfl rfl rfl ?_;refine zZY (F:=vI) 11 hl rfl en21 rfl (fun w' h=>jW _ (by first | omega | assumption | (unfold In64; omega) | decide) w' h) rfl rfl rfl ?_; intro r38 hr38;have br38:=uK hr38 (by first | decide | omega);refine qKZ (fun _=>qK rfl) rfl rfl rfl rfl ?_;refine zZY (F:=vI) 11 hl rfl en21 rfl (fun w' h=>jW _ (by first | omega | assumption | (unfold In64; omega) | decide) w' h) rfl rfl rfl ?_; intro r40 hr40;have br40:=uK hr40 (by first | decide | omega);refine doM_vg (F:=z3) (fun _=>uG en42 rfl (fun w _=>mNormal2 _ _ _  w)) rfl rfl rfl rfl ?_; intro r41 hr41;refine qKZ (fun _=>qZV la63 rfl rfl) rfl rfl rfl rfl ?_;refine doM_alloc (famB (id:=11) rfl) ze63 rfl rfl rfl rfl rfl ?_;refine jUV ?_;refine tail_heap rfl ?_;refine tail_alloc 9 rfl ?_; intro b9_2;refine qWG ?_;refine zV 9 ty63 rfl rfl rfl rfl rfl rfl rfl rfl ?_;refine qX ?_;refine qQ ?_;refine qW ?_;refine qZ ?_;refine qJ (qK rfl) rfl rfl rfl ?_;refine yZX (F:=vI) 11 hl rfl en24 rfl (fun w' h=>qWJ _ (by first | omega | assumption | (unfold In64; omega) | decide) w' h) rfl rfl rfl ?_; intro r44 hr44;have br44:=zVH hr44 (by first | decide | omega);refine qJ (kQ rfl rfl (by first | exact zK ⟨by omega,by omega⟩ | rfl)) rfl rfl rfl ?_;refine qJ (qU fa63_4 rfl) rfl rfl rfl ?_;refine zV 9 ty2 rfl rfl rfl rfl rfl rfl rfl rfl ?_;refine qX ?_;refine qQ ?_;refine qW ?_;refine doC_srcB 11 6 [3] rfl mo (by kernel_rfl) ?_;simp only [vYK,vYX,vYU,vYW];refine qKZ (fun _=>qU fa63_4 rfl) rfl rfl rfl rfl ?_;refine qKZ (fun _=>yX 9 ty2 rfl rfl rfl) rfl rfl rfl rfl ?_;refine qKZ (fun _=>qK rfl) rfl rfl rfl rfl ?_;refine zZY (F:=vI) 11 hl rfl en21 rfl (fun w' h=>jW _ (by first | omega | assumption | (unfold In64; omega) | decide) w' h) rfl rfl rfl ?_; intro r50 hr50;have br50:=uK hr50 (by first | decide | omega);refine qKZ (fun _=>kQ rfl rfl (by first | exact zK ⟨by omega,by omega⟩ | rfl)) rfl rfl rfl rfl ?_;refine qKZ (fun _=>uQ rfl rfl (by first | exact zK ⟨by omega,by omega⟩ | rfl)) rfl rfl rfl rfl ?_;refine jUV ?_;refine tail_heap rfl ?_;refine qWG ?_;refine qJ (qU fa63_5 rfl) rfl rfl rfl ?_;refine zV 9 ty2 rfl rfl rfl rfl rfl rfl rfl rfl ?_;refine qX ?_;refine qQ ?_;refine qW ?_;refine qW ?_;refine qZ ?_;refine qJ (qK rfl) rfl rfl rfl ?_;refine yZX (F:=vI) 11 hl rfl en21 rfl (fun w' h=>jW _ (by first | omega | assumption | (unfold In64; omega) | decide) w' h) rfl rfl rfl ?_; intro r55 hr55;have br55:=uK hr55 (by first | decide | omega);refine qJ (qUW rfl rfl) rfl rfl rfl ?_;refine qX ?_;refine qQ ?_;refine kZ rfl (fun hc56 => ?_) (fun hc56 => ?_)
  ·
   refine qZ ?_;refine qJ (qK rfl) rfl rfl rfl ?_;refine yZX (F:=vI) 11 hl rfl en21 rfl (fun w' h=>jW _ (by first | omega | assumption | (unfold In64; omega) | decide) w' h) rfl rfl rfl ?_; intro r58 hr58;have br58:=uK hr58 (by first | decide | omega);refine qJ (qGW rfl rfl (by first | exact zK ⟨by omega,by omega⟩ | rfl)) rfl rfl rfl ?_;refine qJ (qU fa63_1 rfl) rfl rfl rfl ?_;refine zV 9 ty3 rfl rfl rfl rfl rfl rfl rfl rfl ?_;refine qX ?_;refine qQ ?_;refine qZ ?_;refine qJ (qK rfl) rfl rfl rfl ?_;refine qJ (jG 9 ty63 rfl rfl rfl) rfl rfl rfl ?_;refine qHQ 63 sl26 ze63 rfl rfl rfl rfl rfl rfl rfl rfl ?_; intro b63;refine qHZ (id2:=63) 100 app26 rfl rfl rfl rfl rfl rfl rfl (by omega) (by omega) rfl rfl ?_; intro a64 c64 R64 hR64;obtain rfl:=Option.some.inj hR64;refine qJ (qV rfl) rfl rfl rfl ?_;refine qX ?_;refine zU ?_;refine qQ ?_;refine qZ ?_;refine qJ (qK rfl) rfl rfl rfl ?_;refine qJ (qGW rfl rfl (kZV (by omega) h2)) rfl rfl rfl ?_;refine qJ (qV rfl) rfl rfl rfl ?_;refine qX ?_;refine qJV (k + 1,q + 12,a64,c64,rows ++ [⟨r17,r58 - 3,⟨(r24 * 65536).tdiv 2,r28 * 65536,(r31 * 65536).tdiv 2⟩,r41,r44 * 65536,r44 * 65536 + r50 * 65536⟩]) (by refine ⟨?_,?_,?_⟩ <;> dsimp only; omega; exact cns_t hsh hr17 hr24 hr28 hr31 hr36 hr38 hr40 hr41 hr44 hr50 hr55 (vJZ hc56) hr58; simp [hlen]) (by show n - (k + 1) < n - k; omega) (by dsimp only; rw [cnC_snoc]; rfl) ?_ ?_ rfl
   repeat' first | exact trivial | exact True.intro | refine ⟨rfl,?_⟩
  ·
   refine kJ ?_;refine qQ ?_;refine qZ ?_;refine qJ (qK rfl) rfl rfl rfl ?_;refine qJ (jG 9 ty63 rfl rfl rfl) rfl rfl rfl ?_;refine qHQ 63 sl26 ze63 rfl rfl rfl rfl rfl rfl rfl rfl ?_; intro b63;refine qHZ (id2:=63) 100 app26 rfl rfl rfl rfl rfl rfl rfl (by omega) (by omega) rfl rfl ?_; intro a64 c64 R64 hR64;obtain rfl:=Option.some.inj hR64;refine qJ (qV rfl) rfl rfl rfl ?_;refine qX ?_;refine zU ?_;refine qQ ?_;refine qZ ?_;refine qJ (qK rfl) rfl rfl rfl ?_;refine qJ (qGW rfl rfl (kZV (by omega) h2)) rfl rfl rfl ?_;refine qJ (qV rfl) rfl rfl rfl ?_;refine qX ?_;refine qJV (k + 1,q + 11,a64,c64,rows ++ [⟨r17,r22,⟨(r24 * 65536).tdiv 2,r28 * 65536,(r31 * 65536).tdiv 2⟩,r41,r44 * 65536,r44 * 65536 + r50 * 65536⟩]) (by refine ⟨?_,?_,?_⟩ <;> dsimp only; omega; exact cns_f hsh hr17 hr22 hr24 hr28 hr31 hr36 hr38 hr40 hr41 hr44 hr50 hr55 (vJY hc56); simp [hlen]) (by show n - (k + 1) < n - k; omega) (by dsimp only; rw [cnC_snoc]; rfl) ?_ ?_ rfl
   repeat' first | exact trivial | exact True.intro | refine ⟨rfl,?_⟩
 ·
  obtain rfl:k=n:=by have:=vJY hc13; omega
  refine zUU ?_;refine kK ?_;refine kK ?_;refine qYX ?_;refine qQ ?_;refine qW ?_;refine qZ ?_;refine qJ (qK rfl) rfl rfl rfl ?_;refine qJ (qV rfl) rfl rfl rfl ?_;refine qX ?_;refine qQ ?_;refine jU ?_;refine zYG (rs:=[.tmp 6]) rfl (resC (uU rfl) (resN)) rfl ?_;intro w2 k2;obtain ⟨_,q2,q3⟩:=k2.facts _ vZQ;exact ⟨(a,cap),jYH q3,rfl,k2.grow,ownD a,yGQ _ _ _ _ _ _ _,fun z hz=>⟨(q2 z hz).1,(q2 z hz).2.1⟩,by dsimp only; rw [hsh]; exact q3⟩
end Go.Proofs.YtmffoiemmlcmfaaGreat
namespace Go.Proofs.YtmffoiemmlcmfaaGreat
open Go.Sx
theorem en19:kH Tryz.prog 19:=zQ Tryz.func19 (by kernel_rfl) (by kernel_rfl)
theorem mkRobotT (lv:Value) (l:List Int) (w:World) (hl:IntsAt w w.heap.size lv l):Calls Tryz.prog 6 [lv].toArray w (jXX (X:=(Option Addr × Nat) × (Option Addr × Nat)) (fun x=>nJ l 0≤x.1.2∧nM l 0≤x.2.2) (fun x=>.agg #[.slice x.1.1 (nJ l 0) x.1.2,.slice x.2.1 (nM l 0) x.2.2]) (fun x w=>qJJ 12 x.1.1 ((jsOf l 0 (nJ l 0)).1.map jc) w∧qJJ 5 x.2.1 ((msOf l 0 (nM l 0)).map mc) w) w):=by
 refine jY (n:=6) Tryz.func6 rfl rfl rfl ?_;refine qW ?_;refine qZ ?_;refine qKV 2 ze25 rfl rfl rfl ?_; intro b2;refine qX ?_;refine qQ ?_;refine qW ?_;refine qZ ?_;refine qJ (qK rfl) rfl rfl rfl ?_;refine zHY 4 en20 rfl (fun w' k=>uYV w' (qGH hl k.grow (Nat.le_refl _))) rfl rfl ?_; intro b4;refine doL_toldB 5 4 hl rfl en19 rfl (fun w' h=>mkRobot   w' h) rfl rfl rfl ?_; intro x5 Dx5 _;rename_i hP5;obtain ⟨⟨aj,cj⟩,am,cm⟩:=x5;dsimp only;refine zV 2 ty25 rfl rfl rfl rfl rfl rfl rfl rfl ?_;refine qX ?_;refine qQ ?_;refine jU ?_;refine zYG (rs:=[.cell 2 25]) rfl (resC (jH 2 rfl rfl ty25 rfl) (resN)) rfl ?_;intro w2 k2;obtain ⟨p1,p2,p3⟩:=k2.facts _ vZQ;exact ⟨((aj,cj),(am,cm)),hP5,rfl,k2.grow,_,p1,fun z hz=>⟨(p2 z hz).1,(p2 z hz).2.1⟩,p3⟩
end Go.Proofs.YtmffoiemmlcmfaaGreat
namespace Go.Proofs.YtmffoiemmlcmfaaGreat
open Go.Rx Rt Go.Sx Go.RowKit
def jp (j:J):List PV:=[.s j.name,.n .i64 j.kind,.n .i64 j.parent,.n .i64 j.off.x,.n .i64 j.off.y,.n .i64 j.off.z,.n .i64 j.lo,.n .i64 j.hi,.n .i64 j.weight,.n .i64 j.speed,.n .i64 j.accel,.n .i64 j.torque]
def mp (m:Ms):List PV:=[.n .i64 m.link,.n .i64 m.mass,.n .i64 m.p.x,.n .i64 m.p.y,.n .i64 m.p.z]
def cp (c:Cn):List PV:=[.n .i64 c.kind,.n .i64 c.link,.n .i64 c.p.x,.n .i64 c.p.y,.n .i64 c.p.z,.n .i64 c.n.x,.n .i64 c.n.y,.n .i64 c.n.z,.n .i64 c.lo,.n .i64 c.hi]
theorem zZK {α:Type} {f:α→List PV} {g:α→List Value} (h:∀ x,(f x).map PV.val1=g x) (l:List α):qXV (l.map f)=l.map g:=by
 unfold qXV;rw [List.map_map];exact List.map_congr_left fun x _=>h x
theorem yWZ {α:Type} {f:α→List PV} {sz:Nat} (h:∀ x,(Nat.beq (f x).length sz && (f x).all PV.flat1)=true) (l:List α):zZQ sz (l.map f)=true:=by
 unfold zZQ;rw [List.all_map,vZZ];exact fun x _=>h x
theorem jHZ {α:Type} {f:α→List PV} {g:α→List Value} {sz k c:Nat} {l:List α} {a:Option Addr} {F D:Nat→Prop} {G:World→Prop} {w:World} (hv:∀ x,(f x).map PV.val1=g x) (hf:∀ x,(Nat.beq (f x).length sz && (f x).all PV.flat1)=true) (hk:l.length=k) (hc:k≤c) (h0:0 < sz)
  (hd:zQU D G) (hG:G w) (hi:∀ w,G w→qJJ sz a (l.map g) w) (hF:∀ k,D k→F k):RP F w (.l (l.map f)) (.slice a k c):=by
 have:=rp_of_slc (F:=F) (c:=c) (yWZ hf l) (by rw [List.length_map,hk]; exact hc) (by rw [zZK hv]; exact hi w hG) (fun b off ha hne=>hF b (dep_mem hd hG hi h0 (fun e=>hne (by cases l with | nil=>rfl | cons x xs=>cases e)) b off ha))
 rw [List.length_map,hk] at this;exact this
theorem zHG {α:Type} {f:α→List PV} {g:α→List Value} {sz k:Nat} {l:List α} {F:Nat→Prop} {w:World} {v:Value} (hv:∀ x,(f x).map PV.val1=g x) (hf:∀ x,(Nat.beq (f x).length sz && (f x).all PV.flat1)=true) (hk:l.length=k) (hF:∀ k,F k→k < w.heap.size) (h:RP F w (.l (l.map f)) v) :
  ∃ a c,v=.slice a k c∧k≤c∧qJJ sz a (l.map g) w:=by
 obtain ⟨a,c,rfl,hc,hS,_⟩:=slc_of_rp (yWZ hf l) hF h;rw [List.length_map,hk] at hc;exact ⟨a,c,by rw [List.length_map,hk],hc,by rw [zZK hv] at hS; exact hS⟩
def robP (l:List Int):PV:=.a [.l ((jsOf l 0 (nJ l 0)).1.map jp),.l ((msOf l 0 (nM l 0)).map mp)]
theorem snd_robot {l:List Int} (hl:l.length≤9223372036854775807):zH Tryz.prog 6 [zJJ l] (.v (robP l)):=by
 refine snd_told (X:=(Option Addr × Nat) × (Option Addr × Nat)) (Φ:=fun x=>nJ l 0≤x.1.2∧nM l 0≤x.2.2) (V:=fun x=>.agg #[.slice x.1.1 (nJ l 0) x.1.2,.slice x.2.1 (nM l 0) x.2.2]) (G:=fun x w=>qJJ 12 x.1.1 ((jsOf l 0 (nJ l 0)).1.map jc) w∧qJJ 5 x.2.1 ((msOf l 0 (nM l 0)).map mc) w) (zQ Tryz.func6 (by kernel_rfl) (by kernel_rfl)) (fun w F vals hF hal => ?_) (fun x w D F hP hG hd hF => ?_)
 ·obtain ⟨v,vs,rfl,h1,h2⟩:=qYW hal;obtain rfl:=zUG h2;exact mkRobotT v l w (yKG hl hF h1)
 ·have h:=qKU (jHZ (f:=jp) (g:=jc) (sz:=12) (fun _=>rfl) (fun _=>rfl) (zQH l 0 _) hP.1 (by decide) hd hG (fun _ h=>h.1) hF) (qKU (jHZ (f:=mp) (g:=mc) (sz:=5) (fun _=>rfl) (fun _=>rfl) (zVY l 0 _) hP.2 (by decide) hd hG (fun _ h=>h.2) hF) jYY);exact .a _ _ h.1 (fun v hv=>by rcases List.mem_cons.1 hv with rfl | hv; rfl; rcases List.mem_cons.1 hv with rfl | hv; rfl; cases hv) h.2
theorem rob_open {l:List Int} {F:Nat→Prop} {w:World} {v:Value} (hF:∀ k,F k→k < w.heap.size) (h:RP F w (robP l) v):∃ aj cj am cm,v=.agg #[.slice aj (nJ l 0) cj,.slice am (nM l 0) cm]∧qJJ 12 aj ((jsOf l 0 (nJ l 0)).1.map jc) w∧qJJ 5 am ((msOf l 0 (nM l 0)).map mc) w:=by
 obtain ⟨vs,rfl,ha⟩:=rp_parts h;obtain ⟨v1,vs,rfl,h1,ha⟩:=qYW ha;obtain ⟨v2,vs,rfl,h2,ha⟩:=qYW ha;obtain rfl:=zUG ha;obtain ⟨aj,cj,rfl,_,hj⟩:=zHG (sz:=12) (g:=jc) (fun _=>rfl) (fun _=>rfl) (zQH l 0 _) hF h1;obtain ⟨am,cm,rfl,_,hm⟩:=zHG (sz:=5) (g:=mc) (fun _=>rfl) (fun _=>rfl) (zVY l 0 _) hF h2;exact ⟨aj,cj,am,cm,rfl,hj,hm⟩
noncomputable def jVX (l m:List Int) (n:Nat):List Cn:=(yZV nrm m (nJ l 0) n).1
theorem jKX {js:List J} {bx:List Iv}:∀ k,k≤js.length→k≤bx.length→(lks js bx k).length=k
 | 0,_,_=>rfl
 | k + 1,h1,h2=>by
  have e1:js[k]? = some (js[k]'(by omega)):=vQK (by omega);have e2:bx[k]? = some (bx[k]'(by omega)):=vQK (by omega);simp only [lks,e1,e2,List.length_append,vQW,vQV];rw [jKX k (by omega) (by omega)]
end Go.Proofs.YtmffoiemmlcmfaaGreat
namespace Go.Proofs.YtmffoiemmlcmfaaGreat.Ov
open Go.Rx Rt Go.Sx Go.RowKit
open Od
noncomputable def gEq (a b:PV):Bool:=@decide (a=b) (vYJ _)
theorem qXZ (a:PV):gEq a a=true:=@vJQ _ (vYJ _) rfl
theorem zJQ {a b:PV} (h:gEq a b=true):a=b:=@vJZ _ (vYJ _) h
def F_b:Bool→Option (Ret × Mem):=fun v=>some (.v (.b v),[])
end Go.Proofs.YtmffoiemmlcmfaaGreat.Ov
namespace Go.Rx
open Go.RowKit Go.Sx
abbrev Cont:=Ex→St→Option (Ret × Mem)
abbrev qKX:=St→Cont→Option (Ret × Mem)
def qGK:Nat→Code→Code
 | 0,.seq x _=>x
 | _ + 1,.seq _ y=>y
 | 0,.cond _ x _=>x
 | _ + 1,.cond _ _ y=>y
 | _,.block _ x=>x
 | _,.scope x=>x
 | _,.loop x=>x
 | _,c=>c
def qXX (B:Code):List Nat→Code
 | []=>B
 | i :: p=>qGK i (qXX B p)
def jZV:List Nat→List Nat→Bool
 | [],[]=>true
 | x :: xs,y :: ys=>Nat.beq x y && jZV xs ys
 | _,_=>false
theorem yVV:∀ {p q:List Nat},jZV p q=true→p=q
 | [],[],_=>rfl
 | x :: xs,y :: ys,h=>by
  simp only [jZV,vQJ] at h;rw [vQX h.1,yVV h.2]
 | [],_ :: _,h=>by cases h
 | _ :: _,[],h=>by cases h
def LF (N:Nat) (C:Cx) (cK:qVK) (x:Code) (h:Hint) (K:Cont):Nat→St→Option (Ret × Mem)
 | 0,_=>none
 | n + 1,σ=>qHW N C cK x (fun e τ=>match e with
   | .normal=>LF N C cK x h K n (qGJ h τ)
   | e=>K e (qUU h τ)) σ
def jVH (N:Nat) (C:Cx) (cK:qVK) (x:Code) (S:qKX):Prop:=∀ K σ r,S σ K=some r→LF N C cK x (C.T.hint C.me (zY x)) K N σ=some r
theorem loopN_LF {N:Nat} {C:Cx} {cK:qVK} {x:Code} {h:Hint} {K:Cont}:∀ (n:Nat) (σ:St),yKX (fun again σ=>qHW N C cK x (fun e σ=>match e with
   | .normal=>again σ
   | e=>K e (qUU h σ)) (qGJ h σ)) n σ=LF N C cK x h K n (qGJ h σ)
 | 0,_=>rfl
 | n + 1,σ=>by
  simp only [yKX,LF]
  congr 1
  funext e τ;cases e with
  | normal=>exact loopN_LF n τ
  | _=>rfl
def yQQ (N:Nat) (C:Cx) (cK:qVK) (LO:List Nat→Option qKX):Code→List Nat→Cont→St→Option (Ret × Mem)
 | .skip,_,K,σ=>K .normal σ
 | .label _,_,K,σ=>K .normal σ
 | .scope x,p,K,σ=>yQQ N C cK LO x (0 :: p) K σ
 | .ret,_,K,σ=>K .ret σ
 | .exit id,_,K,σ=>K (.exit id) σ
 | .region _ ops d,_,K,σ=>bif d then zWG C cK ops 0 ops.toList [] (K .normal) σ else yVK C cK ops ops.toList (K .normal) σ
 | .seq x y,p,K,σ=>yQQ N C cK LO x (0 :: p) (fun e σ=>match e with
   | .normal=>yQQ N C cK LO y (1 :: p) K σ
   | e=>K e σ) σ
 | .cond c x y,p,K,σ=>(opv 1 σ c).bind fun v=>match v with
   | .v (.b t)=>bif t then yQQ N C cK LO x (0 :: p) K σ else yQQ N C cK LO y (1 :: p) K σ
   | _=>none
 | .block id x,p,K,σ=>yQQ N C cK LO x (0 :: p) (fun e σ=>match e with
   | .exit id'=>bif Nat.beq id' id then K .normal σ else K (.exit id') σ
   | e=>K e σ) σ
 | .loop x,p,K,σ=>match LO p with
   | some S=>S (qGJ (C.T.hint C.me (zY x)) σ) K
   | none=>yKX (fun again σ=>qHW N C cK x (fun e σ=>match e with
     | .normal=>again σ
     | e=>K e (qUU (C.T.hint C.me (zY x)) σ)) (qGJ (C.T.hint C.me (zY x)) σ)) N σ
 | _,_,_,_=>none
section
variable {C:Cx} {cK:qVK} {r:Ret × Mem} {K0:Ret × Mem→Option (Ret × Mem)}
theorem qGX {N:Nat} {LO:List Nat→Option qKX} {B:Code} (hc:SndK C cK) (hL:∀ p S,LO p=some S→jVH N C cK (qGK 0 (qXX B p)) S):∀ (c:Code) (p:List Nat) {K K':Cont} (hp:qXX B p=c) (hK:∀ e σ,K e σ=some r→Gets K0 r (K' e σ)) (σ:St),yQQ N C cK LO c p K σ=some r→Gets K0 r (runC N C c K' σ)
 | .skip,p,K,K',hp,hK,σ,h=>hK _ _ h
 | .label _,p,K,K',hp,hK,σ,h=>hK _ _ h
 | .scope x,p,K,K',hp,hK,σ,h=>qGX hc hL x (0 :: p) (by simp only [qXX,hp,qGK]) hK σ h
 | .ret,p,K,K',hp,hK,σ,h=>hK _ _ h
 | .exit id,p,K,K',hp,hK,σ,h=>hK _ _ h
 | .region id ops d,p,K,K',hp,hK,σ,h=>by
  cases d with
  | true=>exact zQV hc (hK .normal) _ _ _ _ h
  | false=>exact zYV hc (hK .normal) _ _ h
 | .seq x y,p,K,K',hp,hK,σ,h=>by
  refine qGX hc hL x (0 :: p) (by simp only [qXX,hp,qGK]) (fun e τ hk => ?_) σ h;cases e with
  | normal=>exact qGX hc hL y (1 :: p) (by simp only [qXX,hp,qGK]) hK τ hk
  | _=>exact hK _ _ hk
 | .cond c x y,p,K,K',hp,hK,σ,h=>by
  simp only [yQQ,vQQ] at h;obtain ⟨v,hv,h⟩:=h;simp only [runC,hv,vYQ];split at h
  ·rename_i t;cases t with
   | true=>exact qGX hc hL x (0 :: p) (by simp only [qXX,hp,qGK]) hK σ h
   | false=>exact qGX hc hL y (1 :: p) (by simp only [qXX,hp,qGK]) hK σ h
  ·cases h
 | .block id x,p,K,K',hp,hK,σ,h=>by
  refine qGX hc hL x (0 :: p) (by simp only [qXX,hp,qGK]) (fun e τ hk => ?_) σ h;cases e with
  | exit id' =>
   simp only at hk ⊢;cases hb:Nat.beq id' id with
   | true=>rw [hb] at hk; exact hK _ _ hk
   | false=>rw [hb] at hk; exact hK _ _ hk
  | _=>exact hK _ _ hk
 | .loop x,p,K,K',hp,hK,σ,h=>by
  simp only [yQQ] at h;simp only [runC];have h':yKX (fun again σ=>qHW N C cK x (fun e σ=>match e with
     | .normal=>again σ
     | e=>K e (qUU (C.T.hint C.me (zY x)) σ)) (qGJ (C.T.hint C.me (zY x)) σ)) N σ=some r:=by
   cases hS:LO p with
   | none=>rw [hS] at h; exact h
   | some S =>
    rw [hS] at h
    have:=hL p S hS
    rw [hp] at this;rw [loopN_LF];exact this K _ r h
  refine zVJ (fun a a' ha τ hs => ?_) N σ h';refine qKG hc x (fun e υ hk => ?_) _ hs;cases e with
  | normal=>exact ha _ hk
  | _=>exact hK _ _ hk
 | .rangeFunc ..,p,K,K',hp,hK,σ,h=>by cases h
 | .goto _,p,K,K',hp,hK,σ,h=>by cases h
 | .refuse _,p,K,K',hp,hK,σ,h=>by cases h
end
def cxF (T:Tab) (ok:OrK) (N f n:Nat):Cx:=⟨T,zKY ok.orc (runF T ok.orc N),zHU ok.orc (runF T ok.orc N),f,n⟩
def ckF (T:Tab) (ok:OrK) (N:Nat):qVK:=jVW ok (kUZ T ok N)
def jQX (T:Tab) (f:Nat):Code:=match T.fn f with
 | some fi=>fi.body
 | none=>.skip
def ntmF (T:Tab) (f:Nat):Nat:=match T.fn f with
 | some fi=>fi.ntmps
 | none=>0
def qYH (T:Tab) (ok:OrK) (LO:List Nat→Option qKX) (N f:Nat) (ps:List PV):Option (Ret × Mem):=match T.fn f with
 | none=>none
 | some fi=>bif Nat.ble (ps.map HV.v).length fi.ntmps then yQQ N (cxF T ok N f (ntmF T f)) (ckF T ok N) LO (jQX T f) [] (fun e σ=>(endK T [] fi.results e σ).bind fun r=>some (r.1,[])) ⟨initS 0 (ps.map .v),[]⟩ else none
theorem kYQ {T:Tab} {ok:OrK} {N f n:Nat}:SndK (cxF T ok N f n) (ckF T ok N):=fun g qs K' r' hk=>by
 unfold ckF jVW at hk;show ∃ x,zKY ok.orc (runF T ok.orc N) g qs=some x∧K' x=some r';unfold zKY;cases ho:ok g with
 | some o =>
  rw [ho] at hk;simp only [vQQ] at hk;obtain ⟨x,hx,hk⟩:=hk;obtain ⟨h1,hk⟩:=qH hk;exact ⟨x.2,by simp only [OrK.orc,ho,hx,vYQ,h1,vYV],hk⟩
 | none =>
  rw [ho] at hk;obtain ⟨x,M,hx,hk⟩:=yYG N g qs K' r' hk;have e:ok.orc.a g=none:=by simp only [OrK.orc,ho,Option.bind_none]
  exact ⟨x,by simp only [e,hx,vYQ],hk⟩
def qY (T:Tab) (f:Nat) (p:List Nat):Code:=qGK 0 (qXX (jQX T f) p)
theorem jV {P:Program} {T:Tab} {ok:OrK} {LO:List Nat→Option qKX} {N f:Nat} {ps:List PV} {r:Ret} (hT:TabOk P T) (hm:P.follows .mixedOrders=true) (hO:ok.Ok P)
  (hL:∀ p S,LO p=some S→jVH N (cxF T ok N f (ntmF T f)) (ckF T ok N) (qY T f p) S) (h:qYH T ok LO N f ps=some (r,[])):zH P f ps r:=by
 refine zXW (N:=N + 1) hT hm hO.orc ?_;unfold qYH at h;split at h
 ·cases h
 ·rename_i fi hfi;obtain ⟨hb,h⟩:=qH h;obtain ⟨q,h1,h2⟩:=qGX (K0:=fun q=>some (q.1,[])) (K':=endK T [] fi.results) (B:=jQX T f) kYQ hL (jQX T f) [] rfl (fun e σ hk=>by
   simp only [vQQ] at hk;exact hk) _ h
  cases h2;have eb:jQX T f=fi.body:=by unfold jQX; rw [hfi]
  have en:ntmF T f=fi.ntmps:=by unfold ntmF; rw [hfi]
  rw [eb,en] at h1;unfold run;simp only [runF,hfi,hb,vYV];unfold cxF at h1;rw [h1];rfl
noncomputable def gSt (a b:St):Bool:=@decide (a=b) (vYJ _)
theorem yG (a:St):gSt a a=true:=@vJQ _ (vYJ _) rfl
theorem gSt_eq {a b:St} (h:gSt a b=true):a=b:=@vJZ _ (vYJ _) h
noncomputable def jX (s:St) (R:Cont→Option (Ret × Mem)):qKX:=fun σ K=>bif gSt σ s then R K else none
theorem qQU {N:Nat} {C:Cx} {cK:qVK} {x:Code} {s:St} {R:Cont→Option (Ret × Mem)} (h:∀ K r,R K=some r→LF N C cK x (C.T.hint C.me (zY x)) K N s=some r):jVH N C cK x (jX s R):=fun K σ r hr=>by
 unfold jX at hr;obtain ⟨hg,hq⟩:=qH hr;have e:=gSt_eq hg;subst e;exact h K r hq
def zZ (l:List (List Nat × qKX)) (p:List Nat):Option qKX:=match l with
 | []=>none
 | x :: xs=>bif jZV x.1 p then some x.2 else zZ xs p
theorem uY {N:Nat} {C:Cx} {cK:qVK} {L:List Nat→Code}:∀ {l:List (List Nat × qKX)},AllP (fun x:List Nat × qKX=>jVH N C cK (L x.1) x.2) l→∀ p S,zZ l p=some S→jVH N C cK (L p) S
 | [],_,p,S,h=>by cases h
 | x :: xs,hl,p,S,h=>by
  simp only [zZ] at h;cases hb:jZV x.1 p with
  | true =>
   rw [hb] at h;simp only [vYV,vQZ] at h;subst h
   have:=yVV hb
   subst this;exact hl.1
  | false =>
   rw [hb] at h;exact uY hl.2 p S h
end Go.Rx
namespace Go.Proofs.YtmffoiemmlcmfaaGreat.Pc
open Go.Rx Rt Go.Sx Go.RowKit
open Ov
def F_n:Int→Option (Ret × Mem):=fun v=>some (.v (.n .i64 v),[])
def cjT {α:Type} (f:Int→α) (i:Int) (j:J):α:=(bif (decide (j.kind < 0)) then (f 803) else (bif (decide (6 < j.kind)) then (f 803) else (bif (decide (j.parent < (-1))) then (f 804) else (bif (decide (i≤j.parent)) then (f 804) else (bif (decide (j.off.x < (-4194304))) then (f 805) else (bif (decide (4194304 < j.off.x)) then (f 805) else (bif (decide (j.off.y < (-4194304))) then (f 805) else (bif (decide (4194304 < j.off.y)) then (f 805) else (bif (decide (j.off.z < (-4194304))) then (f 805) else (bif (decide (4194304 < j.off.z)) then (f 805) else (bif (decide (j.kind=0)) then (bif (decide (j.hi < j.lo)) then (f 806) else (bif (decide (j.lo < 0)) then (f 806) else (bif (decide (0 < j.hi)) then (f 806) else (bif (decide (1≤j.weight)) then (bif (decide (j.weight≤1024)) then (bif (decide (1≤j.speed)) then (bif (decide (j.speed≤1048576)) then (bif (decide (1≤j.accel)) then (bif (decide (j.accel≤1048576)) then (bif (decide (1≤j.torque)) then (bif (decide (j.torque≤1099511627776)) then (f 0) else (f 807)) else (f 807)) else (f 807)) else (f 807)) else (f 807)) else (f 807)) else (f 807)) else (f 807))))) else (bif (decide (j.kind=1)) then (bif (decide (j.hi < j.lo)) then (f 806) else (bif (decide (j.lo < (-524288))) then (f 806) else (bif (decide (524288 < j.hi)) then (f 806) else (bif (decide (1≤j.weight)) then (bif (decide (j.weight≤1024)) then (bif (decide (1≤j.speed)) then (bif (decide (j.speed≤1048576)) then (bif (decide (1≤j.accel)) then (bif (decide (j.accel≤1048576)) then (bif (decide (1≤j.torque)) then (bif (decide (j.torque≤1099511627776)) then (f 0) else (f 807)) else (f 807)) else (f 807)) else (f 807)) else (f 807)) else (f 807)) else (f 807)) else (f 807))))) else (bif (decide (j.kind=2)) then (bif (decide (j.hi < j.lo)) then (f 806) else (bif (decide (j.lo < (-524288))) then (f 806) else (bif (decide (524288 < j.hi)) then (f 806) else (bif (decide (1≤j.weight)) then (bif (decide (j.weight≤1024)) then (bif (decide (1≤j.speed)) then (bif (decide (j.speed≤1048576)) then (bif (decide (1≤j.accel)) then (bif (decide (j.accel≤1048576)) then (bif (decide (1≤j.torque)) then (bif (decide (j.torque≤1099511627776)) then (f 0) else (f 807)) else (f 807)) else (f 807)) else (f 807)) else (f 807)) else (f 807)) else (f 807)) else (f 807))))) else (bif (decide (j.kind=3)) then (bif (decide (j.hi < j.lo)) then (f 806) else (bif (decide (j.lo < (-524288))) then (f 806) else (bif (decide (524288 < j.hi)) then (f 806) else (bif (decide (1≤j.weight)) then (bif (decide (j.weight≤1024)) then (bif (decide (1≤j.speed)) then (bif (decide (j.speed≤1048576)) then (bif (decide (1≤j.accel)) then (bif (decide (j.accel≤1048576)) then (bif (decide (1≤j.torque)) then (bif (decide (j.torque≤1099511627776)) then (f 0) else (f 807)) else (f 807)) else (f 807)) else (f 807)) else (f 807)) else (f 807)) else (f 807)) else (f 807))))) else (bif (decide (j.hi < j.lo)) then (f 806) else (bif (decide (j.lo < (-4194304))) then (f 806) else (bif (decide (4194304 < j.hi)) then (f 806) else (bif (decide (1≤j.weight)) then (bif (decide (j.weight≤1024)) then (bif (decide (1≤j.speed)) then (bif (decide (j.speed≤1048576)) then (bif (decide (1≤j.accel)) then (bif (decide (j.accel≤1048576)) then (bif (decide (1≤j.torque)) then (bif (decide (j.torque≤1099511627776)) then (f 0) else (f 807)) else (f 807)) else (f 807)) else (f 807)) else (f 807)) else (f 807)) else (f 807)) else (f 807)))))))))))))))))))
end Go.Proofs.YtmffoiemmlcmfaaGreat.Pc
namespace Go.Proofs.YtmffoiemmlcmfaaGreat.Na
open Go.Rx Rt Go.Sx Go.RowKit
def okC (first:Bool) (c:Int):Bool:=(decide (97≤c) && decide (c≤122)) || (!first && ((decide (48≤c) && decide (c≤57)) || decide (c=95)))
def allC (s:ByteArray):Nat→Nat→Bool
 | 0,_=>true
 | k + 1,p=>okC (decide ((p:Int)=0)) (yYZ s p) && allC s k (p + 1)
def wrld:ByteArray:=ByteArray.mk #[119,111,114,108,100]
def nmB (s:ByteArray):Bool:=!(decide ((s.size:Int)=0)) && (!(decide (16 < (s.size:Int))) && (!(s.toList == wrld.toList) && allC s s.size 0))
theorem okC_high {f:Bool} {c:Int} (h:128≤c):okC f c=false:=by
 unfold okC;rw [vYH (show ¬ c≤122 by omega),vYH (show ¬ c≤57 by omega),vYH (show ¬ c=95 by omega)]
 simp
theorem byteAt_get {s:ByteArray} {p:Nat} (h:p < s.size):yYZ s p=((s[p]'h).toNat:Int):=by
 unfold yYZ;rw [getElem?_pos s p h];rfl
def hTn (s:ByteArray) (pos:Nat):St:=⟨[(18,.p 18 0)],[(18,.itr s pos)]⟩
def uZG {α:Type} (first:Bool) (c:Int) (g k:α):α:=(bif (decide (97≤c)) then (bif (decide (c≤122)) then g else (bif first then k else (bif (decide (48≤c)) then (bif (decide (c≤57)) then g else (bif (!decide (c=95)) then k else g)) else (bif (!decide (c=95)) then k else g)))) else (bif first then k else (bif (decide (48≤c)) then (bif (decide (c≤57)) then g else (bif (!decide (c=95)) then k else g)) else (bif (!decide (c=95)) then k else g))))
theorem rawTn_eq {α:Type} (first:Bool) (c:Int) (g k:α):uZG first c g k=bif okC first c then g else k:=by
 unfold uZG okC;cases first <;> cases hA:decide (97≤c) <;> cases hB:decide (c≤122) <;> cases hC:decide (48≤c) <;> cases hD:decide (c≤57) <;> cases hE:decide (c=95) <;> first | rfl | (exfalso; simp only [decide_eq_true_eq,decide_eq_false_iff_not] at *; omega)
set_option maxRecDepth 100000 in
theorem rdTn (G:St→Option (Ret × Mem)) (K:Cont) (s:ByteArray) (pos:Nat):qHW 60 (cxF T (OrL.k ([]:OrL)) 60 114 (ntmF T 114)) (ckF T (OrL.k ([]:OrL)) 60) (qY T 114 [0,1,0,1,1]) (fun e τ=>match e with
 | .normal=>G (qGJ ((cxF T (OrL.k ([]:OrL)) 60 114 (ntmF T 114)).T.hint (cxF T (OrL.k ([]:OrL)) 60 114 (ntmF T 114)).me (zY (qY T 114 [0,1,0,1,1]))) τ)
 | e=>K e (qUU ((cxF T (OrL.k ([]:OrL)) 60 114 (ntmF T 114)).T.hint (cxF T (OrL.k ([]:OrL)) 60 114 (ntmF T 114)).me (zY (qY T 114 [0,1,0,1,1]))) τ)) (hTn s pos) =
 bif (decide (pos < s.size)) then uZG (decide ((pos:Int)=0)) ((Utf8.decode s pos).1:Int) (G (hTn s (pos + (Utf8.decode s pos).2))) (K .ret ⟨[(2,.v (.b false))],[]⟩) else (K (.exit 0) ⟨[],[]⟩):=by kernel_rfl
theorem lpTn (K:Cont) (s:ByteArray):∀ (k p m:Nat),p + k=s.size→k < m→LF 60 (cxF T (OrL.k ([]:OrL)) 60 114 (ntmF T 114)) (ckF T (OrL.k ([]:OrL)) 60) (qY T 114 [0,1,0,1,1]) ((cxF T (OrL.k ([]:OrL)) 60 114 (ntmF T 114)).T.hint (cxF T (OrL.k ([]:OrL)) 60 114 (ntmF T 114)).me (zY (qY T 114 [0,1,0,1,1]))) K m (hTn s p)=bif allC s k p then (K (.exit 0) ⟨[],[]⟩) else (K .ret ⟨[(2,.v (.b false))],[]⟩)
 | 0,p,m + 1,hp,hm=>by
  refine (rdTn (fun σ=>LF 60 (cxF T (OrL.k ([]:OrL)) 60 114 (ntmF T 114)) (ckF T (OrL.k ([]:OrL)) 60) (qY T 114 [0,1,0,1,1]) ((cxF T (OrL.k ([]:OrL)) 60 114 (ntmF T 114)).T.hint (cxF T (OrL.k ([]:OrL)) 60 114 (ntmF T 114)).me (zY (qY T 114 [0,1,0,1,1]))) K m σ) K s p).trans ?_;rw [vYH (show ¬ p < s.size by omega)];rfl
 | k + 1,p,m + 1,hp,hm=>by
  refine (rdTn (fun σ=>LF 60 (cxF T (OrL.k ([]:OrL)) 60 114 (ntmF T 114)) (ckF T (OrL.k ([]:OrL)) 60) (qY T 114 [0,1,0,1,1]) ((cxF T (OrL.k ([]:OrL)) 60 114 (ntmF T 114)).T.hint (cxF T (OrL.k ([]:OrL)) 60 114 (ntmF T 114)).me (zY (qY T 114 [0,1,0,1,1]))) K m σ) K s p).trans ?_;have hlt:p < s.size:=by omega
  rw [vJQ hlt,vYV,rawTn_eq];simp only [allC];have hb:=byteAt_get hlt;by_cases h128:(s[p]'hlt).toNat < 128
  ·rw [Go.decode_ascii s p hlt h128,hb];rw [lpTn K s k (p + 1) m (by omega) (by omega)];cases okC (decide ((p:Int)=0)) ((s[p]'hlt).toNat:Int) <;> rfl
  ·have hd:=(Go.decode_high s p hlt (by omega)).1;rw [okC_high (c:=((Utf8.decode s p).1:Int)) (by omega),okC_high (c:=yYZ s p) (by omega)];rfl
set_option maxRecDepth 100000 in
theorem pxTn (s:ByteArray):qYH T (OrL.k ([]:OrL)) (zZ [([0,1,0,1,1],jX (hTn s 0) (fun K=>bif decide (16 < (s.size:Int)) then none else (bif allC s s.size 0 then (K (.exit 0) ⟨[],[]⟩) else (K .ret ⟨[(2,.v (.b false))],[]⟩))))]) 60 114 [.s s] =
 (bif (decide ((s.size:Int)=0)) then some (.v (.b false),[]) else (bif (decide (16 < (s.size:Int))) then some (.v (.b false),[]) else (bif (s.toList == (ByteArray.mk #[119,111,114,108,100]).toList) then some (.v (.b false),[]) else (bif gSt (hTn s 0) (hTn s 0) then (bif decide (16 < (s.size:Int)) then none else (bif allC s s.size 0 then some (.v (.b true),[]) else some (.v (.b false),[]))) else none)))):=by kernel_rfl
theorem snd_Tn (s:ByteArray):zH Tryz.prog 114 [.s s] (.v (.b (nmB s))):=by
 refine jV (N:=60) (LO:=zZ [([0,1,0,1,1],jX (hTn s 0) (fun K=>bif decide (16 < (s.size:Int)) then none else (bif allC s s.size 0 then (K (.exit 0) ⟨[],[]⟩) else (K .ret ⟨[(2,.v (.b false))],[]⟩))))]) yJ yQ (OrL.ok (l:=[]) trivial) (fun p S hp => ?_) ?_
 ·refine uY (L:=qY T 114) (l:=[([0,1,0,1,1],jX (hTn s 0) (fun K=>bif decide (16 < (s.size:Int)) then none else (bif allC s s.size 0 then (K (.exit 0) ⟨[],[]⟩) else (K .ret ⟨[(2,.v (.b false))],[]⟩))))]) (show AllP _ [([0,1,0,1,1],jX (hTn s 0) (fun K=>bif decide (16 < (s.size:Int)) then none else (bif allC s s.size 0 then (K (.exit 0) ⟨[],[]⟩) else (K .ret ⟨[(2,.v (.b false))],[]⟩))))] from ⟨qQU fun K r hr => ?_,trivial⟩) p S hp;cases hq:decide (16 < (s.size:Int)) with
  | true=>rw [hq] at hr; cases hr
  | false =>
   rw [hq] at hr;have h16:=vJY hq;exact (lpTn K s s.size 0 60 (by omega) (by omega)).trans hr
 ·refine (pxTn s).trans ?_;rw [yG,vYV];show _=some (Ret.v (.b (!(decide ((s.size:Int)=0)) && (!(decide (16 < (s.size:Int))) && (!(s.toList == (ByteArray.mk #[119,111,114,108,100]).toList) && allC s s.size 0)))),[]);cases decide ((s.size:Int)=0) <;> cases decide (16 < (s.size:Int)) <;> cases (s.toList == (ByteArray.mk #[119,111,114,108,100]).toList) <;> cases allC s s.size 0 <;> rfl
def hRn (s:ByteArray) (i:Int):St:=⟨[(0,.v (.s s)),(3,.v (.n .i64 i))],[]⟩
def uZH {α:Type} (b:Bool) (first:Bool) (c:Int) (g k:Option α):Option α:=(bif b then (bif (decide (97≤c)) then (bif b then (bif (decide (c≤122)) then g else (bif first then k else (bif b then (bif (!decide (c=95)) then (bif b then (bif (decide (c < 48)) then k else (bif b then (bif (decide (57 < c)) then k else g) else none)) else none) else g) else none))) else none) else (bif first then k else (bif b then (bif (!decide (c=95)) then (bif b then (bif (decide (c < 48)) then k else (bif b then (bif (decide (57 < c)) then k else g) else none)) else none) else g) else none))) else none)
theorem rawRn_eq {α:Type} (first:Bool) (c:Int) (g k:Option α):uZH true first c g k=bif okC first c then g else k:=by
 unfold uZH okC;rw [show decide (c < 48) = !decide (48≤c) by rw [← decide_not]; exact decide_eq_decide.2 (by omega),show decide (57 < c) = !decide (c≤57) by rw [← decide_not]; exact decide_eq_decide.2 (by omega)];cases first <;> cases hA:decide (97≤c) <;> cases hB:decide (c≤122) <;> cases hC:decide (48≤c) <;> cases hD:decide (c≤57) <;> cases hE:decide (c=95) <;> first | rfl | (exfalso; simp only [decide_eq_true_eq,decide_eq_false_iff_not] at *; omega)
set_option maxRecDepth 100000 in
theorem rdRn (G:St→Option (Ret × Mem)) (K:Cont) (s:ByteArray) (i:Int):qHW 60 (cxF T (OrL.k ([]:OrL)) 60 95 (ntmF T 95)) (ckF T (OrL.k ([]:OrL)) 60) (qY T 95 [0,1,0,1,1]) (fun e τ=>match e with
 | .normal=>G (qGJ ((cxF T (OrL.k ([]:OrL)) 60 95 (ntmF T 95)).T.hint (cxF T (OrL.k ([]:OrL)) 60 95 (ntmF T 95)).me (zY (qY T 95 [0,1,0,1,1]))) τ)
 | e=>K e (qUU ((cxF T (OrL.k ([]:OrL)) 60 95 (ntmF T 95)).T.hint (cxF T (OrL.k ([]:OrL)) 60 95 (ntmF T 95)).me (zY (qY T 95 [0,1,0,1,1]))) τ)) (hRn s i) =
 bif (decide (i < (s.size:Int))) then uZH (inB i s.size) (decide (i=0)) (yYZ s i.toNat) (G (hRn s (vJJ .i64 (i + 1)))) (K .ret ⟨[(2,.v (.b false))],[]⟩) else (K (.exit 0) ⟨[],[]⟩):=by kernel_rfl
theorem lpRn (K:Cont) (s:ByteArray) (hs:s.size≤1000):∀ (k p m:Nat),p + k=s.size→k < m→LF 60 (cxF T (OrL.k ([]:OrL)) 60 95 (ntmF T 95)) (ckF T (OrL.k ([]:OrL)) 60) (qY T 95 [0,1,0,1,1]) ((cxF T (OrL.k ([]:OrL)) 60 95 (ntmF T 95)).T.hint (cxF T (OrL.k ([]:OrL)) 60 95 (ntmF T 95)).me (zY (qY T 95 [0,1,0,1,1]))) K m (hRn s p)=bif allC s k p then (K (.exit 0) ⟨[],[]⟩) else (K .ret ⟨[(2,.v (.b false))],[]⟩)
 | 0,p,m + 1,hp,hm=>by
  refine (rdRn (fun σ=>LF 60 (cxF T (OrL.k ([]:OrL)) 60 95 (ntmF T 95)) (ckF T (OrL.k ([]:OrL)) 60) (qY T 95 [0,1,0,1,1]) ((cxF T (OrL.k ([]:OrL)) 60 95 (ntmF T 95)).T.hint (cxF T (OrL.k ([]:OrL)) 60 95 (ntmF T 95)).me (zY (qY T 95 [0,1,0,1,1]))) K m σ) K s p).trans ?_;rw [vYH (show ¬ (p:Int) < (s.size:Int) by omega)];rfl
 | k + 1,p,m + 1,hp,hm=>by
  refine (rdRn (fun σ=>LF 60 (cxF T (OrL.k ([]:OrL)) 60 95 (ntmF T 95)) (ckF T (OrL.k ([]:OrL)) 60) (qY T 95 [0,1,0,1,1]) ((cxF T (OrL.k ([]:OrL)) 60 95 (ntmF T 95)).T.hint (cxF T (OrL.k ([]:OrL)) 60 95 (ntmF T 95)).me (zY (qY T 95 [0,1,0,1,1]))) K m σ) K s p).trans ?_;have hB:inB (p:Int) s.size=true:=by unfold inB; rw [vJQ (show (0:Int)≤p by omega),vJQ (show (p:Int).toNat < s.size by omega)]; rfl
  rw [vJQ (show (p:Int) < (s.size:Int) by omega),vYV,hB,rawRn_eq];simp only [allC];rw [show vJJ .i64 ((p:Int) + 1)=((p + 1:Nat):Int) by rw [zK (by omega)]; omega,lpRn K s hs k (p + 1) m (by omega) (by omega)];show (bif okC (decide ((p:Int)=0)) (yYZ s (p:Int).toNat) then _ else _)=_;rw [show (p:Int).toNat=p by omega];cases okC (decide ((p:Int)=0)) (yYZ s p) <;> rfl
set_option maxRecDepth 100000 in
theorem pxRn (s:ByteArray):qYH T (OrL.k ([]:OrL)) (zZ [([0,1,0,1,1],jX (hRn s 0) (fun K=>bif decide (16 < (s.size:Int)) then none else (bif allC s s.size 0 then (K (.exit 0) ⟨[],[]⟩) else (K .ret ⟨[(2,.v (.b false))],[]⟩))))]) 60 95 [.s s] =
 (bif (decide ((s.size:Int) < 1)) then some (.v (.b false),[]) else (bif (decide (16 < (s.size:Int))) then some (.v (.b false),[]) else (bif (s.toList == (ByteArray.mk #[119,111,114,108,100]).toList) then some (.v (.b false),[]) else (bif gSt (hRn s 0) (hRn s 0) then (bif decide (16 < (s.size:Int)) then none else (bif allC s s.size 0 then some (.v (.b true),[]) else some (.v (.b false),[]))) else none)))):=by kernel_rfl
theorem snd_Rn (s:ByteArray):zH Tryz.prog 95 [.s s] (.v (.b (nmB s))):=by
 refine jV (N:=60) (LO:=zZ [([0,1,0,1,1],jX (hRn s 0) (fun K=>bif decide (16 < (s.size:Int)) then none else (bif allC s s.size 0 then (K (.exit 0) ⟨[],[]⟩) else (K .ret ⟨[(2,.v (.b false))],[]⟩))))]) yJ yQ (OrL.ok (l:=[]) trivial) (fun p S hp => ?_) ?_
 ·refine uY (L:=qY T 95) (l:=[([0,1,0,1,1],jX (hRn s 0) (fun K=>bif decide (16 < (s.size:Int)) then none else (bif allC s s.size 0 then (K (.exit 0) ⟨[],[]⟩) else (K .ret ⟨[(2,.v (.b false))],[]⟩))))]) (show AllP _ [([0,1,0,1,1],jX (hRn s 0) (fun K=>bif decide (16 < (s.size:Int)) then none else (bif allC s s.size 0 then (K (.exit 0) ⟨[],[]⟩) else (K .ret ⟨[(2,.v (.b false))],[]⟩))))] from ⟨qQU fun K r hr => ?_,trivial⟩) p S hp;cases hq:decide (16 < (s.size:Int)) with
  | true=>rw [hq] at hr; cases hr
  | false =>
   rw [hq] at hr;have h16:=vJY hq;exact (lpRn K s (by omega) s.size 0 60 (by omega) (by omega)).trans hr
 ·refine (pxRn s).trans ?_;rw [yG,vYV];rw [show decide ((s.size:Int) < 1)=decide ((s.size:Int)=0) from decide_eq_decide.2 (by omega)];show _=some (Ret.v (.b (!(decide ((s.size:Int)=0)) && (!(decide (16 < (s.size:Int))) && (!(s.toList == (ByteArray.mk #[119,111,114,108,100]).toList) && allC s s.size 0)))),[]);cases decide ((s.size:Int)=0) <;> cases decide (16 < (s.size:Int)) <;> cases (s.toList == (ByteArray.mk #[119,111,114,108,100]).toList) <;> cases allC s s.size 0 <;> rfl
end Go.Proofs.YtmffoiemmlcmfaaGreat.Na
namespace Go.Proofs.YtmffoiemmlcmfaaGreat.Nb
open Go.Rx Rt Go.Sx Go.RowKit
open Ov Pc Na
def fJ (js:Nat→J):Nat→List PV:=fun v=>jp (js v)
def fM (ms:Nat→Ms):Nat→List PV:=fun v=>mp (ms v)
def fnd (js:Nat→J) (nm:ByteArray):Nat→Nat→Int
 | 0,_ => -1
 | k + 1,p=>bif ((js p).name.toList == nm.toList) then (p:Int) else fnd js nm k (p + 1)
def dup (js:Nat→J) (nm:ByteArray):Nat→Nat→Bool
 | 0,_=>false
 | k + 1,p=>((js p).name.toList == nm.toList) || dup js nm k (p + 1)
theorem yW {p n:Nat} (h:p < n):inB (p:Int) n=true:=by unfold inB; rw [vJQ (show (0:Int)≤p by omega),vJQ (show (p:Int).toNat < n by omega)]; rfl
theorem qQQ {p:Nat} (h:p < 1000000):vJJ .i64 ((p:Int) + 1)=((p + 1:Nat):Int):=by rw [zK (by omega)]; omega
theorem toN (p:Nat):(p:Int).toNat=p:=by omega
def hF (js:Nat→J) (ms:Nat→Ms) (n m:Nat) (nm:ByteArray) (i:Int):St:=⟨[(1,.v (.s nm)),(2,.p 2 0),(8,.v (.n .i64 (n:Int))),(9,.v (.n .i64 i))],[(2,.blk [.v (.lf n (fJ js)),.v (.lf m (fM ms))])]⟩
set_option maxRecDepth 100000 in
theorem rdF (G:St→Option (Ret × Mem)) (K:Cont) (js:Nat→J) (ms:Nat→Ms) (n m:Nat) (nm:ByteArray) (i:Int):qHW 60 (cxF T (OrL.k ([]:OrL)) 60 115 (ntmF T 115)) (ckF T (OrL.k ([]:OrL)) 60) (qY T 115 [0,1,0,1]) (fun e τ=>match e with
 | .normal=>G (qGJ ((cxF T (OrL.k ([]:OrL)) 60 115 (ntmF T 115)).T.hint (cxF T (OrL.k ([]:OrL)) 60 115 (ntmF T 115)).me (zY (qY T 115 [0,1,0,1]))) τ)
 | e=>K e (qUU ((cxF T (OrL.k ([]:OrL)) 60 115 (ntmF T 115)).T.hint (cxF T (OrL.k ([]:OrL)) 60 115 (ntmF T 115)).me (zY (qY T 115 [0,1,0,1]))) τ)) (hF js ms n m nm i) =
 (bif (decide (i < (n:Int))) then (bif (inB i n) then (bif ((js (i).toNat).name.toList == nm.toList) then (K .ret ⟨[(4,.v (.n .i64 i))],[]⟩)
 else (G (hF js ms n m nm (vJJ .i64 (i + 1)))))
 else none)
 else (K (.exit 0) ⟨[],[]⟩)):=by kernel_rfl
theorem lpF (K:Cont) (js:Nat→J) (ms:Nat→Ms) (n m:Nat) (nm:ByteArray) (hn:n≤1000):∀ (k p q:Nat),p + k=n→k < q→LF 60 (cxF T (OrL.k ([]:OrL)) 60 115 (ntmF T 115)) (ckF T (OrL.k ([]:OrL)) 60) (qY T 115 [0,1,0,1]) ((cxF T (OrL.k ([]:OrL)) 60 115 (ntmF T 115)).T.hint (cxF T (OrL.k ([]:OrL)) 60 115 (ntmF T 115)).me (zY (qY T 115 [0,1,0,1]))) K q (hF js ms n m nm p)=(bif decide (fnd js nm k p = -1) then K (.exit 0) ⟨[],[]⟩ else K .ret ⟨[(4,.v (.n .i64 (fnd js nm k p)))],[]⟩)
 | 0,p,q + 1,hp,hq=>by
  refine (rdF (fun σ=>LF 60 (cxF T (OrL.k ([]:OrL)) 60 115 (ntmF T 115)) (ckF T (OrL.k ([]:OrL)) 60) (qY T 115 [0,1,0,1]) ((cxF T (OrL.k ([]:OrL)) 60 115 (ntmF T 115)).T.hint (cxF T (OrL.k ([]:OrL)) 60 115 (ntmF T 115)).me (zY (qY T 115 [0,1,0,1]))) K q σ) K js ms n m nm p).trans ?_;rw [vYH (show ¬ (p:Int) < (n:Int) by omega)];rfl
 | k + 1,p,q + 1,hp,hq=>by
  refine (rdF (fun σ=>LF 60 (cxF T (OrL.k ([]:OrL)) 60 115 (ntmF T 115)) (ckF T (OrL.k ([]:OrL)) 60) (qY T 115 [0,1,0,1]) ((cxF T (OrL.k ([]:OrL)) 60 115 (ntmF T 115)).T.hint (cxF T (OrL.k ([]:OrL)) 60 115 (ntmF T 115)).me (zY (qY T 115 [0,1,0,1]))) K q σ) K js ms n m nm p).trans ?_;rw [vJQ (show (p:Int) < (n:Int) by omega),yW (show p < n by omega),qQQ (by omega),lpF K js ms n m nm hn k (p + 1) q (by omega) (by omega),toN];by_cases hq:((js p).name.toList == nm.toList)=true
  ·simp only [fnd,hq,vYV,vYH (show ¬ (p:Int) = -1 by omega),vYG]
  ·rw [Bool.not_eq_true] at hq;simp only [fnd,hq,vYV,vYG]
set_option maxRecDepth 100000 in
theorem pxF (js:Nat→J) (ms:Nat→Ms) (n m:Nat) (nm:ByteArray):qYH T (OrL.k ([]:OrL)) (zZ [([0,1,0,1],jX (hF js ms n m nm 0) (fun K=>(bif decide (fnd js nm n 0 = -1) then K (.exit 0) ⟨[],[]⟩ else K .ret ⟨[(4,.v (.n .i64 (fnd js nm n 0)))],[]⟩)))]) 60 115 [(.a [.lf n (fJ js),.lf m (fM ms)]),.s nm] =
 bif gSt (hF js ms n m nm 0) (hF js ms n m nm 0) then (bif decide (fnd js nm n 0 = -1) then some (.v (.n .i64 (-1)),[]) else some (.v (.n .i64 (fnd js nm n 0)),[])) else none:=by kernel_rfl
theorem snd_find (js:Nat→J) (ms:Nat→Ms) (n m:Nat) (nm:ByteArray) (hn:n≤50):zH Tryz.prog 115 [(.a [.lf n (fJ js),.lf m (fM ms)]),.s nm] (.v (.n .i64 (fnd js nm n 0))):=by
 refine jV (N:=60) (LO:=zZ [([0,1,0,1],jX (hF js ms n m nm 0) (fun K=>(bif decide (fnd js nm n 0 = -1) then K (.exit 0) ⟨[],[]⟩ else K .ret ⟨[(4,.v (.n .i64 (fnd js nm n 0)))],[]⟩)))]) yJ yQ (OrL.ok (l:=[]) trivial) (fun p S hp => ?_) ?_
 ·refine uY (L:=qY T 115) (l:=[([0,1,0,1],jX (hF js ms n m nm 0) (fun K=>(bif decide (fnd js nm n 0 = -1) then K (.exit 0) ⟨[],[]⟩ else K .ret ⟨[(4,.v (.n .i64 (fnd js nm n 0)))],[]⟩)))]) (show AllP _ [([0,1,0,1],jX (hF js ms n m nm 0) (fun K=>(bif decide (fnd js nm n 0 = -1) then K (.exit 0) ⟨[],[]⟩ else K .ret ⟨[(4,.v (.n .i64 (fnd js nm n 0)))],[]⟩)))] from ⟨qQU fun K r hr => ?_,trivial⟩) p S hp;exact (lpF K js ms n m nm (by omega) n 0 60 (by omega) (by omega)).trans hr
 ·refine (pxF js ms n m nm).trans ?_;rw [yG,vYV];by_cases h:fnd js nm n 0 = -1
  ·rw [vJQ h,h]; rfl
  ·rw [vYH h]; rfl
theorem fnd_dup (js:Nat→J) (i:Nat):∀ (k p:Nat),p≤i→i < p + k→(fnd js (js i).name k p=(i:Int) ↔ dup js (js i).name (i - p) p=false)
 | 0,p,h1,h2=>by omega
 | k + 1,p,h1,h2=>by
  by_cases he:p=i
  ·subst he;rw [Nat.sub_self];simp [fnd,dup]
  ·have ih:=fnd_dup js i k (p + 1) (by omega) (by omega);rw [show i - p=(i - (p + 1)) + 1 by omega];simp only [fnd,dup];cases ((js p).name.toList == (js i).name.toList)
   ·simpa using ih
   ·simp; omega
def cpT {α:Type} (f:Int→α) (i:Int) (j:J):α:=(bif (decide (j.kind < 0)) then (f 803) else (bif (decide (6 < j.kind)) then (f 803) else (bif (decide (j.parent < (-1))) then (f 804) else (bif (decide (i≤j.parent)) then (f 804) else (bif (decide (j.off.x < (-4194304))) then (f 805) else (bif (decide (4194304 < j.off.x)) then (f 805) else (bif (decide (j.off.y < (-4194304))) then (f 805) else (bif (decide (4194304 < j.off.y)) then (f 805) else (bif (decide (j.off.z < (-4194304))) then (f 805) else (bif (decide (4194304 < j.off.z)) then (f 805) else (bif (decide (j.kind=1)) then (bif (decide (j.hi < j.lo)) then (f 806) else (bif (decide (j.lo < (-524288))) then (f 806) else (bif (decide (524288 < j.hi)) then (f 806) else (bif (decide (1≤j.weight)) then (bif (decide (j.weight≤1024)) then (bif (decide (1≤j.speed)) then (bif (decide (j.speed≤1048576)) then (bif (decide (1≤j.accel)) then (bif (decide (j.accel≤1048576)) then (bif (decide (1≤j.torque)) then (bif (decide (j.torque≤1099511627776)) then (f 0) else (f 807)) else (f 807)) else (f 807)) else (f 807)) else (f 807)) else (f 807)) else (f 807)) else (f 807))))) else (bif (decide (j.kind=2)) then (bif (decide (j.hi < j.lo)) then (f 806) else (bif (decide (j.lo < (-524288))) then (f 806) else (bif (decide (524288 < j.hi)) then (f 806) else (bif (decide (1≤j.weight)) then (bif (decide (j.weight≤1024)) then (bif (decide (1≤j.speed)) then (bif (decide (j.speed≤1048576)) then (bif (decide (1≤j.accel)) then (bif (decide (j.accel≤1048576)) then (bif (decide (1≤j.torque)) then (bif (decide (j.torque≤1099511627776)) then (f 0) else (f 807)) else (f 807)) else (f 807)) else (f 807)) else (f 807)) else (f 807)) else (f 807)) else (f 807))))) else (bif (decide (j.kind=3)) then (bif (decide (j.hi < j.lo)) then (f 806) else (bif (decide (j.lo < (-524288))) then (f 806) else (bif (decide (524288 < j.hi)) then (f 806) else (bif (decide (1≤j.weight)) then (bif (decide (j.weight≤1024)) then (bif (decide (1≤j.speed)) then (bif (decide (j.speed≤1048576)) then (bif (decide (1≤j.accel)) then (bif (decide (j.accel≤1048576)) then (bif (decide (1≤j.torque)) then (bif (decide (j.torque≤1099511627776)) then (f 0) else (f 807)) else (f 807)) else (f 807)) else (f 807)) else (f 807)) else (f 807)) else (f 807)) else (f 807))))) else (bif (decide (j.kind=4)) then (bif (decide (j.hi < j.lo)) then (f 806) else (bif (decide (j.lo < (-4194304))) then (f 806) else (bif (decide (4194304 < j.hi)) then (f 806) else (bif (decide (1≤j.weight)) then (bif (decide (j.weight≤1024)) then (bif (decide (1≤j.speed)) then (bif (decide (j.speed≤1048576)) then (bif (decide (1≤j.accel)) then (bif (decide (j.accel≤1048576)) then (bif (decide (1≤j.torque)) then (bif (decide (j.torque≤1099511627776)) then (f 0) else (f 807)) else (f 807)) else (f 807)) else (f 807)) else (f 807)) else (f 807)) else (f 807)) else (f 807))))) else (bif (decide (j.kind=5)) then (bif (decide (j.hi < j.lo)) then (f 806) else (bif (decide (j.lo < (-4194304))) then (f 806) else (bif (decide (4194304 < j.hi)) then (f 806) else (bif (decide (1≤j.weight)) then (bif (decide (j.weight≤1024)) then (bif (decide (1≤j.speed)) then (bif (decide (j.speed≤1048576)) then (bif (decide (1≤j.accel)) then (bif (decide (j.accel≤1048576)) then (bif (decide (1≤j.torque)) then (bif (decide (j.torque≤1099511627776)) then (f 0) else (f 807)) else (f 807)) else (f 807)) else (f 807)) else (f 807)) else (f 807)) else (f 807)) else (f 807))))) else (bif (decide (j.kind=6)) then (bif (decide (j.hi < j.lo)) then (f 806) else (bif (decide (j.lo < (-4194304))) then (f 806) else (bif (decide (4194304 < j.hi)) then (f 806) else (bif (decide (1≤j.weight)) then (bif (decide (j.weight≤1024)) then (bif (decide (1≤j.speed)) then (bif (decide (j.speed≤1048576)) then (bif (decide (1≤j.accel)) then (bif (decide (j.accel≤1048576)) then (bif (decide (1≤j.torque)) then (bif (decide (j.torque≤1099511627776)) then (f 0) else (f 807)) else (f 807)) else (f 807)) else (f 807)) else (f 807)) else (f 807)) else (f 807)) else (f 807))))) else (bif (decide (j.hi < j.lo)) then (f 806) else (bif (decide (j.lo < 0)) then (f 806) else (bif (decide (0 < j.hi)) then (f 806) else (bif (decide (1≤j.weight)) then (bif (decide (j.weight≤1024)) then (bif (decide (1≤j.speed)) then (bif (decide (j.speed≤1048576)) then (bif (decide (1≤j.accel)) then (bif (decide (j.accel≤1048576)) then (bif (decide (1≤j.torque)) then (bif (decide (j.torque≤1099511627776)) then (f 0) else (f 807)) else (f 807)) else (f 807)) else (f 807)) else (f 807)) else (f 807)) else (f 807)) else (f 807)))))))))))))))))))))
theorem cp_cj {α:Type} (f:Int→α) (i:Int) (j:J):cpT f i j=cjT f i j:=by
 unfold cpT cjT;by_cases h0:j.kind < 0
 ·simp only [vJQ h0,vYV]
 by_cases h6:6 < j.kind
 ·simp only [vJQ h6,vYV]
 rcases (by omega:j.kind=0 ∨ j.kind=1 ∨ j.kind=2 ∨ j.kind=3 ∨ j.kind=4 ∨ j.kind=5 ∨ j.kind=6) with h | h | h | h | h | h | h
 ·simp only [vJQ (show j.kind=0 by omega),vYH (show ¬ j.kind=1 by omega),vYH (show ¬ j.kind=2 by omega),vYH (show ¬ j.kind=3 by omega),vYH (show ¬ j.kind=4 by omega),vYH (show ¬ j.kind=5 by omega),vYH (show ¬ j.kind=6 by omega),vYV,vYG]
 ·simp only [vYH (show ¬ j.kind=0 by omega),vJQ (show j.kind=1 by omega),vYH (show ¬ j.kind=2 by omega),vYH (show ¬ j.kind=3 by omega),vYH (show ¬ j.kind=4 by omega),vYH (show ¬ j.kind=5 by omega),vYH (show ¬ j.kind=6 by omega),vYV,vYG]
 ·simp only [vYH (show ¬ j.kind=0 by omega),vYH (show ¬ j.kind=1 by omega),vJQ (show j.kind=2 by omega),vYH (show ¬ j.kind=3 by omega),vYH (show ¬ j.kind=4 by omega),vYH (show ¬ j.kind=5 by omega),vYH (show ¬ j.kind=6 by omega),vYV,vYG]
 ·simp only [vYH (show ¬ j.kind=0 by omega),vYH (show ¬ j.kind=1 by omega),vYH (show ¬ j.kind=2 by omega),vJQ (show j.kind=3 by omega),vYH (show ¬ j.kind=4 by omega),vYH (show ¬ j.kind=5 by omega),vYH (show ¬ j.kind=6 by omega),vYV,vYG]
 ·simp only [vYH (show ¬ j.kind=0 by omega),vYH (show ¬ j.kind=1 by omega),vYH (show ¬ j.kind=2 by omega),vYH (show ¬ j.kind=3 by omega),vJQ (show j.kind=4 by omega),vYH (show ¬ j.kind=5 by omega),vYH (show ¬ j.kind=6 by omega),vYV,vYG]
 ·simp only [vYH (show ¬ j.kind=0 by omega),vYH (show ¬ j.kind=1 by omega),vYH (show ¬ j.kind=2 by omega),vYH (show ¬ j.kind=3 by omega),vYH (show ¬ j.kind=4 by omega),vJQ (show j.kind=5 by omega),vYH (show ¬ j.kind=6 by omega),vYV,vYG]
 ·simp only [vYH (show ¬ j.kind=0 by omega),vYH (show ¬ j.kind=1 by omega),vYH (show ¬ j.kind=2 by omega),vYH (show ¬ j.kind=3 by omega),vYH (show ¬ j.kind=4 by omega),vYH (show ¬ j.kind=5 by omega),vJQ (show j.kind=6 by omega),vYV,vYG]
def jErr (js:Nat→J) (n i:Nat):Int:=bif nmB (js i).name then (bif dup js (js i).name i 0 then 802 else cjT (fun e=>e) i (js i)) else 802
noncomputable def o_nm:List PV→Option (Bool × Ret):=fun ps=>match ps with
 | [.s s]=>some (true,.v (.b (nmB s)))
 | _=>none
theorem ok_tn:zW Tryz.prog 114 o_nm:=by
 intro ps r hh;unfold o_nm at hh;split at hh
 ·simp only [vQZ,vQY] at hh;obtain ⟨_,rfl⟩:=hh;exact snd_Tn _
 ·cases hh
theorem ok_rn:zW Tryz.prog 95 o_nm:=by
 intro ps r hh;unfold o_nm at hh;split at hh
 ·simp only [vQZ,vQY] at hh;obtain ⟨_,rfl⟩:=hh;exact snd_Rn _
 ·cases hh
noncomputable def o_fd (js:Nat→J) (ms:Nat→Ms) (n m:Nat):List PV→Option (Bool × Ret):=fun ps=>match ps with
 | [r,.s s]=>some (gEq r (.a [.lf n (fJ js),.lf m (fM ms)]),.v (.n .i64 (fnd js s n 0)))
 | _=>none
theorem kHG (js:Nat→J) (ms:Nat→Ms) (n m:Nat) (hn:n≤50):zW Tryz.prog 115 (o_fd js ms n m):=by
 intro ps r hh;unfold o_fd at hh;split at hh
 ·simp only [vQZ,vQY] at hh;obtain ⟨hg,rfl⟩:=hh;obtain rfl:=zJQ hg;exact snd_find _ _ _ _ _ hn
 ·cases hh
set_option maxRecDepth 100000 in
theorem tr_cjp (js:Nat→J) (ms:Nat→Ms) (n m:Nat) (i:Int):runK T (OrL.k [(114,o_nm),(115,o_fd js ms n m)]) 60 77 [(.a [.lf n (fJ js),.lf m (fM ms)]),.n .i64 i] =
 bif inB i n then (bif nmB (js i.toNat).name then (bif gEq (.a [.lf n (fJ js),.lf m (fM ms)]) (.a [.lf n (fJ js),.lf m (fM ms)]) then (bif !decide (fnd js (js i.toNat).name n 0=i) then some (.v (.n .i64 802),[]) else cpT F_n i (js i.toNat)) else none) else some (.v (.n .i64 802),[])) else none:=by kernel_rfl
theorem F_cj (i:Int) (j:J):cjT F_n i j=F_n (cjT (fun e=>e) i j):=by
 unfold cjT;simp only [Bool.apply_cond F_n]
theorem snd_cjp (js:Nat→J) (ms:Nat→Ms) (n m:Nat) (hn:n≤50) (i:Nat) (hi:i < n):zH Tryz.prog 77 [(.a [.lf n (fJ js),.lf m (fM ms)]),.n .i64 i] (.v (.n .i64 (jErr js n i))):=by
 refine qG (N:=60) yJ yQ (OrL.ok (l:=[(114,o_nm),(115,o_fd js ms n m)]) ⟨ok_tn,kHG js ms n m hn,trivial⟩) ?_;rw [tr_cjp,yW hi,vYV,toN,qXZ,vYV,cp_cj,F_cj];have hd:=fnd_dup js i n 0 (by omega) (by omega);rw [Nat.sub_zero] at hd;unfold jErr;cases nmB (js i).name with
 | false=>rfl
 | true =>
  cases hq:dup js (js i).name i 0 with
  | false=>rw [vJQ (hd.2 hq)]; rfl
  | true=>rw [vYH (fun h=>by rw [hd.1 h] at hq; cases hq)]; rfl
def hC (js:Nat→J) (n:Nat) (i:Int) (k:Int):St:=⟨[(0,.v (.lf n (fJ js))),(1,.v (.n .i64 i)),(5,.p 5 0),(6,.v (.n .i64 k))],[(5,.blk [.v (.s (js (i).toNat).name),.v (.n .i64 (js (i).toNat).kind),.v (.n .i64 (js (i).toNat).parent),.v (.n .i64 (js (i).toNat).off.x),.v (.n .i64 (js (i).toNat).off.y),.v (.n .i64 (js (i).toNat).off.z),.v (.n .i64 (js (i).toNat).lo),.v (.n .i64 (js (i).toNat).hi),.v (.n .i64 (js (i).toNat).weight),.v (.n .i64 (js (i).toNat).speed),.v (.n .i64 (js (i).toNat).accel),.v (.n .i64 (js (i).toNat).torque)])]⟩
set_option maxRecDepth 100000 in
theorem rdC (G:St→Option (Ret × Mem)) (K:Cont) (js:Nat→J) (n:Nat) (i:Int) (k:Int):qHW 60 (cxF T (OrL.k [(95,o_nm)]) 60 64 (ntmF T 64)) (ckF T (OrL.k [(95,o_nm)]) 60) (qY T 64 [0,1,0,1,1,1]) (fun e τ=>match e with
 | .normal=>G (qGJ ((cxF T (OrL.k [(95,o_nm)]) 60 64 (ntmF T 64)).T.hint (cxF T (OrL.k [(95,o_nm)]) 60 64 (ntmF T 64)).me (zY (qY T 64 [0,1,0,1,1,1]))) τ)
 | e=>K e (qUU ((cxF T (OrL.k [(95,o_nm)]) 60 64 (ntmF T 64)).T.hint (cxF T (OrL.k [(95,o_nm)]) 60 64 (ntmF T 64)).me (zY (qY T 64 [0,1,0,1,1,1]))) τ)) (hC js n i k) =
 (bif (decide (k < i)) then (bif (inB k n) then (bif ((js (k).toNat).name.toList == (js (i).toNat).name.toList) then (K .ret ⟨[(1,.v (.n .i64 i)),(4,.v (.n .i64 802)),(5,.p 5 0)],[(5,.blk [.v (.s (js (i).toNat).name),.v (.n .i64 (js (i).toNat).kind),.v (.n .i64 (js (i).toNat).parent),.v (.n .i64 (js (i).toNat).off.x),.v (.n .i64 (js (i).toNat).off.y),.v (.n .i64 (js (i).toNat).off.z),.v (.n .i64 (js (i).toNat).lo),.v (.n .i64 (js (i).toNat).hi),.v (.n .i64 (js (i).toNat).weight),.v (.n .i64 (js (i).toNat).speed),.v (.n .i64 (js (i).toNat).accel),.v (.n .i64 (js (i).toNat).torque)])]⟩)
 else (G (hC js n i (vJJ .i64 (k + 1)))))
 else none)
 else (K (.exit 0) ⟨[(1,.v (.n .i64 i)),(5,.p 5 0)],[(5,.blk [.v (.s (js (i).toNat).name),.v (.n .i64 (js (i).toNat).kind),.v (.n .i64 (js (i).toNat).parent),.v (.n .i64 (js (i).toNat).off.x),.v (.n .i64 (js (i).toNat).off.y),.v (.n .i64 (js (i).toNat).off.z),.v (.n .i64 (js (i).toNat).lo),.v (.n .i64 (js (i).toNat).hi),.v (.n .i64 (js (i).toNat).weight),.v (.n .i64 (js (i).toNat).speed),.v (.n .i64 (js (i).toNat).accel),.v (.n .i64 (js (i).toNat).torque)])]⟩)):=by kernel_rfl
def rC (js:Nat→J) (i:Int):St:=⟨[(1,.v (.n .i64 i)),(4,.v (.n .i64 802)),(5,.p 5 0)],[(5,.blk [.v (.s (js (i).toNat).name),.v (.n .i64 (js (i).toNat).kind),.v (.n .i64 (js (i).toNat).parent),.v (.n .i64 (js (i).toNat).off.x),.v (.n .i64 (js (i).toNat).off.y),.v (.n .i64 (js (i).toNat).off.z),.v (.n .i64 (js (i).toNat).lo),.v (.n .i64 (js (i).toNat).hi),.v (.n .i64 (js (i).toNat).weight),.v (.n .i64 (js (i).toNat).speed),.v (.n .i64 (js (i).toNat).accel),.v (.n .i64 (js (i).toNat).torque)])]⟩
def oC (js:Nat→J) (i:Int):St:=⟨[(1,.v (.n .i64 i)),(5,.p 5 0)],[(5,.blk [.v (.s (js (i).toNat).name),.v (.n .i64 (js (i).toNat).kind),.v (.n .i64 (js (i).toNat).parent),.v (.n .i64 (js (i).toNat).off.x),.v (.n .i64 (js (i).toNat).off.y),.v (.n .i64 (js (i).toNat).off.z),.v (.n .i64 (js (i).toNat).lo),.v (.n .i64 (js (i).toNat).hi),.v (.n .i64 (js (i).toNat).weight),.v (.n .i64 (js (i).toNat).speed),.v (.n .i64 (js (i).toNat).accel),.v (.n .i64 (js (i).toNat).torque)])]⟩
theorem lpC (K:Cont) (js:Nat→J) (n i:Nat) (hn:n≤1000) (hi:i < n):∀ (k p q:Nat),p + k=i→k < q→LF 60 (cxF T (OrL.k [(95,o_nm)]) 60 64 (ntmF T 64)) (ckF T (OrL.k [(95,o_nm)]) 60) (qY T 64 [0,1,0,1,1,1]) ((cxF T (OrL.k [(95,o_nm)]) 60 64 (ntmF T 64)).T.hint (cxF T (OrL.k [(95,o_nm)]) 60 64 (ntmF T 64)).me (zY (qY T 64 [0,1,0,1,1,1]))) K q (hC js n i p)=bif dup js (js i).name k p then (K .ret (rC js i)) else (K (.exit 0) (oC js i))
 | 0,p,q + 1,hp,hq=>by
  refine (rdC (fun σ=>LF 60 (cxF T (OrL.k [(95,o_nm)]) 60 64 (ntmF T 64)) (ckF T (OrL.k [(95,o_nm)]) 60) (qY T 64 [0,1,0,1,1,1]) ((cxF T (OrL.k [(95,o_nm)]) 60 64 (ntmF T 64)).T.hint (cxF T (OrL.k [(95,o_nm)]) 60 64 (ntmF T 64)).me (zY (qY T 64 [0,1,0,1,1,1]))) K q σ) K js n i p).trans ?_;rw [vYH (show ¬ (p:Int) < (i:Int) by omega)];rfl
 | k + 1,p,q + 1,hp,hq=>by
  refine (rdC (fun σ=>LF 60 (cxF T (OrL.k [(95,o_nm)]) 60 64 (ntmF T 64)) (ckF T (OrL.k [(95,o_nm)]) 60) (qY T 64 [0,1,0,1,1,1]) ((cxF T (OrL.k [(95,o_nm)]) 60 64 (ntmF T 64)).T.hint (cxF T (OrL.k [(95,o_nm)]) 60 64 (ntmF T 64)).me (zY (qY T 64 [0,1,0,1,1,1]))) K q σ) K js n i p).trans ?_;rw [vJQ (show (p:Int) < (i:Int) by omega),yW (show p < n by omega),qQQ (by omega),lpC K js n i hn hi k (p + 1) q (by omega) (by omega),toN,toN];simp only [vYV,dup];cases ((js p).name.toList == (js i).name.toList) <;> rfl
set_option maxRecDepth 100000 in
theorem pxC (js:Nat→J) (n:Nat) (i:Int):qYH T (OrL.k [(95,o_nm)]) (zZ [([0,1,0,1,1,1],jX (hC js n i 0) (fun K=>bif dup js (js i.toNat).name i.toNat 0 then (K .ret (rC js i)) else (K (.exit 0) (oC js i))))]) 60 64 [.lf n (fJ js),.n .i64 i] =
 bif inB i n then (bif nmB (js i.toNat).name then (bif gSt (hC js n i 0) (hC js n i 0) then (bif dup js (js i.toNat).name i.toNat 0 then some (.v (.n .i64 802),[]) else cjT F_n i (js i.toNat)) else none) else some (.v (.n .i64 802),[])) else none:=by kernel_rfl
theorem snd_cjr (js:Nat→J) (n:Nat) (hn:n≤50) (i:Nat) (hi:i < n):zH Tryz.prog 64 [.lf n (fJ js),.n .i64 i] (.v (.n .i64 (jErr js n i))):=by
 refine jV (N:=60) (LO:=zZ [([0,1,0,1,1,1],jX (hC js n (i:Int) 0) (fun K=>bif dup js (js (i:Int).toNat).name (i:Int).toNat 0 then (K .ret (rC js i)) else (K (.exit 0) (oC js i))))]) yJ yQ (OrL.ok (l:=[(95,o_nm)]) ⟨ok_rn,trivial⟩) (fun p S hp => ?_) ?_
 ·refine uY (L:=qY T 64) (l:=[([0,1,0,1,1,1],jX (hC js n (i:Int) 0) (fun K=>bif dup js (js (i:Int).toNat).name (i:Int).toNat 0 then (K .ret (rC js i)) else (K (.exit 0) (oC js i))))]) (show AllP _ [([0,1,0,1,1,1],jX (hC js n (i:Int) 0) (fun K=>bif dup js (js (i:Int).toNat).name (i:Int).toNat 0 then (K .ret (rC js i)) else (K (.exit 0) (oC js i))))] from ⟨qQU fun K r hr => ?_,trivial⟩) p S hp
  have:=lpC K js n i (by omega) hi i 0 60 (by omega) (by omega)
  rw [toN] at hr;exact this.trans hr
 ·refine (pxC js n i).trans ?_;rw [yW hi,vYV,toN,yG,vYV,F_cj];unfold jErr;cases nmB (js i).name <;> cases dup js (js i).name i 0 <;> rfl
end Go.Proofs.YtmffoiemmlcmfaaGreat.Nb
namespace Go.Proofs.YtmffoiemmlcmfaaGreat.Nc
open Go.Rx Rt Go.Sx Go.RowKit
open Ov Pc Na Nb
def MOK (n:Nat) (q:Ms):Prop:=(0≤q.link∧q.link < n)∧(1≤q.mass∧q.mass≤65536)∧(-4194304≤q.p.x∧q.p.x≤4194304)∧(-4194304≤q.p.y∧q.p.y≤4194304)∧(-4194304≤q.p.z∧q.p.z≤4194304)
instance (n:Nat) (q:Ms):Decidable (MOK n q):=by unfold MOK; exact inferInstance
def mokB (n:Nat) (q:Ms):Bool:=decide (MOK n q)
def mAll (ms:Nat→Ms) (n:Nat):Nat→Nat→Bool
 | 0,_=>true
 | k + 1,p=>mokB n (ms p) && mAll ms n k (p + 1)
def fbad (ms:Nat→Ms) (n:Nat):Nat→Nat→Int
 | 0,_ => -1
 | k + 1,p=>bif mokB n (ms p) then fbad ms n k (p + 1) else (p:Int)
theorem fbad_all (ms:Nat→Ms) (n:Nat):∀ k p,decide (0≤fbad ms n k p) = !mAll ms n k p
 | 0,p=>rfl
 | k + 1,p=>by
  have ih:=fbad_all ms n k (p + 1);by_cases hq:mokB n (ms p)=true
  ·simp only [fbad,mAll,hq,vYV,vZH];exact ih
  ·rw [Bool.not_eq_true] at hq;simp only [fbad,mAll,hq,vYG,Bool.false_and,Bool.not_false];exact vJQ (by omega)
def jE (js:Nat→J) (n:Nat):Nat→Nat→Int
 | 0,_=>0
 | k + 1,p=>bif decide (jErr js n p=0) then jE js n k (p + 1) else jErr js n p
def rErr (js:Nat→J) (ms:Nat→Ms) (n m:Nat):Int:=bif decide ((n:Int)=0) then 801 else bif decide (10 < (n:Int)) then 801 else bif decide (jE js n n 0=0) then (bif decide (32 < (m:Int)) then 808 else bif mAll ms n m 0 then 0 else 808) else jE js n n 0
def mTp {α:Type} (n:Nat) (q:Ms) (a b:α):α:=(bif (decide (0≤q.link)) then (bif (decide (q.link < (n:Int))) then (bif (decide (1≤q.mass)) then (bif (decide (q.mass≤65536)) then (bif (decide (q.p.x < (-4194304))) then b else (bif (decide (4194304 < q.p.x)) then b else (bif (decide (q.p.y < (-4194304))) then b else (bif (decide (4194304 < q.p.y)) then b else (bif (decide (q.p.z < (-4194304))) then b else (bif (decide (4194304 < q.p.z)) then b else a)))))) else b) else b) else b) else b)
theorem mTp_eq {α:Type} (n:Nat) (q:Ms) (a b:α):mTp n q a b=bif mokB n q then a else b:=by
 unfold mTp mokB;by_cases h:MOK n q
 ·have h':=h;obtain ⟨⟨h1,h2⟩,⟨h3,h4⟩,⟨h5,h6⟩,⟨h7,h8⟩,h9,h10⟩:=h';rw [vJQ h];simp only [vYV];simp only [Bool.cond_eq_ite,decide_eq_true_eq]
  repeat' split
  all_goals first | rfl | (exfalso; omega)
 ·rw [vYH h];unfold MOK at h;simp only [vYG];simp only [Bool.cond_eq_ite,decide_eq_true_eq]
  repeat' split
  all_goals first | rfl | (exfalso; omega) | contradiction
set_option maxRecDepth 100000 in
theorem tr_cl (js:Nat→J) (ms:Nat→Ms) (n m:Nat) (q:Ms):runK T (OrL.k []) 60 79 [.a (mp q),.c [.lf n (fJ js),.lf m (fM ms)] 0]=mTp n q (F_b false) (F_b true):=by kernel_rfl
theorem snd_cl (js:Nat→J) (ms:Nat→Ms) (n m:Nat) (q:Ms):zH Tryz.prog 79 [.a (mp q),.c [.lf n (fJ js),.lf m (fM ms)] 0] (.v (.b (!mokB n q))):=by
 refine qG (N:=60) yJ yQ (OrL.ok (l:=[]) trivial) ?_;rw [tr_cl,mTp_eq];cases mokB n q <;> rfl
noncomputable def o_cl (js:Nat→J) (ms:Nat→Ms) (n m:Nat):List PV→Option (Bool × Ret):=fun ps=>match ps with
 | [.a [.n .i64 a0,.n .i64 a1,.n .i64 a2,.n .i64 a3,.n .i64 a4],c]=>some (gEq c (.c [.lf n (fJ js),.lf m (fM ms)] 0),.v (.b (!mokB n ⟨a0,a1,⟨a2,a3,a4⟩⟩)))
 | _=>none
theorem ok_cl (js:Nat→J) (ms:Nat→Ms) (n m:Nat):zW Tryz.prog 79 (o_cl js ms n m):=by
 intro ps r hh;unfold o_cl at hh;split at hh
 ·simp only [vQZ,vQY] at hh;obtain ⟨hg,rfl⟩:=hh;obtain rfl:=zJQ hg;exact snd_cl js ms n m ⟨_,_,⟨_,_,_⟩⟩
 ·cases hh
def hI (js:Nat→J) (ms:Nat→Ms) (n m:Nat) (i:Int):St:=⟨[(0,.v (.lf m (fM ms))),(1,.v (.f 79 [] [.c [.lf n (fJ js),.lf m (fM ms)] 0])),(7,.v (.n .i64 (m:Int))),(8,.v (.n .i64 i))],[]⟩
set_option maxRecDepth 100000 in
theorem rdI (G:St→Option (Ret × Mem)) (K:Cont) (js:Nat→J) (ms:Nat→Ms) (n m:Nat) (i:Int):qHW 60 (cxF T (OrL.k [(79,o_cl js ms n m)]) 60 119 (ntmF T 119)) (ckF T (OrL.k [(79,o_cl js ms n m)]) 60) (qY T 119 [0,1,0,1]) (fun e τ=>match e with
 | .normal=>G (qGJ ((cxF T (OrL.k [(79,o_cl js ms n m)]) 60 119 (ntmF T 119)).T.hint (cxF T (OrL.k [(79,o_cl js ms n m)]) 60 119 (ntmF T 119)).me (zY (qY T 119 [0,1,0,1]))) τ)
 | e=>K e (qUU ((cxF T (OrL.k [(79,o_cl js ms n m)]) 60 119 (ntmF T 119)).T.hint (cxF T (OrL.k [(79,o_cl js ms n m)]) 60 119 (ntmF T 119)).me (zY (qY T 119 [0,1,0,1]))) τ)) (hI js ms n m i) =
 (bif (decide (i < (m:Int))) then (bif (inB i m) then (bif (gEq (.c [.lf n (fJ js),.lf m (fM ms)] 0) (.c [.lf n (fJ js),.lf m (fM ms)] 0)) then (bif (!mokB n (ms (i).toNat)) then (K .ret ⟨[(4,.v (.n .i64 i))],[]⟩)
 else (G (hI js ms n m (vJJ .i64 (i + 1)))))
 else none)
 else none)
 else (K (.exit 0) ⟨[],[]⟩)):=by kernel_rfl
theorem lpI (K:Cont) (js:Nat→J) (ms:Nat→Ms) (n m:Nat) (hm:m≤1000):∀ (k p q:Nat),p + k=m→k < q→LF 60 (cxF T (OrL.k [(79,o_cl js ms n m)]) 60 119 (ntmF T 119)) (ckF T (OrL.k [(79,o_cl js ms n m)]) 60) (qY T 119 [0,1,0,1]) ((cxF T (OrL.k [(79,o_cl js ms n m)]) 60 119 (ntmF T 119)).T.hint (cxF T (OrL.k [(79,o_cl js ms n m)]) 60 119 (ntmF T 119)).me (zY (qY T 119 [0,1,0,1]))) K q (hI js ms n m p)=(bif decide (fbad ms n k p = -1) then K (.exit 0) ⟨[],[]⟩ else K .ret ⟨[(4,.v (.n .i64 (fbad ms n k p)))],[]⟩)
 | 0,p,q + 1,hp,hq=>by
  refine (rdI (fun σ=>LF 60 (cxF T (OrL.k [(79,o_cl js ms n m)]) 60 119 (ntmF T 119)) (ckF T (OrL.k [(79,o_cl js ms n m)]) 60) (qY T 119 [0,1,0,1]) ((cxF T (OrL.k [(79,o_cl js ms n m)]) 60 119 (ntmF T 119)).T.hint (cxF T (OrL.k [(79,o_cl js ms n m)]) 60 119 (ntmF T 119)).me (zY (qY T 119 [0,1,0,1]))) K q σ) K js ms n m p).trans ?_;rw [vYH (show ¬ (p:Int) < (m:Int) by omega)];rfl
 | k + 1,p,q + 1,hp,hq=>by
  refine (rdI (fun σ=>LF 60 (cxF T (OrL.k [(79,o_cl js ms n m)]) 60 119 (ntmF T 119)) (ckF T (OrL.k [(79,o_cl js ms n m)]) 60) (qY T 119 [0,1,0,1]) ((cxF T (OrL.k [(79,o_cl js ms n m)]) 60 119 (ntmF T 119)).T.hint (cxF T (OrL.k [(79,o_cl js ms n m)]) 60 119 (ntmF T 119)).me (zY (qY T 119 [0,1,0,1]))) K q σ) K js ms n m p).trans ?_;rw [vJQ (show (p:Int) < (m:Int) by omega),yW (show p < m by omega),qQQ (by omega),lpI K js ms n m hm k (p + 1) q (by omega) (by omega),toN,qXZ];by_cases hq:mokB n (ms p)=true
  ·simp only [fbad,hq,vYV,vYG,Bool.not_true]
  ·rw [Bool.not_eq_true] at hq;simp only [fbad,hq,vYV,vYG,Bool.not_false,vYH (show ¬ (p:Int) = -1 by omega)]
set_option maxRecDepth 100000 in
theorem pxI (js:Nat→J) (ms:Nat→Ms) (n m:Nat):qYH T (OrL.k [(79,o_cl js ms n m)]) (zZ [([0,1,0,1],jX (hI js ms n m 0) (fun K=>(bif decide (fbad ms n m 0 = -1) then K (.exit 0) ⟨[],[]⟩ else K .ret ⟨[(4,.v (.n .i64 (fbad ms n m 0)))],[]⟩)))]) 60 119 [.lf m (fM ms),.f 79 [] [.c [.lf n (fJ js),.lf m (fM ms)] 0]] =
 bif gSt (hI js ms n m 0) (hI js ms n m 0) then (bif decide (fbad ms n m 0 = -1) then some (.v (.n .i64 (-1)),[]) else some (.v (.n .i64 (fbad ms n m 0)),[])) else none:=by kernel_rfl
theorem snd_if (js:Nat→J) (ms:Nat→Ms) (n m:Nat) (hm:m≤50):zH Tryz.prog 119 [.lf m (fM ms),.f 79 [] [.c [.lf n (fJ js),.lf m (fM ms)] 0]] (.v (.n .i64 (fbad ms n m 0))):=by
 refine jV (N:=60) (LO:=zZ [([0,1,0,1],jX (hI js ms n m 0) (fun K=>(bif decide (fbad ms n m 0 = -1) then K (.exit 0) ⟨[],[]⟩ else K .ret ⟨[(4,.v (.n .i64 (fbad ms n m 0)))],[]⟩)))]) yJ yQ (OrL.ok (l:=[(79,o_cl js ms n m)]) ⟨ok_cl js ms n m,trivial⟩) (fun p S hp => ?_) ?_
 ·refine uY (L:=qY T 119) (l:=[([0,1,0,1],jX (hI js ms n m 0) (fun K=>(bif decide (fbad ms n m 0 = -1) then K (.exit 0) ⟨[],[]⟩ else K .ret ⟨[(4,.v (.n .i64 (fbad ms n m 0)))],[]⟩)))]) (show AllP _ [([0,1,0,1],jX (hI js ms n m 0) (fun K=>(bif decide (fbad ms n m 0 = -1) then K (.exit 0) ⟨[],[]⟩ else K .ret ⟨[(4,.v (.n .i64 (fbad ms n m 0)))],[]⟩)))] from ⟨qQU fun K r hr => ?_,trivial⟩) p S hp;exact (lpI K js ms n m (by omega) m 0 60 (by omega) (by omega)).trans hr
 ·refine (pxI js ms n m).trans ?_;rw [yG,vYV];by_cases h:fbad ms n m 0 = -1
  ·rw [vJQ h,h]; rfl
  ·rw [vYH h]; rfl
noncomputable def g1 (l:List PV):Bool:=gEq (.t l) (.t l)
theorem g1_t (l:List PV):g1 l=true:=qXZ _
noncomputable def o_cr (as_:List PV) (r:Ret):List PV→Option (Bool × Ret):=fun ps=>some (gEq (.t ps) (.t as_),r)
theorem qZX {f:Nat} {as_:List PV} {r:Ret} (h:zH Tryz.prog f as_ r):zW Tryz.prog f (o_cr as_ r):=by
 intro ps q hh;unfold o_cr at hh;simp only [vQZ,vQY] at hh;obtain ⟨hg,rfl⟩:=hh
 have:=zJQ hg
 simp only [PV.t.injEq] at this;rw [this];exact h
theorem snd_cf (js:Nat→J) (ms:Nat→Ms) (n m:Nat) (hm:m≤50):zH Tryz.prog 78 [.lf m (fM ms),.f 79 [] [.c [.lf n (fJ js),.lf m (fM ms)] 0]] (.v (.b (!mAll ms n m 0))):=by
 refine qG (N:=60) yJ yQ (OrL.ok (l:=[(119,o_cr [.lf m (fM ms),.f 79 [] [.c [.lf n (fJ js),.lf m (fM ms)] 0]] (.v (.n .i64 (fbad ms n m 0))))]) ⟨qZX (snd_if js ms n m hm),trivial⟩) ?_;refine (by kernel_rfl:_=bif (g1 [.lf m (fM ms),.f 79 [] [.c [.lf n (fJ js),.lf m (fM ms)] 0]]) then (bif (decide (0≤(fbad ms n m 0))) then some (.v (.b true),[])
 else some (.v (.b false),[]))
 else none).trans ?_
 rw [g1_t,vYV,← fbad_all];cases decide (0≤fbad ms n m 0) <;> rfl
noncomputable def zYU (js:Nat→J) (ms:Nat→Ms) (n m:Nat):List PV→Option (Bool × Ret):=fun ps=>match ps with
 | [r,.n .i64 i]=>some (gEq r (.a [.lf n (fJ js),.lf m (fM ms)]) && (inB i n && decide (n≤50)),.v (.n .i64 (jErr js n i.toNat)))
 | _=>none
theorem ok_o_cjp (js:Nat→J) (ms:Nat→Ms) (n m:Nat):zW Tryz.prog 77 (zYU js ms n m):=by
 intro ps r hh;unfold zYU at hh;split at hh
 ·simp only [vQZ,vQY,vQJ] at hh;obtain ⟨⟨hg,hi,hd⟩,rfl⟩:=hh;obtain rfl:=zJQ hg;have hn:=vJZ hd;obtain ⟨i0,i1⟩:=zUJ hi;rename_i i
  have:=snd_cjp js ms n m hn i.toNat (by omega)
  rw [show ((i.toNat:Nat):Int)=i by omega] at this;exact this
 ·cases hh
noncomputable def qKQ (js:Nat→J) (ms:Nat→Ms) (n m:Nat):List PV→Option (Bool × Ret):=fun ps=>match ps with
 | [r,.n .i64 i]=>some (gEq r (.lf n (fJ js)) && (inB i n && decide (n≤50)),.v (.n .i64 (jErr js n i.toNat)))
 | _=>none
theorem ok_o_cjr (js:Nat→J) (ms:Nat→Ms) (n m:Nat):zW Tryz.prog 64 (qKQ js ms n m):=by
 intro ps r hh;unfold qKQ at hh;split at hh
 ·simp only [vQZ,vQY,vQJ] at hh;obtain ⟨⟨hg,hi,hd⟩,rfl⟩:=hh;obtain rfl:=zJQ hg;have hn:=vJZ hd;obtain ⟨i0,i1⟩:=zUJ hi;rename_i i
  have:=snd_cjr js n hn i.toNat (by omega)
  rw [show ((i.toNat:Nat):Int)=i by omega] at this;exact this
 ·cases hh
noncomputable def zYX (js:Nat→J) (ms:Nat→Ms) (n m:Nat):List PV→Option (Bool × Ret):=fun ps=>some (gEq (.t ps) (.t [.lf m (fM ms),.f 79 [] [.c [.lf n (fJ js),.lf m (fM ms)] 0]]) && decide (m≤50),.v (.b (!mAll ms n m 0)))
theorem ok_cfm (js:Nat→J) (ms:Nat→Ms) (n m:Nat):zW Tryz.prog 78 (zYX js ms n m):=by
 intro ps q hh;unfold zYX at hh;simp only [vQZ,vQY,vQJ] at hh;obtain ⟨⟨hg,hm⟩,rfl⟩:=hh
 have:=zJQ hg
 simp only [PV.t.injEq] at this;rw [this];exact snd_cf js ms n m (vJZ hm)
def hK (js:Nat→J) (ms:Nat→Ms) (n m:Nat) (i:Int):St:=⟨[(1,.p 1 0),(17,.v (.n .i64 (n:Int))),(18,.v (.n .i64 i))],[(1,.blk [.v (.lf n (fJ js)),.v (.lf m (fM ms))])]⟩
set_option maxRecDepth 100000 in
theorem rdK (G:St→Option (Ret × Mem)) (K:Cont) (js:Nat→J) (ms:Nat→Ms) (n m:Nat) (i:Int):qHW 60 (cxF T (OrL.k [(77,zYU js ms n m),(78,zYX js ms n m)]) 60 50 (ntmF T 50)) (ckF T (OrL.k [(77,zYU js ms n m),(78,zYX js ms n m)]) 60) (qY T 50 [0,1,0,1,1]) (fun e τ=>match e with
 | .normal=>G (qGJ ((cxF T (OrL.k [(77,zYU js ms n m),(78,zYX js ms n m)]) 60 50 (ntmF T 50)).T.hint (cxF T (OrL.k [(77,zYU js ms n m),(78,zYX js ms n m)]) 60 50 (ntmF T 50)).me (zY (qY T 50 [0,1,0,1,1]))) τ)
 | e=>K e (qUU ((cxF T (OrL.k [(77,zYU js ms n m),(78,zYX js ms n m)]) 60 50 (ntmF T 50)).T.hint (cxF T (OrL.k [(77,zYU js ms n m),(78,zYX js ms n m)]) 60 50 (ntmF T 50)).me (zY (qY T 50 [0,1,0,1,1]))) τ)) (hK js ms n m i) =
 (bif (decide (i < (n:Int))) then (bif (gEq (.a [.lf n (fJ js),.lf m (fM ms)]) (.a [.lf n (fJ js),.lf m (fM ms)]) && (inB i n && decide (n≤50))) then (bif (!decide ((jErr js n (i).toNat)=0)) then (K .ret ⟨[(1,.p 1 0),(2,.v (.n .i64 (jErr js n (i).toNat)))],[(1,.blk [.v (.lf n (fJ js)),.v (.lf m (fM ms))])]⟩)
 else (G (hK js ms n m (vJJ .i64 (i + 1)))))
 else none)
 else (K (.exit 0) ⟨[(1,.p 1 0)],[(1,.blk [.v (.lf n (fJ js)),.v (.lf m (fM ms))])]⟩)):=by kernel_rfl
def rK (js:Nat→J) (ms:Nat→Ms) (n m:Nat) (e:Int):St:=⟨[(1,.p 1 0),(2,.v (.n .i64 e))],[(1,.blk [.v (.lf n (fJ js)),.v (.lf m (fM ms))])]⟩
def oK (js:Nat→J) (ms:Nat→Ms) (n m:Nat):St:=⟨[(1,.p 1 0)],[(1,.blk [.v (.lf n (fJ js)),.v (.lf m (fM ms))])]⟩
theorem lpK (K:Cont) (js:Nat→J) (ms:Nat→Ms) (n m:Nat) (hn:n≤10):∀ (k p q:Nat),p + k=n→k < q→LF 60 (cxF T (OrL.k [(77,zYU js ms n m),(78,zYX js ms n m)]) 60 50 (ntmF T 50)) (ckF T (OrL.k [(77,zYU js ms n m),(78,zYX js ms n m)]) 60) (qY T 50 [0,1,0,1,1]) ((cxF T (OrL.k [(77,zYU js ms n m),(78,zYX js ms n m)]) 60 50 (ntmF T 50)).T.hint (cxF T (OrL.k [(77,zYU js ms n m),(78,zYX js ms n m)]) 60 50 (ntmF T 50)).me (zY (qY T 50 [0,1,0,1,1]))) K q (hK js ms n m p)=(bif decide (jE js n k p=0) then (K (.exit 0) (oK js ms n m)) else (K .ret (rK js ms n m (jE js n k p))))
 | 0,p,q + 1,hp,hq=>by
  refine (rdK (fun σ=>LF 60 (cxF T (OrL.k [(77,zYU js ms n m),(78,zYX js ms n m)]) 60 50 (ntmF T 50)) (ckF T (OrL.k [(77,zYU js ms n m),(78,zYX js ms n m)]) 60) (qY T 50 [0,1,0,1,1]) ((cxF T (OrL.k [(77,zYU js ms n m),(78,zYX js ms n m)]) 60 50 (ntmF T 50)).T.hint (cxF T (OrL.k [(77,zYU js ms n m),(78,zYX js ms n m)]) 60 50 (ntmF T 50)).me (zY (qY T 50 [0,1,0,1,1]))) K q σ) K js ms n m p).trans ?_;rw [vYH (show ¬ (p:Int) < (n:Int) by omega)];rfl
 | k + 1,p,q + 1,hp,hq=>by
  refine (rdK (fun σ=>LF 60 (cxF T (OrL.k [(77,zYU js ms n m),(78,zYX js ms n m)]) 60 50 (ntmF T 50)) (ckF T (OrL.k [(77,zYU js ms n m),(78,zYX js ms n m)]) 60) (qY T 50 [0,1,0,1,1]) ((cxF T (OrL.k [(77,zYU js ms n m),(78,zYX js ms n m)]) 60 50 (ntmF T 50)).T.hint (cxF T (OrL.k [(77,zYU js ms n m),(78,zYX js ms n m)]) 60 50 (ntmF T 50)).me (zY (qY T 50 [0,1,0,1,1]))) K q σ) K js ms n m p).trans ?_;rw [vJQ (show (p:Int) < (n:Int) by omega),yW (show p < n by omega),qQQ (by omega),lpK K js ms n m hn k (p + 1) q (by omega) (by omega),toN,qXZ,vJQ (show n≤50 by omega)];by_cases hq:jErr js n p=0
  ·simp only [jE,vJQ hq,vYV,vYG,Bool.not_true,vZJ]
  ·simp only [jE,vYH hq,vYV,vYG,Bool.not_false,vZJ];rfl
set_option maxRecDepth 100000 in
theorem pxK (js:Nat→J) (ms:Nat→Ms) (n m:Nat):qYH T (OrL.k [(77,zYU js ms n m),(78,zYX js ms n m)]) (zZ [([0,1,0,1,1],jX (hK js ms n m 0) (fun K=>bif decide (10 < (n:Int)) then none else (bif decide (jE js n n 0=0) then (K (.exit 0) (oK js ms n m)) else (K .ret (rK js ms n m (jE js n n 0))))))]) 60 50 [(.a [.lf n (fJ js),.lf m (fM ms)])] =
 bif decide ((n:Int)=0) then some (.v (.n .i64 801),[]) else (bif decide (10 < (n:Int)) then some (.v (.n .i64 801),[]) else (bif gSt (hK js ms n m 0) (hK js ms n m 0) then (bif decide (10 < (n:Int)) then none else (bif decide (jE js n n 0=0) then bif (decide (32 < (m:Int))) then some (.v (.n .i64 808),[])
 else bif (g1 [.lf m (fM ms),.f 79 [] [.c [.lf n (fJ js),.lf m (fM ms)] 0]] && decide (m≤50)) then (bif (!mAll ms n m 0) then some (.v (.n .i64 808),[])
 else some (.v (.n .i64 0),[]))
 else none else some (.v (.n .i64 (jE js n n 0)),[]))) else none)):=by kernel_rfl
theorem yVQ (js:Nat→J) (ms:Nat→Ms) (n m:Nat):zH Tryz.prog 50 [(.a [.lf n (fJ js),.lf m (fM ms)])] (.v (.n .i64 (rErr js ms n m))):=by
 refine jV (N:=60) (LO:=zZ [([0,1,0,1,1],jX (hK js ms n m 0) (fun K=>bif decide (10 < (n:Int)) then none else (bif decide (jE js n n 0=0) then (K (.exit 0) (oK js ms n m)) else (K .ret (rK js ms n m (jE js n n 0))))))]) yJ yQ (OrL.ok (l:=[(77,zYU js ms n m),(78,zYX js ms n m)]) ⟨ok_o_cjp js ms n m,ok_cfm js ms n m,trivial⟩) (fun p S hp => ?_) ?_
 ·refine uY (L:=qY T 50) (l:=[([0,1,0,1,1],jX (hK js ms n m 0) (fun K=>bif decide (10 < (n:Int)) then none else (bif decide (jE js n n 0=0) then (K (.exit 0) (oK js ms n m)) else (K .ret (rK js ms n m (jE js n n 0))))))]) (show AllP _ [([0,1,0,1,1],jX (hK js ms n m 0) (fun K=>bif decide (10 < (n:Int)) then none else (bif decide (jE js n n 0=0) then (K (.exit 0) (oK js ms n m)) else (K .ret (rK js ms n m (jE js n n 0))))))] from ⟨qQU fun K r hr => ?_,trivial⟩) p S hp;cases hq:decide (10 < (n:Int)) with
  | true=>rw [hq] at hr; cases hr
  | false =>
   rw [hq] at hr;have h10:=vJY hq;exact (lpK K js ms n m (by omega) n 0 60 (by omega) (by omega)).trans hr
 ·refine (pxK js ms n m).trans ?_;unfold rErr;rw [yG,g1_t];by_cases h0:(n:Int)=0
  ·rw [vJQ h0]; rfl
  rw [vYH h0];by_cases h10:10 < (n:Int)
  ·rw [vJQ h10]; rfl
  rw [vYH h10];by_cases hj:jE js n n 0=0
  ·rw [vJQ hj];by_cases h32:32 < (m:Int)
   ·rw [vJQ h32]; rfl
   rw [vYH h32,vJQ (show m≤50 by omega)];cases mAll ms n m 0 <;> rfl
  ·rw [vYH hj]; rfl
def hQ (js:Nat→J) (ms:Nat→Ms) (n m:Nat) (i:Int):St:=⟨[(1,.p 1 0),(3,.v (.n .i64 i))],[(1,.blk [.v (.lf n (fJ js)),.v (.lf m (fM ms))])]⟩
set_option maxRecDepth 100000 in
theorem rdQ (G:St→Option (Ret × Mem)) (K:Cont) (js:Nat→J) (ms:Nat→Ms) (n m:Nat) (i:Int):qHW 60 (cxF T (OrL.k [(64,qKQ js ms n m)]) 60 37 (ntmF T 37)) (ckF T (OrL.k [(64,qKQ js ms n m)]) 60) (qY T 37 [0,1,0,1,1]) (fun e τ=>match e with
 | .normal=>G (qGJ ((cxF T (OrL.k [(64,qKQ js ms n m)]) 60 37 (ntmF T 37)).T.hint (cxF T (OrL.k [(64,qKQ js ms n m)]) 60 37 (ntmF T 37)).me (zY (qY T 37 [0,1,0,1,1]))) τ)
 | e=>K e (qUU ((cxF T (OrL.k [(64,qKQ js ms n m)]) 60 37 (ntmF T 37)).T.hint (cxF T (OrL.k [(64,qKQ js ms n m)]) 60 37 (ntmF T 37)).me (zY (qY T 37 [0,1,0,1,1]))) τ)) (hQ js ms n m i) =
 (bif (decide (i < (n:Int))) then (bif (gEq (.lf n (fJ js)) (.lf n (fJ js)) && (inB i n && decide (n≤50))) then (bif (!decide ((jErr js n (i).toNat)=0)) then (K .ret ⟨[(1,.p 1 0),(2,.v (.n .i64 (jErr js n (i).toNat)))],[(1,.blk [.v (.lf n (fJ js)),.v (.lf m (fM ms))])]⟩)
 else (G (hQ js ms n m (vJJ .i64 (i + 1)))))
 else none)
 else (K (.exit 0) ⟨[(1,.p 1 0)],[(1,.blk [.v (.lf n (fJ js)),.v (.lf m (fM ms))])]⟩)):=by kernel_rfl
def rQ (js:Nat→J) (ms:Nat→Ms) (n m:Nat) (e:Int):St:=⟨[(1,.p 1 0),(2,.v (.n .i64 e))],[(1,.blk [.v (.lf n (fJ js)),.v (.lf m (fM ms))])]⟩
def oQ (js:Nat→J) (ms:Nat→Ms) (n m:Nat):St:=⟨[(1,.p 1 0)],[(1,.blk [.v (.lf n (fJ js)),.v (.lf m (fM ms))])]⟩
theorem lpQ (K:Cont) (js:Nat→J) (ms:Nat→Ms) (n m:Nat) (hn:n≤10):∀ (k p q:Nat),p + k=n→k < q→LF 60 (cxF T (OrL.k [(64,qKQ js ms n m)]) 60 37 (ntmF T 37)) (ckF T (OrL.k [(64,qKQ js ms n m)]) 60) (qY T 37 [0,1,0,1,1]) ((cxF T (OrL.k [(64,qKQ js ms n m)]) 60 37 (ntmF T 37)).T.hint (cxF T (OrL.k [(64,qKQ js ms n m)]) 60 37 (ntmF T 37)).me (zY (qY T 37 [0,1,0,1,1]))) K q (hQ js ms n m p)=(bif decide (jE js n k p=0) then (K (.exit 0) (oQ js ms n m)) else (K .ret (rQ js ms n m (jE js n k p))))
 | 0,p,q + 1,hp,hq=>by
  refine (rdQ (fun σ=>LF 60 (cxF T (OrL.k [(64,qKQ js ms n m)]) 60 37 (ntmF T 37)) (ckF T (OrL.k [(64,qKQ js ms n m)]) 60) (qY T 37 [0,1,0,1,1]) ((cxF T (OrL.k [(64,qKQ js ms n m)]) 60 37 (ntmF T 37)).T.hint (cxF T (OrL.k [(64,qKQ js ms n m)]) 60 37 (ntmF T 37)).me (zY (qY T 37 [0,1,0,1,1]))) K q σ) K js ms n m p).trans ?_;rw [vYH (show ¬ (p:Int) < (n:Int) by omega)];rfl
 | k + 1,p,q + 1,hp,hq=>by
  refine (rdQ (fun σ=>LF 60 (cxF T (OrL.k [(64,qKQ js ms n m)]) 60 37 (ntmF T 37)) (ckF T (OrL.k [(64,qKQ js ms n m)]) 60) (qY T 37 [0,1,0,1,1]) ((cxF T (OrL.k [(64,qKQ js ms n m)]) 60 37 (ntmF T 37)).T.hint (cxF T (OrL.k [(64,qKQ js ms n m)]) 60 37 (ntmF T 37)).me (zY (qY T 37 [0,1,0,1,1]))) K q σ) K js ms n m p).trans ?_;rw [vJQ (show (p:Int) < (n:Int) by omega),yW (show p < n by omega),qQQ (by omega),lpQ K js ms n m hn k (p + 1) q (by omega) (by omega),toN,qXZ,vJQ (show n≤50 by omega)];by_cases hq:jErr js n p=0
  ·simp only [jE,vJQ hq,vYV,vYG,Bool.not_true,vZJ]
  ·simp only [jE,vYH hq,vYV,vYG,Bool.not_false,vZJ];rfl
def hM (js:Nat→J) (ms:Nat→Ms) (n m:Nat) (i:Int):St:=⟨[(1,.p 1 0),(5,.v (.n .i64 i))],[(1,.blk [.v (.lf n (fJ js)),.v (.lf m (fM ms))])]⟩
def rM (js:Nat→J) (ms:Nat→Ms) (n m:Nat) (i:Int):St:=⟨[(2,.v (.n .i64 808))],[]⟩
def oM (js:Nat→J) (ms:Nat→Ms) (n m:Nat):St:=⟨[],[]⟩
def mTr {α:Type} (n:Nat) (q:Ms) (a b:α):α:=(bif (decide (q.link < 0)) then b else (bif (decide ((n:Int)≤q.link)) then b else (bif (decide (1≤q.mass)) then (bif (decide (q.mass≤65536)) then (bif (decide (q.p.x < (-4194304))) then b else (bif (decide (4194304 < q.p.x)) then b else (bif (decide (q.p.y < (-4194304))) then b else (bif (decide (4194304 < q.p.y)) then b else (bif (decide (q.p.z < (-4194304))) then b else (bif (decide (4194304 < q.p.z)) then b else a)))))) else b) else b)))
theorem mTr_eq {α:Type} (n:Nat) (q:Ms) (a b:α):mTr n q a b=bif mokB n q then a else b:=by
 unfold mTr mokB;by_cases h:MOK n q
 ·have h':=h;obtain ⟨⟨h1,h2⟩,⟨h3,h4⟩,⟨h5,h6⟩,⟨h7,h8⟩,h9,h10⟩:=h';rw [vJQ h];simp only [vYV];simp only [Bool.cond_eq_ite,decide_eq_true_eq]
  repeat' split
  all_goals first | rfl | (exfalso; omega)
 ·rw [vYH h];unfold MOK at h;simp only [vYG];simp only [Bool.cond_eq_ite,decide_eq_true_eq]
  repeat' split
  all_goals first | rfl | (exfalso; omega) | contradiction
set_option maxRecDepth 100000 in
theorem rdM (G:St→Option (Ret × Mem)) (K:Cont) (js:Nat→J) (ms:Nat→Ms) (n m:Nat) (i:Int):qHW 60 (cxF T (OrL.k [(64,qKQ js ms n m)]) 60 37 (ntmF T 37)) (ckF T (OrL.k [(64,qKQ js ms n m)]) 60) (qY T 37 [0,1,0,1,1,1,1]) (fun e τ=>match e with
 | .normal=>G (qGJ ((cxF T (OrL.k [(64,qKQ js ms n m)]) 60 37 (ntmF T 37)).T.hint (cxF T (OrL.k [(64,qKQ js ms n m)]) 60 37 (ntmF T 37)).me (zY (qY T 37 [0,1,0,1,1,1,1]))) τ)
 | e=>K e (qUU ((cxF T (OrL.k [(64,qKQ js ms n m)]) 60 37 (ntmF T 37)).T.hint (cxF T (OrL.k [(64,qKQ js ms n m)]) 60 37 (ntmF T 37)).me (zY (qY T 37 [0,1,0,1,1,1,1]))) τ)) (hM js ms n m i) =
 bif decide (i < (m:Int)) then (bif inB i m then mTr n (ms i.toNat) (G (hM js ms n m (vJJ .i64 (i + 1)))) (K .ret (rM js ms n m 0)) else none) else (K (.exit 2) (oM js ms n m)):=by kernel_rfl
theorem lpM (K:Cont) (js:Nat→J) (ms:Nat→Ms) (n m:Nat) (hm:m≤1000):∀ (k p q:Nat),p + k=m→k < q→LF 60 (cxF T (OrL.k [(64,qKQ js ms n m)]) 60 37 (ntmF T 37)) (ckF T (OrL.k [(64,qKQ js ms n m)]) 60) (qY T 37 [0,1,0,1,1,1,1]) ((cxF T (OrL.k [(64,qKQ js ms n m)]) 60 37 (ntmF T 37)).T.hint (cxF T (OrL.k [(64,qKQ js ms n m)]) 60 37 (ntmF T 37)).me (zY (qY T 37 [0,1,0,1,1,1,1]))) K q (hM js ms n m p)=bif mAll ms n k p then (K (.exit 2) (oM js ms n m)) else (K .ret (rM js ms n m 0))
 | 0,p,q + 1,hp,hq=>by
  refine (rdM (fun σ=>LF 60 (cxF T (OrL.k [(64,qKQ js ms n m)]) 60 37 (ntmF T 37)) (ckF T (OrL.k [(64,qKQ js ms n m)]) 60) (qY T 37 [0,1,0,1,1,1,1]) ((cxF T (OrL.k [(64,qKQ js ms n m)]) 60 37 (ntmF T 37)).T.hint (cxF T (OrL.k [(64,qKQ js ms n m)]) 60 37 (ntmF T 37)).me (zY (qY T 37 [0,1,0,1,1,1,1]))) K q σ) K js ms n m p).trans ?_;rw [vYH (show ¬ (p:Int) < (m:Int) by omega)];rfl
 | k + 1,p,q + 1,hp,hq=>by
  refine (rdM (fun σ=>LF 60 (cxF T (OrL.k [(64,qKQ js ms n m)]) 60 37 (ntmF T 37)) (ckF T (OrL.k [(64,qKQ js ms n m)]) 60) (qY T 37 [0,1,0,1,1,1,1]) ((cxF T (OrL.k [(64,qKQ js ms n m)]) 60 37 (ntmF T 37)).T.hint (cxF T (OrL.k [(64,qKQ js ms n m)]) 60 37 (ntmF T 37)).me (zY (qY T 37 [0,1,0,1,1,1,1]))) K q σ) K js ms n m p).trans ?_;rw [vJQ (show (p:Int) < (m:Int) by omega),yW (show p < m by omega),qQQ (by omega),lpM K js ms n m hm k (p + 1) q (by omega) (by omega),toN,mTr_eq];by_cases hq:mokB n (ms p)=true
  ·simp only [mAll,hq,vYV,vZH]
  ·rw [Bool.not_eq_true] at hq;simp only [mAll,hq,vYV,vYG,Bool.false_and]
set_option maxRecDepth 100000 in
theorem pxQ (js:Nat→J) (ms:Nat→Ms) (n m:Nat):qYH T (OrL.k [(64,qKQ js ms n m)]) (zZ [([0,1,0,1,1],jX (hQ js ms n m 0) (fun K=>bif decide (10 < (n:Int)) then none else (bif decide (jE js n n 0=0) then (K (.exit 0) (oQ js ms n m)) else (K .ret (rQ js ms n m (jE js n n 0)))))),([0,1,0,1,1,1,1],jX (hM js ms n m 0) (fun K=>bif decide (32 < (m:Int)) then none else (bif mAll ms n m 0 then (K (.exit 2) (oM js ms n m)) else (K .ret (rM js ms n m 0)))))]) 60 37 [(.a [.lf n (fJ js),.lf m (fM ms)])] =
 bif decide ((n:Int) < 1) then some (.v (.n .i64 801),[]) else (bif decide (10 < (n:Int)) then some (.v (.n .i64 801),[]) else (bif gSt (hQ js ms n m 0) (hQ js ms n m 0) then (bif decide (10 < (n:Int)) then none else (bif decide (jE js n n 0=0) then (bif decide (32 < (m:Int)) then some (.v (.n .i64 808),[]) else (bif gSt (hM js ms n m 0) (hM js ms n m 0) then (bif decide (32 < (m:Int)) then none else (bif mAll ms n m 0 then some (.v (.n .i64 0),[]) else some (.v (.n .i64 808),[]))) else none)) else some (.v (.n .i64 (jE js n n 0)),[]))) else none)):=by kernel_rfl
theorem yWH (js:Nat→J) (ms:Nat→Ms) (n m:Nat):zH Tryz.prog 37 [(.a [.lf n (fJ js),.lf m (fM ms)])] (.v (.n .i64 (rErr js ms n m))):=by
 refine jV (N:=60) (LO:=zZ [([0,1,0,1,1],jX (hQ js ms n m 0) (fun K=>bif decide (10 < (n:Int)) then none else (bif decide (jE js n n 0=0) then (K (.exit 0) (oQ js ms n m)) else (K .ret (rQ js ms n m (jE js n n 0)))))),([0,1,0,1,1,1,1],jX (hM js ms n m 0) (fun K=>bif decide (32 < (m:Int)) then none else (bif mAll ms n m 0 then (K (.exit 2) (oM js ms n m)) else (K .ret (rM js ms n m 0)))))]) yJ yQ (OrL.ok (l:=[(64,qKQ js ms n m)]) ⟨ok_o_cjr js ms n m,trivial⟩) (fun p S hp => ?_) ?_
 ·refine uY (L:=qY T 37) (l:=[([0,1,0,1,1],jX (hQ js ms n m 0) (fun K=>bif decide (10 < (n:Int)) then none else (bif decide (jE js n n 0=0) then (K (.exit 0) (oQ js ms n m)) else (K .ret (rQ js ms n m (jE js n n 0)))))),([0,1,0,1,1,1,1],jX (hM js ms n m 0) (fun K=>bif decide (32 < (m:Int)) then none else (bif mAll ms n m 0 then (K (.exit 2) (oM js ms n m)) else (K .ret (rM js ms n m 0)))))]) (show AllP _ [([0,1,0,1,1],jX (hQ js ms n m 0) (fun K=>bif decide (10 < (n:Int)) then none else (bif decide (jE js n n 0=0) then (K (.exit 0) (oQ js ms n m)) else (K .ret (rQ js ms n m (jE js n n 0)))))),([0,1,0,1,1,1,1],jX (hM js ms n m 0) (fun K=>bif decide (32 < (m:Int)) then none else (bif mAll ms n m 0 then (K (.exit 2) (oM js ms n m)) else (K .ret (rM js ms n m 0)))))] from ⟨qQU fun K r hr => ?_,qQU fun K r hr => ?_,trivial⟩) p S hp
  ·cases hq:decide (10 < (n:Int)) with
   | true=>rw [hq] at hr; cases hr
   | false =>
    rw [hq] at hr;have h10:=vJY hq;exact (lpQ K js ms n m (by omega) n 0 60 (by omega) (by omega)).trans hr
  ·cases hq:decide (32 < (m:Int)) with
   | true=>rw [hq] at hr; cases hr
   | false =>
    rw [hq] at hr;have h32:=vJY hq;exact (lpM K js ms n m (by omega) m 0 60 (by omega) (by omega)).trans hr
 ·refine (pxQ js ms n m).trans ?_;unfold rErr;rw [yG,yG,show decide ((n:Int) < 1)=decide ((n:Int)=0) from decide_eq_decide.2 (by omega)];by_cases h0:(n:Int)=0
  ·rw [vJQ h0]; rfl
  rw [vYH h0];by_cases h10:10 < (n:Int)
  ·rw [vJQ h10]; rfl
  rw [vYH h10];by_cases hj:jE js n n 0=0
  ·rw [vJQ hj];by_cases h32:32 < (m:Int)
   ·rw [vJQ h32]; rfl
   rw [vYH h32];cases mAll ms n m 0 <;> rfl
  ·rw [vYH hj]; rfl
end Go.Proofs.YtmffoiemmlcmfaaGreat.Nc

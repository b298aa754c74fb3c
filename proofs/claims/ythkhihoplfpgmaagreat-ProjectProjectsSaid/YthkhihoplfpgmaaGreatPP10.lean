/- Part 10 of the texts behind the last one: rules and contracts. No condition. -/
import Derived.Test.YthkhihoplfpgmaaGreatPP9
namespace Go.Proofs.YthkhihoplfpgmaaGreat
open Go.Sx
theorem ze25:qYY Tryz.prog 25 (.agg #[.slice none 0 0,.slice none 0 0]):=by unfold qYY; kernel_rfl
theorem zWJ:qWG Tryz.prog 25 0 0=true:=by kernel_rfl
theorem ty22:tyB Tryz.prog 22 false 1=true:=by kernel_rfl
theorem en49:kV Tryz.prog 49:=zQ Tryz.func49 (by kernel_rfl) (by kernel_rfl)
theorem sl22:slcB Tryz.prog 22 62 12=true:=by kernel_rfl
theorem app22:appB Tryz.prog 22 62 12 104=true:=by kernel_rfl
theorem fa25_1:qWG Tryz.prog 25 1 1=true:=by kernel_rfl
theorem ty23:tyB Tryz.prog 23 false 1=true:=by kernel_rfl
theorem la84:qJV Tryz.prog 84=some ([.int .i64 0,.int .i64 0,.int .i64 0,.int .i64 0,.int .i64 0],[(0,1),(1,1),(2,3)]):=by kernel_rfl
theorem sl23:slcB Tryz.prog 23 84 5=true:=by kernel_rfl
theorem ze84:qYY Tryz.prog 84 (.agg #[.int .i64 0,.int .i64 0,.int .i64 0,.int .i64 0,.int .i64 0]):=by unfold qYY; kernel_rfl
theorem app23:appB Tryz.prog 23 84 5 40=true:=by kernel_rfl
theorem ty25:tyB Tryz.prog 25 true 2=true:=by kernel_rfl
theorem jYU {m e sz cap k:Nat} {a:Option Addr} {ys:List Value} {w:World} (h:OwnF m e sz a cap k ys w):k≤cap:=by
 rcases h.2 with ⟨h1,h2⟩ | ⟨gg,cp,cur,hv,_,_,hc,_⟩
 ·omega
 ·simp only [Value.slice.injEq] at hv
  omega
theorem zWQ {k:Nat} (h:k≤1000000):IntKind.i64.wrap ((k:Int) + 1)=((k + 1:Nat):Int):=by
 refine (zY ?_).trans ?_ <;> omega
theorem kZQ {n k:Nat} (hn:n≤1000) (h:k < n):IntKind.i64.wrap (((n - k:Nat):Int) - 1)=((n - (k + 1):Nat):Int):=by
 refine (zY ?_).trans ?_ <;> omega
theorem mkRobot {b:Nat} {sl:Value} {L:List Int} {i:Nat} (w:World) (hs:Src w b sl L i):Calls Tryz.prog 24 [.pointer (some ⟨b,0,none⟩)].toArray w (jXY (X:=(Option Addr × Nat) × (Option Addr × Nat)) (fun x=>nJ L i≤x.1.2∧nM L i≤x.2.2) (fun x=>.agg #[.slice x.1.1 (nJ L i) x.1.2,.slice x.2.1 (nM L i) x.2.2]) (fun x w=>qJQ 12 x.1.1 ((jsOf L i (nJ L i)).1.map jc) w∧qJQ 5 x.2.1 ((msOf L i (nM L i)).map mc) w) (srcW w b sl L (robQ L i))):=by
 refine yZK (n:=49) hs Tryz.func24 rfl rfl rfl ?_
 refine qW ?_
 refine qZ ?_
 refine qKZ 2 ze25 rfl rfl rfl ?_; intro b2
 refine qX ?_
 refine qQ ?_
 refine qW ?_
 refine qZ ?_
 refine qKZ 3 ze25 rfl rfl rfl ?_; intro b3
 refine qX ?_
 refine qQ ?_
 refine qW ?_
 refine doC_ownA 100 62 12 ?_
 refine doC_ownA 101 84 5 ?_
 have hn:=nJ_b L i
 have hm:=nM_b L i
 refine qZ ?_
 refine qY (qJ rfl) rfl rfl rfl ?_
 refine jJ (F:=vI) hs en26 rfl (fun w' h=>jW _ (by first | omega | assumption | (unfold In64; omega) | decide) w' h) rfl rfl ?_; intro r8 hr8
 have br8:=uY hr8 (by first | decide | omega)
 refine qY (kG rfl rfl (by first | exact zY ⟨by omega,by omega⟩ | rfl)) rfl rfl rfl ?_
 refine qY (qV rfl) rfl rfl rfl ?_
 refine qX ?_
 refine qQ ?_
 refine qW ?_
 refine qW ?_
 refine qZ ?_
 refine qY (qV rfl) rfl rfl rfl ?_
 refine qX ?_
 refine qQ ?_
 refine uU ?_
 refine zJX [0,2,3,4] [2] (α:=Nat × Option Addr × Nat) (fun x=>nJ L i - x.1) (fun x=>x.1≤nJ L i) (fun x=>srcB ⟨w,[(101,ownD none,OwnF 0 84 5 none 0 0 []),(100,ownD x.2.1,OwnF 0 62 12 x.2.1 x.2.2 x.1 (jsC L i x.1))]⟩ b sl L (jsOf L i x.1).2) (fun x=>[(5,.int .i64 (x.1:Int))]) (fun x=>[(3,b3,[.slice x.2.1 x.1 x.2.2,.slice none 0 0],25)]) (0,none,0) rfl rfl ?_ ?_ ?_ ?_ rfl ?_
 ·
  exact Nat.zero_le _
 ·
  exact rfl
 ·
  repeat' first | exact trivial | exact True.intro | refine ⟨rfl,?_⟩
 ·
  repeat' first | exact trivial | exact True.intro | refine ⟨rfl,?_⟩
 rintro ⟨k,a,cap⟩ hk
 dsimp only at hk ⊢
 refine qW ?_
 refine qW ?_
 refine qZ ?_
 refine qY (qJ rfl) rfl rfl rfl ?_
 refine qY (qJ rfl) rfl rfl rfl ?_
 refine qY (qVY rfl rfl) rfl rfl rfl ?_
 refine qX ?_
 refine qQ ?_
 refine kZ rfl (fun hc12 => ?_) (fun hc12 => ?_)
 ·
  have h2:k < nJ L i:=by have:=of_decide_eq_true hc12; omega
  refine kJ ?_
  refine qQ ?_
  refine qW ?_
  refine uU ?_
  refine doC_srcA 6 [4] hs mo (by kernel_rfl) ?_
  simp only [List.take_succ_cons,List.take_zero,List.drop_succ_cons,List.drop_zero]
  refine qJX (fun _=>qU zWJ rfl) rfl rfl rfl rfl ?_
  refine qJX (fun _=>yX 3 ty22 rfl rfl rfl) rfl rfl rfl rfl ?_
  refine qJX (fun _=>qJ rfl) rfl rfl rfl rfl ?_
  refine qJX (fun _=>qJ rfl) rfl rfl rfl rfl ?_
  refine yQV (F:=jv) hs en49 rfl (fun w' h=>mkJoint _ (by first | omega | assumption | (unfold In64; omega) | decide) w' h) rfl rfl rfl ?_; intro r19 hr19
  refine doM_bslice (famA hs _) sl22 ze62 rfl rfl rfl rfl rfl rfl rfl rfl rfl rfl ?_
  refine jUU ?_
  refine tail_row ?_; intro bb20
  refine tail_appendA 100 app22 rfl rfl rfl rfl rfl rfl (by omega) (by omega) rfl rfl ?_; intro a21 c21 R21 hR21
  obtain rfl:=Option.some.inj hR21
  refine qY (qU zWJ rfl) rfl rfl rfl ?_
  refine zV 3 ty22 rfl rfl rfl rfl rfl rfl rfl rfl ?_
  refine qX ?_
  refine zU ?_
  refine qQ ?_
  refine qZ ?_
  refine qY (qJ rfl) rfl rfl rfl ?_
  refine qY (kG rfl rfl (zWQ (by omega))) rfl rfl rfl ?_
  refine qY (qV rfl) rfl rfl rfl ?_
  refine qX ?_
  refine qJK (k + 1,a21,c21) (by show k + 1≤_; omega) (by show nJ L i - (k + 1) < nJ L i - k; omega) (by dsimp only; rw [jsC_succ,← hr19]; rfl) ?_ ?_ rfl
  repeat' first | exact trivial | exact True.intro | refine ⟨rfl,?_⟩
 ·
  obtain rfl:k=nJ L i:=by have:=of_decide_eq_false hc12; omega
  refine zUQ ?_
  refine kK ?_
  refine kK ?_
  refine qYJ ?_
  refine qQ ?_
  refine qW ?_
  refine qW ?_
  refine qZ ?_
  refine qY (qJ rfl) rfl rfl rfl ?_
  refine jJ (F:=vI) hs en26 rfl (fun w' h=>jW _ (by first | omega | assumption | (unfold In64; omega) | decide) w' h) rfl rfl ?_; intro r24 hr24
  have br24:=uY hr24 (by first | decide | omega)
  obtain rfl:r24=((nM L i:Nat):Int):=by rw [hr24]; exact hm.2.symm
  refine qY (qV rfl) rfl rfl rfl ?_
  refine qX ?_
  refine qQ ?_
  refine uU ?_
  refine zJX [0,2,3,4] [2] (α:=Nat × Option Addr × Nat) (fun x=>nM L i - x.1) (fun x=>x.1≤nM L i) (fun x=>srcB ⟨w,[(101,ownD x.2.1,OwnF 0 84 5 x.2.1 x.2.2 x.1 (msC L i x.1)),(100,ownD a,OwnF 0 62 12 a cap (nJ L i) (jsC L i (nJ L i)))]⟩ b sl L (mQ L i + 1 + 4 * x.1)) (fun x=>[(6,.int .i64 ((nM L i - x.1:Nat):Int))]) (fun x=>[(3,b3,[.slice a (nJ L i) cap,.slice x.2.1 x.1 x.2.2],25)]) (0,none,0) rfl rfl ?_ ?_ ?_ ?_ rfl ?_
  ·
   exact Nat.zero_le _
  ·
   exact rfl
  ·
   repeat' first | exact trivial | exact True.intro | refine ⟨rfl,?_⟩
  ·
   repeat' first | exact trivial | exact True.intro | refine ⟨rfl,?_⟩
  rintro ⟨k2,a2,cap2⟩ hk2
  dsimp only at hk2 ⊢
  refine qW ?_
  refine qW ?_
  refine qZ ?_
  refine qY (qJ rfl) rfl rfl rfl ?_
  refine qY (yYV rfl rfl) rfl rfl rfl ?_
  refine qX ?_
  refine qQ ?_
  refine kZ rfl (fun hc26 => ?_) (fun hc26 => ?_)
  ·
   have h3:k2 < nM L i:=by have:=of_decide_eq_true hc26; omega
   refine kJ ?_
   refine qQ ?_
   refine qW ?_
   refine uU ?_
   refine doC_srcA 17 [4,6,9,12] hs mo (by kernel_rfl) ?_
   simp only [List.take_succ_cons,List.take_zero,List.drop_succ_cons,List.drop_zero]
   refine qJX (fun _=>qU fa25_1 rfl) rfl rfl rfl rfl ?_
   refine qJX (fun _=>yX 3 ty23 rfl rfl rfl) rfl rfl rfl rfl ?_
   refine qJX (fun _=>qJ rfl) rfl rfl rfl rfl ?_
   refine qJX (fun _=>qJ rfl) rfl rfl rfl rfl ?_
   refine yQV (F:=vI) hs en26 rfl (fun w' h=>jW _ (by first | omega | assumption | (unfold In64; omega) | decide) w' h) rfl rfl rfl ?_; intro r33 hr33
   have br33:=uY hr33 (by first | decide | omega)
   refine qJX (fun _=>qJ rfl) rfl rfl rfl rfl ?_
   refine yQV (F:=vI) hs en26 rfl (fun w' h=>jW _ (by first | omega | assumption | (unfold In64; omega) | decide) w' h) rfl rfl rfl ?_; intro r35 hr35
   have br35:=uY hr35 (by first | decide | omega)
   refine qJX (fun _=>kG rfl rfl (by first | exact zY ⟨by omega,by omega⟩ | rfl)) rfl rfl rfl rfl ?_
   refine qJX (fun _=>qJ rfl) rfl rfl rfl rfl ?_
   refine yQV (F:=vI) hs en31 rfl (fun w' h=>qXV _ (by first | omega | assumption | (unfold In64; omega) | decide) w' h) rfl rfl rfl ?_; intro r38 hr38
   have br38:=zVV hr38 (by first | decide | omega)
   refine qJX (fun _=>kQ rfl rfl (by first | exact zY ⟨by omega,by omega⟩ | rfl)) rfl rfl rfl rfl ?_
   refine qJX (fun _=>qJ rfl) rfl rfl rfl rfl ?_
   refine yQV (F:=vI) hs en31 rfl (fun w' h=>qXV _ (by first | omega | assumption | (unfold In64; omega) | decide) w' h) rfl rfl rfl ?_; intro r41 hr41
   have br41:=zVV hr41 (by first | decide | omega)
   refine qJX (fun _=>kQ rfl rfl (by first | exact zY ⟨by omega,by omega⟩ | rfl)) rfl rfl rfl rfl ?_
   refine qJX (fun _=>qZU la27 rfl rfl) rfl rfl rfl rfl ?_
   refine qJX (fun _=>qZU la84 rfl rfl) rfl rfl rfl rfl ?_
   refine doM_bslice (famA hs _) sl23 ze84 rfl rfl rfl rfl rfl rfl rfl rfl rfl rfl ?_
   refine jUU ?_
   refine tail_row ?_; intro bb45
   refine tail_appendA 101 app23 rfl rfl rfl rfl rfl rfl (by omega) (by omega) rfl rfl ?_; intro a46 c46 R46 hR46
   obtain rfl:=Option.some.inj hR46
   refine qY (qU fa25_1 rfl) rfl rfl rfl ?_
   refine zV 3 ty23 rfl rfl rfl rfl rfl rfl rfl rfl ?_
   refine qX ?_
   refine zU ?_
   refine qQ ?_
   refine qZ ?_
   refine qY (qJ rfl) rfl rfl rfl ?_
   refine qY (qGY rfl rfl (kZQ (by omega) h3)) rfl rfl rfl ?_
   refine qY (qV rfl) rfl rfl rfl ?_
   refine qX ?_
   refine qJK (k2 + 1,a46,c46) (by show k2 + 1≤_; omega) (by show nM L i - (k2 + 1) < nM L i - k2; omega) (by dsimp only; rw [msC_succ,hr33,hr35,hr38,hr41,hr8,hn.2.2]; rfl) ?_ ?_ rfl
   repeat' first | exact trivial | exact True.intro | refine ⟨rfl,?_⟩
  ·
   obtain rfl:k2=nM L i:=by have:=of_decide_eq_false hc26; omega
   refine zUQ ?_
   refine kK ?_
   refine kK ?_
   refine qYJ ?_
   refine qQ ?_
   refine qW ?_
   refine qZ ?_
   refine qY (jG 3 ty25 rfl rfl rfl) rfl rfl rfl ?_
   refine zV 2 ty25 rfl rfl rfl rfl rfl rfl rfl rfl ?_
   refine qX ?_
   refine qQ ?_
   refine jK ?_
   refine zYK (rs:=[.cell 2 25]) rfl (resC (jH 2 rfl rfl ty25 rfl) (resN)) rfl ?_
   intro w2 kn
   obtain ⟨_,q2,q3⟩:=kn.facts _ List.mem_cons_self
   obtain ⟨_,q5,q6⟩:=kn.facts _ (List.mem_cons_of_mem _ List.mem_cons_self)
   exact ⟨((a,cap),(a2,cap2)),⟨jYU q6,jYU q3⟩,rfl,kn.grow,told_and ⟨ownD a,jGK _ _ _,fun q hq=>⟨(q5 q hq).1,(q5 q hq).2.1⟩,js_slc q6⟩ ⟨ownD a2,jGK _ _ _,fun q hq=>⟨(q2 q hq).1,(q2 q hq).2.1⟩,ms_slc q3⟩⟩
end Go.Proofs.YthkhihoplfpgmaaGreat
namespace Go.Proofs.YthkhihoplfpgmaaGreat
open Go.Sx
theorem en25:kV Tryz.prog 25:=zQ Tryz.func25 (by kernel_rfl) (by kernel_rfl)
theorem en32:kV Tryz.prog 32:=zQ Tryz.func32 (by kernel_rfl) (by kernel_rfl)
theorem la29:qJV Tryz.prog 29=some ([.int .i64 0,.int .i64 0,.int .i64 0,.int .i64 0,.int .i64 0,.int .i64 0,.int .i64 0,.int .i64 0,.int .i64 0,.int .i64 0],[(0,1),(1,1),(2,3),(5,3),(8,1),(9,1)]):=by kernel_rfl
theorem ze29:qYY Tryz.prog 29 (.agg #[.int .i64 0,.int .i64 0,.int .i64 0,.int .i64 0,.int .i64 0,.int .i64 0,.int .i64 0,.int .i64 0,.int .i64 0,.int .i64 0]):=by unfold qYY; kernel_rfl
theorem ty29:tyB Tryz.prog 29 true 10=true:=by kernel_rfl
theorem fa29_4:qWG Tryz.prog 29 4 8=true:=by kernel_rfl
theorem fa29_5:qWG Tryz.prog 29 5 9=true:=by kernel_rfl
theorem fa29_1:qWG Tryz.prog 29 1 1=true:=by kernel_rfl
theorem sl36:slcB Tryz.prog 36 29 10=true:=by kernel_rfl
theorem app36:appB Tryz.prog 36 29 10 80=true:=by kernel_rfl
theorem quo2 {a:Int} (h : -9000000000≤a∧a≤9000000000):IntKind.i64.wrap (a.tdiv 2)=a.tdiv 2:=zY (by
 have:=zWU (a:=a) (b:=2) (by unfold In64; omega) (by decide)
 exact this)
theorem mkConsO (lv:Value) (l:List Int) (aj am:Option Addr) (cj nj nm cm n:Nat) (hn:n≤1000) (hj:1≤nj∧nj≤10) (w:World) (hl:IntsAt w w.heap.size lv l):Calls Tryz.prog 11 [.agg #[.slice aj nj cj,.slice am nm cm],.int .i64 (n:Int),lv].toArray w (jXY (X:=Option Addr × Nat) (fun x=>n≤x.2) (fun x=>.slice x.1 n x.2) (fun x=>OwnF 0 29 10 x.1 x.2 n (cnC (yZZ nrm l nj n).1)) w):=by
 refine yH (n:=66) Tryz.func11 rfl rfl rfl ?_
 refine qW ?_
 refine qZ ?_
 refine zZX 3 rfl rfl rfl rfl ?_; intro b3
 refine qY (qV rfl) rfl rfl rfl ?_
 refine qX ?_
 refine qQ ?_
 refine qW ?_
 refine qZ ?_
 refine qY (qJ rfl) rfl rfl rfl ?_
 refine zGG 11 en25 rfl (fun w' k=>uZQ w' (qGU hl k.grow (Nat.le_refl _))) rfl rfl ?_; intro b11
 refine qY (qV rfl) rfl rfl rfl ?_
 refine qX ?_
 refine qQ ?_
 refine qW ?_
 refine jUW 100 29 10 ?_
 refine qZ ?_
 refine qY (qV rfl) rfl rfl rfl ?_
 refine qX ?_
 refine qQ ?_
 refine qW ?_
 refine uU ?_
 refine zJX [3,7] [3] (α:=Nat × Nat × Option Addr × Nat × List Cn) (fun x=>n - x.1) (fun x=>x.1≤n∧yZZ nrm l nj x.1=(x.2.2.2.2,x.2.1)∧x.2.2.2.2.length=x.1) (fun x=>⟨w,[(100,ownD x.2.2.1,OwnF 0 29 10 x.2.2.1 x.2.2.2.1 x.1 (cnC x.2.2.2.2))]⟩) (fun x=>[(8,.slice x.2.2.1 x.1 x.2.2.2.1),(1,.int .i64 ((n - x.1:Nat):Int))]) (fun x=>[(11,b11,srcC lv l x.2.1,86)]) (0,0,none,0,[]) rfl rfl ?_ ?_ ?_ ?_ rfl ?_
 ·
  exact ⟨Nat.zero_le _,rfl,rfl⟩
 ·
  exact rfl
 ·
  repeat' first | exact trivial | exact True.intro | refine ⟨rfl,?_⟩
 ·
  repeat' first | exact trivial | exact True.intro | refine ⟨rfl,?_⟩
 rintro ⟨k,q,a,cap,rows⟩ ⟨hk,hsh,hlen⟩
 dsimp only at hk hsh hlen ⊢
 refine qW ?_
 refine qW ?_
 refine qZ ?_
 refine qY (qJ rfl) rfl rfl rfl ?_
 refine qY (yYV rfl rfl) rfl rfl rfl ?_
 refine qX ?_
 refine qQ ?_
 refine kZ rfl (fun hc13 => ?_) (fun hc13 => ?_)
 ·
  have h2:k < n:=by have:=of_decide_eq_true hc13; omega
  refine kJ ?_
  refine qQ ?_
  refine qW ?_
  refine uU ?_
  refine qW ?_
  refine doC_srcB 11 28 [1,6,8,12,15,20,22,24] rfl mo (by kernel_rfl) ?_
  simp only [List.take_succ_cons,List.take_zero,List.drop_succ_cons,List.drop_zero]
  refine qJX (fun _=>qJ rfl) rfl rfl rfl rfl ?_
  refine zQG (F:=vI) 11 hl rfl en26 rfl (fun w' h=>jW _ (by first | omega | assumption | (unfold In64; omega) | decide) w' h) rfl rfl rfl ?_; intro r17 hr17
  have br17:=uY hr17 (by first | decide | omega)
  refine qJX (fun _=>qJ rfl) rfl rfl rfl rfl ?_
  refine qJX (fun _=>qU zWJ rfl) rfl rfl rfl rfl ?_
  refine qJX (fun _=>yX 3 ty22 rfl rfl rfl) rfl rfl rfl rfl ?_
  refine qJX (fun _=>qUK sl22 rfl) rfl rfl rfl rfl ?_
  refine zQG (F:=vI) 11 hl rfl en26 rfl (fun w' h=>jW _ (by omega) w' h) rfl rfl rfl ?_; intro r22 hr22
  have br22:=uY hr22 (by first | decide | omega)
  refine qJX (fun _=>qJ rfl) rfl rfl rfl rfl ?_
  refine zQG (F:=vI) 11 hl rfl en31 rfl (fun w' h=>qXV _ (by first | omega | assumption | (unfold In64; omega) | decide) w' h) rfl rfl rfl ?_; intro r24 hr24
  have br24:=zVV hr24 (by first | decide | omega)
  refine qJX (fun _=>kQ rfl rfl (by first | exact zY ⟨by omega,by omega⟩ | rfl)) rfl rfl rfl rfl ?_
  refine qJX (fun _=>qVZ rfl rfl (by first | decide | omega) (quo2 (by omega))) rfl rfl rfl rfl ?_
  refine qJX (fun _=>qJ rfl) rfl rfl rfl rfl ?_
  refine zQG (F:=vI) 11 hl rfl en31 rfl (fun w' h=>qXV _ (by first | omega | assumption | (unfold In64; omega) | decide) w' h) rfl rfl rfl ?_; intro r28 hr28
  have br28:=zVV hr28 (by first | decide | omega)
  refine qJX (fun _=>kQ rfl rfl (by first | exact zY ⟨by omega,by omega⟩ | rfl)) rfl rfl rfl rfl ?_
  refine qJX (fun _=>qJ rfl) rfl rfl rfl rfl ?_
  refine zQG (F:=vI) 11 hl rfl en31 rfl (fun w' h=>qXV _ (by first | omega | assumption | (unfold In64; omega) | decide) w' h) rfl rfl rfl ?_; intro r31 hr31
  have br31:=zVV hr31 (by first | decide | omega)
  refine qJX (fun _=>kQ rfl rfl (by first | exact zY ⟨by omega,by omega⟩ | rfl)) rfl rfl rfl rfl ?_
  refine qJX (fun _=>qVZ rfl rfl (by first | decide | omega) (quo2 (by omega))) rfl rfl rfl rfl ?_
  refine qJX (fun _=>qZU la27 rfl rfl) rfl rfl rfl rfl ?_
  refine qJX (fun _=>qJ rfl) rfl rfl rfl rfl ?_
  refine zQG (F:=vI) 11 hl rfl en26 rfl (fun w' h=>jW _ (by first | omega | assumption | (unfold In64; omega) | decide) w' h) rfl rfl rfl ?_; intro r36 hr36
  have br36:=uY hr36 (by first | decide | omega)
  refine qJX (fun _=>qJ rfl) rfl rfl rfl rfl ?_
  refine zQG (F:=vI) 11 hl rfl en26 rfl (fun w' h=>jW _ (by first | omega | assumption | (unfold In64; omega) | decide) w' h) rfl rfl rfl ?_; intro r38 hr38
  have br38:=uY hr38 (by first | decide | omega)
  refine qJX (fun _=>qJ rfl) rfl rfl rfl rfl ?_
  refine zQG (F:=vI) 11 hl rfl en26 rfl (fun w' h=>jW _ (by first | omega | assumption | (unfold In64; omega) | decide) w' h) rfl rfl rfl ?_; intro r40 hr40
  have br40:=uY hr40 (by first | decide | omega)
  refine doM_vg (F:=z3) (fun _=>uW en32 rfl (fun w _=>mNormal2 _ _ _  w)) rfl rfl rfl rfl ?_; intro r41 hr41
  refine qJX (fun _=>qZU la29 rfl rfl) rfl rfl rfl rfl ?_
  refine doM_alloc (famB (id:=11) rfl) ze29 rfl rfl rfl rfl rfl ?_
  refine jUU ?_
  refine tail_heap rfl ?_
  refine tail_alloc 9 rfl ?_; intro b9_2
  refine qWJ ?_
  refine zV 9 ty29 rfl rfl rfl rfl rfl rfl rfl rfl ?_
  refine qX ?_
  refine qQ ?_
  refine qW ?_
  refine qZ ?_
  refine qY (qJ rfl) rfl rfl rfl ?_
  refine yQG (F:=vI) 11 hl rfl en31 rfl (fun w' h=>qXV _ (by first | omega | assumption | (unfold In64; omega) | decide) w' h) rfl rfl rfl ?_; intro r44 hr44
  have br44:=zVV hr44 (by first | decide | omega)
  refine qY (kQ rfl rfl (by first | exact zY ⟨by omega,by omega⟩ | rfl)) rfl rfl rfl ?_
  refine qY (qU fa29_4 rfl) rfl rfl rfl ?_
  refine zV 9 ty2 rfl rfl rfl rfl rfl rfl rfl rfl ?_
  refine qX ?_
  refine qQ ?_
  refine qW ?_
  refine doC_srcB 11 6 [3] rfl mo (by kernel_rfl) ?_
  simp only [List.take_succ_cons,List.take_zero,List.drop_succ_cons,List.drop_zero]
  refine qJX (fun _=>qU fa29_4 rfl) rfl rfl rfl rfl ?_
  refine qJX (fun _=>yX 9 ty2 rfl rfl rfl) rfl rfl rfl rfl ?_
  refine qJX (fun _=>qJ rfl) rfl rfl rfl rfl ?_
  refine zQG (F:=vI) 11 hl rfl en26 rfl (fun w' h=>jW _ (by first | omega | assumption | (unfold In64; omega) | decide) w' h) rfl rfl rfl ?_; intro r50 hr50
  have br50:=uY hr50 (by first | decide | omega)
  refine qJX (fun _=>kQ rfl rfl (by first | exact zY ⟨by omega,by omega⟩ | rfl)) rfl rfl rfl rfl ?_
  refine qJX (fun _=>kG rfl rfl (by first | exact zY ⟨by omega,by omega⟩ | rfl)) rfl rfl rfl rfl ?_
  refine jUU ?_
  refine tail_heap rfl ?_
  refine qWJ ?_
  refine qY (qU fa29_5 rfl) rfl rfl rfl ?_
  refine zV 9 ty2 rfl rfl rfl rfl rfl rfl rfl rfl ?_
  refine qX ?_
  refine qQ ?_
  refine qW ?_
  refine qW ?_
  refine qZ ?_
  refine qY (qJ rfl) rfl rfl rfl ?_
  refine yQG (F:=vI) 11 hl rfl en26 rfl (fun w' h=>jW _ (by first | omega | assumption | (unfold In64; omega) | decide) w' h) rfl rfl rfl ?_; intro r55 hr55
  have br55:=uY hr55 (by first | decide | omega)
  refine qY (qUY rfl rfl) rfl rfl rfl ?_
  refine qX ?_
  refine qQ ?_
  refine kZ rfl (fun hc56 => ?_) (fun hc56 => ?_)
  ·
   refine qZ ?_
   refine qY (qJ rfl) rfl rfl rfl ?_
   refine yQG (F:=vI) 11 hl rfl en26 rfl (fun w' h=>jW _ (by first | omega | assumption | (unfold In64; omega) | decide) w' h) rfl rfl rfl ?_; intro r58 hr58
   have br58:=uY hr58 (by first | decide | omega)
   refine qY (qGY rfl rfl (by first | exact zY ⟨by omega,by omega⟩ | rfl)) rfl rfl rfl ?_
   refine qY (qU fa29_1 rfl) rfl rfl rfl ?_
   refine zV 9 ty3 rfl rfl rfl rfl rfl rfl rfl rfl ?_
   refine qX ?_
   refine qQ ?_
   refine qZ ?_
   refine qY (qJ rfl) rfl rfl rfl ?_
   refine qY (jG 9 ty29 rfl rfl rfl) rfl rfl rfl ?_
   refine qGX 63 sl36 ze29 rfl rfl rfl rfl rfl rfl rfl rfl ?_; intro b63
   refine qGW (id2:=63) 100 app36 rfl rfl rfl rfl rfl rfl rfl (by omega) (by omega) rfl rfl ?_; intro a64 c64 R64 hR64
   obtain rfl:=Option.some.inj hR64
   refine qY (qV rfl) rfl rfl rfl ?_
   refine qX ?_
   refine zU ?_
   refine qQ ?_
   refine qZ ?_
   refine qY (qJ rfl) rfl rfl rfl ?_
   refine qY (qGY rfl rfl (kZQ (by omega) h2)) rfl rfl rfl ?_
   refine qY (qV rfl) rfl rfl rfl ?_
   refine qX ?_
   refine qJK (k + 1,q + 12,a64,c64,rows ++ [⟨r17,r58 - 3,⟨(r24 * 65536).tdiv 2,r28 * 65536,(r31 * 65536).tdiv 2⟩,r41,r44 * 65536,r44 * 65536 + r50 * 65536⟩]) (by refine ⟨?_,?_,?_⟩ <;> dsimp only; omega; exact cns_t hsh hr17 hr24 hr28 hr31 hr36 hr38 hr40 hr41 hr44 hr50 hr55 (of_decide_eq_true hc56) hr58; simp [hlen]) (by show n - (k + 1) < n - k; omega) (by dsimp only; rw [cnC_snoc]; rfl) ?_ ?_ rfl
   repeat' first | exact trivial | exact True.intro | refine ⟨rfl,?_⟩
  ·
   refine kJ ?_
   refine qQ ?_
   refine qZ ?_
   refine qY (qJ rfl) rfl rfl rfl ?_
   refine qY (jG 9 ty29 rfl rfl rfl) rfl rfl rfl ?_
   refine qGX 63 sl36 ze29 rfl rfl rfl rfl rfl rfl rfl rfl ?_; intro b63
   refine qGW (id2:=63) 100 app36 rfl rfl rfl rfl rfl rfl rfl (by omega) (by omega) rfl rfl ?_; intro a64 c64 R64 hR64
   obtain rfl:=Option.some.inj hR64
   refine qY (qV rfl) rfl rfl rfl ?_
   refine qX ?_
   refine zU ?_
   refine qQ ?_
   refine qZ ?_
   refine qY (qJ rfl) rfl rfl rfl ?_
   refine qY (qGY rfl rfl (kZQ (by omega) h2)) rfl rfl rfl ?_
   refine qY (qV rfl) rfl rfl rfl ?_
   refine qX ?_
   refine qJK (k + 1,q + 11,a64,c64,rows ++ [⟨r17,r22,⟨(r24 * 65536).tdiv 2,r28 * 65536,(r31 * 65536).tdiv 2⟩,r41,r44 * 65536,r44 * 65536 + r50 * 65536⟩]) (by refine ⟨?_,?_,?_⟩ <;> dsimp only; omega; exact cns_f hsh hr17 hr22 hr24 hr28 hr31 hr36 hr38 hr40 hr41 hr44 hr50 hr55 (of_decide_eq_false hc56); simp [hlen]) (by show n - (k + 1) < n - k; omega) (by dsimp only; rw [cnC_snoc]; rfl) ?_ ?_ rfl
   repeat' first | exact trivial | exact True.intro | refine ⟨rfl,?_⟩
 ·
  obtain rfl:k=n:=by have:=of_decide_eq_false hc13; omega
  refine zUQ ?_
  refine kK ?_
  refine kK ?_
  refine qYJ ?_
  refine qQ ?_
  refine qW ?_
  refine qZ ?_
  refine qY (qJ rfl) rfl rfl rfl ?_
  refine qY (qV rfl) rfl rfl rfl ?_
  refine qX ?_
  refine qQ ?_
  refine jK ?_
  refine zYK (rs:=[.tmp 6]) rfl (resC (uJ rfl) (resN)) rfl ?_
  intro w2 k2
  obtain ⟨_,q2,q3⟩:=k2.facts _ List.mem_cons_self
  exact ⟨(a,cap),jYU q3,rfl,k2.grow,ownD a,yVY _ _ _ _ _ _ _,fun z hz=>⟨(q2 z hz).1,(q2 z hz).2.1⟩,by dsimp only; rw [hsh]; exact q3⟩
end Go.Proofs.YthkhihoplfpgmaaGreat
namespace Go.Proofs.YthkhihoplfpgmaaGreat
open Go.Sx
theorem en24:kV Tryz.prog 24:=zQ Tryz.func24 (by kernel_rfl) (by kernel_rfl)
theorem mkRobotT (lv:Value) (l:List Int) (w:World) (hl:IntsAt w w.heap.size lv l):Calls Tryz.prog 8 [lv].toArray w (jXY (X:=(Option Addr × Nat) × (Option Addr × Nat)) (fun x=>nJ l 0≤x.1.2∧nM l 0≤x.2.2) (fun x=>.agg #[.slice x.1.1 (nJ l 0) x.1.2,.slice x.2.1 (nM l 0) x.2.2]) (fun x w=>qJQ 12 x.1.1 ((jsOf l 0 (nJ l 0)).1.map jc) w∧qJQ 5 x.2.1 ((msOf l 0 (nM l 0)).map mc) w) w):=by
 refine yH (n:=6) Tryz.func8 rfl rfl rfl ?_
 refine qW ?_
 refine qZ ?_
 refine qKZ 2 ze25 rfl rfl rfl ?_; intro b2
 refine qX ?_
 refine qQ ?_
 refine qW ?_
 refine qZ ?_
 refine qY (qJ rfl) rfl rfl rfl ?_
 refine zGG 4 en25 rfl (fun w' k=>uZQ w' (qGU hl k.grow (Nat.le_refl _))) rfl rfl ?_; intro b4
 refine doL_toldB 5 4 hl rfl en24 rfl (fun w' h=>mkRobot   w' h) rfl rfl rfl ?_; intro x5 Dx5 _
 rename_i hP5
 obtain ⟨⟨aj,cj⟩,am,cm⟩:=x5
 dsimp only
 refine zV 2 ty25 rfl rfl rfl rfl rfl rfl rfl rfl ?_
 refine qX ?_
 refine qQ ?_
 refine jK ?_
 refine zYK (rs:=[.cell 2 25]) rfl (resC (jH 2 rfl rfl ty25 rfl) (resN)) rfl ?_
 intro w2 k2
 obtain ⟨p1,p2,p3⟩:=k2.facts _ List.mem_cons_self
 exact ⟨((aj,cj),(am,cm)),hP5,rfl,k2.grow,_,p1,fun z hz=>⟨(p2 z hz).1,(p2 z hz).2.1⟩,p3⟩
end Go.Proofs.YthkhihoplfpgmaaGreat
namespace Go.Proofs.YthkhihoplfpgmaaGreat
open Go.Rx Rt Go.Sx Go.RowKit
def jp (j:J):List PV:=[.s j.name,.n .i64 j.kind,.n .i64 j.parent,.n .i64 j.off.x,.n .i64 j.off.y,.n .i64 j.off.z,.n .i64 j.lo,.n .i64 j.hi,.n .i64 j.weight,.n .i64 j.speed,.n .i64 j.accel,.n .i64 j.torque]
def mp (m:Ms):List PV:=[.n .i64 m.link,.n .i64 m.mass,.n .i64 m.p.x,.n .i64 m.p.y,.n .i64 m.p.z]
def cp (c:Cn):List PV:=[.n .i64 c.kind,.n .i64 c.link,.n .i64 c.p.x,.n .i64 c.p.y,.n .i64 c.p.z,.n .i64 c.n.x,.n .i64 c.n.y,.n .i64 c.n.z,.n .i64 c.lo,.n .i64 c.hi]
theorem zZQ {α:Type} {f:α→List PV} {g:α→List Value} (h:∀ x,(f x).map PV.val1=g x) (l:List α):qXY (l.map f)=l.map g:=by
 unfold qXY
 rw [List.map_map]
 exact List.map_congr_left fun x _=>h x
theorem yXK {α:Type} {f:α→List PV} {sz:Nat} (h:∀ x,(Nat.beq (f x).length sz && (f x).all PV.flat1)=true) (l:List α):zQW sz (l.map f)=true:=by
 unfold zQW
 rw [List.all_map,List.all_eq_true]
 exact fun x _=>h x
theorem jGX {α:Type} {f:α→List PV} {g:α→List Value} {sz k c:Nat} {l:List α} {a:Option Addr} {F D:Nat→Prop} {G:World→Prop} {w:World} (hv:∀ x,(f x).map PV.val1=g x) (hf:∀ x,(Nat.beq (f x).length sz && (f x).all PV.flat1)=true) (hk:l.length=k) (hc:k≤c) (h0:0 < sz)
  (hd:zQQ D G) (hG:G w) (hi:∀ w,G w→qJQ sz a (l.map g) w) (hF:∀ k,D k→F k):RP F w (.l (l.map f)) (.slice a k c):=by
 have:=rp_of_slc (F:=F) (c:=c) (yXK hf l) (by rw [List.length_map,hk]; exact hc) (by rw [zZQ hv]; exact hi w hG) (fun b off ha hne=>hF b (dep_mem hd hG hi h0 (fun e=>hne (by cases l with | nil=>rfl | cons x xs=>cases e)) b off ha))
 rw [List.length_map,hk] at this
 exact this
theorem zHJ {α:Type} {f:α→List PV} {g:α→List Value} {sz k:Nat} {l:List α} {F:Nat→Prop} {w:World} {v:Value} (hv:∀ x,(f x).map PV.val1=g x) (hf:∀ x,(Nat.beq (f x).length sz && (f x).all PV.flat1)=true) (hk:l.length=k) (hF:∀ k,F k→k < w.heap.size) (h:RP F w (.l (l.map f)) v) :
  ∃ a c,v=.slice a k c∧k≤c∧qJQ sz a (l.map g) w:=by
 obtain ⟨a,c,rfl,hc,hS,_⟩:=slc_of_rp (yXK hf l) hF h
 rw [List.length_map,hk] at hc
 exact ⟨a,c,by rw [List.length_map,hk],hc,by rw [zZQ hv] at hS; exact hS⟩
def robP (l:List Int):PV:=.a [.l ((jsOf l 0 (nJ l 0)).1.map jp),.l ((msOf l 0 (nM l 0)).map mp)]
theorem snd_robot {l:List Int} (hl:l.length≤9223372036854775807):zH Tryz.prog 8 [zKV l] (.v (robP l)):=by
 refine snd_told (X:=(Option Addr × Nat) × (Option Addr × Nat)) (Φ:=fun x=>nJ l 0≤x.1.2∧nM l 0≤x.2.2) (V:=fun x=>.agg #[.slice x.1.1 (nJ l 0) x.1.2,.slice x.2.1 (nM l 0) x.2.2]) (G:=fun x w=>qJQ 12 x.1.1 ((jsOf l 0 (nJ l 0)).1.map jc) w∧qJQ 5 x.2.1 ((msOf l 0 (nM l 0)).map mc) w) (zQ Tryz.func8 (by kernel_rfl) (by kernel_rfl)) (fun w F vals hF hal => ?_) (fun x w D F hP hG hd hF => ?_)
 ·obtain ⟨v,vs,rfl,h1,h2⟩:=qYU hal
  obtain rfl:=zUK h2
  exact mkRobotT v l w (yKY hl hF h1)
 ·have h:=qWV (jGX (f:=jp) (g:=jc) (sz:=12) (fun _=>rfl) (fun _=>rfl) (zQX l 0 _) hP.1 (by decide) hd hG (fun _ h=>h.1) hF) (qWV (jGX (f:=mp) (g:=mc) (sz:=5) (fun _=>rfl) (fun _=>rfl) (zVQ l 0 _) hP.2 (by decide) hd hG (fun _ h=>h.2) hF) jZW)
  exact .a _ _ h.1 (fun v hv=>by rcases List.mem_cons.1 hv with rfl | hv; rfl; rcases List.mem_cons.1 hv with rfl | hv; rfl; cases hv) h.2
theorem rob_open {l:List Int} {F:Nat→Prop} {w:World} {v:Value} (hF:∀ k,F k→k < w.heap.size) (h:RP F w (robP l) v):∃ aj cj am cm,v=.agg #[.slice aj (nJ l 0) cj,.slice am (nM l 0) cm]∧qJQ 12 aj ((jsOf l 0 (nJ l 0)).1.map jc) w∧qJQ 5 am ((msOf l 0 (nM l 0)).map mc) w:=by
 obtain ⟨vs,rfl,ha⟩:=rp_parts h
 obtain ⟨v1,vs,rfl,h1,ha⟩:=qYU ha
 obtain ⟨v2,vs,rfl,h2,ha⟩:=qYU ha
 obtain rfl:=zUK ha
 obtain ⟨aj,cj,rfl,_,hj⟩:=zHJ (sz:=12) (g:=jc) (fun _=>rfl) (fun _=>rfl) (zQX l 0 _) hF h1
 obtain ⟨am,cm,rfl,_,hm⟩:=zHJ (sz:=5) (g:=mc) (fun _=>rfl) (fun _=>rfl) (zVQ l 0 _) hF h2
 exact ⟨aj,cj,am,cm,rfl,hj,hm⟩
noncomputable def yUJ (l m:List Int) (n:Nat):List Cn:=(yZZ nrm m (nJ l 0) n).1
theorem jKY {js:List J} {bx:List Iv}:∀ k,k≤js.length→k≤bx.length→(lks js bx k).length=k
 | 0,_,_=>rfl
 | k + 1,h1,h2=>by
  have e1:js[k]? = some (js[k]'(by omega)):=List.getElem?_eq_getElem (by omega)
  have e2:bx[k]? = some (bx[k]'(by omega)):=List.getElem?_eq_getElem (by omega)
  simp only [lks,e1,e2,List.length_append,List.length_cons,List.length_nil]
  rw [jKY k (by omega) (by omega)]
end Go.Proofs.YthkhihoplfpgmaaGreat
namespace Go.Proofs.YthkhihoplfpgmaaGreat.Ov
open Go.Rx Rt Go.Sx Go.RowKit
open Od
noncomputable def gEq (a b:PV):Bool:=@decide (a=b) (Classical.propDecidable _)
theorem qUW (a:PV):gEq a a=true:=@decide_eq_true _ (Classical.propDecidable _) rfl
theorem zYX {a b:PV} (h:gEq a b=true):a=b:=@of_decide_eq_true _ (Classical.propDecidable _) h
def F_b:Bool→Option (Ret × Mem):=fun v=>some (.v (.b v),[])
end Go.Proofs.YthkhihoplfpgmaaGreat.Ov
namespace Go.Rx
open Go.RowKit Go.Sx
abbrev Cont:=Ex→St→Option (Ret × Mem)
abbrev qXW:=St→Cont→Option (Ret × Mem)
def qVH:Nat→Code→Code
 | 0,.seq x _=>x
 | _ + 1,.seq _ y=>y
 | 0,.cond _ x _=>x
 | _ + 1,.cond _ _ y=>y
 | _,.block _ x=>x
 | _,.scope x=>x
 | _,.loop x=>x
 | _,c=>c
def qXQ (B:Code):List Nat→Code
 | []=>B
 | i :: p=>qVH i (qXQ B p)
def jZY:List Nat→List Nat→Bool
 | [],[]=>true
 | x :: xs,y :: ys=>Nat.beq x y && jZY xs ys
 | _,_=>false
theorem yWH:∀ {p q:List Nat},jZY p q=true→p=q
 | [],[],_=>rfl
 | x :: xs,y :: ys,h=>by
  simp only [jZY,Bool.and_eq_true] at h
  rw [Nat.eq_of_beq_eq_true h.1,yWH h.2]
 | [],_ :: _,h=>by cases h
 | _ :: _,[],h=>by cases h
def LF (N:Nat) (C:Cx) (cK:qWH) (x:Code) (h:Hint) (K:Cont):Nat→St→Option (Ret × Mem)
 | 0,_=>none
 | n + 1,σ=>qHJ N C cK x (fun e τ=>match e with
   | .normal=>LF N C cK x h K n (qVV h τ)
   | e=>K e (qUQ h τ)) σ
def jVU (N:Nat) (C:Cx) (cK:qWH) (x:Code) (S:qXW):Prop:=∀ K σ r,S σ K=some r→LF N C cK x (C.T.hint C.me (zJ x)) K N σ=some r
theorem loopN_LF {N:Nat} {C:Cx} {cK:qWH} {x:Code} {h:Hint} {K:Cont}:∀ (n:Nat) (σ:St),yJH (fun again σ=>qHJ N C cK x (fun e σ=>match e with
   | .normal=>again σ
   | e=>K e (qUQ h σ)) (qVV h σ)) n σ=LF N C cK x h K n (qVV h σ)
 | 0,_=>rfl
 | n + 1,σ=>by
  simp only [yJH,LF]
  congr 1
  funext e τ
  cases e with
  | normal=>exact loopN_LF n τ
  | _=>rfl
def zHU (N:Nat) (C:Cx) (cK:qWH) (LO:List Nat→Option qXW):Code→List Nat→Cont→St→Option (Ret × Mem)
 | .skip,_,K,σ=>K .normal σ
 | .label _,_,K,σ=>K .normal σ
 | .scope x,p,K,σ=>zHU N C cK LO x (0 :: p) K σ
 | .ret,_,K,σ=>K .ret σ
 | .exit id,_,K,σ=>K (.exit id) σ
 | .region _ ops d,_,K,σ=>bif d then zWW C cK ops 0 ops.toList [] (K .normal) σ else yWX C cK ops ops.toList (K .normal) σ
 | .seq x y,p,K,σ=>zHU N C cK LO x (0 :: p) (fun e σ=>match e with
   | .normal=>zHU N C cK LO y (1 :: p) K σ
   | e=>K e σ) σ
 | .cond c x y,p,K,σ=>(opv 1 σ c).bind fun v=>match v with
   | .v (.b t)=>bif t then zHU N C cK LO x (0 :: p) K σ else zHU N C cK LO y (1 :: p) K σ
   | _=>none
 | .block id x,p,K,σ=>zHU N C cK LO x (0 :: p) (fun e σ=>match e with
   | .exit id'=>bif Nat.beq id' id then K .normal σ else K (.exit id') σ
   | e=>K e σ) σ
 | .loop x,p,K,σ=>match LO p with
   | some S=>S (qVV (C.T.hint C.me (zJ x)) σ) K
   | none=>yJH (fun again σ=>qHJ N C cK x (fun e σ=>match e with
     | .normal=>again σ
     | e=>K e (qUQ (C.T.hint C.me (zJ x)) σ)) (qVV (C.T.hint C.me (zJ x)) σ)) N σ
 | _,_,_,_=>none
section
variable {C:Cx} {cK:qWH} {r:Ret × Mem} {K0:Ret × Mem→Option (Ret × Mem)}
theorem qGZ {N:Nat} {LO:List Nat→Option qXW} {B:Code} (hc:SndK C cK) (hL:∀ p S,LO p=some S→jVU N C cK (qVH 0 (qXQ B p)) S):∀ (c:Code) (p:List Nat) {K K':Cont} (hp:qXQ B p=c) (hK:∀ e σ,K e σ=some r→Gets K0 r (K' e σ)) (σ:St),zHU N C cK LO c p K σ=some r→Gets K0 r (runC N C c K' σ)
 | .skip,p,K,K',hp,hK,σ,h=>hK _ _ h
 | .label _,p,K,K',hp,hK,σ,h=>hK _ _ h
 | .scope x,p,K,K',hp,hK,σ,h=>qGZ hc hL x (0 :: p) (by simp only [qXQ,hp,qVH]) hK σ h
 | .ret,p,K,K',hp,hK,σ,h=>hK _ _ h
 | .exit id,p,K,K',hp,hK,σ,h=>hK _ _ h
 | .region id ops d,p,K,K',hp,hK,σ,h=>by
  cases d with
  | true=>exact zQK hc (hK .normal) _ _ _ _ h
  | false=>exact zYJ hc (hK .normal) _ _ h
 | .seq x y,p,K,K',hp,hK,σ,h=>by
  refine qGZ hc hL x (0 :: p) (by simp only [qXQ,hp,qVH]) (fun e τ hk => ?_) σ h
  cases e with
  | normal=>exact qGZ hc hL y (1 :: p) (by simp only [qXQ,hp,qVH]) hK τ hk
  | _=>exact hK _ _ hk
 | .cond c x y,p,K,K',hp,hK,σ,h=>by
  simp only [zHU,Option.bind_eq_some_iff] at h
  obtain ⟨v,hv,h⟩:=h
  simp only [runC,hv,Option.bind_some]
  split at h
  ·rename_i t
   cases t with
   | true=>exact qGZ hc hL x (0 :: p) (by simp only [qXQ,hp,qVH]) hK σ h
   | false=>exact qGZ hc hL y (1 :: p) (by simp only [qXQ,hp,qVH]) hK σ h
  ·cases h
 | .block id x,p,K,K',hp,hK,σ,h=>by
  refine qGZ hc hL x (0 :: p) (by simp only [qXQ,hp,qVH]) (fun e τ hk => ?_) σ h
  cases e with
  | exit id' =>
   simp only at hk ⊢
   cases hb:Nat.beq id' id with
   | true=>rw [hb] at hk; exact hK _ _ hk
   | false=>rw [hb] at hk; exact hK _ _ hk
  | _=>exact hK _ _ hk
 | .loop x,p,K,K',hp,hK,σ,h=>by
  simp only [zHU] at h
  simp only [runC]
  have h':yJH (fun again σ=>qHJ N C cK x (fun e σ=>match e with
     | .normal=>again σ
     | e=>K e (qUQ (C.T.hint C.me (zJ x)) σ)) (qVV (C.T.hint C.me (zJ x)) σ)) N σ=some r:=by
   cases hS:LO p with
   | none=>rw [hS] at h; exact h
   | some S =>
    rw [hS] at h
    have:=hL p S hS
    rw [hp] at this
    rw [loopN_LF]
    exact this K _ r h
  refine zVZ (fun a a' ha τ hs => ?_) N σ h'
  refine qKY hc x (fun e υ hk => ?_) _ hs
  cases e with
  | normal=>exact ha _ hk
  | _=>exact hK _ _ hk
 | .rangeFunc ..,p,K,K',hp,hK,σ,h=>by cases h
 | .goto _,p,K,K',hp,hK,σ,h=>by cases h
 | .refuse _,p,K,K',hp,hK,σ,h=>by cases h
end
def cxF (T:Tab) (ok:OrK) (N f n:Nat):Cx:=⟨T,zJW ok.orc (runF T ok.orc N),zHZ ok.orc (runF T ok.orc N),f,n⟩
def ckF (T:Tab) (ok:OrK) (N:Nat):qWH:=jVY ok (kKQ T ok N)
def yHW (T:Tab) (f:Nat):Code:=match T.fn f with
 | some fi=>fi.body
 | none=>.skip
def ntmF (T:Tab) (f:Nat):Nat:=match T.fn f with
 | some fi=>fi.ntmps
 | none=>0
def qJH (T:Tab) (ok:OrK) (LO:List Nat→Option qXW) (N f:Nat) (ps:List PV):Option (Ret × Mem):=match T.fn f with
 | none=>none
 | some fi=>bif Nat.ble (ps.map HV.v).length fi.ntmps then zHU N (cxF T ok N f (ntmF T f)) (ckF T ok N) LO (yHW T f) [] (fun e σ=>(endK T [] fi.results e σ).bind fun r=>some (r.1,[])) ⟨initS 0 (ps.map .v),[]⟩ else none
theorem kZJ {T:Tab} {ok:OrK} {N f n:Nat}:SndK (cxF T ok N f n) (ckF T ok N):=fun g qs K' r' hk=>by
 unfold ckF jVY at hk
 show ∃ x,zJW ok.orc (runF T ok.orc N) g qs=some x∧K' x=some r'
 unfold zJW
 cases ho:ok g with
 | some o =>
  rw [ho] at hk
  simp only [Option.bind_eq_some_iff] at hk
  obtain ⟨x,hx,hk⟩:=hk
  obtain ⟨h1,hk⟩:=qH hk
  exact ⟨x.2,by simp only [OrK.orc,ho,hx,Option.bind_some,h1,cond_true],hk⟩
 | none =>
  rw [ho] at hk
  obtain ⟨x,M,hx,hk⟩:=yYJ N g qs K' r' hk
  have e:ok.orc.a g=none:=by simp only [OrK.orc,ho,Option.bind_none]
  exact ⟨x,by simp only [e,hx,Option.bind_some],hk⟩
def qK (T:Tab) (f:Nat) (p:List Nat):Code:=qVH 0 (qXQ (yHW T f) p)
theorem jV {P:Program} {T:Tab} {ok:OrK} {LO:List Nat→Option qXW} {N f:Nat} {ps:List PV} {r:Ret} (hT:TabOk P T) (hm:P.follows .mixedOrders=true) (hO:ok.Ok P)
  (hL:∀ p S,LO p=some S→jVU N (cxF T ok N f (ntmF T f)) (ckF T ok N) (qK T f p) S) (h:qJH T ok LO N f ps=some (r,[])):zH P f ps r:=by
 refine zXJ (N:=N + 1) hT hm hO.orc ?_
 unfold qJH at h
 split at h
 ·cases h
 ·rename_i fi hfi
  obtain ⟨hb,h⟩:=qH h
  obtain ⟨q,h1,h2⟩:=qGZ (K0:=fun q=>some (q.1,[])) (K':=endK T [] fi.results) (B:=yHW T f) kZJ hL (yHW T f) [] rfl (fun e σ hk=>by
   simp only [Option.bind_eq_some_iff] at hk
   exact hk) _ h
  cases h2
  have eb:yHW T f=fi.body:=by unfold yHW; rw [hfi]
  have en:ntmF T f=fi.ntmps:=by unfold ntmF; rw [hfi]
  rw [eb,en] at h1
  unfold run
  simp only [runF,hfi,hb,cond_true]
  unfold cxF at h1
  rw [h1]
  rfl
noncomputable def gSt (a b:St):Bool:=@decide (a=b) (Classical.propDecidable _)
theorem jY (a:St):gSt a a=true:=@decide_eq_true _ (Classical.propDecidable _) rfl
theorem gSt_eq {a b:St} (h:gSt a b=true):a=b:=@of_decide_eq_true _ (Classical.propDecidable _) h
noncomputable def jU (s:St) (R:Cont→Option (Ret × Mem)):qXW:=fun σ K=>bif gSt σ s then R K else none
theorem qQY {N:Nat} {C:Cx} {cK:qWH} {x:Code} {s:St} {R:Cont→Option (Ret × Mem)} (h:∀ K r,R K=some r→LF N C cK x (C.T.hint C.me (zJ x)) K N s=some r):jVU N C cK x (jU s R):=fun K σ r hr=>by
 unfold jU at hr
 obtain ⟨hg,hq⟩:=qH hr
 have e:=gSt_eq hg
 subst e
 exact h K r hq
def zK (l:List (List Nat × qXW)) (p:List Nat):Option qXW:=match l with
 | []=>none
 | x :: xs=>bif jZY x.1 p then some x.2 else zK xs p
theorem uQ {N:Nat} {C:Cx} {cK:qWH} {L:List Nat→Code}:∀ {l:List (List Nat × qXW)},AllP (fun x:List Nat × qXW=>jVU N C cK (L x.1) x.2) l→∀ p S,zK l p=some S→jVU N C cK (L p) S
 | [],_,p,S,h=>by cases h
 | x :: xs,hl,p,S,h=>by
  simp only [zK] at h
  cases hb:jZY x.1 p with
  | true =>
   rw [hb] at h
   simp only [cond_true,Option.some.injEq] at h
   subst h
   have:=yWH hb
   subst this
   exact hl.1
  | false =>
   rw [hb] at h
   exact uQ hl.2 p S h
end Go.Rx
namespace Go.Proofs.YthkhihoplfpgmaaGreat.Pc
open Go.Rx Rt Go.Sx Go.RowKit
open Ov
def F_n:Int→Option (Ret × Mem):=fun v=>some (.v (.n .i64 v),[])
def cjT {α:Type} (f:Int→α) (i:Int) (j:J):α:=(bif (decide (j.kind < 0)) then (f 803) else (bif (decide (6 < j.kind)) then (f 803) else (bif (decide (j.parent < (-1))) then (f 804) else (bif (decide (i≤j.parent)) then (f 804) else (bif (decide (j.off.x < (-4194304))) then (f 805) else (bif (decide (4194304 < j.off.x)) then (f 805) else (bif (decide (j.off.y < (-4194304))) then (f 805) else (bif (decide (4194304 < j.off.y)) then (f 805) else (bif (decide (j.off.z < (-4194304))) then (f 805) else (bif (decide (4194304 < j.off.z)) then (f 805) else (bif (decide (j.kind=0)) then (bif (decide (j.hi < j.lo)) then (f 806) else (bif (decide (j.lo < 0)) then (f 806) else (bif (decide (0 < j.hi)) then (f 806) else (bif (decide (1≤j.weight)) then (bif (decide (j.weight≤1024)) then (bif (decide (1≤j.speed)) then (bif (decide (j.speed≤1048576)) then (bif (decide (1≤j.accel)) then (bif (decide (j.accel≤1048576)) then (bif (decide (1≤j.torque)) then (bif (decide (j.torque≤1099511627776)) then (f 0) else (f 807)) else (f 807)) else (f 807)) else (f 807)) else (f 807)) else (f 807)) else (f 807)) else (f 807))))) else (bif (decide (j.kind=1)) then (bif (decide (j.hi < j.lo)) then (f 806) else (bif (decide (j.lo < (-524288))) then (f 806) else (bif (decide (524288 < j.hi)) then (f 806) else (bif (decide (1≤j.weight)) then (bif (decide (j.weight≤1024)) then (bif (decide (1≤j.speed)) then (bif (decide (j.speed≤1048576)) then (bif (decide (1≤j.accel)) then (bif (decide (j.accel≤1048576)) then (bif (decide (1≤j.torque)) then (bif (decide (j.torque≤1099511627776)) then (f 0) else (f 807)) else (f 807)) else (f 807)) else (f 807)) else (f 807)) else (f 807)) else (f 807)) else (f 807))))) else (bif (decide (j.kind=2)) then (bif (decide (j.hi < j.lo)) then (f 806) else (bif (decide (j.lo < (-524288))) then (f 806) else (bif (decide (524288 < j.hi)) then (f 806) else (bif (decide (1≤j.weight)) then (bif (decide (j.weight≤1024)) then (bif (decide (1≤j.speed)) then (bif (decide (j.speed≤1048576)) then (bif (decide (1≤j.accel)) then (bif (decide (j.accel≤1048576)) then (bif (decide (1≤j.torque)) then (bif (decide (j.torque≤1099511627776)) then (f 0) else (f 807)) else (f 807)) else (f 807)) else (f 807)) else (f 807)) else (f 807)) else (f 807)) else (f 807))))) else (bif (decide (j.kind=3)) then (bif (decide (j.hi < j.lo)) then (f 806) else (bif (decide (j.lo < (-524288))) then (f 806) else (bif (decide (524288 < j.hi)) then (f 806) else (bif (decide (1≤j.weight)) then (bif (decide (j.weight≤1024)) then (bif (decide (1≤j.speed)) then (bif (decide (j.speed≤1048576)) then (bif (decide (1≤j.accel)) then (bif (decide (j.accel≤1048576)) then (bif (decide (1≤j.torque)) then (bif (decide (j.torque≤1099511627776)) then (f 0) else (f 807)) else (f 807)) else (f 807)) else (f 807)) else (f 807)) else (f 807)) else (f 807)) else (f 807))))) else (bif (decide (j.hi < j.lo)) then (f 806) else (bif (decide (j.lo < (-4194304))) then (f 806) else (bif (decide (4194304 < j.hi)) then (f 806) else (bif (decide (1≤j.weight)) then (bif (decide (j.weight≤1024)) then (bif (decide (1≤j.speed)) then (bif (decide (j.speed≤1048576)) then (bif (decide (1≤j.accel)) then (bif (decide (j.accel≤1048576)) then (bif (decide (1≤j.torque)) then (bif (decide (j.torque≤1099511627776)) then (f 0) else (f 807)) else (f 807)) else (f 807)) else (f 807)) else (f 807)) else (f 807)) else (f 807)) else (f 807)))))))))))))))))))
end Go.Proofs.YthkhihoplfpgmaaGreat.Pc
namespace Go.Proofs.YthkhihoplfpgmaaGreat.Na
open Go.Rx Rt Go.Sx Go.RowKit
def okC (first:Bool) (c:Int):Bool:=(decide (97≤c) && decide (c≤122)) || (!first && ((decide (48≤c) && decide (c≤57)) || decide (c=95)))
def allC (s:ByteArray):Nat→Nat→Bool
 | 0,_=>true
 | k + 1,p=>okC (decide ((p:Int)=0)) (yZU s p) && allC s k (p + 1)
def wrld:ByteArray:=ByteArray.mk #[119,111,114,108,100]
def nmB (s:ByteArray):Bool:=!(decide ((s.size:Int)=0)) && (!(decide (16 < (s.size:Int))) && (!(s.toList == wrld.toList) && allC s s.size 0))
theorem okC_high {f:Bool} {c:Int} (h:128≤c):okC f c=false:=by
 unfold okC
 rw [decide_eq_false (show ¬ c≤122 by omega),decide_eq_false (show ¬ c≤57 by omega),decide_eq_false (show ¬ c=95 by omega)]
 simp
theorem byteAt_get {s:ByteArray} {p:Nat} (h:p < s.size):yZU s p=((s[p]'h).toNat:Int):=by
 unfold yZU
 rw [getElem?_pos s p h]
 rfl
def hTn (s:ByteArray) (pos:Nat):St:=⟨[(18,.p 18 0)],[(18,.itr s pos)]⟩
def uQK {α:Type} (first:Bool) (c:Int) (g k:α):α:=(bif (decide (97≤c)) then (bif (decide (c≤122)) then g else (bif first then k else (bif (decide (48≤c)) then (bif (decide (c≤57)) then g else (bif (!decide (c=95)) then k else g)) else (bif (!decide (c=95)) then k else g)))) else (bif first then k else (bif (decide (48≤c)) then (bif (decide (c≤57)) then g else (bif (!decide (c=95)) then k else g)) else (bif (!decide (c=95)) then k else g))))
theorem rawTn_eq {α:Type} (first:Bool) (c:Int) (g k:α):uQK first c g k=bif okC first c then g else k:=by
 unfold uQK okC
 cases first <;> cases hA:decide (97≤c) <;> cases hB:decide (c≤122) <;> cases hC:decide (48≤c) <;> cases hD:decide (c≤57) <;> cases hE:decide (c=95) <;> first | rfl | (exfalso; simp only [decide_eq_true_eq,decide_eq_false_iff_not] at *; omega)
set_option maxRecDepth 100000 in
theorem rdTn (G:St→Option (Ret × Mem)) (K:Cont) (s:ByteArray) (pos:Nat):qHJ 60 (cxF T (OrL.k ([]:OrL)) 60 117 (ntmF T 117)) (ckF T (OrL.k ([]:OrL)) 60) (qK T 117 [0,1,0,1,1]) (fun e τ=>match e with
 | .normal=>G (qVV ((cxF T (OrL.k ([]:OrL)) 60 117 (ntmF T 117)).T.hint (cxF T (OrL.k ([]:OrL)) 60 117 (ntmF T 117)).me (zJ (qK T 117 [0,1,0,1,1]))) τ)
 | e=>K e (qUQ ((cxF T (OrL.k ([]:OrL)) 60 117 (ntmF T 117)).T.hint (cxF T (OrL.k ([]:OrL)) 60 117 (ntmF T 117)).me (zJ (qK T 117 [0,1,0,1,1]))) τ)) (hTn s pos) =
 bif (decide (pos < s.size)) then uQK (decide ((pos:Int)=0)) ((Utf8.decode s pos).1:Int) (G (hTn s (pos + (Utf8.decode s pos).2))) (K .ret ⟨[(2,.v (.b false))],[]⟩) else (K (.exit 0) ⟨[],[]⟩):=by kernel_rfl
theorem lpTn (K:Cont) (s:ByteArray):∀ (k p m:Nat),p + k=s.size→k < m→LF 60 (cxF T (OrL.k ([]:OrL)) 60 117 (ntmF T 117)) (ckF T (OrL.k ([]:OrL)) 60) (qK T 117 [0,1,0,1,1]) ((cxF T (OrL.k ([]:OrL)) 60 117 (ntmF T 117)).T.hint (cxF T (OrL.k ([]:OrL)) 60 117 (ntmF T 117)).me (zJ (qK T 117 [0,1,0,1,1]))) K m (hTn s p)=bif allC s k p then (K (.exit 0) ⟨[],[]⟩) else (K .ret ⟨[(2,.v (.b false))],[]⟩)
 | 0,p,m + 1,hp,hm=>by
  refine (rdTn (fun σ=>LF 60 (cxF T (OrL.k ([]:OrL)) 60 117 (ntmF T 117)) (ckF T (OrL.k ([]:OrL)) 60) (qK T 117 [0,1,0,1,1]) ((cxF T (OrL.k ([]:OrL)) 60 117 (ntmF T 117)).T.hint (cxF T (OrL.k ([]:OrL)) 60 117 (ntmF T 117)).me (zJ (qK T 117 [0,1,0,1,1]))) K m σ) K s p).trans ?_
  rw [decide_eq_false (show ¬ p < s.size by omega)]
  rfl
 | k + 1,p,m + 1,hp,hm=>by
  refine (rdTn (fun σ=>LF 60 (cxF T (OrL.k ([]:OrL)) 60 117 (ntmF T 117)) (ckF T (OrL.k ([]:OrL)) 60) (qK T 117 [0,1,0,1,1]) ((cxF T (OrL.k ([]:OrL)) 60 117 (ntmF T 117)).T.hint (cxF T (OrL.k ([]:OrL)) 60 117 (ntmF T 117)).me (zJ (qK T 117 [0,1,0,1,1]))) K m σ) K s p).trans ?_
  have hlt:p < s.size:=by omega
  rw [decide_eq_true hlt,cond_true,rawTn_eq]
  simp only [allC]
  have hb:=byteAt_get hlt
  by_cases h128:(s[p]'hlt).toNat < 128
  ·rw [Go.decode_ascii s p hlt h128,hb]
   rw [lpTn K s k (p + 1) m (by omega) (by omega)]
   cases okC (decide ((p:Int)=0)) ((s[p]'hlt).toNat:Int) <;> rfl
  ·have hd:=(Go.decode_high s p hlt (by omega)).1
   rw [okC_high (c:=((Utf8.decode s p).1:Int)) (by omega),okC_high (c:=yZU s p) (by omega)]
   rfl
set_option maxRecDepth 100000 in
theorem pxTn (s:ByteArray):qJH T (OrL.k ([]:OrL)) (zK [([0,1,0,1,1],jU (hTn s 0) (fun K=>bif decide (16 < (s.size:Int)) then none else (bif allC s s.size 0 then (K (.exit 0) ⟨[],[]⟩) else (K .ret ⟨[(2,.v (.b false))],[]⟩))))]) 60 117 [.s s] =
 (bif (decide ((s.size:Int)=0)) then some (.v (.b false),[]) else (bif (decide (16 < (s.size:Int))) then some (.v (.b false),[]) else (bif (s.toList == (ByteArray.mk #[119,111,114,108,100]).toList) then some (.v (.b false),[]) else (bif gSt (hTn s 0) (hTn s 0) then (bif decide (16 < (s.size:Int)) then none else (bif allC s s.size 0 then some (.v (.b true),[]) else some (.v (.b false),[]))) else none)))):=by kernel_rfl
theorem snd_Tn (s:ByteArray):zH Tryz.prog 117 [.s s] (.v (.b (nmB s))):=by
 refine jV (N:=60) (LO:=zK [([0,1,0,1,1],jU (hTn s 0) (fun K=>bif decide (16 < (s.size:Int)) then none else (bif allC s s.size 0 then (K (.exit 0) ⟨[],[]⟩) else (K .ret ⟨[(2,.v (.b false))],[]⟩))))]) yJ yY (OrL.ok (l:=[]) trivial) (fun p S hp => ?_) ?_
 ·refine uQ (L:=qK T 117) (l:=[([0,1,0,1,1],jU (hTn s 0) (fun K=>bif decide (16 < (s.size:Int)) then none else (bif allC s s.size 0 then (K (.exit 0) ⟨[],[]⟩) else (K .ret ⟨[(2,.v (.b false))],[]⟩))))]) (show AllP _ [([0,1,0,1,1],jU (hTn s 0) (fun K=>bif decide (16 < (s.size:Int)) then none else (bif allC s s.size 0 then (K (.exit 0) ⟨[],[]⟩) else (K .ret ⟨[(2,.v (.b false))],[]⟩))))] from ⟨qQY fun K r hr => ?_,trivial⟩) p S hp
  cases hq:decide (16 < (s.size:Int)) with
  | true=>rw [hq] at hr; cases hr
  | false =>
   rw [hq] at hr
   have h16:=of_decide_eq_false hq
   exact (lpTn K s s.size 0 60 (by omega) (by omega)).trans hr
 ·refine (pxTn s).trans ?_
  rw [jY,cond_true]
  show _=some (Ret.v (.b (!(decide ((s.size:Int)=0)) && (!(decide (16 < (s.size:Int))) && (!(s.toList == (ByteArray.mk #[119,111,114,108,100]).toList) && allC s s.size 0)))),[])
  cases decide ((s.size:Int)=0) <;> cases decide (16 < (s.size:Int)) <;> cases (s.toList == (ByteArray.mk #[119,111,114,108,100]).toList) <;> cases allC s s.size 0 <;> rfl
def hRn (s:ByteArray) (i:Int):St:=⟨[(0,.v (.s s)),(3,.v (.n .i64 i))],[]⟩
def uQU {α:Type} (b:Bool) (first:Bool) (c:Int) (g k:Option α):Option α:=(bif b then (bif (decide (97≤c)) then (bif b then (bif (decide (c≤122)) then g else (bif first then k else (bif b then (bif (!decide (c=95)) then (bif b then (bif (decide (c < 48)) then k else (bif b then (bif (decide (57 < c)) then k else g) else none)) else none) else g) else none))) else none) else (bif first then k else (bif b then (bif (!decide (c=95)) then (bif b then (bif (decide (c < 48)) then k else (bif b then (bif (decide (57 < c)) then k else g) else none)) else none) else g) else none))) else none)
theorem rawRn_eq {α:Type} (first:Bool) (c:Int) (g k:Option α):uQU true first c g k=bif okC first c then g else k:=by
 unfold uQU okC
 rw [show decide (c < 48) = !decide (48≤c) by rw [← decide_not]; exact decide_eq_decide.2 (by omega),show decide (57 < c) = !decide (c≤57) by rw [← decide_not]; exact decide_eq_decide.2 (by omega)]
 cases first <;> cases hA:decide (97≤c) <;> cases hB:decide (c≤122) <;> cases hC:decide (48≤c) <;> cases hD:decide (c≤57) <;> cases hE:decide (c=95) <;> first | rfl | (exfalso; simp only [decide_eq_true_eq,decide_eq_false_iff_not] at *; omega)
set_option maxRecDepth 100000 in
theorem rdRn (G:St→Option (Ret × Mem)) (K:Cont) (s:ByteArray) (i:Int):qHJ 60 (cxF T (OrL.k ([]:OrL)) 60 107 (ntmF T 107)) (ckF T (OrL.k ([]:OrL)) 60) (qK T 107 [0,1,0,1,1]) (fun e τ=>match e with
 | .normal=>G (qVV ((cxF T (OrL.k ([]:OrL)) 60 107 (ntmF T 107)).T.hint (cxF T (OrL.k ([]:OrL)) 60 107 (ntmF T 107)).me (zJ (qK T 107 [0,1,0,1,1]))) τ)
 | e=>K e (qUQ ((cxF T (OrL.k ([]:OrL)) 60 107 (ntmF T 107)).T.hint (cxF T (OrL.k ([]:OrL)) 60 107 (ntmF T 107)).me (zJ (qK T 107 [0,1,0,1,1]))) τ)) (hRn s i) =
 bif (decide (i < (s.size:Int))) then uQU (inB i s.size) (decide (i=0)) (yZU s i.toNat) (G (hRn s (IntKind.i64.wrap (i + 1)))) (K .ret ⟨[(2,.v (.b false))],[]⟩) else (K (.exit 0) ⟨[],[]⟩):=by kernel_rfl
theorem lpRn (K:Cont) (s:ByteArray) (hs:s.size≤1000):∀ (k p m:Nat),p + k=s.size→k < m→LF 60 (cxF T (OrL.k ([]:OrL)) 60 107 (ntmF T 107)) (ckF T (OrL.k ([]:OrL)) 60) (qK T 107 [0,1,0,1,1]) ((cxF T (OrL.k ([]:OrL)) 60 107 (ntmF T 107)).T.hint (cxF T (OrL.k ([]:OrL)) 60 107 (ntmF T 107)).me (zJ (qK T 107 [0,1,0,1,1]))) K m (hRn s p)=bif allC s k p then (K (.exit 0) ⟨[],[]⟩) else (K .ret ⟨[(2,.v (.b false))],[]⟩)
 | 0,p,m + 1,hp,hm=>by
  refine (rdRn (fun σ=>LF 60 (cxF T (OrL.k ([]:OrL)) 60 107 (ntmF T 107)) (ckF T (OrL.k ([]:OrL)) 60) (qK T 107 [0,1,0,1,1]) ((cxF T (OrL.k ([]:OrL)) 60 107 (ntmF T 107)).T.hint (cxF T (OrL.k ([]:OrL)) 60 107 (ntmF T 107)).me (zJ (qK T 107 [0,1,0,1,1]))) K m σ) K s p).trans ?_
  rw [decide_eq_false (show ¬ (p:Int) < (s.size:Int) by omega)]
  rfl
 | k + 1,p,m + 1,hp,hm=>by
  refine (rdRn (fun σ=>LF 60 (cxF T (OrL.k ([]:OrL)) 60 107 (ntmF T 107)) (ckF T (OrL.k ([]:OrL)) 60) (qK T 107 [0,1,0,1,1]) ((cxF T (OrL.k ([]:OrL)) 60 107 (ntmF T 107)).T.hint (cxF T (OrL.k ([]:OrL)) 60 107 (ntmF T 107)).me (zJ (qK T 107 [0,1,0,1,1]))) K m σ) K s p).trans ?_
  have hB:inB (p:Int) s.size=true:=by unfold inB; rw [decide_eq_true (show (0:Int)≤p by omega),decide_eq_true (show (p:Int).toNat < s.size by omega)]; rfl
  rw [decide_eq_true (show (p:Int) < (s.size:Int) by omega),cond_true,hB,rawRn_eq]
  simp only [allC]
  rw [show IntKind.i64.wrap ((p:Int) + 1)=((p + 1:Nat):Int) by rw [zY (by omega)]; omega,lpRn K s hs k (p + 1) m (by omega) (by omega)]
  show (bif okC (decide ((p:Int)=0)) (yZU s (p:Int).toNat) then _ else _)=_
  rw [show (p:Int).toNat=p by omega]
  cases okC (decide ((p:Int)=0)) (yZU s p) <;> rfl
set_option maxRecDepth 100000 in
theorem pxRn (s:ByteArray):qJH T (OrL.k ([]:OrL)) (zK [([0,1,0,1,1],jU (hRn s 0) (fun K=>bif decide (16 < (s.size:Int)) then none else (bif allC s s.size 0 then (K (.exit 0) ⟨[],[]⟩) else (K .ret ⟨[(2,.v (.b false))],[]⟩))))]) 60 107 [.s s] =
 (bif (decide ((s.size:Int) < 1)) then some (.v (.b false),[]) else (bif (decide (16 < (s.size:Int))) then some (.v (.b false),[]) else (bif (s.toList == (ByteArray.mk #[119,111,114,108,100]).toList) then some (.v (.b false),[]) else (bif gSt (hRn s 0) (hRn s 0) then (bif decide (16 < (s.size:Int)) then none else (bif allC s s.size 0 then some (.v (.b true),[]) else some (.v (.b false),[]))) else none)))):=by kernel_rfl
theorem snd_Rn (s:ByteArray):zH Tryz.prog 107 [.s s] (.v (.b (nmB s))):=by
 refine jV (N:=60) (LO:=zK [([0,1,0,1,1],jU (hRn s 0) (fun K=>bif decide (16 < (s.size:Int)) then none else (bif allC s s.size 0 then (K (.exit 0) ⟨[],[]⟩) else (K .ret ⟨[(2,.v (.b false))],[]⟩))))]) yJ yY (OrL.ok (l:=[]) trivial) (fun p S hp => ?_) ?_
 ·refine uQ (L:=qK T 107) (l:=[([0,1,0,1,1],jU (hRn s 0) (fun K=>bif decide (16 < (s.size:Int)) then none else (bif allC s s.size 0 then (K (.exit 0) ⟨[],[]⟩) else (K .ret ⟨[(2,.v (.b false))],[]⟩))))]) (show AllP _ [([0,1,0,1,1],jU (hRn s 0) (fun K=>bif decide (16 < (s.size:Int)) then none else (bif allC s s.size 0 then (K (.exit 0) ⟨[],[]⟩) else (K .ret ⟨[(2,.v (.b false))],[]⟩))))] from ⟨qQY fun K r hr => ?_,trivial⟩) p S hp
  cases hq:decide (16 < (s.size:Int)) with
  | true=>rw [hq] at hr; cases hr
  | false =>
   rw [hq] at hr
   have h16:=of_decide_eq_false hq
   exact (lpRn K s (by omega) s.size 0 60 (by omega) (by omega)).trans hr
 ·refine (pxRn s).trans ?_
  rw [jY,cond_true]
  rw [show decide ((s.size:Int) < 1)=decide ((s.size:Int)=0) from decide_eq_decide.2 (by omega)]
  show _=some (Ret.v (.b (!(decide ((s.size:Int)=0)) && (!(decide (16 < (s.size:Int))) && (!(s.toList == (ByteArray.mk #[119,111,114,108,100]).toList) && allC s s.size 0)))),[])
  cases decide ((s.size:Int)=0) <;> cases decide (16 < (s.size:Int)) <;> cases (s.toList == (ByteArray.mk #[119,111,114,108,100]).toList) <;> cases allC s s.size 0 <;> rfl
end Go.Proofs.YthkhihoplfpgmaaGreat.Na
namespace Go.Proofs.YthkhihoplfpgmaaGreat.Nb
open Go.Rx Rt Go.Sx Go.RowKit
open Ov Pc Na
def fJ (js:Nat→J):Nat→List PV:=fun v=>jp (js v)
def fM (ms:Nat→Ms):Nat→List PV:=fun v=>mp (ms v)
def fnd (js:Nat→J) (nm:ByteArray):Nat→Nat→Int
 | 0,_ => -1
 | k + 1,p=>bif ((js p).name.toList == nm.toList) then (p:Int) else fnd js nm k (p + 1)
def dup (js:Nat→J) (nm:ByteArray):Nat→Nat→Bool
 | 0,_=>false
 | k + 1,p=>((js p).name.toList == nm.toList) || dup js nm k (p + 1)
theorem jX {p n:Nat} (h:p < n):inB (p:Int) n=true:=by unfold inB; rw [decide_eq_true (show (0:Int)≤p by omega),decide_eq_true (show (p:Int).toNat < n by omega)]; rfl
theorem qQU {p:Nat} (h:p < 1000000):IntKind.i64.wrap ((p:Int) + 1)=((p + 1:Nat):Int):=by rw [zY (by omega)]; omega
theorem toN (p:Nat):(p:Int).toNat=p:=by omega
def hF (js:Nat→J) (ms:Nat→Ms) (n m:Nat) (nm:ByteArray) (i:Int):St:=⟨[(1,.v (.s nm)),(2,.p 2 0),(8,.v (.n .i64 (n:Int))),(9,.v (.n .i64 i))],[(2,.blk [.v (.lf n (fJ js)),.v (.lf m (fM ms))])]⟩
set_option maxRecDepth 100000 in
theorem rdF (G:St→Option (Ret × Mem)) (K:Cont) (js:Nat→J) (ms:Nat→Ms) (n m:Nat) (nm:ByteArray) (i:Int):qHJ 60 (cxF T (OrL.k ([]:OrL)) 60 118 (ntmF T 118)) (ckF T (OrL.k ([]:OrL)) 60) (qK T 118 [0,1,0,1]) (fun e τ=>match e with
 | .normal=>G (qVV ((cxF T (OrL.k ([]:OrL)) 60 118 (ntmF T 118)).T.hint (cxF T (OrL.k ([]:OrL)) 60 118 (ntmF T 118)).me (zJ (qK T 118 [0,1,0,1]))) τ)
 | e=>K e (qUQ ((cxF T (OrL.k ([]:OrL)) 60 118 (ntmF T 118)).T.hint (cxF T (OrL.k ([]:OrL)) 60 118 (ntmF T 118)).me (zJ (qK T 118 [0,1,0,1]))) τ)) (hF js ms n m nm i) =
 (bif (decide (i < (n:Int))) then (bif (inB i n) then (bif ((js (i).toNat).name.toList == nm.toList) then (K .ret ⟨[(4,.v (.n .i64 i))],[]⟩)
 else (G (hF js ms n m nm (IntKind.i64.wrap (i + 1)))))
 else none)
 else (K (.exit 0) ⟨[],[]⟩)):=by kernel_rfl
theorem lpF (K:Cont) (js:Nat→J) (ms:Nat→Ms) (n m:Nat) (nm:ByteArray) (hn:n≤1000):∀ (k p q:Nat),p + k=n→k < q→LF 60 (cxF T (OrL.k ([]:OrL)) 60 118 (ntmF T 118)) (ckF T (OrL.k ([]:OrL)) 60) (qK T 118 [0,1,0,1]) ((cxF T (OrL.k ([]:OrL)) 60 118 (ntmF T 118)).T.hint (cxF T (OrL.k ([]:OrL)) 60 118 (ntmF T 118)).me (zJ (qK T 118 [0,1,0,1]))) K q (hF js ms n m nm p)=(bif decide (fnd js nm k p = -1) then K (.exit 0) ⟨[],[]⟩ else K .ret ⟨[(4,.v (.n .i64 (fnd js nm k p)))],[]⟩)
 | 0,p,q + 1,hp,hq=>by
  refine (rdF (fun σ=>LF 60 (cxF T (OrL.k ([]:OrL)) 60 118 (ntmF T 118)) (ckF T (OrL.k ([]:OrL)) 60) (qK T 118 [0,1,0,1]) ((cxF T (OrL.k ([]:OrL)) 60 118 (ntmF T 118)).T.hint (cxF T (OrL.k ([]:OrL)) 60 118 (ntmF T 118)).me (zJ (qK T 118 [0,1,0,1]))) K q σ) K js ms n m nm p).trans ?_
  rw [decide_eq_false (show ¬ (p:Int) < (n:Int) by omega)]
  rfl
 | k + 1,p,q + 1,hp,hq=>by
  refine (rdF (fun σ=>LF 60 (cxF T (OrL.k ([]:OrL)) 60 118 (ntmF T 118)) (ckF T (OrL.k ([]:OrL)) 60) (qK T 118 [0,1,0,1]) ((cxF T (OrL.k ([]:OrL)) 60 118 (ntmF T 118)).T.hint (cxF T (OrL.k ([]:OrL)) 60 118 (ntmF T 118)).me (zJ (qK T 118 [0,1,0,1]))) K q σ) K js ms n m nm p).trans ?_
  rw [decide_eq_true (show (p:Int) < (n:Int) by omega),jX (show p < n by omega),qQU (by omega),lpF K js ms n m nm hn k (p + 1) q (by omega) (by omega),toN]
  by_cases hq:((js p).name.toList == nm.toList)=true
  ·simp only [fnd,hq,cond_true,decide_eq_false (show ¬ (p:Int) = -1 by omega),cond_false]
  ·rw [Bool.not_eq_true] at hq
   simp only [fnd,hq,cond_true,cond_false]
set_option maxRecDepth 100000 in
theorem pxF (js:Nat→J) (ms:Nat→Ms) (n m:Nat) (nm:ByteArray):qJH T (OrL.k ([]:OrL)) (zK [([0,1,0,1],jU (hF js ms n m nm 0) (fun K=>(bif decide (fnd js nm n 0 = -1) then K (.exit 0) ⟨[],[]⟩ else K .ret ⟨[(4,.v (.n .i64 (fnd js nm n 0)))],[]⟩)))]) 60 118 [(.a [.lf n (fJ js),.lf m (fM ms)]),.s nm] =
 bif gSt (hF js ms n m nm 0) (hF js ms n m nm 0) then (bif decide (fnd js nm n 0 = -1) then some (.v (.n .i64 (-1)),[]) else some (.v (.n .i64 (fnd js nm n 0)),[])) else none:=by kernel_rfl
theorem snd_find (js:Nat→J) (ms:Nat→Ms) (n m:Nat) (nm:ByteArray) (hn:n≤50):zH Tryz.prog 118 [(.a [.lf n (fJ js),.lf m (fM ms)]),.s nm] (.v (.n .i64 (fnd js nm n 0))):=by
 refine jV (N:=60) (LO:=zK [([0,1,0,1],jU (hF js ms n m nm 0) (fun K=>(bif decide (fnd js nm n 0 = -1) then K (.exit 0) ⟨[],[]⟩ else K .ret ⟨[(4,.v (.n .i64 (fnd js nm n 0)))],[]⟩)))]) yJ yY (OrL.ok (l:=[]) trivial) (fun p S hp => ?_) ?_
 ·refine uQ (L:=qK T 118) (l:=[([0,1,0,1],jU (hF js ms n m nm 0) (fun K=>(bif decide (fnd js nm n 0 = -1) then K (.exit 0) ⟨[],[]⟩ else K .ret ⟨[(4,.v (.n .i64 (fnd js nm n 0)))],[]⟩)))]) (show AllP _ [([0,1,0,1],jU (hF js ms n m nm 0) (fun K=>(bif decide (fnd js nm n 0 = -1) then K (.exit 0) ⟨[],[]⟩ else K .ret ⟨[(4,.v (.n .i64 (fnd js nm n 0)))],[]⟩)))] from ⟨qQY fun K r hr => ?_,trivial⟩) p S hp
  exact (lpF K js ms n m nm (by omega) n 0 60 (by omega) (by omega)).trans hr
 ·refine (pxF js ms n m nm).trans ?_
  rw [jY,cond_true]
  by_cases h:fnd js nm n 0 = -1
  ·rw [decide_eq_true h,h]; rfl
  ·rw [decide_eq_false h]; rfl
theorem fnd_dup (js:Nat→J) (i:Nat):∀ (k p:Nat),p≤i→i < p + k→(fnd js (js i).name k p=(i:Int) ↔ dup js (js i).name (i - p) p=false)
 | 0,p,h1,h2=>by omega
 | k + 1,p,h1,h2=>by
  by_cases he:p=i
  ·subst he
   rw [Nat.sub_self]
   simp [fnd,dup]
  ·have ih:=fnd_dup js i k (p + 1) (by omega) (by omega)
   rw [show i - p=(i - (p + 1)) + 1 by omega]
   simp only [fnd,dup]
   cases ((js p).name.toList == (js i).name.toList)
   ·simpa using ih
   ·simp; omega
def cpT {α:Type} (f:Int→α) (i:Int) (j:J):α:=(bif (decide (j.kind < 0)) then (f 803) else (bif (decide (6 < j.kind)) then (f 803) else (bif (decide (j.parent < (-1))) then (f 804) else (bif (decide (i≤j.parent)) then (f 804) else (bif (decide (j.off.x < (-4194304))) then (f 805) else (bif (decide (4194304 < j.off.x)) then (f 805) else (bif (decide (j.off.y < (-4194304))) then (f 805) else (bif (decide (4194304 < j.off.y)) then (f 805) else (bif (decide (j.off.z < (-4194304))) then (f 805) else (bif (decide (4194304 < j.off.z)) then (f 805) else (bif (decide (j.kind=1)) then (bif (decide (j.hi < j.lo)) then (f 806) else (bif (decide (j.lo < (-524288))) then (f 806) else (bif (decide (524288 < j.hi)) then (f 806) else (bif (decide (1≤j.weight)) then (bif (decide (j.weight≤1024)) then (bif (decide (1≤j.speed)) then (bif (decide (j.speed≤1048576)) then (bif (decide (1≤j.accel)) then (bif (decide (j.accel≤1048576)) then (bif (decide (1≤j.torque)) then (bif (decide (j.torque≤1099511627776)) then (f 0) else (f 807)) else (f 807)) else (f 807)) else (f 807)) else (f 807)) else (f 807)) else (f 807)) else (f 807))))) else (bif (decide (j.kind=2)) then (bif (decide (j.hi < j.lo)) then (f 806) else (bif (decide (j.lo < (-524288))) then (f 806) else (bif (decide (524288 < j.hi)) then (f 806) else (bif (decide (1≤j.weight)) then (bif (decide (j.weight≤1024)) then (bif (decide (1≤j.speed)) then (bif (decide (j.speed≤1048576)) then (bif (decide (1≤j.accel)) then (bif (decide (j.accel≤1048576)) then (bif (decide (1≤j.torque)) then (bif (decide (j.torque≤1099511627776)) then (f 0) else (f 807)) else (f 807)) else (f 807)) else (f 807)) else (f 807)) else (f 807)) else (f 807)) else (f 807))))) else (bif (decide (j.kind=3)) then (bif (decide (j.hi < j.lo)) then (f 806) else (bif (decide (j.lo < (-524288))) then (f 806) else (bif (decide (524288 < j.hi)) then (f 806) else (bif (decide (1≤j.weight)) then (bif (decide (j.weight≤1024)) then (bif (decide (1≤j.speed)) then (bif (decide (j.speed≤1048576)) then (bif (decide (1≤j.accel)) then (bif (decide (j.accel≤1048576)) then (bif (decide (1≤j.torque)) then (bif (decide (j.torque≤1099511627776)) then (f 0) else (f 807)) else (f 807)) else (f 807)) else (f 807)) else (f 807)) else (f 807)) else (f 807)) else (f 807))))) else (bif (decide (j.kind=4)) then (bif (decide (j.hi < j.lo)) then (f 806) else (bif (decide (j.lo < (-4194304))) then (f 806) else (bif (decide (4194304 < j.hi)) then (f 806) else (bif (decide (1≤j.weight)) then (bif (decide (j.weight≤1024)) then (bif (decide (1≤j.speed)) then (bif (decide (j.speed≤1048576)) then (bif (decide (1≤j.accel)) then (bif (decide (j.accel≤1048576)) then (bif (decide (1≤j.torque)) then (bif (decide (j.torque≤1099511627776)) then (f 0) else (f 807)) else (f 807)) else (f 807)) else (f 807)) else (f 807)) else (f 807)) else (f 807)) else (f 807))))) else (bif (decide (j.kind=5)) then (bif (decide (j.hi < j.lo)) then (f 806) else (bif (decide (j.lo < (-4194304))) then (f 806) else (bif (decide (4194304 < j.hi)) then (f 806) else (bif (decide (1≤j.weight)) then (bif (decide (j.weight≤1024)) then (bif (decide (1≤j.speed)) then (bif (decide (j.speed≤1048576)) then (bif (decide (1≤j.accel)) then (bif (decide (j.accel≤1048576)) then (bif (decide (1≤j.torque)) then (bif (decide (j.torque≤1099511627776)) then (f 0) else (f 807)) else (f 807)) else (f 807)) else (f 807)) else (f 807)) else (f 807)) else (f 807)) else (f 807))))) else (bif (decide (j.kind=6)) then (bif (decide (j.hi < j.lo)) then (f 806) else (bif (decide (j.lo < (-4194304))) then (f 806) else (bif (decide (4194304 < j.hi)) then (f 806) else (bif (decide (1≤j.weight)) then (bif (decide (j.weight≤1024)) then (bif (decide (1≤j.speed)) then (bif (decide (j.speed≤1048576)) then (bif (decide (1≤j.accel)) then (bif (decide (j.accel≤1048576)) then (bif (decide (1≤j.torque)) then (bif (decide (j.torque≤1099511627776)) then (f 0) else (f 807)) else (f 807)) else (f 807)) else (f 807)) else (f 807)) else (f 807)) else (f 807)) else (f 807))))) else (bif (decide (j.hi < j.lo)) then (f 806) else (bif (decide (j.lo < 0)) then (f 806) else (bif (decide (0 < j.hi)) then (f 806) else (bif (decide (1≤j.weight)) then (bif (decide (j.weight≤1024)) then (bif (decide (1≤j.speed)) then (bif (decide (j.speed≤1048576)) then (bif (decide (1≤j.accel)) then (bif (decide (j.accel≤1048576)) then (bif (decide (1≤j.torque)) then (bif (decide (j.torque≤1099511627776)) then (f 0) else (f 807)) else (f 807)) else (f 807)) else (f 807)) else (f 807)) else (f 807)) else (f 807)) else (f 807)))))))))))))))))))))
theorem cp_cj {α:Type} (f:Int→α) (i:Int) (j:J):cpT f i j=cjT f i j:=by
 unfold cpT cjT
 by_cases h0:j.kind < 0
 ·simp only [decide_eq_true h0,cond_true]
 by_cases h6:6 < j.kind
 ·simp only [decide_eq_true h6,cond_true]
 rcases (by omega:j.kind=0 ∨ j.kind=1 ∨ j.kind=2 ∨ j.kind=3 ∨ j.kind=4 ∨ j.kind=5 ∨ j.kind=6) with h | h | h | h | h | h | h
 ·simp only [decide_eq_true (show j.kind=0 by omega),decide_eq_false (show ¬ j.kind=1 by omega),decide_eq_false (show ¬ j.kind=2 by omega),decide_eq_false (show ¬ j.kind=3 by omega),decide_eq_false (show ¬ j.kind=4 by omega),decide_eq_false (show ¬ j.kind=5 by omega),decide_eq_false (show ¬ j.kind=6 by omega),cond_true,cond_false]
 ·simp only [decide_eq_false (show ¬ j.kind=0 by omega),decide_eq_true (show j.kind=1 by omega),decide_eq_false (show ¬ j.kind=2 by omega),decide_eq_false (show ¬ j.kind=3 by omega),decide_eq_false (show ¬ j.kind=4 by omega),decide_eq_false (show ¬ j.kind=5 by omega),decide_eq_false (show ¬ j.kind=6 by omega),cond_true,cond_false]
 ·simp only [decide_eq_false (show ¬ j.kind=0 by omega),decide_eq_false (show ¬ j.kind=1 by omega),decide_eq_true (show j.kind=2 by omega),decide_eq_false (show ¬ j.kind=3 by omega),decide_eq_false (show ¬ j.kind=4 by omega),decide_eq_false (show ¬ j.kind=5 by omega),decide_eq_false (show ¬ j.kind=6 by omega),cond_true,cond_false]
 ·simp only [decide_eq_false (show ¬ j.kind=0 by omega),decide_eq_false (show ¬ j.kind=1 by omega),decide_eq_false (show ¬ j.kind=2 by omega),decide_eq_true (show j.kind=3 by omega),decide_eq_false (show ¬ j.kind=4 by omega),decide_eq_false (show ¬ j.kind=5 by omega),decide_eq_false (show ¬ j.kind=6 by omega),cond_true,cond_false]
 ·simp only [decide_eq_false (show ¬ j.kind=0 by omega),decide_eq_false (show ¬ j.kind=1 by omega),decide_eq_false (show ¬ j.kind=2 by omega),decide_eq_false (show ¬ j.kind=3 by omega),decide_eq_true (show j.kind=4 by omega),decide_eq_false (show ¬ j.kind=5 by omega),decide_eq_false (show ¬ j.kind=6 by omega),cond_true,cond_false]
 ·simp only [decide_eq_false (show ¬ j.kind=0 by omega),decide_eq_false (show ¬ j.kind=1 by omega),decide_eq_false (show ¬ j.kind=2 by omega),decide_eq_false (show ¬ j.kind=3 by omega),decide_eq_false (show ¬ j.kind=4 by omega),decide_eq_true (show j.kind=5 by omega),decide_eq_false (show ¬ j.kind=6 by omega),cond_true,cond_false]
 ·simp only [decide_eq_false (show ¬ j.kind=0 by omega),decide_eq_false (show ¬ j.kind=1 by omega),decide_eq_false (show ¬ j.kind=2 by omega),decide_eq_false (show ¬ j.kind=3 by omega),decide_eq_false (show ¬ j.kind=4 by omega),decide_eq_false (show ¬ j.kind=5 by omega),decide_eq_true (show j.kind=6 by omega),cond_true,cond_false]
def jErr (js:Nat→J) (n i:Nat):Int:=bif nmB (js i).name then (bif dup js (js i).name i 0 then 802 else cjT (fun e=>e) i (js i)) else 802
noncomputable def o_nm:List PV→Option (Bool × Ret):=fun ps=>match ps with
 | [.s s]=>some (true,.v (.b (nmB s)))
 | _=>none
theorem ok_tn:zW Tryz.prog 117 o_nm:=by
 intro ps r hh
 unfold o_nm at hh
 split at hh
 ·simp only [Option.some.injEq,Prod.mk.injEq] at hh
  obtain ⟨_,rfl⟩:=hh
  exact snd_Tn _
 ·cases hh
theorem ok_rn:zW Tryz.prog 107 o_nm:=by
 intro ps r hh
 unfold o_nm at hh
 split at hh
 ·simp only [Option.some.injEq,Prod.mk.injEq] at hh
  obtain ⟨_,rfl⟩:=hh
  exact snd_Rn _
 ·cases hh
noncomputable def o_fd (js:Nat→J) (ms:Nat→Ms) (n m:Nat):List PV→Option (Bool × Ret):=fun ps=>match ps with
 | [r,.s s]=>some (gEq r (.a [.lf n (fJ js),.lf m (fM ms)]),.v (.n .i64 (fnd js s n 0)))
 | _=>none
theorem kGW (js:Nat→J) (ms:Nat→Ms) (n m:Nat) (hn:n≤50):zW Tryz.prog 118 (o_fd js ms n m):=by
 intro ps r hh
 unfold o_fd at hh
 split at hh
 ·simp only [Option.some.injEq,Prod.mk.injEq] at hh
  obtain ⟨hg,rfl⟩:=hh
  obtain rfl:=zYX hg
  exact snd_find _ _ _ _ _ hn
 ·cases hh
set_option maxRecDepth 100000 in
theorem tr_cjp (js:Nat→J) (ms:Nat→Ms) (n m:Nat) (i:Int):runK T (OrL.k [(117,o_nm),(118,o_fd js ms n m)]) 60 89 [(.a [.lf n (fJ js),.lf m (fM ms)]),.n .i64 i] =
 bif inB i n then (bif nmB (js i.toNat).name then (bif gEq (.a [.lf n (fJ js),.lf m (fM ms)]) (.a [.lf n (fJ js),.lf m (fM ms)]) then (bif !decide (fnd js (js i.toNat).name n 0=i) then some (.v (.n .i64 802),[]) else cpT F_n i (js i.toNat)) else none) else some (.v (.n .i64 802),[])) else none:=by kernel_rfl
theorem F_cj (i:Int) (j:J):cjT F_n i j=F_n (cjT (fun e=>e) i j):=by
 unfold cjT
 simp only [Bool.apply_cond F_n]
theorem snd_cjp (js:Nat→J) (ms:Nat→Ms) (n m:Nat) (hn:n≤50) (i:Nat) (hi:i < n):zH Tryz.prog 89 [(.a [.lf n (fJ js),.lf m (fM ms)]),.n .i64 i] (.v (.n .i64 (jErr js n i))):=by
 refine qG (N:=60) yJ yY (OrL.ok (l:=[(117,o_nm),(118,o_fd js ms n m)]) ⟨ok_tn,kGW js ms n m hn,trivial⟩) ?_
 rw [tr_cjp,jX hi,cond_true,toN,qUW,cond_true,cp_cj,F_cj]
 have hd:=fnd_dup js i n 0 (by omega) (by omega)
 rw [Nat.sub_zero] at hd
 unfold jErr
 cases nmB (js i).name with
 | false=>rfl
 | true =>
  cases hq:dup js (js i).name i 0 with
  | false=>rw [decide_eq_true (hd.2 hq)]; rfl
  | true=>rw [decide_eq_false (fun h=>by rw [hd.1 h] at hq; cases hq)]; rfl
def hC (js:Nat→J) (n:Nat) (i:Int) (k:Int):St:=⟨[(0,.v (.lf n (fJ js))),(1,.v (.n .i64 i)),(5,.p 5 0),(6,.v (.n .i64 k))],[(5,.blk [.v (.s (js (i).toNat).name),.v (.n .i64 (js (i).toNat).kind),.v (.n .i64 (js (i).toNat).parent),.v (.n .i64 (js (i).toNat).off.x),.v (.n .i64 (js (i).toNat).off.y),.v (.n .i64 (js (i).toNat).off.z),.v (.n .i64 (js (i).toNat).lo),.v (.n .i64 (js (i).toNat).hi),.v (.n .i64 (js (i).toNat).weight),.v (.n .i64 (js (i).toNat).speed),.v (.n .i64 (js (i).toNat).accel),.v (.n .i64 (js (i).toNat).torque)])]⟩
set_option maxRecDepth 100000 in
theorem rdC (G:St→Option (Ret × Mem)) (K:Cont) (js:Nat→J) (n:Nat) (i:Int) (k:Int):qHJ 60 (cxF T (OrL.k [(107,o_nm)]) 60 77 (ntmF T 77)) (ckF T (OrL.k [(107,o_nm)]) 60) (qK T 77 [0,1,0,1,1,1]) (fun e τ=>match e with
 | .normal=>G (qVV ((cxF T (OrL.k [(107,o_nm)]) 60 77 (ntmF T 77)).T.hint (cxF T (OrL.k [(107,o_nm)]) 60 77 (ntmF T 77)).me (zJ (qK T 77 [0,1,0,1,1,1]))) τ)
 | e=>K e (qUQ ((cxF T (OrL.k [(107,o_nm)]) 60 77 (ntmF T 77)).T.hint (cxF T (OrL.k [(107,o_nm)]) 60 77 (ntmF T 77)).me (zJ (qK T 77 [0,1,0,1,1,1]))) τ)) (hC js n i k) =
 (bif (decide (k < i)) then (bif (inB k n) then (bif ((js (k).toNat).name.toList == (js (i).toNat).name.toList) then (K .ret ⟨[(1,.v (.n .i64 i)),(4,.v (.n .i64 802)),(5,.p 5 0)],[(5,.blk [.v (.s (js (i).toNat).name),.v (.n .i64 (js (i).toNat).kind),.v (.n .i64 (js (i).toNat).parent),.v (.n .i64 (js (i).toNat).off.x),.v (.n .i64 (js (i).toNat).off.y),.v (.n .i64 (js (i).toNat).off.z),.v (.n .i64 (js (i).toNat).lo),.v (.n .i64 (js (i).toNat).hi),.v (.n .i64 (js (i).toNat).weight),.v (.n .i64 (js (i).toNat).speed),.v (.n .i64 (js (i).toNat).accel),.v (.n .i64 (js (i).toNat).torque)])]⟩)
 else (G (hC js n i (IntKind.i64.wrap (k + 1)))))
 else none)
 else (K (.exit 0) ⟨[(1,.v (.n .i64 i)),(5,.p 5 0)],[(5,.blk [.v (.s (js (i).toNat).name),.v (.n .i64 (js (i).toNat).kind),.v (.n .i64 (js (i).toNat).parent),.v (.n .i64 (js (i).toNat).off.x),.v (.n .i64 (js (i).toNat).off.y),.v (.n .i64 (js (i).toNat).off.z),.v (.n .i64 (js (i).toNat).lo),.v (.n .i64 (js (i).toNat).hi),.v (.n .i64 (js (i).toNat).weight),.v (.n .i64 (js (i).toNat).speed),.v (.n .i64 (js (i).toNat).accel),.v (.n .i64 (js (i).toNat).torque)])]⟩)):=by kernel_rfl
def rC (js:Nat→J) (i:Int):St:=⟨[(1,.v (.n .i64 i)),(4,.v (.n .i64 802)),(5,.p 5 0)],[(5,.blk [.v (.s (js (i).toNat).name),.v (.n .i64 (js (i).toNat).kind),.v (.n .i64 (js (i).toNat).parent),.v (.n .i64 (js (i).toNat).off.x),.v (.n .i64 (js (i).toNat).off.y),.v (.n .i64 (js (i).toNat).off.z),.v (.n .i64 (js (i).toNat).lo),.v (.n .i64 (js (i).toNat).hi),.v (.n .i64 (js (i).toNat).weight),.v (.n .i64 (js (i).toNat).speed),.v (.n .i64 (js (i).toNat).accel),.v (.n .i64 (js (i).toNat).torque)])]⟩
def oC (js:Nat→J) (i:Int):St:=⟨[(1,.v (.n .i64 i)),(5,.p 5 0)],[(5,.blk [.v (.s (js (i).toNat).name),.v (.n .i64 (js (i).toNat).kind),.v (.n .i64 (js (i).toNat).parent),.v (.n .i64 (js (i).toNat).off.x),.v (.n .i64 (js (i).toNat).off.y),.v (.n .i64 (js (i).toNat).off.z),.v (.n .i64 (js (i).toNat).lo),.v (.n .i64 (js (i).toNat).hi),.v (.n .i64 (js (i).toNat).weight),.v (.n .i64 (js (i).toNat).speed),.v (.n .i64 (js (i).toNat).accel),.v (.n .i64 (js (i).toNat).torque)])]⟩
theorem lpC (K:Cont) (js:Nat→J) (n i:Nat) (hn:n≤1000) (hi:i < n):∀ (k p q:Nat),p + k=i→k < q→LF 60 (cxF T (OrL.k [(107,o_nm)]) 60 77 (ntmF T 77)) (ckF T (OrL.k [(107,o_nm)]) 60) (qK T 77 [0,1,0,1,1,1]) ((cxF T (OrL.k [(107,o_nm)]) 60 77 (ntmF T 77)).T.hint (cxF T (OrL.k [(107,o_nm)]) 60 77 (ntmF T 77)).me (zJ (qK T 77 [0,1,0,1,1,1]))) K q (hC js n i p)=bif dup js (js i).name k p then (K .ret (rC js i)) else (K (.exit 0) (oC js i))
 | 0,p,q + 1,hp,hq=>by
  refine (rdC (fun σ=>LF 60 (cxF T (OrL.k [(107,o_nm)]) 60 77 (ntmF T 77)) (ckF T (OrL.k [(107,o_nm)]) 60) (qK T 77 [0,1,0,1,1,1]) ((cxF T (OrL.k [(107,o_nm)]) 60 77 (ntmF T 77)).T.hint (cxF T (OrL.k [(107,o_nm)]) 60 77 (ntmF T 77)).me (zJ (qK T 77 [0,1,0,1,1,1]))) K q σ) K js n i p).trans ?_
  rw [decide_eq_false (show ¬ (p:Int) < (i:Int) by omega)]
  rfl
 | k + 1,p,q + 1,hp,hq=>by
  refine (rdC (fun σ=>LF 60 (cxF T (OrL.k [(107,o_nm)]) 60 77 (ntmF T 77)) (ckF T (OrL.k [(107,o_nm)]) 60) (qK T 77 [0,1,0,1,1,1]) ((cxF T (OrL.k [(107,o_nm)]) 60 77 (ntmF T 77)).T.hint (cxF T (OrL.k [(107,o_nm)]) 60 77 (ntmF T 77)).me (zJ (qK T 77 [0,1,0,1,1,1]))) K q σ) K js n i p).trans ?_
  rw [decide_eq_true (show (p:Int) < (i:Int) by omega),jX (show p < n by omega),qQU (by omega),lpC K js n i hn hi k (p + 1) q (by omega) (by omega),toN,toN]
  simp only [cond_true,dup]
  cases ((js p).name.toList == (js i).name.toList) <;> rfl
set_option maxRecDepth 100000 in
theorem pxC (js:Nat→J) (n:Nat) (i:Int):qJH T (OrL.k [(107,o_nm)]) (zK [([0,1,0,1,1,1],jU (hC js n i 0) (fun K=>bif dup js (js i.toNat).name i.toNat 0 then (K .ret (rC js i)) else (K (.exit 0) (oC js i))))]) 60 77 [.lf n (fJ js),.n .i64 i] =
 bif inB i n then (bif nmB (js i.toNat).name then (bif gSt (hC js n i 0) (hC js n i 0) then (bif dup js (js i.toNat).name i.toNat 0 then some (.v (.n .i64 802),[]) else cjT F_n i (js i.toNat)) else none) else some (.v (.n .i64 802),[])) else none:=by kernel_rfl
theorem snd_cjr (js:Nat→J) (n:Nat) (hn:n≤50) (i:Nat) (hi:i < n):zH Tryz.prog 77 [.lf n (fJ js),.n .i64 i] (.v (.n .i64 (jErr js n i))):=by
 refine jV (N:=60) (LO:=zK [([0,1,0,1,1,1],jU (hC js n (i:Int) 0) (fun K=>bif dup js (js (i:Int).toNat).name (i:Int).toNat 0 then (K .ret (rC js i)) else (K (.exit 0) (oC js i))))]) yJ yY (OrL.ok (l:=[(107,o_nm)]) ⟨ok_rn,trivial⟩) (fun p S hp => ?_) ?_
 ·refine uQ (L:=qK T 77) (l:=[([0,1,0,1,1,1],jU (hC js n (i:Int) 0) (fun K=>bif dup js (js (i:Int).toNat).name (i:Int).toNat 0 then (K .ret (rC js i)) else (K (.exit 0) (oC js i))))]) (show AllP _ [([0,1,0,1,1,1],jU (hC js n (i:Int) 0) (fun K=>bif dup js (js (i:Int).toNat).name (i:Int).toNat 0 then (K .ret (rC js i)) else (K (.exit 0) (oC js i))))] from ⟨qQY fun K r hr => ?_,trivial⟩) p S hp
  have:=lpC K js n i (by omega) hi i 0 60 (by omega) (by omega)
  rw [toN] at hr
  exact this.trans hr
 ·refine (pxC js n i).trans ?_
  rw [jX hi,cond_true,toN,jY,cond_true,F_cj]
  unfold jErr
  cases nmB (js i).name <;> cases dup js (js i).name i 0 <;> rfl
end Go.Proofs.YthkhihoplfpgmaaGreat.Nb
namespace Go.Proofs.YthkhihoplfpgmaaGreat.Nc
open Go.Rx Rt Go.Sx Go.RowKit
open Ov Pc Na Nb
def MOK (n:Nat) (q:Ms):Prop:=(0≤q.link∧q.link < n)∧(1≤q.mass∧q.mass≤65536)∧(-4194304≤q.p.x∧q.p.x≤4194304)∧(-4194304≤q.p.y∧q.p.y≤4194304)∧(-4194304≤q.p.z∧q.p.z≤4194304)
instance (n:Nat) (q:Ms):Decidable (MOK n q):=by unfold MOK; exact inferInstance
def mokB (n:Nat) (q:Ms):Bool:=decide (MOK n q)
def mAll (ms:Nat→Ms) (n:Nat):Nat→Nat→Bool
 | 0,_=>true
 | k + 1,p=>mokB n (ms p) && mAll ms n k (p + 1)
def fbad (ms:Nat→Ms) (n:Nat):Nat→Nat→Int
 | 0,_ => -1
 | k + 1,p=>bif mokB n (ms p) then fbad ms n k (p + 1) else (p:Int)
theorem fbad_all (ms:Nat→Ms) (n:Nat):∀ k p,decide (0≤fbad ms n k p) = !mAll ms n k p
 | 0,p=>rfl
 | k + 1,p=>by
  have ih:=fbad_all ms n k (p + 1)
  by_cases hq:mokB n (ms p)=true
  ·simp only [fbad,mAll,hq,cond_true,Bool.true_and]
   exact ih
  ·rw [Bool.not_eq_true] at hq
   simp only [fbad,mAll,hq,cond_false,Bool.false_and,Bool.not_false]
   exact decide_eq_true (by omega)
def jE (js:Nat→J) (n:Nat):Nat→Nat→Int
 | 0,_=>0
 | k + 1,p=>bif decide (jErr js n p=0) then jE js n k (p + 1) else jErr js n p
def rErr (js:Nat→J) (ms:Nat→Ms) (n m:Nat):Int:=bif decide ((n:Int)=0) then 801 else bif decide (10 < (n:Int)) then 801 else bif decide (jE js n n 0=0) then (bif decide (32 < (m:Int)) then 808 else bif mAll ms n m 0 then 0 else 808) else jE js n n 0
def mTp {α:Type} (n:Nat) (q:Ms) (a b:α):α:=(bif (decide (0≤q.link)) then (bif (decide (q.link < (n:Int))) then (bif (decide (1≤q.mass)) then (bif (decide (q.mass≤65536)) then (bif (decide (q.p.x < (-4194304))) then b else (bif (decide (4194304 < q.p.x)) then b else (bif (decide (q.p.y < (-4194304))) then b else (bif (decide (4194304 < q.p.y)) then b else (bif (decide (q.p.z < (-4194304))) then b else (bif (decide (4194304 < q.p.z)) then b else a)))))) else b) else b) else b) else b)
theorem mTp_eq {α:Type} (n:Nat) (q:Ms) (a b:α):mTp n q a b=bif mokB n q then a else b:=by
 unfold mTp mokB
 by_cases h:MOK n q
 ·have h':=h
  obtain ⟨⟨h1,h2⟩,⟨h3,h4⟩,⟨h5,h6⟩,⟨h7,h8⟩,h9,h10⟩:=h'
  rw [decide_eq_true h]
  simp only [cond_true]
  simp only [Bool.cond_eq_ite,decide_eq_true_eq]
  repeat' split
  all_goals first | rfl | (exfalso; omega)
 ·rw [decide_eq_false h]
  unfold MOK at h
  simp only [cond_false]
  simp only [Bool.cond_eq_ite,decide_eq_true_eq]
  repeat' split
  all_goals first | rfl | (exfalso; omega) | contradiction
set_option maxRecDepth 100000 in
theorem tr_cl (js:Nat→J) (ms:Nat→Ms) (n m:Nat) (q:Ms):runK T (OrL.k []) 60 91 [.a (mp q),.c [.lf n (fJ js),.lf m (fM ms)] 0]=mTp n q (F_b false) (F_b true):=by kernel_rfl
theorem snd_cl (js:Nat→J) (ms:Nat→Ms) (n m:Nat) (q:Ms):zH Tryz.prog 91 [.a (mp q),.c [.lf n (fJ js),.lf m (fM ms)] 0] (.v (.b (!mokB n q))):=by
 refine qG (N:=60) yJ yY (OrL.ok (l:=[]) trivial) ?_
 rw [tr_cl,mTp_eq]
 cases mokB n q <;> rfl
noncomputable def o_cl (js:Nat→J) (ms:Nat→Ms) (n m:Nat):List PV→Option (Bool × Ret):=fun ps=>match ps with
 | [.a [.n .i64 a0,.n .i64 a1,.n .i64 a2,.n .i64 a3,.n .i64 a4],c]=>some (gEq c (.c [.lf n (fJ js),.lf m (fM ms)] 0),.v (.b (!mokB n ⟨a0,a1,⟨a2,a3,a4⟩⟩)))
 | _=>none
theorem ok_cl (js:Nat→J) (ms:Nat→Ms) (n m:Nat):zW Tryz.prog 91 (o_cl js ms n m):=by
 intro ps r hh
 unfold o_cl at hh
 split at hh
 ·simp only [Option.some.injEq,Prod.mk.injEq] at hh
  obtain ⟨hg,rfl⟩:=hh
  obtain rfl:=zYX hg
  exact snd_cl js ms n m ⟨_,_,⟨_,_,_⟩⟩
 ·cases hh
def hI (js:Nat→J) (ms:Nat→Ms) (n m:Nat) (i:Int):St:=⟨[(0,.v (.lf m (fM ms))),(1,.v (.f 91 [] [.c [.lf n (fJ js),.lf m (fM ms)] 0])),(7,.v (.n .i64 (m:Int))),(8,.v (.n .i64 i))],[]⟩
set_option maxRecDepth 100000 in
theorem rdI (G:St→Option (Ret × Mem)) (K:Cont) (js:Nat→J) (ms:Nat→Ms) (n m:Nat) (i:Int):qHJ 60 (cxF T (OrL.k [(91,o_cl js ms n m)]) 60 122 (ntmF T 122)) (ckF T (OrL.k [(91,o_cl js ms n m)]) 60) (qK T 122 [0,1,0,1]) (fun e τ=>match e with
 | .normal=>G (qVV ((cxF T (OrL.k [(91,o_cl js ms n m)]) 60 122 (ntmF T 122)).T.hint (cxF T (OrL.k [(91,o_cl js ms n m)]) 60 122 (ntmF T 122)).me (zJ (qK T 122 [0,1,0,1]))) τ)
 | e=>K e (qUQ ((cxF T (OrL.k [(91,o_cl js ms n m)]) 60 122 (ntmF T 122)).T.hint (cxF T (OrL.k [(91,o_cl js ms n m)]) 60 122 (ntmF T 122)).me (zJ (qK T 122 [0,1,0,1]))) τ)) (hI js ms n m i) =
 (bif (decide (i < (m:Int))) then (bif (inB i m) then (bif (gEq (.c [.lf n (fJ js),.lf m (fM ms)] 0) (.c [.lf n (fJ js),.lf m (fM ms)] 0)) then (bif (!mokB n (ms (i).toNat)) then (K .ret ⟨[(4,.v (.n .i64 i))],[]⟩)
 else (G (hI js ms n m (IntKind.i64.wrap (i + 1)))))
 else none)
 else none)
 else (K (.exit 0) ⟨[],[]⟩)):=by kernel_rfl
theorem lpI (K:Cont) (js:Nat→J) (ms:Nat→Ms) (n m:Nat) (hm:m≤1000):∀ (k p q:Nat),p + k=m→k < q→LF 60 (cxF T (OrL.k [(91,o_cl js ms n m)]) 60 122 (ntmF T 122)) (ckF T (OrL.k [(91,o_cl js ms n m)]) 60) (qK T 122 [0,1,0,1]) ((cxF T (OrL.k [(91,o_cl js ms n m)]) 60 122 (ntmF T 122)).T.hint (cxF T (OrL.k [(91,o_cl js ms n m)]) 60 122 (ntmF T 122)).me (zJ (qK T 122 [0,1,0,1]))) K q (hI js ms n m p)=(bif decide (fbad ms n k p = -1) then K (.exit 0) ⟨[],[]⟩ else K .ret ⟨[(4,.v (.n .i64 (fbad ms n k p)))],[]⟩)
 | 0,p,q + 1,hp,hq=>by
  refine (rdI (fun σ=>LF 60 (cxF T (OrL.k [(91,o_cl js ms n m)]) 60 122 (ntmF T 122)) (ckF T (OrL.k [(91,o_cl js ms n m)]) 60) (qK T 122 [0,1,0,1]) ((cxF T (OrL.k [(91,o_cl js ms n m)]) 60 122 (ntmF T 122)).T.hint (cxF T (OrL.k [(91,o_cl js ms n m)]) 60 122 (ntmF T 122)).me (zJ (qK T 122 [0,1,0,1]))) K q σ) K js ms n m p).trans ?_
  rw [decide_eq_false (show ¬ (p:Int) < (m:Int) by omega)]
  rfl
 | k + 1,p,q + 1,hp,hq=>by
  refine (rdI (fun σ=>LF 60 (cxF T (OrL.k [(91,o_cl js ms n m)]) 60 122 (ntmF T 122)) (ckF T (OrL.k [(91,o_cl js ms n m)]) 60) (qK T 122 [0,1,0,1]) ((cxF T (OrL.k [(91,o_cl js ms n m)]) 60 122 (ntmF T 122)).T.hint (cxF T (OrL.k [(91,o_cl js ms n m)]) 60 122 (ntmF T 122)).me (zJ (qK T 122 [0,1,0,1]))) K q σ) K js ms n m p).trans ?_
  rw [decide_eq_true (show (p:Int) < (m:Int) by omega),jX (show p < m by omega),qQU (by omega),lpI K js ms n m hm k (p + 1) q (by omega) (by omega),toN,qUW]
  by_cases hq:mokB n (ms p)=true
  ·simp only [fbad,hq,cond_true,cond_false,Bool.not_true]
  ·rw [Bool.not_eq_true] at hq
   simp only [fbad,hq,cond_true,cond_false,Bool.not_false,decide_eq_false (show ¬ (p:Int) = -1 by omega)]
set_option maxRecDepth 100000 in
theorem pxI (js:Nat→J) (ms:Nat→Ms) (n m:Nat):qJH T (OrL.k [(91,o_cl js ms n m)]) (zK [([0,1,0,1],jU (hI js ms n m 0) (fun K=>(bif decide (fbad ms n m 0 = -1) then K (.exit 0) ⟨[],[]⟩ else K .ret ⟨[(4,.v (.n .i64 (fbad ms n m 0)))],[]⟩)))]) 60 122 [.lf m (fM ms),.f 91 [] [.c [.lf n (fJ js),.lf m (fM ms)] 0]] =
 bif gSt (hI js ms n m 0) (hI js ms n m 0) then (bif decide (fbad ms n m 0 = -1) then some (.v (.n .i64 (-1)),[]) else some (.v (.n .i64 (fbad ms n m 0)),[])) else none:=by kernel_rfl
theorem snd_if (js:Nat→J) (ms:Nat→Ms) (n m:Nat) (hm:m≤50):zH Tryz.prog 122 [.lf m (fM ms),.f 91 [] [.c [.lf n (fJ js),.lf m (fM ms)] 0]] (.v (.n .i64 (fbad ms n m 0))):=by
 refine jV (N:=60) (LO:=zK [([0,1,0,1],jU (hI js ms n m 0) (fun K=>(bif decide (fbad ms n m 0 = -1) then K (.exit 0) ⟨[],[]⟩ else K .ret ⟨[(4,.v (.n .i64 (fbad ms n m 0)))],[]⟩)))]) yJ yY (OrL.ok (l:=[(91,o_cl js ms n m)]) ⟨ok_cl js ms n m,trivial⟩) (fun p S hp => ?_) ?_
 ·refine uQ (L:=qK T 122) (l:=[([0,1,0,1],jU (hI js ms n m 0) (fun K=>(bif decide (fbad ms n m 0 = -1) then K (.exit 0) ⟨[],[]⟩ else K .ret ⟨[(4,.v (.n .i64 (fbad ms n m 0)))],[]⟩)))]) (show AllP _ [([0,1,0,1],jU (hI js ms n m 0) (fun K=>(bif decide (fbad ms n m 0 = -1) then K (.exit 0) ⟨[],[]⟩ else K .ret ⟨[(4,.v (.n .i64 (fbad ms n m 0)))],[]⟩)))] from ⟨qQY fun K r hr => ?_,trivial⟩) p S hp
  exact (lpI K js ms n m (by omega) m 0 60 (by omega) (by omega)).trans hr
 ·refine (pxI js ms n m).trans ?_
  rw [jY,cond_true]
  by_cases h:fbad ms n m 0 = -1
  ·rw [decide_eq_true h,h]; rfl
  ·rw [decide_eq_false h]; rfl
noncomputable def g1 (l:List PV):Bool:=gEq (.t l) (.t l)
theorem g1_t (l:List PV):g1 l=true:=qUW _
noncomputable def o_cr (as_:List PV) (r:Ret):List PV→Option (Bool × Ret):=fun ps=>some (gEq (.t ps) (.t as_),r)
theorem qZW {f:Nat} {as_:List PV} {r:Ret} (h:zH Tryz.prog f as_ r):zW Tryz.prog f (o_cr as_ r):=by
 intro ps q hh
 unfold o_cr at hh
 simp only [Option.some.injEq,Prod.mk.injEq] at hh
 obtain ⟨hg,rfl⟩:=hh
 have:=zYX hg
 simp only [PV.t.injEq] at this
 rw [this]
 exact h
theorem snd_cf (js:Nat→J) (ms:Nat→Ms) (n m:Nat) (hm:m≤50):zH Tryz.prog 90 [.lf m (fM ms),.f 91 [] [.c [.lf n (fJ js),.lf m (fM ms)] 0]] (.v (.b (!mAll ms n m 0))):=by
 refine qG (N:=60) yJ yY (OrL.ok (l:=[(122,o_cr [.lf m (fM ms),.f 91 [] [.c [.lf n (fJ js),.lf m (fM ms)] 0]] (.v (.n .i64 (fbad ms n m 0))))]) ⟨qZW (snd_if js ms n m hm),trivial⟩) ?_
 refine (by kernel_rfl:_=bif (g1 [.lf m (fM ms),.f 91 [] [.c [.lf n (fJ js),.lf m (fM ms)] 0]]) then (bif (decide (0≤(fbad ms n m 0))) then some (.v (.b true),[])
 else some (.v (.b false),[]))
 else none).trans ?_
 rw [g1_t,cond_true,← fbad_all]
 cases decide (0≤fbad ms n m 0) <;> rfl
noncomputable def zYQ (js:Nat→J) (ms:Nat→Ms) (n m:Nat):List PV→Option (Bool × Ret):=fun ps=>match ps with
 | [r,.n .i64 i]=>some (gEq r (.a [.lf n (fJ js),.lf m (fM ms)]) && (inB i n && decide (n≤50)),.v (.n .i64 (jErr js n i.toNat)))
 | _=>none
theorem ok_o_cjp (js:Nat→J) (ms:Nat→Ms) (n m:Nat):zW Tryz.prog 89 (zYQ js ms n m):=by
 intro ps r hh
 unfold zYQ at hh
 split at hh
 ·simp only [Option.some.injEq,Prod.mk.injEq,Bool.and_eq_true] at hh
  obtain ⟨⟨hg,hi,hd⟩,rfl⟩:=hh
  obtain rfl:=zYX hg
  have hn:=of_decide_eq_true hd
  obtain ⟨i0,i1⟩:=zKG hi
  rename_i i
  have:=snd_cjp js ms n m hn i.toNat (by omega)
  rw [show ((i.toNat:Nat):Int)=i by omega] at this
  exact this
 ·cases hh
noncomputable def qJU (js:Nat→J) (ms:Nat→Ms) (n m:Nat):List PV→Option (Bool × Ret):=fun ps=>match ps with
 | [r,.n .i64 i]=>some (gEq r (.lf n (fJ js)) && (inB i n && decide (n≤50)),.v (.n .i64 (jErr js n i.toNat)))
 | _=>none
theorem ok_o_cjr (js:Nat→J) (ms:Nat→Ms) (n m:Nat):zW Tryz.prog 77 (qJU js ms n m):=by
 intro ps r hh
 unfold qJU at hh
 split at hh
 ·simp only [Option.some.injEq,Prod.mk.injEq,Bool.and_eq_true] at hh
  obtain ⟨⟨hg,hi,hd⟩,rfl⟩:=hh
  obtain rfl:=zYX hg
  have hn:=of_decide_eq_true hd
  obtain ⟨i0,i1⟩:=zKG hi
  rename_i i
  have:=snd_cjr js n hn i.toNat (by omega)
  rw [show ((i.toNat:Nat):Int)=i by omega] at this
  exact this
 ·cases hh
noncomputable def zYZ (js:Nat→J) (ms:Nat→Ms) (n m:Nat):List PV→Option (Bool × Ret):=fun ps=>some (gEq (.t ps) (.t [.lf m (fM ms),.f 91 [] [.c [.lf n (fJ js),.lf m (fM ms)] 0]]) && decide (m≤50),.v (.b (!mAll ms n m 0)))
theorem ok_cfm (js:Nat→J) (ms:Nat→Ms) (n m:Nat):zW Tryz.prog 90 (zYZ js ms n m):=by
 intro ps q hh
 unfold zYZ at hh
 simp only [Option.some.injEq,Prod.mk.injEq,Bool.and_eq_true] at hh
 obtain ⟨⟨hg,hm⟩,rfl⟩:=hh
 have:=zYX hg
 simp only [PV.t.injEq] at this
 rw [this]
 exact snd_cf js ms n m (of_decide_eq_true hm)
def hK (js:Nat→J) (ms:Nat→Ms) (n m:Nat) (i:Int):St:=⟨[(1,.p 1 0),(17,.v (.n .i64 (n:Int))),(18,.v (.n .i64 i))],[(1,.blk [.v (.lf n (fJ js)),.v (.lf m (fM ms))])]⟩
set_option maxRecDepth 100000 in
theorem rdK (G:St→Option (Ret × Mem)) (K:Cont) (js:Nat→J) (ms:Nat→Ms) (n m:Nat) (i:Int):qHJ 60 (cxF T (OrL.k [(89,zYQ js ms n m),(90,zYZ js ms n m)]) 60 64 (ntmF T 64)) (ckF T (OrL.k [(89,zYQ js ms n m),(90,zYZ js ms n m)]) 60) (qK T 64 [0,1,0,1,1]) (fun e τ=>match e with
 | .normal=>G (qVV ((cxF T (OrL.k [(89,zYQ js ms n m),(90,zYZ js ms n m)]) 60 64 (ntmF T 64)).T.hint (cxF T (OrL.k [(89,zYQ js ms n m),(90,zYZ js ms n m)]) 60 64 (ntmF T 64)).me (zJ (qK T 64 [0,1,0,1,1]))) τ)
 | e=>K e (qUQ ((cxF T (OrL.k [(89,zYQ js ms n m),(90,zYZ js ms n m)]) 60 64 (ntmF T 64)).T.hint (cxF T (OrL.k [(89,zYQ js ms n m),(90,zYZ js ms n m)]) 60 64 (ntmF T 64)).me (zJ (qK T 64 [0,1,0,1,1]))) τ)) (hK js ms n m i) =
 (bif (decide (i < (n:Int))) then (bif (gEq (.a [.lf n (fJ js),.lf m (fM ms)]) (.a [.lf n (fJ js),.lf m (fM ms)]) && (inB i n && decide (n≤50))) then (bif (!decide ((jErr js n (i).toNat)=0)) then (K .ret ⟨[(1,.p 1 0),(2,.v (.n .i64 (jErr js n (i).toNat)))],[(1,.blk [.v (.lf n (fJ js)),.v (.lf m (fM ms))])]⟩)
 else (G (hK js ms n m (IntKind.i64.wrap (i + 1)))))
 else none)
 else (K (.exit 0) ⟨[(1,.p 1 0)],[(1,.blk [.v (.lf n (fJ js)),.v (.lf m (fM ms))])]⟩)):=by kernel_rfl
def rK (js:Nat→J) (ms:Nat→Ms) (n m:Nat) (e:Int):St:=⟨[(1,.p 1 0),(2,.v (.n .i64 e))],[(1,.blk [.v (.lf n (fJ js)),.v (.lf m (fM ms))])]⟩
def oK (js:Nat→J) (ms:Nat→Ms) (n m:Nat):St:=⟨[(1,.p 1 0)],[(1,.blk [.v (.lf n (fJ js)),.v (.lf m (fM ms))])]⟩
theorem lpK (K:Cont) (js:Nat→J) (ms:Nat→Ms) (n m:Nat) (hn:n≤10):∀ (k p q:Nat),p + k=n→k < q→LF 60 (cxF T (OrL.k [(89,zYQ js ms n m),(90,zYZ js ms n m)]) 60 64 (ntmF T 64)) (ckF T (OrL.k [(89,zYQ js ms n m),(90,zYZ js ms n m)]) 60) (qK T 64 [0,1,0,1,1]) ((cxF T (OrL.k [(89,zYQ js ms n m),(90,zYZ js ms n m)]) 60 64 (ntmF T 64)).T.hint (cxF T (OrL.k [(89,zYQ js ms n m),(90,zYZ js ms n m)]) 60 64 (ntmF T 64)).me (zJ (qK T 64 [0,1,0,1,1]))) K q (hK js ms n m p)=(bif decide (jE js n k p=0) then (K (.exit 0) (oK js ms n m)) else (K .ret (rK js ms n m (jE js n k p))))
 | 0,p,q + 1,hp,hq=>by
  refine (rdK (fun σ=>LF 60 (cxF T (OrL.k [(89,zYQ js ms n m),(90,zYZ js ms n m)]) 60 64 (ntmF T 64)) (ckF T (OrL.k [(89,zYQ js ms n m),(90,zYZ js ms n m)]) 60) (qK T 64 [0,1,0,1,1]) ((cxF T (OrL.k [(89,zYQ js ms n m),(90,zYZ js ms n m)]) 60 64 (ntmF T 64)).T.hint (cxF T (OrL.k [(89,zYQ js ms n m),(90,zYZ js ms n m)]) 60 64 (ntmF T 64)).me (zJ (qK T 64 [0,1,0,1,1]))) K q σ) K js ms n m p).trans ?_
  rw [decide_eq_false (show ¬ (p:Int) < (n:Int) by omega)]
  rfl
 | k + 1,p,q + 1,hp,hq=>by
  refine (rdK (fun σ=>LF 60 (cxF T (OrL.k [(89,zYQ js ms n m),(90,zYZ js ms n m)]) 60 64 (ntmF T 64)) (ckF T (OrL.k [(89,zYQ js ms n m),(90,zYZ js ms n m)]) 60) (qK T 64 [0,1,0,1,1]) ((cxF T (OrL.k [(89,zYQ js ms n m),(90,zYZ js ms n m)]) 60 64 (ntmF T 64)).T.hint (cxF T (OrL.k [(89,zYQ js ms n m),(90,zYZ js ms n m)]) 60 64 (ntmF T 64)).me (zJ (qK T 64 [0,1,0,1,1]))) K q σ) K js ms n m p).trans ?_
  rw [decide_eq_true (show (p:Int) < (n:Int) by omega),jX (show p < n by omega),qQU (by omega),lpK K js ms n m hn k (p + 1) q (by omega) (by omega),toN,qUW,decide_eq_true (show n≤50 by omega)]
  by_cases hq:jErr js n p=0
  ·simp only [jE,decide_eq_true hq,cond_true,cond_false,Bool.not_true,Bool.and_self]
  ·simp only [jE,decide_eq_false hq,cond_true,cond_false,Bool.not_false,Bool.and_self]
   rfl
set_option maxRecDepth 100000 in
theorem pxK (js:Nat→J) (ms:Nat→Ms) (n m:Nat):qJH T (OrL.k [(89,zYQ js ms n m),(90,zYZ js ms n m)]) (zK [([0,1,0,1,1],jU (hK js ms n m 0) (fun K=>bif decide (10 < (n:Int)) then none else (bif decide (jE js n n 0=0) then (K (.exit 0) (oK js ms n m)) else (K .ret (rK js ms n m (jE js n n 0))))))]) 60 64 [(.a [.lf n (fJ js),.lf m (fM ms)])] =
 bif decide ((n:Int)=0) then some (.v (.n .i64 801),[]) else (bif decide (10 < (n:Int)) then some (.v (.n .i64 801),[]) else (bif gSt (hK js ms n m 0) (hK js ms n m 0) then (bif decide (10 < (n:Int)) then none else (bif decide (jE js n n 0=0) then bif (decide (32 < (m:Int))) then some (.v (.n .i64 808),[])
 else bif (g1 [.lf m (fM ms),.f 91 [] [.c [.lf n (fJ js),.lf m (fM ms)] 0]] && decide (m≤50)) then (bif (!mAll ms n m 0) then some (.v (.n .i64 808),[])
 else some (.v (.n .i64 0),[]))
 else none else some (.v (.n .i64 (jE js n n 0)),[]))) else none)):=by kernel_rfl
theorem jYY (js:Nat→J) (ms:Nat→Ms) (n m:Nat):zH Tryz.prog 64 [(.a [.lf n (fJ js),.lf m (fM ms)])] (.v (.n .i64 (rErr js ms n m))):=by
 refine jV (N:=60) (LO:=zK [([0,1,0,1,1],jU (hK js ms n m 0) (fun K=>bif decide (10 < (n:Int)) then none else (bif decide (jE js n n 0=0) then (K (.exit 0) (oK js ms n m)) else (K .ret (rK js ms n m (jE js n n 0))))))]) yJ yY (OrL.ok (l:=[(89,zYQ js ms n m),(90,zYZ js ms n m)]) ⟨ok_o_cjp js ms n m,ok_cfm js ms n m,trivial⟩) (fun p S hp => ?_) ?_
 ·refine uQ (L:=qK T 64) (l:=[([0,1,0,1,1],jU (hK js ms n m 0) (fun K=>bif decide (10 < (n:Int)) then none else (bif decide (jE js n n 0=0) then (K (.exit 0) (oK js ms n m)) else (K .ret (rK js ms n m (jE js n n 0))))))]) (show AllP _ [([0,1,0,1,1],jU (hK js ms n m 0) (fun K=>bif decide (10 < (n:Int)) then none else (bif decide (jE js n n 0=0) then (K (.exit 0) (oK js ms n m)) else (K .ret (rK js ms n m (jE js n n 0))))))] from ⟨qQY fun K r hr => ?_,trivial⟩) p S hp
  cases hq:decide (10 < (n:Int)) with
  | true=>rw [hq] at hr; cases hr
  | false =>
   rw [hq] at hr
   have h10:=of_decide_eq_false hq
   exact (lpK K js ms n m (by omega) n 0 60 (by omega) (by omega)).trans hr
 ·refine (pxK js ms n m).trans ?_
  unfold rErr
  rw [jY,g1_t]
  by_cases h0:(n:Int)=0
  ·rw [decide_eq_true h0]; rfl
  rw [decide_eq_false h0]
  by_cases h10:10 < (n:Int)
  ·rw [decide_eq_true h10]; rfl
  rw [decide_eq_false h10]
  by_cases hj:jE js n n 0=0
  ·rw [decide_eq_true hj]
   by_cases h32:32 < (m:Int)
   ·rw [decide_eq_true h32]; rfl
   rw [decide_eq_false h32,decide_eq_true (show m≤50 by omega)]
   cases mAll ms n m 0 <;> rfl
  ·rw [decide_eq_false hj]; rfl
def hQ (js:Nat→J) (ms:Nat→Ms) (n m:Nat) (i:Int):St:=⟨[(1,.p 1 0),(3,.v (.n .i64 i))],[(1,.blk [.v (.lf n (fJ js)),.v (.lf m (fM ms))])]⟩
set_option maxRecDepth 100000 in
theorem rdQ (G:St→Option (Ret × Mem)) (K:Cont) (js:Nat→J) (ms:Nat→Ms) (n m:Nat) (i:Int):qHJ 60 (cxF T (OrL.k [(77,qJU js ms n m)]) 60 45 (ntmF T 45)) (ckF T (OrL.k [(77,qJU js ms n m)]) 60) (qK T 45 [0,1,0,1,1]) (fun e τ=>match e with
 | .normal=>G (qVV ((cxF T (OrL.k [(77,qJU js ms n m)]) 60 45 (ntmF T 45)).T.hint (cxF T (OrL.k [(77,qJU js ms n m)]) 60 45 (ntmF T 45)).me (zJ (qK T 45 [0,1,0,1,1]))) τ)
 | e=>K e (qUQ ((cxF T (OrL.k [(77,qJU js ms n m)]) 60 45 (ntmF T 45)).T.hint (cxF T (OrL.k [(77,qJU js ms n m)]) 60 45 (ntmF T 45)).me (zJ (qK T 45 [0,1,0,1,1]))) τ)) (hQ js ms n m i) =
 (bif (decide (i < (n:Int))) then (bif (gEq (.lf n (fJ js)) (.lf n (fJ js)) && (inB i n && decide (n≤50))) then (bif (!decide ((jErr js n (i).toNat)=0)) then (K .ret ⟨[(1,.p 1 0),(2,.v (.n .i64 (jErr js n (i).toNat)))],[(1,.blk [.v (.lf n (fJ js)),.v (.lf m (fM ms))])]⟩)
 else (G (hQ js ms n m (IntKind.i64.wrap (i + 1)))))
 else none)
 else (K (.exit 0) ⟨[(1,.p 1 0)],[(1,.blk [.v (.lf n (fJ js)),.v (.lf m (fM ms))])]⟩)):=by kernel_rfl
def rQ (js:Nat→J) (ms:Nat→Ms) (n m:Nat) (e:Int):St:=⟨[(1,.p 1 0),(2,.v (.n .i64 e))],[(1,.blk [.v (.lf n (fJ js)),.v (.lf m (fM ms))])]⟩
def oQ (js:Nat→J) (ms:Nat→Ms) (n m:Nat):St:=⟨[(1,.p 1 0)],[(1,.blk [.v (.lf n (fJ js)),.v (.lf m (fM ms))])]⟩
theorem lpQ (K:Cont) (js:Nat→J) (ms:Nat→Ms) (n m:Nat) (hn:n≤10):∀ (k p q:Nat),p + k=n→k < q→LF 60 (cxF T (OrL.k [(77,qJU js ms n m)]) 60 45 (ntmF T 45)) (ckF T (OrL.k [(77,qJU js ms n m)]) 60) (qK T 45 [0,1,0,1,1]) ((cxF T (OrL.k [(77,qJU js ms n m)]) 60 45 (ntmF T 45)).T.hint (cxF T (OrL.k [(77,qJU js ms n m)]) 60 45 (ntmF T 45)).me (zJ (qK T 45 [0,1,0,1,1]))) K q (hQ js ms n m p)=(bif decide (jE js n k p=0) then (K (.exit 0) (oQ js ms n m)) else (K .ret (rQ js ms n m (jE js n k p))))
 | 0,p,q + 1,hp,hq=>by
  refine (rdQ (fun σ=>LF 60 (cxF T (OrL.k [(77,qJU js ms n m)]) 60 45 (ntmF T 45)) (ckF T (OrL.k [(77,qJU js ms n m)]) 60) (qK T 45 [0,1,0,1,1]) ((cxF T (OrL.k [(77,qJU js ms n m)]) 60 45 (ntmF T 45)).T.hint (cxF T (OrL.k [(77,qJU js ms n m)]) 60 45 (ntmF T 45)).me (zJ (qK T 45 [0,1,0,1,1]))) K q σ) K js ms n m p).trans ?_
  rw [decide_eq_false (show ¬ (p:Int) < (n:Int) by omega)]
  rfl
 | k + 1,p,q + 1,hp,hq=>by
  refine (rdQ (fun σ=>LF 60 (cxF T (OrL.k [(77,qJU js ms n m)]) 60 45 (ntmF T 45)) (ckF T (OrL.k [(77,qJU js ms n m)]) 60) (qK T 45 [0,1,0,1,1]) ((cxF T (OrL.k [(77,qJU js ms n m)]) 60 45 (ntmF T 45)).T.hint (cxF T (OrL.k [(77,qJU js ms n m)]) 60 45 (ntmF T 45)).me (zJ (qK T 45 [0,1,0,1,1]))) K q σ) K js ms n m p).trans ?_
  rw [decide_eq_true (show (p:Int) < (n:Int) by omega),jX (show p < n by omega),qQU (by omega),lpQ K js ms n m hn k (p + 1) q (by omega) (by omega),toN,qUW,decide_eq_true (show n≤50 by omega)]
  by_cases hq:jErr js n p=0
  ·simp only [jE,decide_eq_true hq,cond_true,cond_false,Bool.not_true,Bool.and_self]
  ·simp only [jE,decide_eq_false hq,cond_true,cond_false,Bool.not_false,Bool.and_self]
   rfl
def hM (js:Nat→J) (ms:Nat→Ms) (n m:Nat) (i:Int):St:=⟨[(1,.p 1 0),(5,.v (.n .i64 i))],[(1,.blk [.v (.lf n (fJ js)),.v (.lf m (fM ms))])]⟩
def rM (js:Nat→J) (ms:Nat→Ms) (n m:Nat) (i:Int):St:=⟨[(2,.v (.n .i64 808))],[]⟩
def oM (js:Nat→J) (ms:Nat→Ms) (n m:Nat):St:=⟨[],[]⟩
def mTr {α:Type} (n:Nat) (q:Ms) (a b:α):α:=(bif (decide (q.link < 0)) then b else (bif (decide ((n:Int)≤q.link)) then b else (bif (decide (1≤q.mass)) then (bif (decide (q.mass≤65536)) then (bif (decide (q.p.x < (-4194304))) then b else (bif (decide (4194304 < q.p.x)) then b else (bif (decide (q.p.y < (-4194304))) then b else (bif (decide (4194304 < q.p.y)) then b else (bif (decide (q.p.z < (-4194304))) then b else (bif (decide (4194304 < q.p.z)) then b else a)))))) else b) else b)))
theorem mTr_eq {α:Type} (n:Nat) (q:Ms) (a b:α):mTr n q a b=bif mokB n q then a else b:=by
 unfold mTr mokB
 by_cases h:MOK n q
 ·have h':=h
  obtain ⟨⟨h1,h2⟩,⟨h3,h4⟩,⟨h5,h6⟩,⟨h7,h8⟩,h9,h10⟩:=h'
  rw [decide_eq_true h]
  simp only [cond_true]
  simp only [Bool.cond_eq_ite,decide_eq_true_eq]
  repeat' split
  all_goals first | rfl | (exfalso; omega)
 ·rw [decide_eq_false h]
  unfold MOK at h
  simp only [cond_false]
  simp only [Bool.cond_eq_ite,decide_eq_true_eq]
  repeat' split
  all_goals first | rfl | (exfalso; omega) | contradiction
set_option maxRecDepth 100000 in
theorem rdM (G:St→Option (Ret × Mem)) (K:Cont) (js:Nat→J) (ms:Nat→Ms) (n m:Nat) (i:Int):qHJ 60 (cxF T (OrL.k [(77,qJU js ms n m)]) 60 45 (ntmF T 45)) (ckF T (OrL.k [(77,qJU js ms n m)]) 60) (qK T 45 [0,1,0,1,1,1,1]) (fun e τ=>match e with
 | .normal=>G (qVV ((cxF T (OrL.k [(77,qJU js ms n m)]) 60 45 (ntmF T 45)).T.hint (cxF T (OrL.k [(77,qJU js ms n m)]) 60 45 (ntmF T 45)).me (zJ (qK T 45 [0,1,0,1,1,1,1]))) τ)
 | e=>K e (qUQ ((cxF T (OrL.k [(77,qJU js ms n m)]) 60 45 (ntmF T 45)).T.hint (cxF T (OrL.k [(77,qJU js ms n m)]) 60 45 (ntmF T 45)).me (zJ (qK T 45 [0,1,0,1,1,1,1]))) τ)) (hM js ms n m i) =
 bif decide (i < (m:Int)) then (bif inB i m then mTr n (ms i.toNat) (G (hM js ms n m (IntKind.i64.wrap (i + 1)))) (K .ret (rM js ms n m 0)) else none) else (K (.exit 2) (oM js ms n m)):=by kernel_rfl
theorem lpM (K:Cont) (js:Nat→J) (ms:Nat→Ms) (n m:Nat) (hm:m≤1000):∀ (k p q:Nat),p + k=m→k < q→LF 60 (cxF T (OrL.k [(77,qJU js ms n m)]) 60 45 (ntmF T 45)) (ckF T (OrL.k [(77,qJU js ms n m)]) 60) (qK T 45 [0,1,0,1,1,1,1]) ((cxF T (OrL.k [(77,qJU js ms n m)]) 60 45 (ntmF T 45)).T.hint (cxF T (OrL.k [(77,qJU js ms n m)]) 60 45 (ntmF T 45)).me (zJ (qK T 45 [0,1,0,1,1,1,1]))) K q (hM js ms n m p)=bif mAll ms n k p then (K (.exit 2) (oM js ms n m)) else (K .ret (rM js ms n m 0))
 | 0,p,q + 1,hp,hq=>by
  refine (rdM (fun σ=>LF 60 (cxF T (OrL.k [(77,qJU js ms n m)]) 60 45 (ntmF T 45)) (ckF T (OrL.k [(77,qJU js ms n m)]) 60) (qK T 45 [0,1,0,1,1,1,1]) ((cxF T (OrL.k [(77,qJU js ms n m)]) 60 45 (ntmF T 45)).T.hint (cxF T (OrL.k [(77,qJU js ms n m)]) 60 45 (ntmF T 45)).me (zJ (qK T 45 [0,1,0,1,1,1,1]))) K q σ) K js ms n m p).trans ?_
  rw [decide_eq_false (show ¬ (p:Int) < (m:Int) by omega)]
  rfl
 | k + 1,p,q + 1,hp,hq=>by
  refine (rdM (fun σ=>LF 60 (cxF T (OrL.k [(77,qJU js ms n m)]) 60 45 (ntmF T 45)) (ckF T (OrL.k [(77,qJU js ms n m)]) 60) (qK T 45 [0,1,0,1,1,1,1]) ((cxF T (OrL.k [(77,qJU js ms n m)]) 60 45 (ntmF T 45)).T.hint (cxF T (OrL.k [(77,qJU js ms n m)]) 60 45 (ntmF T 45)).me (zJ (qK T 45 [0,1,0,1,1,1,1]))) K q σ) K js ms n m p).trans ?_
  rw [decide_eq_true (show (p:Int) < (m:Int) by omega),jX (show p < m by omega),qQU (by omega),lpM K js ms n m hm k (p + 1) q (by omega) (by omega),toN,mTr_eq]
  by_cases hq:mokB n (ms p)=true
  ·simp only [mAll,hq,cond_true,Bool.true_and]
  ·rw [Bool.not_eq_true] at hq
   simp only [mAll,hq,cond_true,cond_false,Bool.false_and]
set_option maxRecDepth 100000 in
theorem pxQ (js:Nat→J) (ms:Nat→Ms) (n m:Nat):qJH T (OrL.k [(77,qJU js ms n m)]) (zK [([0,1,0,1,1],jU (hQ js ms n m 0) (fun K=>bif decide (10 < (n:Int)) then none else (bif decide (jE js n n 0=0) then (K (.exit 0) (oQ js ms n m)) else (K .ret (rQ js ms n m (jE js n n 0)))))),([0,1,0,1,1,1,1],jU (hM js ms n m 0) (fun K=>bif decide (32 < (m:Int)) then none else (bif mAll ms n m 0 then (K (.exit 2) (oM js ms n m)) else (K .ret (rM js ms n m 0)))))]) 60 45 [(.a [.lf n (fJ js),.lf m (fM ms)])] =
 bif decide ((n:Int) < 1) then some (.v (.n .i64 801),[]) else (bif decide (10 < (n:Int)) then some (.v (.n .i64 801),[]) else (bif gSt (hQ js ms n m 0) (hQ js ms n m 0) then (bif decide (10 < (n:Int)) then none else (bif decide (jE js n n 0=0) then (bif decide (32 < (m:Int)) then some (.v (.n .i64 808),[]) else (bif gSt (hM js ms n m 0) (hM js ms n m 0) then (bif decide (32 < (m:Int)) then none else (bif mAll ms n m 0 then some (.v (.n .i64 0),[]) else some (.v (.n .i64 808),[]))) else none)) else some (.v (.n .i64 (jE js n n 0)),[]))) else none)):=by kernel_rfl
theorem jYZ (js:Nat→J) (ms:Nat→Ms) (n m:Nat):zH Tryz.prog 45 [(.a [.lf n (fJ js),.lf m (fM ms)])] (.v (.n .i64 (rErr js ms n m))):=by
 refine jV (N:=60) (LO:=zK [([0,1,0,1,1],jU (hQ js ms n m 0) (fun K=>bif decide (10 < (n:Int)) then none else (bif decide (jE js n n 0=0) then (K (.exit 0) (oQ js ms n m)) else (K .ret (rQ js ms n m (jE js n n 0)))))),([0,1,0,1,1,1,1],jU (hM js ms n m 0) (fun K=>bif decide (32 < (m:Int)) then none else (bif mAll ms n m 0 then (K (.exit 2) (oM js ms n m)) else (K .ret (rM js ms n m 0)))))]) yJ yY (OrL.ok (l:=[(77,qJU js ms n m)]) ⟨ok_o_cjr js ms n m,trivial⟩) (fun p S hp => ?_) ?_
 ·refine uQ (L:=qK T 45) (l:=[([0,1,0,1,1],jU (hQ js ms n m 0) (fun K=>bif decide (10 < (n:Int)) then none else (bif decide (jE js n n 0=0) then (K (.exit 0) (oQ js ms n m)) else (K .ret (rQ js ms n m (jE js n n 0)))))),([0,1,0,1,1,1,1],jU (hM js ms n m 0) (fun K=>bif decide (32 < (m:Int)) then none else (bif mAll ms n m 0 then (K (.exit 2) (oM js ms n m)) else (K .ret (rM js ms n m 0)))))]) (show AllP _ [([0,1,0,1,1],jU (hQ js ms n m 0) (fun K=>bif decide (10 < (n:Int)) then none else (bif decide (jE js n n 0=0) then (K (.exit 0) (oQ js ms n m)) else (K .ret (rQ js ms n m (jE js n n 0)))))),([0,1,0,1,1,1,1],jU (hM js ms n m 0) (fun K=>bif decide (32 < (m:Int)) then none else (bif mAll ms n m 0 then (K (.exit 2) (oM js ms n m)) else (K .ret (rM js ms n m 0)))))] from ⟨qQY fun K r hr => ?_,qQY fun K r hr => ?_,trivial⟩) p S hp
  ·cases hq:decide (10 < (n:Int)) with
   | true=>rw [hq] at hr; cases hr
   | false =>
    rw [hq] at hr
    have h10:=of_decide_eq_false hq
    exact (lpQ K js ms n m (by omega) n 0 60 (by omega) (by omega)).trans hr
  ·cases hq:decide (32 < (m:Int)) with
   | true=>rw [hq] at hr; cases hr
   | false =>
    rw [hq] at hr
    have h32:=of_decide_eq_false hq
    exact (lpM K js ms n m (by omega) m 0 60 (by omega) (by omega)).trans hr
 ·refine (pxQ js ms n m).trans ?_
  unfold rErr
  rw [jY,jY,show decide ((n:Int) < 1)=decide ((n:Int)=0) from decide_eq_decide.2 (by omega)]
  by_cases h0:(n:Int)=0
  ·rw [decide_eq_true h0]; rfl
  rw [decide_eq_false h0]
  by_cases h10:10 < (n:Int)
  ·rw [decide_eq_true h10]; rfl
  rw [decide_eq_false h10]
  by_cases hj:jE js n n 0=0
  ·rw [decide_eq_true hj]
   by_cases h32:32 < (m:Int)
   ·rw [decide_eq_true h32]; rfl
   rw [decide_eq_false h32]
   cases mAll ms n m 0 <;> rfl
  ·rw [decide_eq_false hj]; rfl
end Go.Proofs.YthkhihoplfpgmaaGreat.Nc

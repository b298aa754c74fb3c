/- Part 26 of the texts behind the last one: rules and contracts. No condition. -/
import Derived.Test.YtklmegnpfhiibaaGreatBK25
open Bool renaming and_eq_true → vQJ
open Go.IntKind renaming wrap → vYW
namespace Go.Proofs.YtklmegnpfhiibaaGreat.Xm
open Go.Rx Rt Go.Sx Go.RowKit Od Nb Nc Xb Xc Bb Xe Xf Xg Xh Xi Xk
structure Pc where
 d:Int
 x:Int
 k:Nat
 f:Nat→List PV
def fPc (p:Nat→Pc):Nat→List PV:=fun v=>[.n .i64 (p v).d,.n .i64 (p v).x,.lf (p v).k (p v).f]
theorem zVC {p:Nat} (_:p < 9223372036854775807):vYW .i64 ((p:Int) + 1)=((p + 1:Nat):Int):=by rw [zV (by omega)]; omega
theorem zWD (F:Nat→List PV) (i:Nat):(fun v=>qW (Nat.beq v i) (F i) (F v))=F:=funext fun v=>by
 rw [kU,qJH];by_cases h:v=i
 ·subst h; rw [vYK rfl]; rfl
 ·rw [vYJ h]; rfl
theorem mBI:∃ zs,qUU Tryz.prog 30 2 1 8 zs:=⟨_,qJI (by kernel_rfl) (z:=.int .i64 0) (by unfold qQW; kernel_rfl)⟩
theorem mBP:∃ zs,qUU Tryz.prog 26 30 1 24 zs:=⟨_,qJI (by kernel_rfl) (z:=.slice none 0 0) (by unfold qQW; kernel_rfl)⟩
theorem mBE:∃ zs,qUU Tryz.prog 27 61 12 160 zs:=⟨_,qJI (by kernel_rfl) (z:=.agg #[.int .i64 0,.int .i64 0,.int .i64 0,.int .i64 0,.int .i64 0,.slice none 0 0,.int .i64 0,.int .i64 0,.slice none 0 0,.int .i64 0,.slice none 0 0,.slice none 0 0]) (by unfold qQW; kernel_rfl)⟩
theorem mBC:∃ zs,qUU Tryz.prog 52 55 3 40 zs:=⟨_,qJI (by kernel_rfl) (z:=.agg #[.int .i64 0,.int .i64 0,.slice none 0 0]) (by unfold qQW; kernel_rfl)⟩
theorem mBV:∃ zs,qUU Tryz.prog 53 78 3 24 zs:=⟨_,qJI (by kernel_rfl) (z:=.agg #[.int .i64 0,.int .i64 0,.int .i64 0]) (by unfold qQW; kernel_rfl)⟩
def cci:Nat × (Nat→List PV)→Prop:=fun t=>match t with | (k,f)=>k * 8≤281474976710656∧∀ j,j < k→(f j).length=1
def eci:Nat × (Nat→List PV)→List PV:=fun t=>match t with | (k,f)=>[.lf k f]
noncomputable def rci:Nat × (Nat→List PV)→Ret:=fun t=>match t with | (k,f)=>.v (.lf k f)
def dci:List PV→Nat × (Nat→List PV):=fun ps=>match ps with
 | [.lf k f]=>(k,f)
 | _=>(0,fun _=>[])
noncomputable def o_ci:List PV→Option (Bool × Ret):=o_fm dci cci eci rci
theorem ok_ci:jH Tryz.prog 102 o_ci:=qQD fun t h=>by
 obtain ⟨k,f⟩:=t;exact by
  obtain ⟨zs,hB⟩:=mBI;exact qVE (Xj.snd_clnI hB h.2 h.1 (show k≤9223372036854775807 from (by have:=h.1; omega)))
def ccv:Nat × (Nat→List PV)→Prop:=fun t=>match t with | (k,f)=>k * 24≤281474976710656∧∀ j,j < k→(f j).length=3
def ecv:Nat × (Nat→List PV)→List PV:=fun t=>match t with | (k,f)=>[.lf k f]
noncomputable def rcv:Nat × (Nat→List PV)→Ret:=fun t=>match t with | (k,f)=>.v (.lf k f)
def dcv:List PV→Nat × (Nat→List PV):=fun ps=>match ps with
 | [.lf k f]=>(k,f)
 | _=>(0,fun _=>[])
noncomputable def o_cv:List PV→Option (Bool × Ret):=o_fm dcv ccv ecv rcv
theorem ok_cv:jH Tryz.prog 110 o_cv:=qQD fun t h=>by
 obtain ⟨k,f⟩:=t;exact by
  obtain ⟨zs,hB⟩:=mBV;exact qVE (Xj.snd_clnV hB h.2 h.1 (show k≤9223372036854775807 from (by have:=h.1; omega)))
def unPc (f:Nat→List PV):Nat→Pc:=fun v=>match f v with
 | [.n _ d,.n _ x,.lf k g]=>⟨d,x,k,g⟩
 | _=>⟨0,0,0,fun _=>[]⟩
def ccp:Nat × (Nat→Pc)→Prop:=fun t=>match t with | (k,_)=>k * 40≤281474976710656
def ecp:Nat × (Nat→Pc)→List PV:=fun t=>match t with | (k,p)=>[.lf k (fPc p)]
noncomputable def rcp:Nat × (Nat→Pc)→Ret:=fun t=>match t with | (k,p)=>.ow 55 3 (.fo k (fPc p))
def dcp:List PV→Nat × (Nat→Pc):=fun ps=>match ps with
 | [.lf k f]=>(k,unPc f)
 | _=>(0,unPc fun _=>[])
noncomputable def o_cp:List PV→Option (Bool × Ret):=o_fm dcp ccp ecp rcp
theorem yJV:jH Tryz.prog 109 o_cp:=qQD fun t h=>by
 obtain ⟨k,p⟩:=t;exact by
  obtain ⟨zs,hB⟩:=mBC;exact (Xj.snd_clnC hB (fun _ _=>rfl) h (show k≤9223372036854775807 from (by have h:k * 40≤281474976710656:=h; omega)))
noncomputable def orc1 (_:Int) (_:Nat) (_:Nat→Pc) (_ _:Int) (_:Nat) (_:Nat→List PV) (_:Int) (_:Nat) (_:Nat→List PV) (_:Nat) (_:Nat→List PV):OrS:=orS [(102,o_ci),(110,o_cv),(109,o_cp)] []
noncomputable def hc1 (kd:Int) (n1:Nat) (pc:Nat→Pc) (dp ix:Int) (n2:Nat) (f2:Nat→List PV) (pr:Int) (n3:Nat) (f3:Nat→List PV) (n4:Nat) (f4:Nat→List PV) (i:Int):St:=⟨[(1,.p 1 0),(2,.p 2 0),(10,.o 7),(11,.v (.n .i64 (n1:Int))),(12,.v (.n .i64 i))],[(1,.blk [.v (.n .i64 kd),.o 7,.v (.n .i64 dp),.v (.n .i64 ix),.v (.lf n2 f2),.v (.n .i64 pr),.v (.lf n3 f3),.v (.lf n4 f4)]),(2,.blk [.v (.n .i64 0),.nl,.v (.n .i64 0),.v (.n .i64 0),.nl,.v (.n .i64 0),.nl,.nl]),(7,.reg 55 3 (.fo n1 (fPc pc)))]⟩
set_option maxRecDepth 100000 in
theorem rzc1 (G:St→Option (Ret × Mem)) (K:Cont) (kd:Int) (n1:Nat) (pc:Nat→Pc) (dp ix:Int) (n2:Nat) (f2:Nat→List PV) (pr:Int) (n3:Nat) (f3:Nat→List PV) (n4:Nat) (f4:Nat→List PV) (i:Int):stpT Tf 78 (orc1 kd n1 pc dp ix n2 f2 pr n3 f3 n4 f4) (n1 + 10) [] [0,1,0,1,1] K G (hc1 kd n1 pc dp ix n2 f2 pr n3 f3 n4 f4 i) =
 (bif (decide (i < (n1:Int))) then (bif (inB i n1) then (bif (gF1 ccv ecv (((pc (i).toNat).k),((pc (i).toNat).f))) then (bif (inB i n1) then (G ⟨[(1,.p 1 0),(2,.p 2 0),(10,.o 7),(11,.v (.n .i64 (n1:Int))),(12,.v (.n .i64 (vYW .i64 (i + 1))))],[(1,.blk [.v (.n .i64 kd),.o 7,.v (.n .i64 dp),.v (.n .i64 ix),.v (.lf n2 f2),.v (.n .i64 pr),.v (.lf n3 f3),.v (.lf n4 f4)]),(2,.blk [.v (.n .i64 0),.nl,.v (.n .i64 0),.v (.n .i64 0),.nl,.v (.n .i64 0),.nl,.nl]),(7,.reg 55 3 (.fo n1 (fun v=>qW (Nat.beq v (i).toNat) ((fPc pc) (i).toNat) ((fPc pc) v))))]⟩)
 else none)
 else none)
 else none)
 else (K (.exit 0) ⟨[(1,.p 1 0),(2,.p 2 0)],[(1,.blk [.v (.n .i64 kd),.o 7,.v (.n .i64 dp),.v (.n .i64 ix),.v (.lf n2 f2),.v (.n .i64 pr),.v (.lf n3 f3),.v (.lf n4 f4)]),(2,.blk [.v (.n .i64 0),.nl,.v (.n .i64 0),.v (.n .i64 0),.nl,.v (.n .i64 0),.nl,.nl]),(7,.reg 55 3 (.fo n1 (fPc pc)))]⟩)):=by kernel_rfl
theorem rdc1 (G:St→Option (Ret × Mem)) (K:Cont) (kd:Int) (n1:Nat) (pc:Nat→Pc) (dp ix:Int) (n2:Nat) (f2:Nat→List PV) (pr:Int) (n3:Nat) (f3:Nat→List PV) (n4:Nat) (f4:Nat→List PV) (i:Int):stpT Tf 78 (orc1 kd n1 pc dp ix n2 f2 pr n3 f3 n4 f4) (n1 + 10) [] [0,1,0,1,1] K G (hc1 kd n1 pc dp ix n2 f2 pr n3 f3 n4 f4 i) =
 (bif (decide (i < (n1:Int))) then (bif (inB i n1) then (bif (gF1 ccv ecv (((pc (i).toNat).k),((pc (i).toNat).f))) then (bif (inB i n1) then (G (hc1 kd n1 pc dp ix n2 f2 pr n3 f3 n4 f4 (vYW .i64 (i + 1))))
 else none)
 else none)
 else none)
 else (K (.exit 0) ⟨[(1,.p 1 0),(2,.p 2 0)],[(1,.blk [.v (.n .i64 kd),.o 7,.v (.n .i64 dp),.v (.n .i64 ix),.v (.lf n2 f2),.v (.n .i64 pr),.v (.lf n3 f3),.v (.lf n4 f4)]),(2,.blk [.v (.n .i64 0),.nl,.v (.n .i64 0),.v (.n .i64 0),.nl,.v (.n .i64 0),.nl,.nl]),(7,.reg 55 3 (.fo n1 (fPc pc)))]⟩)):=by
 refine (rzc1 G K kd n1 pc dp ix n2 f2 pr n3 f3 n4 f4 i).trans ?_;simp only [zWD];rfl
def nrmO (n1:Nat) (p:Nat→Pc):Prop:=(∀ j,j < n1→(p j).k * 24≤281474976710656∧∀ t,t < (p j).k→((p j).f t).length=3)∧n1 * 40≤281474976710656
theorem lpc1 (K:Cont) (kd:Int) (n1:Nat) (pc:Nat→Pc) (dp ix:Int) (n2:Nat) (f2:Nat→List PV) (pr:Int) (n3:Nat) (f3:Nat→List PV) (n4:Nat) (f4:Nat→List PV) (hn:nrmO n1 pc):LFT Tf 78 (orc1 kd n1 pc dp ix n2 f2 pr n3 f3 n4 f4) (n1 + 10) [] [0,1,0,1,1] K (n1 + 10) (hc1 kd n1 pc dp ix n2 f2 pr n3 f3 n4 f4 0)=(K (.exit 0) ⟨[(1,.p 1 0),(2,.p 2 0)],[(1,.blk [.v (.n .i64 kd),.o 7,.v (.n .i64 dp),.v (.n .i64 ix),.v (.lf n2 f2),.v (.n .i64 pr),.v (.lf n3 f3),.v (.lf n4 f4)]),(2,.blk [.v (.n .i64 0),.nl,.v (.n .i64 0),.v (.n .i64 0),.nl,.v (.n .i64 0),.nl,.nl]),(7,.reg 55 3 (.fo n1 (fPc pc)))]⟩):=by
 refine (qKL (L:=LFT Tf 78 (orc1 kd n1 pc dp ix n2 f2 pr n3 f3 n4 f4) (n1 + 10) [] [0,1,0,1,1] K) (stp:=stpT Tf 78 (orc1 kd n1 pc dp ix n2 f2 pr n3 f3 n4 f4) (n1 + 10) [] [0,1,0,1,1] K) (fun _ _=>rfl) (fun (i:Nat) (_:Unit)=>hc1 kd n1 pc dp ix n2 f2 pr n3 f3 n4 f4 (i:Int)) (fun _ _=>True) (fun _ _=>true) (fun _ _=>()) (c:=n1) (fun _=>(K (.exit 0) ⟨[(1,.p 1 0),(2,.p 2 0)],[(1,.blk [.v (.n .i64 kd),.o 7,.v (.n .i64 dp),.v (.n .i64 ix),.v (.lf n2 f2),.v (.n .i64 pr),.v (.lf n3 f3),.v (.lf n4 f4)]),(2,.blk [.v (.n .i64 0),.nl,.v (.n .i64 0),.v (.n .i64 0),.nl,.v (.n .i64 0),.nl,.nl]),(7,.reg 55 3 (.fo n1 (fPc pc)))]⟩)) (fun _ _=>none) (fun G i f hi _ => ?_) (fun _ _ _ _ _=>trivial) (fun G f _ => ?_) n1 0 (n1 + 10) () (by omega) (by omega) trivial).trans (qYB n1 0 _)
 ·have hn1:=hn.2;refine (rdc1 G K kd n1 pc dp ix n2 f2 pr n3 f3 n4 f4 i).trans ?_;rw [vYK (show (i:Int) < (n1:Int) by omega),zVC (by omega),zU (show i < n1 by omega),toN,jV (C:=ccv) (t:=((pc i).k,(pc i).f)) (hn.1 i (by omega)),vYZ]
  all_goals rfl
 ·refine (rdc1 G K kd n1 pc dp ix n2 f2 pr n3 f3 n4 f4 n1).trans ?_;rw [vYJ (show ¬ (n1:Int) < (n1:Int) by omega)];rfl
noncomputable def yYW (kd:Int) (n1:Nat) (pc:Nat→Pc) (dp ix:Int) (n2:Nat) (f2:Nat→List PV) (pr:Int) (n3:Nat) (f3:Nat→List PV) (n4:Nat) (f4:Nat→List PV):List (List Nat × yV):=[([0,1,0,1,1],sumF (fun _:Unit=>(hc1 kd n1 pc dp ix n2 f2 pr n3 f3 n4 f4 0)) (fun _=>()) (fun _ K=>(bif Go.Rx.gP (nrmO n1 pc) then (K (.exit 0) ⟨[(1,.p 1 0),(2,.p 2 0)],[(1,.blk [.v (.n .i64 kd),.o 7,.v (.n .i64 dp),.v (.n .i64 ix),.v (.lf n2 f2),.v (.n .i64 pr),.v (.lf n3 f3),.v (.lf n4 f4)]),(2,.blk [.v (.n .i64 0),.nl,.v (.n .i64 0),.v (.n .i64 0),.nl,.v (.n .i64 0),.nl,.nl]),(7,.reg 55 3 (.fo n1 (fPc pc)))]⟩) else none)))]
set_option maxRecDepth 100000 in
theorem pxcr0 (kd:Int) (n1:Nat) (pc:Nat→Pc) (dp ix:Int) (n2:Nat) (f2:Nat→List PV) (pr:Int) (n3:Nat) (f3:Nat→List PV) (n4:Nat) (f4:Nat→List PV):qQI Tf (orc1 kd n1 pc dp ix n2 f2 pr n3 f3 n4 f4) (qY (yYW kd n1 pc dp ix n2 f2 pr n3 f3 n4 f4)) (n1 + 10) 78 [.a [.n .i64 kd,.lf n1 (fPc pc),.n .i64 dp,.n .i64 ix,.lf n2 f2,.n .i64 pr,.lf n3 f3,.lf n4 f4]] =
 (bif (gF1 ccp ecp (n1,pc)) then (bif (gSt (hc1 kd n1 pc dp ix n2 f2 pr n3 f3 n4 f4 0) (hc1 kd n1 pc dp ix n2 f2 pr n3 f3 n4 f4 0)) then (bif Go.Rx.gP (nrmO n1 pc) then (bif (gF1 ccv ecv (n2,f2)) then (bif (gF1 cci eci (n3,f3)) then (bif (gF1 cci eci (n4,f4)) then some (.v (.a [.n .i64 kd,.lf n1 (fPc pc),.n .i64 dp,.n .i64 ix,.lf n2 f2,.n .i64 pr,.lf n3 f3,.lf n4 f4]),[])
 else none)
 else none)
 else none)
 else none)
 else none)
 else none):=by kernel_rfl
theorem snd_cr0 (kd:Int) (n1:Nat) (pc:Nat→Pc) (dp ix:Int) (n2:Nat) (f2:Nat→List PV) (pr:Int) (n3:Nat) (f3:Nat→List PV) (n4:Nat) (f4:Nat→List PV) (hn:nrmO n1 pc) (h2:n2 * 24≤281474976710656∧∀ j,j < n2→(f2 j).length=3) (h3:n3 * 8≤281474976710656∧∀ j,j < n3→(f3 j).length=1) (h4:n4 * 8≤281474976710656∧∀ j,j < n4→(f4 j).length=1):zY Tryz.prog 78 [.a [.n .i64 kd,.lf n1 (fPc pc),.n .i64 dp,.n .i64 ix,.lf n2 f2,.n .i64 pr,.lf n3 f3,.lf n4 f4]] (.v (.a [.n .i64 kd,.lf n1 (fPc pc),.n .i64 dp,.n .i64 ix,.lf n2 f2,.n .i64 pr,.lf n3 f3,.lf n4 f4])):=by
 refine qH (N:=(n1 + 10)) (LO:=qY (yYW kd n1 pc dp ix n2 f2 pr n3 f3 n4 f4)) jY yH (jK (l:=[(102,o_ci),(110,o_cv),(109,o_cp)]) (m:=[]) ⟨ok_ci,ok_cv,yJV,trivial⟩ trivial) (fun p S hp => ?_) ?_
 ·refine qX (L:=qZ Tf 78) (l:=(yYW kd n1 pc dp ix n2 f2 pr n3 f3 n4 f4)) (show AllP _ (yYW kd n1 pc dp ix n2 f2 pr n3 f3 n4 f4) from ⟨?_,trivial⟩) p S hp
  ·dsimp only;refine jQ (T:=Tf) (o:=(orc1 kd n1 pc dp ix n2 f2 pr n3 f3 n4 f4)) (f:=78) (LO:=qY []) (p:=[0,1,0,1,1]) jU ?_;intro t K r hr;obtain ⟨hg,hr⟩:=qQ hr;have hn:=Go.Rx.gP_spec hg;exact (lpc1 K kd n1 pc dp ix n2 f2 pr n3 f3 n4 f4 hn).trans hr
 ·refine (pxcr0 kd n1 pc dp ix n2 f2 pr n3 f3 n4 f4).trans ?_;rw [jV (C:=ccp) (t:=(n1,pc)) hn.2,zW,Go.Rx.gP_of hn,jV (C:=ccv) (t:=(n2,f2)) h2,jV (C:=cci) (t:=(n3,f3)) h3,jV (C:=cci) (t:=(n4,f4)) h4];rfl
def prP (e:Ed):List PV:=[.n .i64 e.kd,.lf e.n1 e.f1,.n .i64 e.dp,.n .i64 e.ix,.lf e.n2 e.f2,.n .i64 e.pr,.lf e.n3 e.f3,.lf e.n4 e.f4]
def isI (r:List PV):Prop:=∃ a:Int,r=[PV.n .i64 a]
def isV (r:List PV):Prop:=∃ a b c:Int,r=[PV.n .i64 a,PV.n .i64 b,PV.n .i64 c]
theorem isI.len {r:List PV} (h:isI r):r.length=1:=by obtain ⟨a,rfl⟩:=h; rfl
theorem isV.len {r:List PV} (h:isV r):r.length=3:=by obtain ⟨a,b,c,rfl⟩:=h; rfl
def isPc (r:List PV) (c:Pc):Prop:=r=[.n .i64 c.d,.n .i64 c.x,.lf c.k c.f]∧c.k * 24≤281474976710656∧∀ t,t < c.k→isV (c.f t)
structure OkE (e:Ed):Prop where
 p1:∀ j,j < e.n1→∃ c:Pc,isPc (e.f1 j) c
 b1:e.n1 * 40≤281474976710656
 p2:e.n2 * 24≤281474976710656∧∀ j,j < e.n2→isV (e.f2 j)
 p3:e.n3 * 8≤281474976710656∧∀ j,j < e.n3→isI (e.f3 j)
 p4:e.n4 * 8≤281474976710656∧∀ j,j < e.n4→isI (e.f4 j)
theorem OkE.pc {e:Ed} (h:OkE e):∃ p:Nat→Pc,∀ j,j < e.n1→isPc (e.f1 j) (p j):=by
 have each:∀ j,∃ c:Pc,j < e.n1→isPc (e.f1 j) c:=fun j=>by
  by_cases hj:j < e.n1
  ·obtain ⟨c,hc⟩:=h.p1 j hj; exact ⟨c,fun _=>hc⟩
  ·exact ⟨⟨0,0,0,fun _=>[]⟩,fun h=>absurd h hj⟩
 obtain ⟨g,hg⟩:=Classical.axiomOfChoice each;exact ⟨g,hg⟩
theorem snd_crs (e:Ed) (h:OkE e):zY Tryz.prog 78 [.a (prP e)] (.v (.a (prP e))):=by
 obtain ⟨p,hp⟩:=h.pc;have s:Same (.lf e.n1 e.f1) (.lf e.n1 (fPc p)):=qXV fun j hj=>(hp j hj).1
 have s':Same (.lf e.n1 (fPc p)) (.lf e.n1 e.f1):=qXV fun j hj=>(hp j hj).1.symm
 refine qYY (fun F w vals hh=>Sames.al (xs:=[.a (prP e)]) (ys:=[.a [.n .i64 e.kd,.lf e.n1 (fPc p),.n .i64 e.dp,.n .i64 e.ix,.lf e.n2 e.f2,.n .i64 e.pr,.lf e.n3 e.f3,.lf e.n4 e.f4]]) ⟨Same.a (xs:=[_,_,_,_,_,_,_,_]) (ys:=[_,_,_,_,_,_,_,_]) ⟨Same.refl _,s,Same.refl _,Same.refl _,Same.refl _,Same.refl _,Same.refl _,Same.refl _,trivial⟩,trivial⟩ hh) ?_;exact qKV (Same.a (xs:=[_,_,_,_,_,_,_,_]) (ys:=[_,_,_,_,_,_,_,_]) ⟨Same.refl _,s',Same.refl _,Same.refl _,Same.refl _,Same.refl _,Same.refl _,Same.refl _,trivial⟩) (snd_cr0 e.kd e.n1 p e.dp e.ix e.n2 e.f2 e.pr e.n3 e.f3 e.n4 e.f4 ⟨fun j hj=>⟨(hp j hj).2.1,fun t ht=>((hp j hj).2.2 t ht).len⟩,h.b1⟩ ⟨h.p2.1,fun j hj=>(h.p2.2 j hj).len⟩ ⟨h.p3.1,fun j hj=>(h.p3.2 j hj).len⟩ ⟨h.p4.1,fun j hj=>(h.p4.2 j hj).len⟩)
def prO (e:Ed):Ed:=⟨0,0,0,0,e.kd,e.dp,e.ix,e.pr,e.n1,e.f1,e.n2,e.f2,e.n3,e.f3,e.n4,e.f4⟩
theorem OkE.o {e:Ed} (h:OkE e):OkE (prO e):=⟨h.p1,h.b1,h.p2,h.p3,h.p4⟩
def unR (r:List PV):Ed:=match r with
 | [.n _ kd,.lf n1 f1,.n _ dp,.n _ ix,.lf n2 f2,.n _ pr,.lf n3 f3,.lf n4 f4]=>⟨0,0,0,0,kd,dp,ix,pr,n1,f1,n2,f2,n3,f3,n4,f4⟩
 | _=>⟨0,0,0,0,0,0,0,0,0,fun _=>[],0,fun _=>[],0,fun _=>[],0,fun _=>[]⟩
def ccr:Ed→Prop:=fun t=>match t with | e=>OkE e
def ecr:Ed→List PV:=fun t=>match t with | e=>[.a (prP e)]
noncomputable def rcr:Ed→Ret:=fun t=>match t with | e=>.v (.a (prP e))
def dcr:List PV→Ed:=fun ps=>match ps with
 | [.a r]=>unR r
 | _=>unR []
noncomputable def o_cr:List PV→Option (Bool × Ret):=o_fm dcr ccr ecr rcr
theorem qWW:jH Tryz.prog 78 o_cr:=qQD fun t h=>by
 revert h; revert t; intro e h
 exact snd_crs e h
def cce:Nat × (Nat→Ed)→Prop:=fun t=>match t with | (n,_)=>n≤8192
def ece:Nat × (Nat→Ed)→List PV:=fun t=>match t with | (n,ed)=>[.lf n (fE ed)]
noncomputable def rce:Nat × (Nat→Ed)→Ret:=fun t=>match t with | (n,ed)=>.ow 61 12 (.fo n (fE ed))
def dce:List PV→Nat × (Nat→Ed):=fun ps=>match ps with
 | [.lf n f]=>(n,unFE f)
 | _=>(0,unFE fun _=>[])
noncomputable def o_ce:List PV→Option (Bool × Ret):=o_fm dce cce ece rce
theorem ok_ce:jH Tryz.prog 108 o_ce:=qQD fun t h=>by
 obtain ⟨n,ed⟩:=t;exact by
  obtain ⟨zs,hB⟩:=mBE;exact (Xj.snd_clnE hB (fun _ _=>rfl) (show n * 160≤281474976710656 from (by have h:n≤8192:=h; omega)) (show n≤9223372036854775807 from (by have h:n≤8192:=h; omega)))
def cpp:Nat × (Nat→Nat) × (Nat→Nat→Int)→Prop:=fun t=>match t with | (n,_,_)=>n≤1000
def epp:Nat × (Nat→Nat) × (Nat→Nat→Int)→List PV:=fun t=>match t with | (n,pn,pv)=>[.lf n (fP pn pv)]
noncomputable def rpp:Nat × (Nat→Nat) × (Nat→Nat→Int)→Ret:=fun t=>match t with | (n,pn,pv)=>.ow 30 1 (.fo n (fP pn pv))
def dpp:List PV→Nat × (Nat→Nat) × (Nat→Nat→Int):=fun ps=>match ps with
 | [.lf n f]=>(n,unPn f,unPv f)
 | _=>(0,fun _=>0,fun _ _=>0)
noncomputable def o_pp:List PV→Option (Bool × Ret):=o_fm dpp cpp epp rpp
theorem ok_pp:jH Tryz.prog 107 o_pp:=qQD fun t h=>by
 obtain ⟨n,pn,pv⟩:=t;exact by
  obtain ⟨zs,hB⟩:=mBP;exact (Xj.snd_clnP hB (fun _ _=>rfl) (show n * 24≤281474976710656 from (by have h:n≤1000:=h; omega)) (show n≤9223372036854775807 from (by have h:n≤1000:=h; omega)))
noncomputable def ork1 (np:Nat) (pn:Nat→Nat) (pv:Nat→Nat→Int) (ne:Nat) (ed:Nat→Ed):OrS:=orS [(107,o_pp),(108,o_ce),(102,o_ci),(78,o_cr)] []
noncomputable def hk1 (np:Nat) (pn:Nat→Nat) (pv:Nat→Nat→Int) (ne:Nat) (ed:Nat→Ed) (i:Int):St:=⟨[(2,.p 2 0),(3,.o 11),(4,.o 14),(15,.o 11),(16,.v (.n .i64 (np:Int))),(17,.v (.n .i64 i))],[(2,.blk [.nl,.nl]),(11,.reg 30 1 (.fo np (fP pn pv))),(14,.reg 61 12 (.fo ne (fE ed)))]⟩
set_option maxRecDepth 100000 in
theorem rzk1 (G:St→Option (Ret × Mem)) (K:Cont) (np:Nat) (pn:Nat→Nat) (pv:Nat→Nat→Int) (ne:Nat) (ed:Nat→Ed) (i:Int):stpT Tf 76 (ork1 np pn pv ne ed) (np + ne + 10) [] [0,1,0,1,1] K G (hk1 np pn pv ne ed i) =
 (bif (decide (i < (np:Int))) then (bif (inB i np) then (bif (gF1 cci eci ((pn (i).toNat),(fun w=>[.n .i64 (pv (i).toNat w)]))) then (bif (inB i np) then (G ⟨[(2,.p 2 0),(3,.o 11),(4,.o 14),(15,.o 11),(16,.v (.n .i64 (np:Int))),(17,.v (.n .i64 (vYW .i64 (i + 1))))],[(2,.blk [.nl,.nl]),(11,.reg 30 1 (.fo np (fun v=>qW (Nat.beq v (i).toNat) ((fP pn pv) (i).toNat) ((fP pn pv) v)))),(14,.reg 61 12 (.fo ne (fE ed)))]⟩)
 else none)
 else none)
 else none)
 else (K (.exit 0) ⟨[(2,.p 2 0),(3,.o 11),(4,.o 14)],[(2,.blk [.nl,.nl]),(11,.reg 30 1 (.fo np (fP pn pv))),(14,.reg 61 12 (.fo ne (fE ed)))]⟩)):=by kernel_rfl
theorem rdk1 (G:St→Option (Ret × Mem)) (K:Cont) (np:Nat) (pn:Nat→Nat) (pv:Nat→Nat→Int) (ne:Nat) (ed:Nat→Ed) (i:Int):stpT Tf 76 (ork1 np pn pv ne ed) (np + ne + 10) [] [0,1,0,1,1] K G (hk1 np pn pv ne ed i) =
 (bif (decide (i < (np:Int))) then (bif (inB i np) then (bif (gF1 cci eci ((pn (i).toNat),(fun w=>[.n .i64 (pv (i).toNat w)]))) then (bif (inB i np) then (G (hk1 np pn pv ne ed (vYW .i64 (i + 1))))
 else none)
 else none)
 else none)
 else (K (.exit 0) ⟨[(2,.p 2 0),(3,.o 11),(4,.o 14)],[(2,.blk [.nl,.nl]),(11,.reg 30 1 (.fo np (fP pn pv))),(14,.reg 61 12 (.fo ne (fE ed)))]⟩)):=by
 refine (rzk1 G K np pn pv ne ed i).trans ?_;simp only [zWD];rfl
theorem lpk1 (K:Cont) (np:Nat) (pn:Nat→Nat) (pv:Nat→Nat→Int) (ne:Nat) (ed:Nat→Ed) (hn:∀ j,j < np→pn j≤50∧np≤1000):LFT Tf 76 (ork1 np pn pv ne ed) (np + ne + 10) [] [0,1,0,1,1] K (np + ne + 10) (hk1 np pn pv ne ed 0)=(K (.exit 0) ⟨[(2,.p 2 0),(3,.o 11),(4,.o 14)],[(2,.blk [.nl,.nl]),(11,.reg 30 1 (.fo np (fP pn pv))),(14,.reg 61 12 (.fo ne (fE ed)))]⟩):=by
 refine (qKL (L:=LFT Tf 76 (ork1 np pn pv ne ed) (np + ne + 10) [] [0,1,0,1,1] K) (stp:=stpT Tf 76 (ork1 np pn pv ne ed) (np + ne + 10) [] [0,1,0,1,1] K) (fun _ _=>rfl) (fun (i:Nat) (_:Unit)=>hk1 np pn pv ne ed (i:Int)) (fun _ _=>True) (fun _ _=>true) (fun _ _=>()) (c:=np) (fun _=>(K (.exit 0) ⟨[(2,.p 2 0),(3,.o 11),(4,.o 14)],[(2,.blk [.nl,.nl]),(11,.reg 30 1 (.fo np (fP pn pv))),(14,.reg 61 12 (.fo ne (fE ed)))]⟩)) (fun _ _=>none) (fun G i f hi _ => ?_) (fun _ _ _ _ _=>trivial) (fun G f _ => ?_) np 0 (np + ne + 10) () (by omega) (by omega) trivial).trans (qYB np 0 _)
 ·have hn1:=hn i (by omega);refine (rdk1 G K np pn pv ne ed i).trans ?_;rw [vYK (show (i:Int) < (np:Int) by omega),zVC (by omega),zU (show i < np by omega),toN,jV (C:=cci) (t:=(pn i,fun w=>[.n .i64 (pv i w)])) ⟨by have:=hn i (by omega); omega,fun _ _=>rfl⟩,vYZ]
  all_goals rfl
 ·refine (rdk1 G K np pn pv ne ed np).trans ?_;rw [vYJ (show ¬ (np:Int) < (np:Int) by omega)];rfl
noncomputable def hk2 (np:Nat) (pn:Nat→Nat) (pv:Nat→Nat→Int) (ne:Nat) (ed:Nat→Ed) (i:Int):St:=⟨[(2,.p 2 0),(3,.o 11),(4,.o 14),(28,.o 14),(29,.v (.n .i64 (ne:Int))),(30,.v (.n .i64 i))],[(2,.blk [.nl,.nl]),(11,.reg 30 1 (.fo np (fP pn pv))),(14,.reg 61 12 (.fo ne (fE ed)))]⟩
set_option maxRecDepth 100000 in
theorem rzk2 (G:St→Option (Ret × Mem)) (K:Cont) (np:Nat) (pn:Nat→Nat) (pv:Nat→Nat→Int) (ne:Nat) (ed:Nat→Ed) (i:Int):stpT Tf 76 (ork1 np pn pv ne ed) (np + ne + 10) [] [0,1,0,1,1,1] K G (hk2 np pn pv ne ed i) =
 (bif (decide (i < (ne:Int))) then (bif (inB i ne) then (bif (gF1 ccr ecr (prO (ed (i).toNat))) then (bif (inB i ne) then (G ⟨[(2,.p 2 0),(3,.o 11),(4,.o 14),(28,.o 14),(29,.v (.n .i64 (ne:Int))),(30,.v (.n .i64 (vYW .i64 (i + 1))))],[(2,.blk [.nl,.nl]),(11,.reg 30 1 (.fo np (fP pn pv))),(14,.reg 61 12 (.fo ne (fun v=>qW (Nat.beq v (i).toNat) ((fE ed) (i).toNat) ((fE ed) v))))]⟩)
 else none)
 else none)
 else none)
 else (K (.exit 2) ⟨[(2,.p 2 0),(3,.o 11),(4,.o 14)],[(2,.blk [.nl,.nl]),(11,.reg 30 1 (.fo np (fP pn pv))),(14,.reg 61 12 (.fo ne (fE ed)))]⟩)):=by kernel_rfl
theorem rdk2 (G:St→Option (Ret × Mem)) (K:Cont) (np:Nat) (pn:Nat→Nat) (pv:Nat→Nat→Int) (ne:Nat) (ed:Nat→Ed) (i:Int):stpT Tf 76 (ork1 np pn pv ne ed) (np + ne + 10) [] [0,1,0,1,1,1] K G (hk2 np pn pv ne ed i) =
 (bif (decide (i < (ne:Int))) then (bif (inB i ne) then (bif (gF1 ccr ecr (prO (ed (i).toNat))) then (bif (inB i ne) then (G (hk2 np pn pv ne ed (vYW .i64 (i + 1))))
 else none)
 else none)
 else none)
 else (K (.exit 2) ⟨[(2,.p 2 0),(3,.o 11),(4,.o 14)],[(2,.blk [.nl,.nl]),(11,.reg 30 1 (.fo np (fP pn pv))),(14,.reg 61 12 (.fo ne (fE ed)))]⟩)):=by
 refine (rzk2 G K np pn pv ne ed i).trans ?_;simp only [zWD];rfl
theorem lpk2 (K:Cont) (np:Nat) (pn:Nat→Nat) (pv:Nat→Nat→Int) (ne:Nat) (ed:Nat→Ed) (hn:∀ i,i < ne→OkE (ed i)∧ne≤8192):LFT Tf 76 (ork1 np pn pv ne ed) (np + ne + 10) [] [0,1,0,1,1,1] K (np + ne + 10) (hk2 np pn pv ne ed 0)=(K (.exit 2) ⟨[(2,.p 2 0),(3,.o 11),(4,.o 14)],[(2,.blk [.nl,.nl]),(11,.reg 30 1 (.fo np (fP pn pv))),(14,.reg 61 12 (.fo ne (fE ed)))]⟩):=by
 refine (qKL (L:=LFT Tf 76 (ork1 np pn pv ne ed) (np + ne + 10) [] [0,1,0,1,1,1] K) (stp:=stpT Tf 76 (ork1 np pn pv ne ed) (np + ne + 10) [] [0,1,0,1,1,1] K) (fun _ _=>rfl) (fun (i:Nat) (_:Unit)=>hk2 np pn pv ne ed (i:Int)) (fun _ _=>True) (fun _ _=>true) (fun _ _=>()) (c:=ne) (fun _=>(K (.exit 2) ⟨[(2,.p 2 0),(3,.o 11),(4,.o 14)],[(2,.blk [.nl,.nl]),(11,.reg 30 1 (.fo np (fP pn pv))),(14,.reg 61 12 (.fo ne (fE ed)))]⟩)) (fun _ _=>none) (fun G i f hi _ => ?_) (fun _ _ _ _ _=>trivial) (fun G f _ => ?_) ne 0 (np + ne + 10) () (by omega) (by omega) trivial).trans (qYB ne 0 _)
 ·have hn1:=(hn i (by omega)).2;refine (rdk2 G K np pn pv ne ed i).trans ?_;rw [vYK (show (i:Int) < (ne:Int) by omega),zVC (by omega),zU (show i < ne by omega),toN,jV (C:=ccr) (t:=prO (ed i)) (hn i (by omega)).1.o,vYZ]
  all_goals rfl
 ·refine (rdk2 G K np pn pv ne ed ne).trans ?_;rw [vYJ (show ¬ (ne:Int) < (ne:Int) by omega)];rfl
noncomputable def yYV (np:Nat) (pn:Nat→Nat) (pv:Nat→Nat→Int) (ne:Nat) (ed:Nat→Ed):List (List Nat × yV):=[([0,1,0,1,1],sumF (fun _:Unit=>(hk1 np pn pv ne ed 0)) (fun _=>()) (fun _ K=>(bif Go.Rx.gP (∀ j,j < np→pn j≤50∧np≤1000) then (K (.exit 0) ⟨[(2,.p 2 0),(3,.o 11),(4,.o 14)],[(2,.blk [.nl,.nl]),(11,.reg 30 1 (.fo np (fP pn pv))),(14,.reg 61 12 (.fo ne (fE ed)))]⟩) else none))),([0,1,0,1,1,1],sumF (fun _:Unit=>(hk2 np pn pv ne ed 0)) (fun _=>()) (fun _ K=>(bif Go.Rx.gP (∀ i,i < ne→OkE (ed i)∧ne≤8192) then (K (.exit 2) ⟨[(2,.p 2 0),(3,.o 11),(4,.o 14)],[(2,.blk [.nl,.nl]),(11,.reg 30 1 (.fo np (fP pn pv))),(14,.reg 61 12 (.fo ne (fE ed)))]⟩) else none)))]
set_option maxRecDepth 100000 in
theorem pxclo (np:Nat) (pn:Nat→Nat) (pv:Nat→Nat→Int) (ne:Nat) (ed:Nat→Ed):qQI Tf (ork1 np pn pv ne ed) (qY (yYV np pn pv ne ed)) (np + ne + 10) 76 [.a [.lf np (fP pn pv),.lf ne (fE ed)]] =
 (bif (gF1 cpp epp (np,pn,pv)) then (bif (gF1 cce ece (ne,ed)) then (bif (gSt (hk1 np pn pv ne ed 0) (hk1 np pn pv ne ed 0)) then (bif Go.Rx.gP (∀ j,j < np→pn j≤50∧np≤1000) then (bif (gSt (hk2 np pn pv ne ed 0) (hk2 np pn pv ne ed 0)) then (bif Go.Rx.gP (∀ i,i < ne→OkE (ed i)∧ne≤8192) then some (.v (.a [.lf np (fP pn pv),.lf ne (fE ed)]),[])
 else none)
 else none)
 else none)
 else none)
 else none)
 else none):=by kernel_rfl
theorem snd_clo (np:Nat) (pn:Nat→Nat) (pv:Nat→Nat→Int) (ne:Nat) (ed:Nat→Ed) (hp:np≤1000) (hpn:∀ j,j < np→pn j≤50) (he:ne≤8192) (hed:∀ i,i < ne→OkE (ed i)):zY Tryz.prog 76 [.a [.lf np (fP pn pv),.lf ne (fE ed)]] (.v (.a [.lf np (fP pn pv),.lf ne (fE ed)])):=by
 refine qH (N:=(np + ne + 10)) (LO:=qY (yYV np pn pv ne ed)) jY yH (jK (l:=[(107,o_pp),(108,o_ce),(102,o_ci),(78,o_cr)]) (m:=[]) ⟨ok_pp,ok_ce,ok_ci,qWW,trivial⟩ trivial) (fun p S hp => ?_) ?_
 ·refine qX (L:=qZ Tf 76) (l:=(yYV np pn pv ne ed)) (show AllP _ (yYV np pn pv ne ed) from ⟨?_,?_,trivial⟩) p S hp
  ·dsimp only;refine jQ (T:=Tf) (o:=(ork1 np pn pv ne ed)) (f:=76) (LO:=qY []) (p:=[0,1,0,1,1]) jU ?_;intro t K r hr;obtain ⟨hg,hr⟩:=qQ hr;have hn:=Go.Rx.gP_spec hg;exact (lpk1 K np pn pv ne ed hn).trans hr
  ·dsimp only;refine jQ (T:=Tf) (o:=(ork1 np pn pv ne ed)) (f:=76) (LO:=qY []) (p:=[0,1,0,1,1,1]) jU ?_;intro t K r hr;obtain ⟨hg,hr⟩:=qQ hr;have hn:=Go.Rx.gP_spec hg;exact (lpk2 K np pn pv ne ed hn).trans hr
 ·refine (pxclo np pn pv ne ed).trans ?_;rw [jV (C:=cpp) (t:=(np,pn,pv)) hp,jV (C:=cce) (t:=(ne,ed)) he,zW,zW,Go.Rx.gP_of (show ∀ j,j < np→pn j≤50∧np≤1000 from fun j hj=>⟨hpn j hj,hp⟩),Go.Rx.gP_of (show ∀ i,i < ne→OkE (ed i)∧ne≤8192 from fun j hj=>⟨hed j hj,he⟩)];rfl
def cko:Nat × (Nat→Nat) × (Nat→Nat→Int) × Nat × (Nat→Ed)→Prop:=fun t=>match t with | (np,pn,_,ne,ed)=>np≤1000∧(∀ j,j < np→pn j≤50)∧ne≤8192∧∀ i,i < ne→OkE (ed i)
def eko:Nat × (Nat→Nat) × (Nat→Nat→Int) × Nat × (Nat→Ed)→List PV:=fun t=>match t with | (np,pn,pv,ne,ed)=>[.a [.lf np (fP pn pv),.lf ne (fE ed)]]
noncomputable def rko:Nat × (Nat→Nat) × (Nat→Nat→Int) × Nat × (Nat→Ed)→Ret:=fun t=>match t with | (np,pn,pv,ne,ed)=>.v (.a [.lf np (fP pn pv),.lf ne (fE ed)])
def dko:List PV→Nat × (Nat→Nat) × (Nat→Nat→Int) × Nat × (Nat→Ed):=fun ps=>match ps with
 | [.a [.lf n f,.lf m k]]=>(n,unPn f,unPv f,m,unFE k)
 | _=>(0,fun _=>0,fun _ _=>0,0,unFE fun _=>[])
noncomputable def o_ko:List PV→Option (Bool × Ret):=o_fm dko cko eko rko
theorem ok_ko:jH Tryz.prog 76 o_ko:=qQD fun t h=>by
 obtain ⟨np,pn,pv,ne,ed⟩:=t;exact snd_clo np pn pv ne ed h.1 h.2.1 h.2.2.1 h.2.2.2
noncomputable def ormrk (np:Nat) (pn:Nat→Nat) (pv:Nat→Nat→Int) (ne:Nat) (ed:Nat→Ed):OrS:=orS [(76,o_ko)] []
noncomputable def yYY (np:Nat) (pn:Nat→Nat) (pv:Nat→Nat→Int) (ne:Nat) (ed:Nat→Ed):List (List Nat × yV):=[]
set_option maxRecDepth 100000 in
theorem pxmrk (np:Nat) (pn:Nat→Nat) (pv:Nat→Nat→Int) (ne:Nat) (ed:Nat→Ed):qQI Tf (ormrk np pn pv ne ed) (qY (yYY np pn pv ne ed)) 60 44 [.a [.lf np (fP pn pv),.lf ne (fE ed)],.n .i64 (-1),.a [.n .i64 0,.zs,.n .i64 0,.n .i64 0,.zs,.n .i64 0,.zs,.zs]] =
 (bif (gF1 cko eko (np,pn,pv,ne,ed)) then some (.v (.t [.a [.lf np (fP pn pv),.lf ne (fE ed)],.b false]),[])
 else none):=by kernel_rfl
theorem snd_mrk (np:Nat) (pn:Nat→Nat) (pv:Nat→Nat→Int) (ne:Nat) (ed:Nat→Ed) (hp:np≤1000) (hpn:∀ j,j < np→pn j≤50) (he:ne≤8192) (hed:∀ i,i < ne→OkE (ed i)):zY Tryz.prog 44 [.a [.lf np (fP pn pv),.lf ne (fE ed)],.n .i64 (-1),.a [.n .i64 0,.zs,.n .i64 0,.n .i64 0,.zs,.n .i64 0,.zs,.zs]] (.v (.t [.a [.lf np (fP pn pv),.lf ne (fE ed)],.b false])):=by
 refine qH (N:=60) (LO:=qY (yYY np pn pv ne ed)) jY yH (jK (l:=[(76,o_ko)]) (m:=[]) ⟨ok_ko,trivial⟩ trivial) (fun p S hp => ?_) ?_
 ·refine qX (L:=qZ Tf 44) (l:=(yYY np pn pv ne ed)) (show AllP _ (yYY np pn pv ne ed) from trivial) p S hp
 ·refine (pxmrk np pn pv ne ed).trans ?_;rw [jV (C:=cko) (t:=(np,pn,pv,ne,ed)) ⟨hp,hpn,he,hed⟩];rfl
end Go.Proofs.YtklmegnpfhiibaaGreat.Xm
namespace Go.Proofs.YtklmegnpfhiibaaGreat.Bc
open Go.Rx Rt Go.Sx Go.RowKit Ba Bb
def nsR (σ:St) (k:Nat):Nat→Go.Rx.Rows:=match qV σ.M k with
 | some (.nst _ _ _ (.fo _ f) _)=>f
 | _=>fun _=>.l []
def nsN (σ:St) (k:Nat):Nat→Nat:=fun u=>(nsR σ k u).len
def nsI (σ:St) (k c:Nat):Nat→Nat→Int:=fun u w=>match nsR σ k u with
 | .fo _ f=>(match (f w)[c]? with | some (.n _ i)=>i | _=>0)
 | _=>0
noncomputable def orlk (N:Nat) (g:Gr) (m:Int):OrS:=orS [(117,o_us)] []
noncomputable def hlk (N:Nat) (g:Gr) (m:Int) (i:Int) (ln:Nat→Nat) (lt:Nat→Nat→Int) (lc:Nat→Nat→Int):St:=⟨[(1,.v (.n .i64 m)),(2,.p 2 0),(5,.o 11),(14,.v (.n .i64 (g.ne:Int))),(15,.v (.n .i64 i))],[(2,.blk [.v (.lf g.np g.pt),.v (.lf g.ne (fE g.ed))]),(11,.nst 159 161 2 (.fo (g.np:Int).toNat fun u=>(.fo (ln u) (fun w=>[.n .i64 (lt u w),.n .i64 (lc u w)]))) none)]⟩
set_option maxRecDepth 100000 in
theorem rdlk (G:St→Option (Ret × Mem)) (K:Cont) (N:Nat) (g:Gr) (m:Int) (i:Int) (ln:Nat→Nat) (lt:Nat→Nat→Int) (lc:Nat→Nat→Int):stpT Tf 83 (orlk N g m) N [] [0,1,0,1,1] K G (hlk N g m i ln lt lc) =
 (bif (decide (i < (g.ne:Int))) then (bif (inB i g.ne) then (bif (gF1 cus eus (((g.ed (i).toNat).s),m)) then (bif (usB ((g.ed (i).toNat).s) m) then (bif (inB (g.ed (i).toNat).u (g.np:Int).toNat) then (bif (decide ((ln (g.ed (i).toNat).u.toNat) + 1≤1000000)) then (bif (inB (g.ed (i).toNat).u (g.np:Int).toNat) then (bif (Nat.beq (g.ed (i).toNat).u.toNat (g.ed (i).toNat).u.toNat) then (bif (Nat.beq (g.ed (i).toNat).u.toNat (g.ed (i).toNat).u.toNat) then (bif (inB (g.ed (i).toNat).v (g.np:Int).toNat) then (bif (decide ((bif (Nat.beq (g.ed (i).toNat).v.toNat (g.ed (i).toNat).u.toNat) then ((ln (g.ed (i).toNat).u.toNat) + 1) else (ln (g.ed (i).toNat).v.toNat)) + 1≤1000000)) then (bif (inB (g.ed (i).toNat).v (g.np:Int).toNat) then (bif (Nat.beq (g.ed (i).toNat).v.toNat (g.ed (i).toNat).v.toNat) then (bif (Nat.beq (g.ed (i).toNat).v.toNat (g.ed (i).toNat).v.toNat) then (G (hlk N g m (vYW .i64 (i + 1)) (fun u=>(bif (Nat.beq u (g.ed (i).toNat).v.toNat) then ((bif (Nat.beq (g.ed (i).toNat).v.toNat (g.ed (i).toNat).u.toNat) then ((ln (g.ed (i).toNat).u.toNat) + 1) else (ln (g.ed (i).toNat).v.toNat)) + 1) else (bif (Nat.beq u (g.ed (i).toNat).u.toNat) then ((ln (g.ed (i).toNat).u.toNat) + 1) else (ln u)))) (fun u w=>(bif (Nat.beq u (g.ed (i).toNat).v.toNat) then (bif (Nat.beq w (bif (Nat.beq (g.ed (i).toNat).v.toNat (g.ed (i).toNat).u.toNat) then ((ln (g.ed (i).toNat).u.toNat) + 1) else (ln (g.ed (i).toNat).v.toNat))) then (g.ed (i).toNat).u else (bif (Nat.beq (g.ed (i).toNat).v.toNat (g.ed (i).toNat).u.toNat) then (bif (Nat.beq w (ln (g.ed (i).toNat).u.toNat)) then (g.ed (i).toNat).v else (lt (g.ed (i).toNat).u.toNat w)) else (lt (g.ed (i).toNat).v.toNat w))) else (bif (Nat.beq u (g.ed (i).toNat).u.toNat) then (bif (Nat.beq w (ln (g.ed (i).toNat).u.toNat)) then (g.ed (i).toNat).v else (lt (g.ed (i).toNat).u.toNat w)) else (lt u w)))) (fun u w=>(bif (Nat.beq u (g.ed (i).toNat).v.toNat) then (bif (Nat.beq w (bif (Nat.beq (g.ed (i).toNat).v.toNat (g.ed (i).toNat).u.toNat) then ((ln (g.ed (i).toNat).u.toNat) + 1) else (ln (g.ed (i).toNat).v.toNat))) then (g.ed (i).toNat).c else (bif (Nat.beq (g.ed (i).toNat).v.toNat (g.ed (i).toNat).u.toNat) then (bif (Nat.beq w (ln (g.ed (i).toNat).u.toNat)) then (g.ed (i).toNat).c else (lc (g.ed (i).toNat).u.toNat w)) else (lc (g.ed (i).toNat).v.toNat w))) else (bif (Nat.beq u (g.ed (i).toNat).u.toNat) then (bif (Nat.beq w (ln (g.ed (i).toNat).u.toNat)) then (g.ed (i).toNat).c else (lc (g.ed (i).toNat).u.toNat w)) else (lc u w))))))
 else none)
 else none)
 else none)
 else none)
 else none)
 else none)
 else none)
 else none)
 else none)
 else none)
 else (G (hlk N g m (vYW .i64 (i + 1)) (fun u=>(ln u)) (fun u w=>(lt u w)) (fun u w=>(lc u w)))))
 else none)
 else none)
 else (K (.exit 0) ⟨[(5,.o 11)],[(11,.reg 159 1 (.fo (g.np:Int).toNat (fun u=>[.lf (ln u) (fun w=>[.n .i64 (lt u w),.n .i64 (lc u w)])])))]⟩)):=by kernel_rfl
noncomputable def dclk (g:Gr) (m:Int):(Int × (Nat→Nat) × (Nat→Nat→Int) × (Nat→Nat→Int))→(Int × (Nat→Nat) × (Nat→Nat→Int) × (Nat→Nat→Int)) ⊕ (Nat × Int × (Nat→Nat) × (Nat→Nat→Int) × (Nat→Nat→Int)):=fun t=>match t with | (i,ln,lt,lc)=>(bif (decide (i < (g.ne:Int))) then (bif (inB i g.ne) then (bif (gF1 cus eus (((g.ed (i).toNat).s),m)) then (bif (usB ((g.ed (i).toNat).s) m) then (bif (inB (g.ed (i).toNat).u (g.np:Int).toNat) then (bif (decide ((ln (g.ed (i).toNat).u.toNat) + 1≤1000000)) then (bif (Nat.beq (g.ed (i).toNat).u.toNat (g.ed (i).toNat).u.toNat) then (bif (inB (g.ed (i).toNat).v (g.np:Int).toNat) then (bif (decide ((bif (Nat.beq (g.ed (i).toNat).v.toNat (g.ed (i).toNat).u.toNat) then ((ln (g.ed (i).toNat).u.toNat) + 1) else (ln (g.ed (i).toNat).v.toNat)) + 1≤1000000)) then (bif (Nat.beq (g.ed (i).toNat).v.toNat (g.ed (i).toNat).v.toNat) then (.inl ((vYW .i64 (i + 1)),(fun u=>(bif (Nat.beq u (g.ed (i).toNat).v.toNat) then ((bif (Nat.beq (g.ed (i).toNat).v.toNat (g.ed (i).toNat).u.toNat) then ((ln (g.ed (i).toNat).u.toNat) + 1) else (ln (g.ed (i).toNat).v.toNat)) + 1) else (bif (Nat.beq u (g.ed (i).toNat).u.toNat) then ((ln (g.ed (i).toNat).u.toNat) + 1) else (ln u)))),(fun u w=>(bif (Nat.beq u (g.ed (i).toNat).v.toNat) then (bif (Nat.beq w (bif (Nat.beq (g.ed (i).toNat).v.toNat (g.ed (i).toNat).u.toNat) then ((ln (g.ed (i).toNat).u.toNat) + 1) else (ln (g.ed (i).toNat).v.toNat))) then (g.ed (i).toNat).u else (bif (Nat.beq (g.ed (i).toNat).v.toNat (g.ed (i).toNat).u.toNat) then (bif (Nat.beq w (ln (g.ed (i).toNat).u.toNat)) then (g.ed (i).toNat).v else (lt (g.ed (i).toNat).u.toNat w)) else (lt (g.ed (i).toNat).v.toNat w))) else (bif (Nat.beq u (g.ed (i).toNat).u.toNat) then (bif (Nat.beq w (ln (g.ed (i).toNat).u.toNat)) then (g.ed (i).toNat).v else (lt (g.ed (i).toNat).u.toNat w)) else (lt u w)))),(fun u w=>(bif (Nat.beq u (g.ed (i).toNat).v.toNat) then (bif (Nat.beq w (bif (Nat.beq (g.ed (i).toNat).v.toNat (g.ed (i).toNat).u.toNat) then ((ln (g.ed (i).toNat).u.toNat) + 1) else (ln (g.ed (i).toNat).v.toNat))) then (g.ed (i).toNat).c else (bif (Nat.beq (g.ed (i).toNat).v.toNat (g.ed (i).toNat).u.toNat) then (bif (Nat.beq w (ln (g.ed (i).toNat).u.toNat)) then (g.ed (i).toNat).c else (lc (g.ed (i).toNat).u.toNat w)) else (lc (g.ed (i).toNat).v.toNat w))) else (bif (Nat.beq u (g.ed (i).toNat).u.toNat) then (bif (Nat.beq w (ln (g.ed (i).toNat).u.toNat)) then (g.ed (i).toNat).c else (lc (g.ed (i).toNat).u.toNat w)) else (lc u w)))))) else (.inr (1,(i,ln,lt,lc)))) else (.inr (1,(i,ln,lt,lc)))) else (.inr (1,(i,ln,lt,lc)))) else (.inr (1,(i,ln,lt,lc)))) else (.inr (1,(i,ln,lt,lc)))) else (.inr (1,(i,ln,lt,lc)))) else (.inl ((vYW .i64 (i + 1)),(fun u=>(ln u)),(fun u w=>(lt u w)),(fun u w=>(lc u w))))) else (.inr (1,(i,ln,lt,lc)))) else (.inr (1,(i,ln,lt,lc)))) else (.inr (0,(i,ln,lt,lc))))
noncomputable def kxlk (N:Nat) (g:Gr) (m:Int) (K:Cont) (w9:Nat × Int × (Nat→Nat) × (Nat→Nat→Int) × (Nat→Nat→Int)):Option (Ret × Mem):=bif Nat.beq w9.1 0 then (K (.exit 0) ⟨[(5,.o 11)],[(11,.reg 159 1 (.fo (g.np:Int).toNat (fun u=>[.lf (w9.2.2.1 u) (fun w=>[.n .i64 (w9.2.2.2.1 u w),.n .i64 (w9.2.2.2.2 u w)])])))]⟩) else none
theorem wllk (K:Cont) (N:Nat) (g:Gr) (m:Int):∀ n9 (t:(Int × (Nat→Nat) × (Nat→Nat→Int) × (Nat→Nat→Int))),LFT Tf 83 (orlk N g m) N [] [0,1,0,1,1] K n9 (hlk N g m t.1 t.2.1 t.2.2.1 t.2.2.2)=(qG (dclk g m) n9 t).bind (kxlk N g m K):=fun n9 t=>by
 refine qYG (L:=LFT Tf 83 (orlk N g m) N [] [0,1,0,1,1] K) (stp:=stpT Tf 83 (orlk N g m) N [] [0,1,0,1,1] K) (fun _ _=>rfl) (fun _=>rfl) (fun t=>hlk N g m t.1 t.2.1 t.2.2.1 t.2.2.2) (fun _=>True) (dclk g m) (kxlk N g m K) (fun G t _ => ?_) (fun _ _ _ _=>trivial) n9 t trivial;obtain ⟨i,ln,lt,lc⟩:=t;refine (rdlk G K N g m i ln lt lc).trans ?_;dsimp only [dclk];cases (decide (i < (g.ne:Int)))
 ·rfl
 ·cases (inB i g.ne)
  ·rfl
  ·cases (gF1 cus eus (((g.ed (i).toNat).s),m))
   ·rfl
   ·cases (usB ((g.ed (i).toNat).s) m)
    ·rfl
    ·cases (inB (g.ed (i).toNat).u (g.np:Int).toNat)
     ·rfl
     ·cases (decide ((ln (g.ed (i).toNat).u.toNat) + 1≤1000000))
      ·rfl
      ·cases (Nat.beq (g.ed (i).toNat).u.toNat (g.ed (i).toNat).u.toNat)
       ·rfl
       ·cases (inB (g.ed (i).toNat).v (g.np:Int).toNat)
        ·rfl
        ·cases (decide ((bif (Nat.beq (g.ed (i).toNat).v.toNat (g.ed (i).toNat).u.toNat) then ((ln (g.ed (i).toNat).u.toNat) + 1) else (ln (g.ed (i).toNat).v.toNat)) + 1≤1000000))
         ·rfl
         ·cases (Nat.beq (g.ed (i).toNat).v.toNat (g.ed (i).toNat).v.toNat)
          ·rfl
          ·rfl
noncomputable def zHU (N:Nat) (g:Gr) (m:Int) (t:(Int × (Nat→Nat) × (Nat→Nat→Int) × (Nat→Nat→Int))):Bool:=(qG (dclk g m) N t).isSome
noncomputable def zKJ (N:Nat) (g:Gr) (m:Int) (t:(Int × (Nat→Nat) × (Nat→Nat→Int) × (Nat→Nat→Int))):Nat × Int × (Nat→Nat) × (Nat→Nat→Int) × (Nat→Nat→Int):=(qG (dclk g m) N t).getD (99,t)
theorem lwlk (K:Cont) (N:Nat) (g:Gr) (m:Int) (t:(Int × (Nat→Nat) × (Nat→Nat→Int) × (Nat→Nat→Int))) (hg:zHU N g m t=true):LFT Tf 83 (orlk N g m) N [] [0,1,0,1,1] K N (hlk N g m t.1 t.2.1 t.2.2.1 t.2.2.2)=kxlk N g m K (zKJ N g m t):=by
 refine (wllk K N g m N t).trans ?_;unfold zHU at hg;unfold zKJ;cases h:qG (dclk g m) N t with
 | none=>rw [h] at hg; cases hg
 | some y=>rfl
end Go.Proofs.YtklmegnpfhiibaaGreat.Bc
namespace Go.Proofs.YtklmegnpfhiibaaGreat.Bn
open Go.Rx Rt Go.Sx Go.RowKit Ba Bb Bc
theorem qHD {y n:Nat} {z:Int} (h:z=(y:Int)) (hn:y < n):inB z n=true:=by subst h; exact zU hn
def tcP (t c:Nat→Int):Nat→List PV:=fun w=>[.n .i64 (t w),.n .i64 (c w)]
abbrev Lk:=(Nat→Nat) × (Nat→Nat→Int) × (Nat→Nat→Int)
def addN (l:Nat→Nat) (u:Nat):Nat→Nat:=fun x=>bif Nat.beq x u then l u + 1 else l x
def addV (l:Nat→Nat) (t:Nat→Nat→Int) (u:Nat) (y:Int):Nat→Nat→Int:=fun x w=>bif Nat.beq x u then (bif Nat.beq w (l u) then y else t u w) else t x w
def addL (s:Lk) (u:Nat) (y c:Int):Lk:=(addN s.1 u,addV s.1 s.2.1 u y,addV s.1 s.2.2 u c)
def HasL (s:Lk) (x:Nat) (y c:Int):Prop:=∃ w,w < s.1 x∧s.2.1 x w=y∧s.2.2 x w=c
theorem has_add {s:Lk} {u x:Nat} {y0 c0 y c:Int}:HasL (addL s u y0 c0) x y c ↔ HasL s x y c ∨ (x=u∧y=y0∧c=c0):=by
 unfold HasL addL addN addV;by_cases e:x=u
 ·subst e;simp only [Nat.beq_refl,vYZ,true_and];refine ⟨fun ⟨w,h1,h2,h3⟩ => ?_,fun h => ?_⟩
  ·by_cases e:w=s.1 x
   ·subst e; simp only [Nat.beq_refl,vYZ] at h2 h3; exact .inr ⟨h2.symm,h3.symm⟩
   ·simp only [qJH,vYJ e,vYY] at h2 h3; exact .inl ⟨w,by omega,h2,h3⟩
  ·rcases h with ⟨w,h1,h2,h3⟩ | ⟨rfl,rfl⟩
   ·refine ⟨w,by omega,?_,?_⟩ <;> simp only [qJH,vYJ (show ¬ w=s.1 x by omega),vYY] <;> assumption
   ·exact ⟨s.1 x,by omega,by simp only [Nat.beq_refl,vYZ],by simp only [Nat.beq_refl,vYZ]⟩
 ·simp only [qJH,vYJ e,vYY,false_and,or_false];simp only [e,false_and,or_false]
theorem add_le {s:Lk} {u:Nat} {y c:Int} {k:Nat} (h:∀ x,s.1 x≤k):∀ x,(addL s u y c).1 x≤k + 1:=fun x=>by
 have h1:=h x; have h2:=h u;show (bif Nat.beq x u then s.1 u + 1 else s.1 x)≤k + 1;cases Nat.beq x u <;> simp only [vYZ,vYY] <;> omega
def nxL (g:Gr) (m:Int) (i:Nat) (s:Lk):Lk:=bif usB (g.ed i).s m then addL (addL s (g.ed i).u.toNat (g.ed i).v (g.ed i).c) (g.ed i).v.toNat (g.ed i).u (g.ed i).c else s
def lkO (g:Gr) (m:Int):Lk:=qQL (nxL g m) g.ne 0 (fun _=>0,fun _ _=>0,fun _ _=>0)
def Jn (g:Gr) (m:Int) (k:Nat) (x:Nat) (y c:Int):Prop:=∃ e,e < k∧usB (g.ed e).s m=true∧(g.ed e).c=c∧(((g.ed e).u.toNat=x∧(g.ed e).v=y) ∨ ((g.ed e).v.toNat=x∧(g.ed e).u=y))
theorem nxL_inv {g:Gr} {m:Int} {i:Nat} {s:Lk} (h:(∀ x,s.1 x≤2 * i)∧∀ x y c,HasL s x y c ↔ Jn g m i x y c):(∀ x,(nxL g m i s).1 x≤2 * (i + 1))∧∀ x y c,HasL (nxL g m i s) x y c ↔ Jn g m (i + 1) x y c:=by
 unfold nxL;cases hu:usB (g.ed i).s m with
 | false =>
  simp only [vYY];refine ⟨fun x=>by have:=h.1 x; omega,fun x y c=>(h.2 x y c).trans ⟨fun ⟨e,h1,h2⟩=>⟨e,by omega,h2⟩,fun ⟨e,h1,h2⟩ => ?_⟩⟩;by_cases ei:e=i
  ·subst ei; rw [hu] at h2; cases h2.1
  ·exact ⟨e,by omega,h2⟩
 | true =>
  simp only [vYZ];refine ⟨fun x=>by have:=add_le (u:=(g.ed i).v.toNat) (y:=(g.ed i).u) (c:=(g.ed i).c) (add_le (u:=(g.ed i).u.toNat) (y:=(g.ed i).v) (c:=(g.ed i).c) h.1) x; omega,fun x y c => ?_⟩;rw [has_add,has_add,h.2];refine ⟨fun hh => ?_,fun ⟨e,h1,h2,h3,h4⟩ => ?_⟩
  ·rcases hh with (⟨e,h1,h2⟩ | ⟨e1,e2,e3⟩) | ⟨e1,e2,e3⟩
   ·exact ⟨e,by omega,h2⟩
   ·exact ⟨i,by omega,hu,e3.symm,.inl ⟨e1.symm,e2.symm⟩⟩
   ·exact ⟨i,by omega,hu,e3.symm,.inr ⟨e1.symm,e2.symm⟩⟩
  ·by_cases ei:e=i
   ·subst ei;rcases h4 with ⟨a1,a2⟩ | ⟨a1,a2⟩
    ·exact .inl (.inr ⟨a1.symm,a2.symm,h3.symm⟩)
    ·exact .inr ⟨a1.symm,a2.symm,h3.symm⟩
   ·exact .inl (.inl ⟨e,by omega,h2,h3,h4⟩)
theorem qXH {σ τ:Type} {dec:Int × τ→(Int × τ) ⊕ (Nat × σ)} {nx:Nat→τ→τ} {Q:Nat→τ→Prop} {out:τ→σ} {c:Nat} (h1:∀ i s,i < c→Q i s→dec ((i:Int),s)=.inl (((i + 1:Nat):Int),nx i s)) (hq:∀ i s,i < c→Q i s→Q (i + 1) (nx i s)) (h2:∀ s,Q c s→dec ((c:Int),s)=.inr (0,out s)) :
  ∀ (d i N:Nat) (s:τ),i + d=c→d < N→Q i s→qG dec N ((i:Int),s)=some (0,out (qQL nx d i s))
 | _,_,0,_,_,h,_=>by omega
 | 0,i,N + 1,s,hi,hN,hs=>by
  obtain rfl:i=c:=by omega
  rw [qG,h2 s hs]; rfl
 | d + 1,i,N + 1,s,hi,hN,hs=>by
  rw [qG,h1 i s (by omega) hs];exact qXH h1 hq h2 d (i + 1) N (nx i s) (by omega) (by omega) (hq i s (by omega) hs)
theorem zKD (g:Gr) (m:Int):(∀ x,(lkO g m).1 x≤2 * g.ne)∧∀ x y c,HasL (lkO g m) x y c ↔ Jn g m g.ne x y c :=
 qZX (Q:=fun (i:Nat) (s:Lk)=>(∀ x,s.1 x≤2 * i)∧∀ x y c,HasL s x y c ↔ Jn g m i x y c) (c:=g.ne) (nx:=nxL g m) (fun i s _ h=>nxL_inv h) g.ne 0 _ (by omega)
  ⟨fun _=>Nat.le_refl _,fun x y c=>⟨fun ⟨w,h,_⟩=>absurd h (Nat.not_lt_zero w),fun ⟨e,h,_⟩=>absurd h (Nat.not_lt_zero e)⟩⟩
theorem qXU {g:Gr} (h:wfB g=true) {i:Nat} (_:i < g.ne):0≤(g.ed i).u∧(g.ed i).u < (g.ed i).v∧(g.ed i).v < (g.np:Int)∧0≤(g.ed i).c∧(g.ed i).c≤1099511627776:=by
 unfold wfB at h;simp only [vQJ] at h
 have:=allN_iff.1 h.2.2 i (by omega) (by omega)
 unfold okE isP at this;simp only [vQJ,Bool.not_eq_true',decide_eq_true_eq,decide_eq_false_iff_not] at this;omega
theorem dclk_step {g:Gr} {m:Int} (h:wfB g=true) {i:Nat} (hi:i < g.ne) (_:g.ne≤8192) {s:Lk} (hs:∀ x,s.1 x≤2 * i):dclk g m ((i:Int),s)=.inl (((i + 1:Nat):Int),nxL g m i s):=by
 obtain ⟨e1,e2,e3,e4,e5⟩:=qXU h hi;obtain ⟨ln,lt,lc⟩:=s;have hU:inB (g.ed i).u g.np=true:=qHD (y:=(g.ed i).u.toNat) (by omega) (by omega);have hV:inB (g.ed i).v g.np=true:=qHD (y:=(g.ed i).v.toNat) (by omega) (by omega);have b1:=hs (g.ed i).u.toNat;have b2:=hs (g.ed i).v.toNat;dsimp only at b1 b2;have hb:decide ((bif (Nat.beq (g.ed i).v.toNat (g.ed i).u.toNat) then ((ln (g.ed i).u.toNat) + 1) else (ln (g.ed i).v.toNat)) + 1≤1000000)=true:=by
  cases Nat.beq (g.ed i).v.toNat (g.ed i).u.toNat <;> simp <;> omega
 dsimp only [dclk];unfold nxL;simp only [toN,vYK (show (i:Int) < (g.ne:Int) by omega),zU hi,jV (C:=cus) (t:=_) trivial,jG (show i < 1000000 by omega),hU,hV,hb,vYK (show ln (g.ed i).u.toNat + 1≤1000000 by omega),Nat.beq_refl,vYZ];cases usB (g.ed i).s m <;> rfl
theorem dclk_end {g:Gr} {m:Int} {s:Lk}:dclk g m ((g.ne:Int),s)=.inr (0,(g.ne:Int),s):=by
 obtain ⟨ln,lt,lc⟩:=s;dsimp only [dclk];rw [vYJ (by omega)]; rfl
theorem it_lk {g:Gr} {m:Int} (h:wfB g=true) (hn:g.ne≤8192):qG (dclk g m) (g.ne + 1) (0,(fun _=>0),(fun _ _=>0),(fun _ _=>0))=some (0,(g.ne:Int),lkO g m) :=
 qXH (dec:=dclk g m) (nx:=nxL g m) (Q:=fun (i:Nat) (s:Lk)=>(∀ x,s.1 x≤2 * i)∧∀ x y c,HasL s x y c ↔ Jn g m i x y c) (out:=fun s=>((g.ne:Int),s)) (c:=g.ne) (fun i s hi hq=>dclk_step h hi hn hq.1) (fun i s _ hq=>nxL_inv hq) (fun s _=>dclk_end) g.ne 0 (g.ne + 1) _ (by omega) (by omega)
  ⟨fun _=>Nat.le_refl _,fun x y c=>⟨fun ⟨w,h,_⟩=>absurd h (Nat.not_lt_zero w),fun ⟨e,h,_⟩=>absurd h (Nat.not_lt_zero e)⟩⟩
noncomputable def lslk (N:Nat) (g:Gr) (m:Int):List (List Nat × yV):=[([0,1,0,1,1],sumF (fun t:(Int × (Nat→Nat) × (Nat→Nat→Int) × (Nat→Nat→Int))=>(hlk N g m t.1 t.2.1 t.2.2.1 t.2.2.2)) (fun σ=>(slI σ 15,nsN σ 11,nsI σ 11 0,nsI σ 11 1)) (fun t K=>(bif zHU N g m t then kxlk N g m K (zKJ N g m t) else none)))]
set_option maxRecDepth 100000 in
theorem pxlk (N:Nat) (g:Gr) (m:Int):qQI Tf (orlk N g m) (qY (lslk N g m)) N 83 [.a (gP g),.n .i64 m] =
 (bif (decide (0≤(g.np:Int))) then (bif (decide ((g.np:Int)≤(g.np:Int))) then (bif (decide ((g.np:Int)≤1000000)) then (bif (gSt (hlk N g m 0 (fun _=>0) (fun u w=>0) (fun u w=>0)) (hlk N g m 0 (fun _=>0) (fun u w=>0) (fun u w=>0))) then (bif (zHU N g m (0,(fun _=>0),(fun u w=>0),(fun u w=>0))) then (bif (Nat.beq (zKJ N g m (0,(fun _=>0),(fun u w=>0),(fun u w=>0))).1 0) then some (.ow 159 1 (.fo (g.np:Int).toNat (fun u=>[.lf ((zKJ N g m (0,(fun _=>0),(fun u w=>0),(fun u w=>0))).2.2.1 u) (fun w=>[.n .i64 ((zKJ N g m (0,(fun _=>0),(fun u w=>0),(fun u w=>0))).2.2.2.1 u w),.n .i64 ((zKJ N g m (0,(fun _=>0),(fun u w=>0),(fun u w=>0))).2.2.2.2 u w)])])),[])
 else none)
 else none)
 else none)
 else none)
 else none)
 else none):=by kernel_rfl
theorem snd_lk (N:Nat) (g:Gr) (m:Int) (hN:N=g.ne + 1) (h:wfB g=true) (hp:g.np≤1000000) (hn:g.ne≤8192):zY Tryz.prog 83 [.a (gP g),.n .i64 m] (.ow 159 1 (.fo g.np (fun u=>[.lf ((lkO g m).1 u) (tcP ((lkO g m).2.1 u) ((lkO g m).2.2 u))]))):=by
 refine qH (N:=N) (LO:=qY (lslk N g m)) jY yH (jK (l:=[(117,o_us)]) (m:=[]) ⟨ok_us,trivial⟩ trivial) (fun p S hp => ?_) ?_
 ·refine qX (L:=qZ Tf 83) (l:=(lslk N g m)) (show AllP _ (lslk N g m) from ⟨?_,trivial⟩) p S hp
  ·dsimp only;refine jQ (T:=Tf) (o:=(orlk N g m)) (f:=83) (LO:=qY []) (p:=[0,1,0,1,1]) jU ?_;intro t K r hr;obtain ⟨hg,hr⟩:=qQ hr
   skip
   exact (lwlk K N g m t hg).trans hr
 ·refine (pxlk N g m).trans ?_;subst hN;have hi:=it_lk (m:=m) h hn;have ho:zKJ (g.ne + 1) g m (0,(fun _=>0),(fun u w=>0),(fun u w=>0))=(0,(g.ne:Int),lkO g m):=by unfold zKJ; rw [hi]; rfl
  have hk:zHU (g.ne + 1) g m (0,(fun _=>0),(fun u w=>0),(fun u w=>0))=true:=by unfold zHU; rw [hi]; rfl
  simp only [vYK (show (0:Int)≤(g.np:Int) by omega),vYK (show (g.np:Int)≤(g.np:Int) by omega),vYK (show (g.np:Int)≤1000000 by omega),zW,hk,ho,toN,vYZ,Nat.beq_refl];rfl
end Go.Proofs.YtklmegnpfhiibaaGreat.Bn

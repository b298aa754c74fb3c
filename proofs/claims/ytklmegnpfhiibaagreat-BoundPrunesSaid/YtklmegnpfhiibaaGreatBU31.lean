/- Part 31 of the texts behind the last one: rules and contracts. No condition. -/
import Derived.Test.YtklmegnpfhiibaaGreatBU30
open Bool renaming and_eq_true → vQJ, and_self → vZQ
open Go.IntKind renaming wrap → vYV
namespace Go.Proofs.YtklmegnpfhiibaaGreat.Xp
open Go.Rx Rt Go.Sx Go.RowKit Od Nb Nc Xb Xc Bb Xe Xf Xg Xh Xi Xk Xm Xn Xo
noncomputable def orsi (k:Nat) (q:Nat→Int):OrS:=orS [] []
noncomputable def hsi (k:Nat) (q:Nat→Int) (i:Int):St:=⟨[(0,.v (.lf k (fQ q))),(1,.v (.lf k (fQ q))),(5,.v (.n .i64 i))],[]⟩
set_option maxRecDepth 100000 in
theorem rdsi (G:St→Option (Ret × Mem)) (K:Cont) (k:Nat) (q:Nat→Int) (i:Int):stpT Tf 36 (orsi k q) (k + 10) [] [0,1,0,1,1] K G (hsi k q i) =
 (bif (decide (i < (k:Int))) then (bif (inB i k) then (bif (inB i k) then (bif (!decide ((q (i).toNat)=(q (i).toNat))) then (K .ret ⟨[(4,.v (.b false))],[]⟩)
 else (G (hsi k q (vYV .i64 (i + 1)))))
 else none)
 else none)
 else (K (.exit 0) ⟨[],[]⟩)):=by kernel_rfl
theorem lpsi (K:Cont) (k:Nat) (q:Nat→Int) (_:k≤9223372036854775000):LFT Tf 36 (orsi k q) (k + 10) [] [0,1,0,1,1] K (k + 10) (hsi k q 0)=bif (allN (fun i:Nat=>true) k 0) then (K (.exit 0) ⟨[],[]⟩) else (K .ret ⟨[(4,.v (.b false))],[]⟩):=by
 refine (qYW (L:=LFT Tf 36 (orsi k q) (k + 10) [] [0,1,0,1,1] K) (stp:=stpT Tf 36 (orsi k q) (k + 10) [] [0,1,0,1,1] K) (fun _ _=>rfl) (fun (i:Nat) (_:Unit)=>hsi k q (i:Int)) (fun _ _=>True) (fun (i:Nat) _=>true) (fun _ _=>()) (c:=k) (fun _=>(K (.exit 0) ⟨[],[]⟩)) (fun i _=>(K .ret ⟨[(4,.v (.b false))],[]⟩)) (fun G i f hi _ => ?_) (fun _ _ _ _ _=>trivial) (fun G f _ => ?_) k 0 (k + 10) () (by omega) (by omega) trivial).trans ((qZV _ _ _ _ _).trans (kW _ _ _ _ _))
 ·refine (rdsi G K k q i).trans ?_;rw [vYU (show (i:Int) < (k:Int) by omega),qVE (by omega),zX (show i < k by omega),toN,vYU (show q i=q i from rfl)]
  all_goals rfl
 ·refine (rdsi G K k q k).trans ?_;rw [vYK (show ¬ (k:Int) < (k:Int) by omega)];rfl
noncomputable def yZZ (k:Nat) (q:Nat→Int):List (List Nat × yW):=[([0,1,0,1,1],sumF (fun _:Unit=>(hsi k q 0)) (fun _=>()) (fun _ K=>(bif (decide (k≤9223372036854775000)) then (bif (allN (fun i:Nat=>true) k 0) then (K (.exit 0) ⟨[],[]⟩) else (K .ret ⟨[(4,.v (.b false))],[]⟩)) else none)))]
set_option maxRecDepth 100000 in
theorem pxsiw (k:Nat) (q:Nat→Int):qQU Tf (orsi k q) (qJ (yZZ k q)) (k + 10) 36 [.lf k (fQ q),.lf k (fQ q)] =
 (bif (!decide ((k:Int)=(k:Int))) then some (.v (.b false),[])
 else (bif (gSt (hsi k q 0) (hsi k q 0)) then (bif (decide (k≤9223372036854775000)) then (bif (allN (fun i:Nat=>true) k 0) then some (.v (.b true),[])
 else some (.v (.b false),[]))
 else none)
 else none)):=by kernel_rfl
theorem snd_siw (k:Nat) (q:Nat→Int) (hk:k≤9223372036854775000):zQ Tryz.prog 36 [.lf k (fQ q),.lf k (fQ q)] (.v (.b true)):=by
 refine qV (N:=(k + 10)) (LO:=qJ (yZZ k q)) jY jQ (jK (l:=[]) (m:=[]) trivial trivial) (fun p S hp => ?_) ?_
 ·refine qW (L:=qY Tf 36) (l:=(yZZ k q)) (show AllP _ (yZZ k q) from ⟨?_,trivial⟩) p S hp
  ·dsimp only;refine jJ (T:=Tf) (o:=(orsi k q)) (f:=36) (LO:=qJ []) (p:=[0,1,0,1,1]) jU ?_;intro t K r hr;obtain ⟨hg,hr⟩:=qZ hr;have hk:=vYX hg;exact (lpsi K k q hk).trans hr
 ·refine (pxsiw k q).trans ?_;have e:(allN (fun i:Nat=>true) k 0)=true:=allN_iff.2 fun _ _ _=>rfl
  simp only [zV,vYU hk,e,vYU (show (k:Int)=(k:Int) from rfl),Bool.not_true,vYY,vYJ,vZQ]
  all_goals rfl
noncomputable def ors6 (k:Nat) (q:Nat→Int):OrS:=orS [] []
noncomputable def hs6 (k:Nat) (q:Nat→Int) (i:Int):St:=⟨[(0,.v (.lf k (fQ q))),(1,.v (.lf k (fQ q))),(5,.v (.n .i64 i))],[]⟩
set_option maxRecDepth 100000 in
theorem rds6 (G:St→Option (Ret × Mem)) (K:Cont) (k:Nat) (q:Nat→Int) (i:Int):stpT Tf 18 (ors6 k q) (k + 10) [] [0,1,0,1,1] K G (hs6 k q i) =
 (bif (decide (i < (k:Int))) then (bif (inB i k) then (bif (inB i k) then (bif (!decide ((q (i).toNat)=(q (i).toNat))) then (K .ret ⟨[(4,.v (.b false))],[]⟩)
 else (G (hs6 k q (vYV .i64 (i + 1)))))
 else none)
 else none)
 else (K (.exit 0) ⟨[],[]⟩)):=by kernel_rfl
theorem lps6 (K:Cont) (k:Nat) (q:Nat→Int) (_:k≤9223372036854775000):LFT Tf 18 (ors6 k q) (k + 10) [] [0,1,0,1,1] K (k + 10) (hs6 k q 0)=bif (allN (fun i:Nat=>true) k 0) then (K (.exit 0) ⟨[],[]⟩) else (K .ret ⟨[(4,.v (.b false))],[]⟩):=by
 refine (qYW (L:=LFT Tf 18 (ors6 k q) (k + 10) [] [0,1,0,1,1] K) (stp:=stpT Tf 18 (ors6 k q) (k + 10) [] [0,1,0,1,1] K) (fun _ _=>rfl) (fun (i:Nat) (_:Unit)=>hs6 k q (i:Int)) (fun _ _=>True) (fun (i:Nat) _=>true) (fun _ _=>()) (c:=k) (fun _=>(K (.exit 0) ⟨[],[]⟩)) (fun i _=>(K .ret ⟨[(4,.v (.b false))],[]⟩)) (fun G i f hi _ => ?_) (fun _ _ _ _ _=>trivial) (fun G f _ => ?_) k 0 (k + 10) () (by omega) (by omega) trivial).trans ((qZV _ _ _ _ _).trans (kW _ _ _ _ _))
 ·refine (rds6 G K k q i).trans ?_;rw [vYU (show (i:Int) < (k:Int) by omega),qVE (by omega),zX (show i < k by omega),toN,vYU (show q i=q i from rfl)]
  all_goals rfl
 ·refine (rds6 G K k q k).trans ?_;rw [vYK (show ¬ (k:Int) < (k:Int) by omega)];rfl
noncomputable def yZJ (k:Nat) (q:Nat→Int):List (List Nat × yW):=[([0,1,0,1,1],sumF (fun _:Unit=>(hs6 k q 0)) (fun _=>()) (fun _ K=>(bif (decide (k≤9223372036854775000)) then (bif (allN (fun i:Nat=>true) k 0) then (K (.exit 0) ⟨[],[]⟩) else (K .ret ⟨[(4,.v (.b false))],[]⟩)) else none)))]
set_option maxRecDepth 100000 in
theorem pxs6w (k:Nat) (q:Nat→Int):qQU Tf (ors6 k q) (qJ (yZJ k q)) (k + 10) 18 [.lf k (fQ q),.lf k (fQ q)] =
 (bif (!decide ((k:Int)=(k:Int))) then some (.v (.b false),[])
 else (bif (gSt (hs6 k q 0) (hs6 k q 0)) then (bif (decide (k≤9223372036854775000)) then (bif (allN (fun i:Nat=>true) k 0) then some (.v (.b true),[])
 else some (.v (.b false),[]))
 else none)
 else none)):=by kernel_rfl
theorem snd_s6w (k:Nat) (q:Nat→Int) (hk:k≤9223372036854775000):zQ Tryz.prog 18 [.lf k (fQ q),.lf k (fQ q)] (.v (.b true)):=by
 refine qV (N:=(k + 10)) (LO:=qJ (yZJ k q)) jY jQ (jK (l:=[]) (m:=[]) trivial trivial) (fun p S hp => ?_) ?_
 ·refine qW (L:=qY Tf 18) (l:=(yZJ k q)) (show AllP _ (yZJ k q) from ⟨?_,trivial⟩) p S hp
  ·dsimp only;refine jJ (T:=Tf) (o:=(ors6 k q)) (f:=18) (LO:=qJ []) (p:=[0,1,0,1,1]) jU ?_;intro t K r hr;obtain ⟨hg,hr⟩:=qZ hr;have hk:=vYX hg;exact (lps6 K k q hk).trans hr
 ·refine (pxs6w k q).trans ?_;have e:(allN (fun i:Nat=>true) k 0)=true:=allN_iff.2 fun _ _ _=>rfl
  simp only [zV,vYU hk,e,vYU (show (k:Int)=(k:Int) from rfl),Bool.not_true,vYY,vYJ,vZQ]
  all_goals rfl
def fV (x y z:Nat→Int):Nat→List PV:=fun v=>[.n .i64 (x v),.n .i64 (y v),.n .i64 (z v)]
noncomputable def orsv (k:Nat) (x y z:Nat→Int):OrS:=orS [] []
noncomputable def hsv (k:Nat) (x y z:Nat→Int) (i:Int):St:=⟨[(0,.v (.lf k (fV x y z))),(1,.v (.lf k (fV x y z))),(5,.v (.n .i64 i))],[]⟩
set_option maxRecDepth 100000 in
theorem rdsv (G:St→Option (Ret × Mem)) (K:Cont) (k:Nat) (x y z:Nat→Int) (i:Int):stpT Tf 121 (orsv k x y z) (k + 10) [] [0,1,0,1,1] K G (hsv k x y z i) =
 (bif (decide (i < (k:Int))) then (bif (inB i k) then (bif (inB i k) then (bif (!((decide ((x (i).toNat)=(x (i).toNat))) && ((decide ((y (i).toNat)=(y (i).toNat))) && ((decide ((z (i).toNat)=(z (i).toNat))) && true)))) then (K .ret ⟨[(4,.v (.b false))],[]⟩)
 else (G (hsv k x y z (vYV .i64 (i + 1)))))
 else none)
 else none)
 else (K (.exit 0) ⟨[],[]⟩)):=by kernel_rfl
theorem lpsv (K:Cont) (k:Nat) (x y z:Nat→Int) (_:k≤9223372036854775000):LFT Tf 121 (orsv k x y z) (k + 10) [] [0,1,0,1,1] K (k + 10) (hsv k x y z 0)=bif (allN (fun i:Nat=>true) k 0) then (K (.exit 0) ⟨[],[]⟩) else (K .ret ⟨[(4,.v (.b false))],[]⟩):=by
 refine (qYW (L:=LFT Tf 121 (orsv k x y z) (k + 10) [] [0,1,0,1,1] K) (stp:=stpT Tf 121 (orsv k x y z) (k + 10) [] [0,1,0,1,1] K) (fun _ _=>rfl) (fun (i:Nat) (_:Unit)=>hsv k x y z (i:Int)) (fun _ _=>True) (fun (i:Nat) _=>true) (fun _ _=>()) (c:=k) (fun _=>(K (.exit 0) ⟨[],[]⟩)) (fun i _=>(K .ret ⟨[(4,.v (.b false))],[]⟩)) (fun G i f hi _ => ?_) (fun _ _ _ _ _=>trivial) (fun G f _ => ?_) k 0 (k + 10) () (by omega) (by omega) trivial).trans ((qZV _ _ _ _ _).trans (kW _ _ _ _ _))
 ·refine (rdsv G K k x y z i).trans ?_;rw [vYU (show (i:Int) < (k:Int) by omega),qVE (by omega),zX (show i < k by omega),toN,vYU (show x i=x i from rfl),vYU (show y i=y i from rfl),vYU (show z i=z i from rfl)]
  all_goals rfl
 ·refine (rdsv G K k x y z k).trans ?_;rw [vYK (show ¬ (k:Int) < (k:Int) by omega)];rfl
noncomputable def yQD (k:Nat) (x y z:Nat→Int):List (List Nat × yW):=[([0,1,0,1,1],sumF (fun _:Unit=>(hsv k x y z 0)) (fun _=>()) (fun _ K=>(bif (decide (k≤9223372036854775000)) then (bif (allN (fun i:Nat=>true) k 0) then (K (.exit 0) ⟨[],[]⟩) else (K .ret ⟨[(4,.v (.b false))],[]⟩)) else none)))]
set_option maxRecDepth 100000 in
theorem pxsvw (k:Nat) (x y z:Nat→Int):qQU Tf (orsv k x y z) (qJ (yQD k x y z)) (k + 10) 121 [.lf k (fV x y z),.lf k (fV x y z)] =
 (bif (!decide ((k:Int)=(k:Int))) then some (.v (.b false),[])
 else (bif (gSt (hsv k x y z 0) (hsv k x y z 0)) then (bif (decide (k≤9223372036854775000)) then (bif (allN (fun i:Nat=>true) k 0) then some (.v (.b true),[])
 else some (.v (.b false),[]))
 else none)
 else none)):=by kernel_rfl
theorem snd_svw (k:Nat) (x y z:Nat→Int) (hk:k≤9223372036854775000):zQ Tryz.prog 121 [.lf k (fV x y z),.lf k (fV x y z)] (.v (.b true)):=by
 refine qV (N:=(k + 10)) (LO:=qJ (yQD k x y z)) jY jQ (jK (l:=[]) (m:=[]) trivial trivial) (fun p S hp => ?_) ?_
 ·refine qW (L:=qY Tf 121) (l:=(yQD k x y z)) (show AllP _ (yQD k x y z) from ⟨?_,trivial⟩) p S hp
  ·dsimp only;refine jJ (T:=Tf) (o:=(orsv k x y z)) (f:=121) (LO:=qJ []) (p:=[0,1,0,1,1]) jU ?_;intro t K r hr;obtain ⟨hg,hr⟩:=qZ hr;have hk:=vYX hg;exact (lpsv K k x y z hk).trans hr
 ·refine (pxsvw k x y z).trans ?_;have e:(allN (fun i:Nat=>true) k 0)=true:=allN_iff.2 fun _ _ _=>rfl
  simp only [zV,vYU hk,e,vYU (show (k:Int)=(k:Int) from rfl),Bool.not_true,vYY,vYJ,vZQ]
  all_goals rfl
theorem fI_of {n:Nat} {f:Nat→List PV} (h:∀ j,j < n→isI (f j)):∃ q:Nat→Int,∀ j,j < n→f j=fQ q j:=by
 have each:∀ j,∃ a:Int,j < n→f j=[.n .i64 a]:=fun j=>by
  by_cases hj:j < n
  ·obtain ⟨a,ha⟩:=h j hj; exact ⟨a,fun _=>ha⟩
  ·exact ⟨0,fun h=>absurd h hj⟩
 obtain ⟨g,hg⟩:=Classical.axiomOfChoice each;exact ⟨g,hg⟩
theorem fV_of {n:Nat} {f:Nat→List PV} (h:∀ j,j < n→isV (f j)):∃ x y z:Nat→Int,∀ j,j < n→f j=fV x y z j:=by
 have each:∀ j,∃ a:Int × Int × Int,j < n→f j=[.n .i64 a.1,.n .i64 a.2.1,.n .i64 a.2.2]:=fun j=>by
  by_cases hj:j < n
  ·obtain ⟨a,b,c,ha⟩:=h j hj; exact ⟨(a,b,c),fun _=>ha⟩
  ·exact ⟨(0,0,0),fun h=>absurd h hj⟩
 obtain ⟨g,hg⟩:=Classical.axiomOfChoice each;exact ⟨fun j=>(g j).1,fun j=>(g j).2.1,fun j=>(g j).2.2,hg⟩
theorem zJE {P:Program} {F:Nat} {n:Nat} {f g:Nat→List PV} {r:Ret} (h:∀ j,j < n→f j=g j) (hs:zQ P F [.lf n g,.lf n g] r):zQ P F [.lf n f,.lf n f] r :=
 qZY (fun F w vals hh=>Sames.al (xs:=[_,_]) (ys:=[_,_]) ⟨qYB h,qYB h,trivial⟩ hh) hs
theorem sm_I {k:Nat} {f:Nat→List PV} (h:k * 8≤281474976710656∧∀ j,j < k→isI (f j)):zQ Tryz.prog 18 [.lf k f,.lf k f] (.v (.b true)):=by
 obtain ⟨q,hq⟩:=fI_of h.2;exact zJE hq (snd_s6w k q (by omega))
theorem sm_V {k:Nat} {f:Nat→List PV} (h:k * 24≤281474976710656∧∀ j,j < k→isV (f j)):zQ Tryz.prog 121 [.lf k f,.lf k f] (.v (.b true)):=by
 obtain ⟨x,y,z,hq⟩:=fV_of h.2;exact zJE hq (snd_svw k x y z (by omega))
def csmi:Nat × (Nat→List PV)→Prop:=fun t=>match t with | (k,f)=>k * 8≤281474976710656∧∀ j,j < k→isI (f j)
def esmi:Nat × (Nat→List PV)→List PV:=fun t=>match t with | (k,f)=>[.lf k f,.lf k f]
noncomputable def rsmi:Nat × (Nat→List PV)→Ret:=fun t=>match t with | (_,_)=>.v (.b true)
def dsmi:List PV→Nat × (Nat→List PV):=fun ps=>match ps with
 | [.lf k f,.lf _ _]=>(k,f)
 | _=>(0,fun _=>[])
noncomputable def zHH:List PV→Option (Bool × Ret):=o_fm dsmi csmi esmi rsmi
theorem ok_smi:kU Tryz.prog 18 zHH:=qZB fun t h=>by
 obtain ⟨k,f⟩:=t;exact sm_I h
def csmv:Nat × (Nat→List PV)→Prop:=fun t=>match t with | (k,f)=>k * 24≤281474976710656∧∀ j,j < k→isV (f j)
def esmv:Nat × (Nat→List PV)→List PV:=fun t=>match t with | (k,f)=>[.lf k f,.lf k f]
noncomputable def rsmv:Nat × (Nat→List PV)→Ret:=fun t=>match t with | (_,_)=>.v (.b true)
def dsmv:List PV→Nat × (Nat→List PV):=fun ps=>match ps with
 | [.lf k f,.lf _ _]=>(k,f)
 | _=>(0,fun _=>[])
noncomputable def yJY:List PV→Option (Bool × Ret):=o_fm dsmv csmv esmv rsmv
theorem ok_smv:kU Tryz.prog 121 yJY:=qZB fun t h=>by
 obtain ⟨k,f⟩:=t;exact sm_V h
noncomputable def orsp (d x:Int) (k:Nat) (f:Nat→List PV):OrS:=orS [(121,yJY)] []
noncomputable def lssp (d x:Int) (k:Nat) (f:Nat→List PV):List (List Nat × yW):=[]
set_option maxRecDepth 100000 in
theorem pxsp (d x:Int) (k:Nat) (f:Nat→List PV):qQU Tf (orsp d x k f) (qJ (lssp d x k f)) 60 100 [.a [.n .i64 d,.n .i64 x,.lf k f],.a [.n .i64 d,.n .i64 x,.lf k f]] =
 (bif (decide (d=d)) then (bif (decide (x=x)) then (bif (gF1 csmv esmv (k,f)) then some (.v (.b true),[])
 else none)
 else some (.v (.b false),[]))
 else some (.v (.b false),[])):=by kernel_rfl
theorem snd_sp (d x:Int) (k:Nat) (f:Nat→List PV) (h:k * 24≤281474976710656∧∀ j,j < k→isV (f j)):zQ Tryz.prog 100 [.a [.n .i64 d,.n .i64 x,.lf k f],.a [.n .i64 d,.n .i64 x,.lf k f]] (.v (.b true)):=by
 refine qV (N:=60) (LO:=qJ (lssp d x k f)) jY jQ (jK (l:=[(121,yJY)]) (m:=[]) ⟨ok_smv,trivial⟩ trivial) (fun p S hp => ?_) ?_
 ·refine qW (L:=qY Tf 100) (l:=(lssp d x k f)) (show AllP _ (lssp d x k f) from trivial) p S hp
 ·refine (pxsp d x k f).trans ?_;simp only [jW (C:=csmv) (t:=(k,f)) h,decide_true,vYY]
def cspc:Pc→Prop:=fun t=>match t with | c=>c.k * 24≤281474976710656∧∀ j,j < c.k→isV (c.f j)
def espc:Pc→List PV:=fun t=>match t with | c=>[.a [.n .i64 c.d,.n .i64 c.x,.lf c.k c.f],.a [.n .i64 c.d,.n .i64 c.x,.lf c.k c.f]]
noncomputable def rspc:Pc→Ret:=fun t=>match t with | _=>.v (.b true)
def dspc:List PV→Pc:=fun ps=>match ps with
 | [.a [.n _ d,.n _ x,.lf k f],_]=>⟨d,x,k,f⟩
 | _=>⟨0,0,0,fun _=>[]⟩
noncomputable def yJZ:List PV→Option (Bool × Ret):=o_fm dspc cspc espc rspc
theorem ok_spc:kU Tryz.prog 100 yJZ:=qZB fun t h=>by
 revert h; revert t; intro c h
 exact snd_sp c.d c.x c.k c.f h
def okPc (n:Nat) (pc:Nat→Pc):Prop:=∀ i,i < n→(pc i).k * 24≤281474976710656∧∀ j,j < (pc i).k→isV ((pc i).f j)
noncomputable def orss (_:Nat) (_:Nat→Pc):OrS:=orS [(100,yJZ)] []
noncomputable def hss (n1:Nat) (pc:Nat→Pc) (i:Int):St:=⟨[(0,.v (.lf n1 (fPc pc))),(1,.v (.lf n1 (fPc pc))),(5,.v (.n .i64 i))],[]⟩
set_option maxRecDepth 100000 in
theorem rdss (G:St→Option (Ret × Mem)) (K:Cont) (n1:Nat) (pc:Nat→Pc) (i:Int):stpT Tf 99 (orss n1 pc) (n1 + 10) [] [0,1,0,1,1] K G (hss n1 pc i) =
 (bif (decide (i < (n1:Int))) then (bif (inB i n1) then (bif (inB i n1) then (bif (gF1 cspc espc (pc (i).toNat)) then (G (hss n1 pc (vYV .i64 (i + 1))))
 else none)
 else none)
 else none)
 else (K (.exit 0) ⟨[],[]⟩)):=by kernel_rfl
theorem lpss (K:Cont) (n1:Nat) (pc:Nat→Pc) (_:n1≤9223372036854775000) (hG:okPc n1 pc):LFT Tf 99 (orss n1 pc) (n1 + 10) [] [0,1,0,1,1] K (n1 + 10) (hss n1 pc 0)=(K (.exit 0) ⟨[],[]⟩):=by
 refine (qYW (L:=LFT Tf 99 (orss n1 pc) (n1 + 10) [] [0,1,0,1,1] K) (stp:=stpT Tf 99 (orss n1 pc) (n1 + 10) [] [0,1,0,1,1] K) (fun _ _=>rfl) (fun (i:Nat) (_:Unit)=>hss n1 pc (i:Int)) (fun _ _=>True) (fun _ _=>true) (fun _ _=>()) (c:=n1) (fun _=>(K (.exit 0) ⟨[],[]⟩)) (fun _ _=>none) (fun G i f hi _ => ?_) (fun _ _ _ _ _=>trivial) (fun G f _ => ?_) n1 0 (n1 + 10) () (by omega) (by omega) trivial).trans (qZG n1 0 _)
 ·refine (rdss G K n1 pc i).trans ?_;rw [vYU (show (i:Int) < (n1:Int) by omega),qVE (by omega),zX (show i < n1 by omega),toN,jW (C:=cspc) (t:=pc i) (hG i (by omega))]
  all_goals rfl
 ·refine (rdss G K n1 pc n1).trans ?_;rw [vYK (show ¬ (n1:Int) < (n1:Int) by omega)];rfl
noncomputable def yQF (n1:Nat) (pc:Nat→Pc):List (List Nat × yW):=[([0,1,0,1,1],sumF (fun _:Unit=>(hss n1 pc 0)) (fun _=>()) (fun _ K=>(bif (decide (n1≤9223372036854775000) && Go.Rx.gP (okPc n1 pc)) then (K (.exit 0) ⟨[],[]⟩) else none)))]
set_option maxRecDepth 100000 in
theorem pxssw (n1:Nat) (pc:Nat→Pc):qQU Tf (orss n1 pc) (qJ (yQF n1 pc)) (n1 + 10) 99 [.lf n1 (fPc pc),.lf n1 (fPc pc)] =
 (bif (!decide ((n1:Int)=(n1:Int))) then some (.v (.b false),[])
 else (bif (gSt (hss n1 pc 0) (hss n1 pc 0)) then (bif (decide (n1≤9223372036854775000) && Go.Rx.gP (okPc n1 pc)) then some (.v (.b true),[])
 else none)
 else none)):=by kernel_rfl
theorem snd_ssw (n1:Nat) (pc:Nat→Pc) (hk:n1≤9223372036854775000) (hG:okPc n1 pc):zQ Tryz.prog 99 [.lf n1 (fPc pc),.lf n1 (fPc pc)] (.v (.b true)):=by
 refine qV (N:=(n1 + 10)) (LO:=qJ (yQF n1 pc)) jY jQ (jK (l:=[(100,yJZ)]) (m:=[]) ⟨ok_spc,trivial⟩ trivial) (fun p S hp => ?_) ?_
 ·refine qW (L:=qY Tf 99) (l:=(yQF n1 pc)) (show AllP _ (yQF n1 pc) from ⟨?_,trivial⟩) p S hp
  ·dsimp only;refine jJ (T:=Tf) (o:=(orss n1 pc)) (f:=99) (LO:=qJ []) (p:=[0,1,0,1,1]) jU ?_;intro t K r hr;obtain ⟨hg,hr⟩:=qZ hr;rw [vQJ] at hg;have hk:=vYX hg.1;have hG:=Go.Rx.gP_spec hg.2;exact (lpss K n1 pc hk hG).trans hr
 ·refine (pxssw n1 pc).trans ?_;have e:true=true:=rfl;simp only [zV,vYU hk,e,vYU (show (n1:Int)=(n1:Int) from rfl),Bool.not_true,vYY,vYJ,Go.Rx.gP_of hG,vZQ]
  all_goals rfl
theorem sm_C {e:Ed} (h:OkE e):zQ Tryz.prog 99 [.lf e.n1 e.f1,.lf e.n1 e.f1] (.v (.b true)):=by
 obtain ⟨p,hp⟩:=h.pc;exact zJE (fun j hj=>(hp j hj).1) (snd_ssw e.n1 p (by have:=h.b1; omega) fun j hj=>(hp j hj).2)
noncomputable def orsw (_:Int) (_:Nat) (_:Nat→List PV) (_:Nat) (_:Nat→List PV):OrS:=orS [(18,zHH)] []
noncomputable def lssw (_:Int) (_:Nat) (_:Nat→List PV) (_:Nat) (_:Nat→List PV):List (List Nat × yW):=[]
set_option maxRecDepth 100000 in
theorem pxsw (pr:Int) (n3:Nat) (f3:Nat→List PV) (n4:Nat) (f4:Nat→List PV):qQU Tf (orsw pr n3 f3 n4 f4) (qJ (lssw pr n3 f3 n4 f4)) 60 101 [.a [.n .i64 pr,.lf n3 f3,.lf n4 f4],.a [.n .i64 pr,.lf n3 f3,.lf n4 f4]] =
 (bif (decide (pr=pr)) then (bif (gF1 csmi esmi (n3,f3)) then (bif (gF1 csmi esmi (n4,f4)) then some (.v (.b true),[])
 else none)
 else none)
 else some (.v (.b false),[])):=by kernel_rfl
theorem snd_sw (pr:Int) (n3:Nat) (f3:Nat→List PV) (n4:Nat) (f4:Nat→List PV) (h3:n3 * 8≤281474976710656∧∀ j,j < n3→isI (f3 j)) (h4:n4 * 8≤281474976710656∧∀ j,j < n4→isI (f4 j)):zQ Tryz.prog 101 [.a [.n .i64 pr,.lf n3 f3,.lf n4 f4],.a [.n .i64 pr,.lf n3 f3,.lf n4 f4]] (.v (.b true)):=by
 refine qV (N:=60) (LO:=qJ (lssw pr n3 f3 n4 f4)) jY jQ (jK (l:=[(18,zHH)]) (m:=[]) ⟨ok_smi,trivial⟩ trivial) (fun p S hp => ?_) ?_
 ·refine qW (L:=qY Tf 101) (l:=(lssw pr n3 f3 n4 f4)) (show AllP _ (lssw pr n3 f3 n4 f4) from trivial) p S hp
 ·refine (pxsw pr n3 f3 n4 f4).trans ?_;simp only [jW (C:=csmi) (t:=(n3,f3)) h3,jW (C:=csmi) (t:=(n4,f4)) h4,decide_true,vYY]
noncomputable def orse (e:Ed):OrS:=orS [(99,o_lk [.lf e.n1 e.f1,.lf e.n1 e.f1] (Go.Rx.gP (OkE e)) (.v (.b true))),(100,o_lk [.a [.n .i64 e.dp,.n .i64 e.ix,.lf e.n2 e.f2],.a [.n .i64 e.dp,.n .i64 e.ix,.lf e.n2 e.f2]] (Go.Rx.gP (OkE e)) (.v (.b true))),(101,o_lk [.a [.n .i64 e.pr,.lf e.n3 e.f3,.lf e.n4 e.f4],.a [.n .i64 e.pr,.lf e.n3 e.f3,.lf e.n4 e.f4]] (Go.Rx.gP (OkE e)) (.v (.b true)))] []
noncomputable def lsse (e:Ed):List (List Nat × yW):=[]
set_option maxRecDepth 100000 in
theorem pxse (e:Ed):qQU Tf (orse e) (qJ (lsse e)) 60 68 [.a (prP e),.a (prP e)] =
 (bif (decide (e.kd=e.kd)) then (bif (g1 [.lf e.n1 e.f1,.lf e.n1 e.f1] && Go.Rx.gP (OkE e)) then (bif (g1 [.a [.n .i64 e.dp,.n .i64 e.ix,.lf e.n2 e.f2],.a [.n .i64 e.dp,.n .i64 e.ix,.lf e.n2 e.f2]] && Go.Rx.gP (OkE e)) then (bif (g1 [.a [.n .i64 e.pr,.lf e.n3 e.f3,.lf e.n4 e.f4],.a [.n .i64 e.pr,.lf e.n3 e.f3,.lf e.n4 e.f4]] && Go.Rx.gP (OkE e)) then some (.v (.b true),[])
 else none)
 else none)
 else none)
 else some (.v (.b false),[])):=by kernel_rfl
theorem snd_se (e:Ed) (h:OkE e):zQ Tryz.prog 68 [.a (prP e),.a (prP e)] (.v (.b true)):=by
 refine qV (N:=60) (LO:=qJ (lsse e)) jY jQ (jK (l:=[(99,o_lk [.lf e.n1 e.f1,.lf e.n1 e.f1] (Go.Rx.gP (OkE e)) (.v (.b true))),(100,o_lk [.a [.n .i64 e.dp,.n .i64 e.ix,.lf e.n2 e.f2],.a [.n .i64 e.dp,.n .i64 e.ix,.lf e.n2 e.f2]] (Go.Rx.gP (OkE e)) (.v (.b true))),(101,o_lk [.a [.n .i64 e.pr,.lf e.n3 e.f3,.lf e.n4 e.f4],.a [.n .i64 e.pr,.lf e.n3 e.f3,.lf e.n4 e.f4]] (Go.Rx.gP (OkE e)) (.v (.b true)))]) (m:=[]) ⟨qWI (fun h=>sm_C (Go.Rx.gP_spec h)),qWI (fun h=>snd_sp e.dp e.ix e.n2 e.f2 (Go.Rx.gP_spec h).p2),qWI (fun h=>snd_sw e.pr e.n3 e.f3 e.n4 e.f4 (Go.Rx.gP_spec h).p3 (Go.Rx.gP_spec h).p4),trivial⟩ trivial) (fun p S hp => ?_) ?_
 ·refine qW (L:=qY Tf 68) (l:=(lsse e)) (show AllP _ (lsse e) from trivial) p S hp
 ·refine (pxse e).trans ?_;simp only [g1_t,Go.Rx.gP_of h,decide_true,vYY,vZQ]
def csed:Ed→Prop:=fun t=>match t with | e=>OkE e
def esed:Ed→List PV:=fun t=>match t with | e=>[.a (prP e),.a (prP e)]
noncomputable def rsed:Ed→Ret:=fun t=>match t with | _=>.v (.b true)
def dsed:List PV→Ed:=fun ps=>match ps with
 | [.a r,_]=>unR r
 | _=>unR []
noncomputable def yJJ:List PV→Option (Bool × Ret):=o_fm dsed csed esed rsed
theorem ok_sed:kU Tryz.prog 68 yJJ:=qZB fun t h=>by
 revert h; revert t; intro e h
 exact snd_se e h
noncomputable def orsl (np:Nat) (pn:Nat→Nat) (pv:Nat→Nat→Int):OrS:=orS [(18,zHH)] []
noncomputable def hsl (np:Nat) (pn:Nat→Nat) (pv:Nat→Nat→Int) (i:Int):St:=⟨[(0,.v (.lf np (fP pn pv))),(1,.v (.lf np (fP pn pv))),(5,.v (.n .i64 i))],[]⟩
set_option maxRecDepth 100000 in
theorem rdsl (G:St→Option (Ret × Mem)) (K:Cont) (np:Nat) (pn:Nat→Nat) (pv:Nat→Nat→Int) (i:Int):stpT Tf 67 (orsl np pn pv) (np + 10) [] [0,1,0,1,1] K G (hsl np pn pv i) =
 (bif (decide (i < (np:Int))) then (bif (inB i np) then (bif (inB i np) then (bif (gF1 csmi esmi ((pn (i).toNat),(fun w=>[.n .i64 (pv (i).toNat w)]))) then (G (hsl np pn pv (vYV .i64 (i + 1))))
 else none)
 else none)
 else none)
 else (K (.exit 0) ⟨[],[]⟩)):=by kernel_rfl
theorem lpsl (K:Cont) (np:Nat) (pn:Nat→Nat) (pv:Nat→Nat→Int) (_:np≤9223372036854775000) (hG:∀ j,j < np→pn j≤50):LFT Tf 67 (orsl np pn pv) (np + 10) [] [0,1,0,1,1] K (np + 10) (hsl np pn pv 0)=(K (.exit 0) ⟨[],[]⟩):=by
 refine (qYW (L:=LFT Tf 67 (orsl np pn pv) (np + 10) [] [0,1,0,1,1] K) (stp:=stpT Tf 67 (orsl np pn pv) (np + 10) [] [0,1,0,1,1] K) (fun _ _=>rfl) (fun (i:Nat) (_:Unit)=>hsl np pn pv (i:Int)) (fun _ _=>True) (fun _ _=>true) (fun _ _=>()) (c:=np) (fun _=>(K (.exit 0) ⟨[],[]⟩)) (fun _ _=>none) (fun G i f hi _ => ?_) (fun _ _ _ _ _=>trivial) (fun G f _ => ?_) np 0 (np + 10) () (by omega) (by omega) trivial).trans (qZG np 0 _)
 ·refine (rdsl G K np pn pv i).trans ?_;rw [vYU (show (i:Int) < (np:Int) by omega),qVE (by omega),zX (show i < np by omega),toN,jW (C:=csmi) (t:=(pn i,fun w=>[.n .i64 (pv i w)])) ⟨by have:=hG i (by omega); omega,fun j _=>⟨_,rfl⟩⟩]
  all_goals rfl
 ·refine (rdsl G K np pn pv np).trans ?_;rw [vYK (show ¬ (np:Int) < (np:Int) by omega)];rfl
noncomputable def yZQ (np:Nat) (pn:Nat→Nat) (pv:Nat→Nat→Int):List (List Nat × yW):=[([0,1,0,1,1],sumF (fun _:Unit=>(hsl np pn pv 0)) (fun _=>()) (fun _ K=>(bif (decide (np≤9223372036854775000) && Go.Rx.gP (∀ j,j < np→pn j≤50)) then (K (.exit 0) ⟨[],[]⟩) else none)))]
set_option maxRecDepth 100000 in
theorem pxslw (np:Nat) (pn:Nat→Nat) (pv:Nat→Nat→Int):qQU Tf (orsl np pn pv) (qJ (yZQ np pn pv)) (np + 10) 67 [.lf np (fP pn pv),.lf np (fP pn pv)] =
 (bif (!decide ((np:Int)=(np:Int))) then some (.v (.b false),[])
 else (bif (gSt (hsl np pn pv 0) (hsl np pn pv 0)) then (bif (decide (np≤9223372036854775000) && Go.Rx.gP (∀ j,j < np→pn j≤50)) then some (.v (.b true),[])
 else none)
 else none)):=by kernel_rfl
theorem snd_slw (np:Nat) (pn:Nat→Nat) (pv:Nat→Nat→Int) (hk:np≤9223372036854775000) (hG:∀ j,j < np→pn j≤50):zQ Tryz.prog 67 [.lf np (fP pn pv),.lf np (fP pn pv)] (.v (.b true)):=by
 refine qV (N:=(np + 10)) (LO:=qJ (yZQ np pn pv)) jY jQ (jK (l:=[(18,zHH)]) (m:=[]) ⟨ok_smi,trivial⟩ trivial) (fun p S hp => ?_) ?_
 ·refine qW (L:=qY Tf 67) (l:=(yZQ np pn pv)) (show AllP _ (yZQ np pn pv) from ⟨?_,trivial⟩) p S hp
  ·dsimp only;refine jJ (T:=Tf) (o:=(orsl np pn pv)) (f:=67) (LO:=qJ []) (p:=[0,1,0,1,1]) jU ?_;intro t K r hr;obtain ⟨hg,hr⟩:=qZ hr;rw [vQJ] at hg;have hk:=vYX hg.1;have hG:=Go.Rx.gP_spec hg.2;exact (lpsl K np pn pv hk hG).trans hr
 ·refine (pxslw np pn pv).trans ?_;have e:true=true:=rfl;simp only [zV,vYU hk,e,vYU (show (np:Int)=(np:Int) from rfl),Bool.not_true,vYY,vYJ,Go.Rx.gP_of hG,vZQ]
  all_goals rfl
noncomputable def ormp (np:Nat) (pn:Nat→Nat) (pv:Nat→Nat→Int) (ne:Nat) (ed:Nat→Ed):OrS:=orS [(67,o_lk [.lf np (fP pn pv),.lf np (fP pn pv)] (Go.Rx.gP (np≤9223372036854775000∧∀ j,j < np→pn j≤50)) (.v (.b true))),(68,yJJ)] []
noncomputable def hmp (np:Nat) (pn:Nat→Nat) (pv:Nat→Nat→Int) (ne:Nat) (ed:Nat→Ed) (i:Int):St:=⟨[(2,.p 2 0),(3,.p 3 0),(5,.v (.n .i64 i))],[(2,.blk [.v (.lf np (fP pn pv)),.v (.lf ne (fE ed))]),(3,.blk [.v (.lf np (fP pn pv)),.v (.lf ne (fE ed))])]⟩
set_option maxRecDepth 100000 in
theorem rdmp (G:St→Option (Ret × Mem)) (K:Cont) (np:Nat) (pn:Nat→Nat) (pv:Nat→Nat→Int) (ne:Nat) (ed:Nat→Ed) (i:Int):stpT Tf 37 (ormp np pn pv ne ed) (ne + 10) [] [0,1,0,1,1] K G (hmp np pn pv ne ed i) =
 (bif (decide (i < (ne:Int))) then (bif (inB i ne) then (bif (inB i ne) then (bif (!decide ((ed (i).toNat).u=(ed (i).toNat).u)) then (K .ret ⟨[(4,.v (.b false))],[]⟩)
 else (bif (!decide ((ed (i).toNat).v=(ed (i).toNat).v)) then (K .ret ⟨[(4,.v (.b false))],[]⟩)
 else (bif (!decide ((ed (i).toNat).c=(ed (i).toNat).c)) then (K .ret ⟨[(4,.v (.b false))],[]⟩)
 else (bif (!decide ((ed (i).toNat).s=(ed (i).toNat).s)) then (K .ret ⟨[(4,.v (.b false))],[]⟩)
 else (bif (gF1 csed esed (prO (ed (i).toNat))) then (G (hmp np pn pv ne ed (vYV .i64 (i + 1))))
 else none)))))
 else none)
 else none)
 else (K (.exit 0) ⟨[],[]⟩)):=by kernel_rfl
theorem lpmp (K:Cont) (np:Nat) (pn:Nat→Nat) (pv:Nat→Nat→Int) (ne:Nat) (ed:Nat→Ed) (hG:ne≤9223372036854775000∧∀ i,i < ne→OkE (ed i)):LFT Tf 37 (ormp np pn pv ne ed) (ne + 10) [] [0,1,0,1,1] K (ne + 10) (hmp np pn pv ne ed 0)=bif (allN (fun i:Nat=>true) ne 0) then (K (.exit 0) ⟨[],[]⟩) else (K .ret ⟨[(4,.v (.b false))],[]⟩):=by
 refine (qYW (L:=LFT Tf 37 (ormp np pn pv ne ed) (ne + 10) [] [0,1,0,1,1] K) (stp:=stpT Tf 37 (ormp np pn pv ne ed) (ne + 10) [] [0,1,0,1,1] K) (fun _ _=>rfl) (fun (i:Nat) (_:Unit)=>hmp np pn pv ne ed (i:Int)) (fun _ _=>True) (fun (i:Nat) _=>true) (fun _ _=>()) (c:=ne) (fun _=>(K (.exit 0) ⟨[],[]⟩)) (fun i _=>(K .ret ⟨[(4,.v (.b false))],[]⟩)) (fun G i f hi _ => ?_) (fun _ _ _ _ _=>trivial) (fun G f _ => ?_) ne 0 (ne + 10) () (by omega) (by omega) trivial).trans ((qZV _ _ _ _ _).trans (kW _ _ _ _ _))
 ·have hG1:=hG.1;refine (rdmp G K np pn pv ne ed i).trans ?_;rw [vYU (show (i:Int) < (ne:Int) by omega),qVE (by omega),zX (show i < ne by omega),toN,jW (C:=csed) (t:=prO (ed i)) (hG.2 i (by omega)).o,vYU (show (ed i).u=(ed i).u from rfl),vYU (show (ed i).v=(ed i).v from rfl),vYU (show (ed i).c=(ed i).c from rfl),vYU (show (ed i).s=(ed i).s from rfl)]
  all_goals rfl
 ·refine (rdmp G K np pn pv ne ed ne).trans ?_;rw [vYK (show ¬ (ne:Int) < (ne:Int) by omega)];rfl
noncomputable def yQL (np:Nat) (pn:Nat→Nat) (pv:Nat→Nat→Int) (ne:Nat) (ed:Nat→Ed):List (List Nat × yW):=[([0,1,0,1,1],sumF (fun _:Unit=>(hmp np pn pv ne ed 0)) (fun _=>()) (fun _ K=>(bif Go.Rx.gP (ne≤9223372036854775000∧∀ i,i < ne→OkE (ed i)) then (bif (allN (fun i:Nat=>true) ne 0) then (K (.exit 0) ⟨[],[]⟩) else (K .ret ⟨[(4,.v (.b false))],[]⟩)) else none)))]
set_option maxRecDepth 100000 in
theorem pxsmp (np:Nat) (pn:Nat→Nat) (pv:Nat→Nat→Int) (ne:Nat) (ed:Nat→Ed):qQU Tf (ormp np pn pv ne ed) (qJ (yQL np pn pv ne ed)) (ne + 10) 37 [.a [.lf np (fP pn pv),.lf ne (fE ed)],.a [.lf np (fP pn pv),.lf ne (fE ed)]] =
 (bif (g1 [.lf np (fP pn pv),.lf np (fP pn pv)] && Go.Rx.gP (np≤9223372036854775000∧∀ j,j < np→pn j≤50)) then (bif (!decide ((ne:Int)=(ne:Int))) then some (.v (.b false),[])
 else (bif (gSt (hmp np pn pv ne ed 0) (hmp np pn pv ne ed 0)) then (bif Go.Rx.gP (ne≤9223372036854775000∧∀ i,i < ne→OkE (ed i)) then (bif (allN (fun i:Nat=>true) ne 0) then some (.v (.b true),[])
 else some (.v (.b false),[]))
 else none)
 else none))
 else none):=by kernel_rfl
theorem snd_smp (np:Nat) (pn:Nat→Nat) (pv:Nat→Nat→Int) (ne:Nat) (ed:Nat→Ed) (hp:np≤9223372036854775000∧∀ j,j < np→pn j≤50) (hG:ne≤9223372036854775000∧∀ i,i < ne→OkE (ed i)):zQ Tryz.prog 37 [.a [.lf np (fP pn pv),.lf ne (fE ed)],.a [.lf np (fP pn pv),.lf ne (fE ed)]] (.v (.b true)):=by
 refine qV (N:=(ne + 10)) (LO:=qJ (yQL np pn pv ne ed)) jY jQ (jK (l:=[(67,o_lk [.lf np (fP pn pv),.lf np (fP pn pv)] (Go.Rx.gP (np≤9223372036854775000∧∀ j,j < np→pn j≤50)) (.v (.b true))),(68,yJJ)]) (m:=[]) ⟨qWI (fun h=>snd_slw np pn pv (Go.Rx.gP_spec h).1 (Go.Rx.gP_spec h).2),ok_sed,trivial⟩ trivial) (fun p S hp => ?_) ?_
 ·refine qW (L:=qY Tf 37) (l:=(yQL np pn pv ne ed)) (show AllP _ (yQL np pn pv ne ed) from ⟨?_,trivial⟩) p S hp
  ·dsimp only;refine jJ (T:=Tf) (o:=(ormp np pn pv ne ed)) (f:=37) (LO:=qJ []) (p:=[0,1,0,1,1]) jU ?_;intro t K r hr;obtain ⟨hg,hr⟩:=qZ hr;have hG:=Go.Rx.gP_spec hg;exact (lpmp K np pn pv ne ed hG).trans hr
 ·refine (pxsmp np pn pv ne ed).trans ?_;have e:(allN (fun i:Nat=>true) ne 0)=true:=allN_iff.2 fun _ _ _=>rfl
  simp only [g1_t,Go.Rx.gP_of hp,zV,Go.Rx.gP_of hG,e,vYU (show (ne:Int)=(ne:Int) from rfl),Bool.not_true,vYY,vYJ,vZQ]
  all_goals rfl
end Go.Proofs.YtklmegnpfhiibaaGreat.Xp
namespace Go.Proofs.YtklmegnpfhiibaaGreat.Xq
open Go.Rx Rt Go.Sx Go.RowKit Od Nb Nc Xb Xc Bb Xe Xf Xg Xh Xi Xk Xm Xn Xo Xp
noncomputable def qT (js:Nat→J) (ms:Nat→Ms) (n m:Nat) (np:Nat) (pn:Nat→Nat) (pv:Nat→Nat→Int) (ne:Nat) (ed:Nat→Ed) (a b best:Int):=prT (usF js ms n m pn pv a b best) pn pv np
noncomputable def qU (js:Nat→J) (ms:Nat→Ms) (n m:Nat) (np:Nat) (pn:Nat→Nat) (pv:Nat→Nat→Int) (ne:Nat) (ed:Nat→Ed) (a b best:Int):=prU (qT js ms n m np pn pv ne ed a b best).1 ed ne
noncomputable def qQ (js:Nat→J) (ms:Nat→Ms) (n m:Nat) (np:Nat) (pn:Nat→Nat) (pv:Nat→Nat→Int) (ne:Nat) (ed:Nat→Ed) (a b best:Int):Nat:=bif prB js ms n m np pn pv ne ed a b best then (qT js ms n m np pn pv ne ed a b best).2.2.2.1 else 0
noncomputable def qF (js:Nat→J) (ms:Nat→Ms) (n m:Nat) (np:Nat) (pn:Nat→Nat) (pv:Nat→Nat→Int) (ne:Nat) (ed:Nat→Ed) (a b best:Int):Nat→List PV:=(qT js ms n m np pn pv ne ed a b best).2.2.2.2
noncomputable def qS (js:Nat→J) (ms:Nat→Ms) (n m:Nat) (np:Nat) (pn:Nat→Nat) (pv:Nat→Nat→Int) (ne:Nat) (ed:Nat→Ed) (a b best:Int):Nat:=bif prB js ms n m np pn pv ne ed a b best then (qU js ms n m np pn pv ne ed a b best).1 else 0
noncomputable def qE (js:Nat→J) (ms:Nat→Ms) (n m:Nat) (np:Nat) (pn:Nat→Nat) (pv:Nat→Nat→Int) (ne:Nat) (ed:Nat→Ed) (a b best:Int):Nat→List PV:=(qU js ms n m np pn pv ne ed a b best).2
noncomputable def qR (js:Nat→J) (ms:Nat→Ms) (n m:Nat) (np:Nat) (pn:Nat→Nat) (pv:Nat→Nat→Int) (ne:Nat) (ed:Nat→Ed) (a b best:Int):Nat:=bif prB js ms n m np pn pv ne ed a b best then (qT js ms n m np pn pv ne ed a b best).2.1 else 0
noncomputable def qO (js:Nat→J) (ms:Nat→Ms) (n m:Nat) (np:Nat) (pn:Nat→Nat) (pv:Nat→Nat→Int) (ne:Nat) (ed:Nat→Ed) (a b best:Int):Nat→Int:=(qT js ms n m np pn pv ne ed a b best).2.2.1
theorem snd_prw {F:Nat} {ps:List PV} (js:Nat→J) (ms:Nat→Ms) (n m:Nat) (np:Nat) (pn:Nat→Nat) (pv:Nat→Nat→Int) (ne:Nat) (ed:Nat→Ed) (a b best:Int) (h:zQ Tryz.prog F ps (.v (bif prB js ms n m np pn pv ne ed a b best then prV js ms n m np pn pv ne ed a b best else prZ))):zQ Tryz.prog F ps (.v (.t [.a [.lf (qQ js ms n m np pn pv ne ed a b best) (qF js ms n m np pn pv ne ed a b best),.lf (qS js ms n m np pn pv ne ed a b best) (qE js ms n m np pn pv ne ed a b best)],.lf (qR js ms n m np pn pv ne ed a b best) (fQ (qO js ms n m np pn pv ne ed a b best))])):=by
 unfold qQ qS qR;cases hb:prB js ms n m np pn pv ne ed a b best with
 | true=>rw [hb] at h; exact h
 | false =>
  rw [hb] at h;exact qUC (Same.t (xs:=[_,_]) (ys:=[_,_]) ⟨Same.a (xs:=[_,_]) (ys:=[_,_]) ⟨Same.lf rfl,Same.lf rfl,trivial⟩,Same.lf rfl,trivial⟩) h
theorem fP_of {k:Nat} {f:Nat→List PV} {B:Nat} (h:∀ v,v < k→∃ j,j < B∧∃ (m:Nat) (q:Nat→Int),m≤50∧f v=[.lf m (fQ q)]):∃ (pn:Nat→Nat) (pv:Nat→Nat→Int),(∀ v,v < k→pn v≤50)∧∀ v,v < k→f v=fP pn pv v:=by
 have each:∀ v,∃ a:Nat × (Nat→Int),v < k→a.1≤50∧f v=[.lf a.1 (fQ a.2)]:=fun v=>by
  by_cases hv:v < k
  ·obtain ⟨_,_,m,q,h1,h2⟩:=h v hv; exact ⟨(m,q),fun _=>⟨h1,h2⟩⟩
  ·exact ⟨(0,fun _=>0),fun h=>absurd h hv⟩
 obtain ⟨g,hg⟩:=Classical.axiomOfChoice each;exact ⟨fun v=>(g v).1,fun v=>(g v).2,fun v hv=>(hg v hv).1,fun v hv=>(hg v hv).2⟩
theorem fE_of {k:Nat} {f:Nat→List PV} (h:∀ v,v < k→∃ e:Ed,OkE e∧f v=edP e):∃ ed:Nat→Ed,(∀ v,v < k→OkE (ed v))∧∀ v,v < k→f v=fE ed v:=by
 have each:∀ v,∃ e:Ed,v < k→OkE e∧f v=edP e:=fun v=>by
  by_cases hv:v < k
  ·obtain ⟨e,he⟩:=h v hv; exact ⟨e,fun _=>he⟩
  ·exact ⟨unE [],fun h=>absurd h hv⟩
 obtain ⟨g,hg⟩:=Classical.axiomOfChoice each;exact ⟨g,fun v hv=>(hg v hv).1,fun v hv=>(hg v hv).2⟩
theorem okE_rn {e:Ed} (h:OkE e) (nu:Nat→Int):OkE (rnE nu e):=⟨h.p1,h.b1,h.p2,h.p3,h.p4⟩
theorem sm_map {q s:Nat} {f fe:Nat→List PV} (hq:q≤9223372036854775000) (hs:s≤9223372036854775000) (hf:∃ (pn:Nat→Nat) (pv:Nat→Nat→Int),(∀ v,v < q→pn v≤50)∧∀ v,v < q→f v=fP pn pv v) (he:∃ ed:Nat→Ed,(∀ v,v < s→OkE (ed v))∧∀ v,v < s→fe v=fE ed v):zQ Tryz.prog 37 [.a [.lf q f,.lf s fe],.a [.lf q f,.lf s fe]] (.v (.b true)):=by
 obtain ⟨pn,pv,h1,h2⟩:=hf;obtain ⟨ed,h3,h4⟩:=he;have s1:Same (.a [.lf q f,.lf s fe]) (.a [.lf q (fP pn pv),.lf s (fE ed)]):=Same.a (xs:=[_,_]) (ys:=[_,_]) ⟨qYB h2,qYB h4,trivial⟩;exact qZY (fun F w vals hh=>Sames.al (xs:=[_,_]) (ys:=[_,_]) ⟨s1,s1,trivial⟩ hh) (snd_smp q pn pv s ed ⟨hq,h1⟩ ⟨hs,h3⟩)
theorem sm_prw (js:Nat→J) (ms:Nat→Ms) (n m:Nat) (np:Nat) (pn:Nat→Nat) (pv:Nat→Nat→Int) (ne:Nat) (ed:Nat→Ed) (a b best:Int) (_:np≤1000) (_:ne≤8192) (hed:∀ i,i < ne→OkE (ed i)):zQ Tryz.prog 37 [.a [.lf (qQ js ms n m np pn pv ne ed a b best) (qF js ms n m np pn pv ne ed a b best),.lf (qS js ms n m np pn pv ne ed a b best) (qE js ms n m np pn pv ne ed a b best)],.a [.lf (qQ js ms n m np pn pv ne ed a b best) (qF js ms n m np pn pv ne ed a b best),.lf (qS js ms n m np pn pv ne ed a b best) (qE js ms n m np pn pv ne ed a b best)]] (.v (.b true)):=by
 unfold qQ qS;cases hb:prB js ms n m np pn pv ne ed a b best with
 | false=>exact sm_map (Nat.zero_le _) (Nat.zero_le _) ⟨fun _=>0,fun _ _=>0,fun v hv=>absurd hv (Nat.not_lt_zero v),fun v hv=>absurd hv (Nat.not_lt_zero v)⟩ ⟨fun _=>unE [],fun v hv=>absurd hv (Nat.not_lt_zero v),fun v hv=>absurd hv (Nat.not_lt_zero v)⟩
 | true =>
  have hv:vmB js ms n m np pn pv ne ed=true:=by
   unfold prB at hb;simp only [vQJ] at hb;exact hb.1
  have hin:=zHY hv;have hI:PI (usF js ms n m pn pv a b best) pn pv np (qT js ms n m np pn pv ne ed a b best):=prT_PI _ pn pv np;have hE:EI (qT js ms n m np pn pv ne ed a b best).1 ed ne (qU js ms n m np pn pv ne ed a b best):=prU_EI _ ed ne;have c1:=qWG (usF js ms n m pn pv a b best) np;have c2:=qWG (kpE (qT js ms n m np pn pv ne ed a b best).1 ed) ne;simp only [vYY];rw [hI.q,hE.s];refine sm_map (by omega) (by omega) (fP_of (B:=np) fun v hv => ?_) (fE_of fun v hv => ?_)
  ·obtain ⟨j,h1,_,_,_,h5⟩:=hI.ol v hv
   have:=qKF (hin j h1)
   exact ⟨j,h1,pn j,pv j,by omega,h5⟩
  ·obtain ⟨j,h1,_,_,h4⟩:=hE.e v hv;exact ⟨_,okE_rn (hed j h1) _,h4⟩
theorem qR_le (js:Nat→J) (ms:Nat→Ms) (n m:Nat) (np:Nat) (pn:Nat→Nat) (pv:Nat→Nat→Int) (ne:Nat) (ed:Nat→Ed) (a b best:Int) (_:np≤1000):qR js ms n m np pn pv ne ed a b best≤9223372036854775000:=by
 unfold qR;cases prB js ms n m np pn pv ne ed a b best with
 | false=>exact Nat.zero_le _
 | true =>
  have hI:PI (usF js ms n m pn pv a b best) pn pv np (qT js ms n m np pn pv ne ed a b best):=prT_PI _ pn pv np;have c1:=qWG (usF js ms n m pn pv a b best) np;rw [vYY,hI.r]; omega
noncomputable def orprs (js:Nat→J) (ms:Nat→Ms) (n m:Nat) (np:Nat) (pn:Nat→Nat) (pv:Nat→Nat→Int) (ne:Nat) (ed:Nat→Ed) (a b best:Int):OrS:=orS [(17,o_lk [.a [.lf n (fJ js),.lf m (fM ms)],.a [.lf np (fP pn pv),.lf ne (fE ed)],.n .i64 a,.n .i64 b,.n .i64 best] (Go.Rx.gP (np≤1000∧ne≤8192∧∀ i,i < ne→OkE (ed i))) (.v (.t [.a [.lf (qQ js ms n m np pn pv ne ed a b best) (qF js ms n m np pn pv ne ed a b best),.lf (qS js ms n m np pn pv ne ed a b best) (qE js ms n m np pn pv ne ed a b best)],.lf (qR js ms n m np pn pv ne ed a b best) (fQ (qO js ms n m np pn pv ne ed a b best))]))),(35,o_lk [.a [.lf n (fJ js),.lf m (fM ms)],.a [.lf np (fP pn pv),.lf ne (fE ed)],.n .i64 a,.n .i64 b,.n .i64 best] (Go.Rx.gP (np≤1000∧ne≤8192∧∀ i,i < ne→OkE (ed i))) (.v (.t [.a [.lf (qQ js ms n m np pn pv ne ed a b best) (qF js ms n m np pn pv ne ed a b best),.lf (qS js ms n m np pn pv ne ed a b best) (qE js ms n m np pn pv ne ed a b best)],.lf (qR js ms n m np pn pv ne ed a b best) (fQ (qO js ms n m np pn pv ne ed a b best))]))),(36,o_lk [.lf (qR js ms n m np pn pv ne ed a b best) (fQ (qO js ms n m np pn pv ne ed a b best)),.lf (qR js ms n m np pn pv ne ed a b best) (fQ (qO js ms n m np pn pv ne ed a b best))] (decide (qR js ms n m np pn pv ne ed a b best≤9223372036854775000)) (.v (.b true))),(37,o_lk [.a [.lf (qQ js ms n m np pn pv ne ed a b best) (qF js ms n m np pn pv ne ed a b best),.lf (qS js ms n m np pn pv ne ed a b best) (qE js ms n m np pn pv ne ed a b best)],.a [.lf (qQ js ms n m np pn pv ne ed a b best) (qF js ms n m np pn pv ne ed a b best),.lf (qS js ms n m np pn pv ne ed a b best) (qE js ms n m np pn pv ne ed a b best)]] (Go.Rx.gP (np≤1000∧ne≤8192∧∀ i,i < ne→OkE (ed i))) (.v (.b true)))] []
noncomputable def yZX (js:Nat→J) (ms:Nat→Ms) (n m:Nat) (np:Nat) (pn:Nat→Nat) (pv:Nat→Nat→Int) (ne:Nat) (ed:Nat→Ed) (a b best:Int):List (List Nat × yW):=[]
set_option maxRecDepth 100000 in
theorem pxprs (js:Nat→J) (ms:Nat→Ms) (n m:Nat) (np:Nat) (pn:Nat→Nat) (pv:Nat→Nat→Int) (ne:Nat) (ed:Nat→Ed) (a b best:Int):qQU Tf (orprs js ms n m np pn pv ne ed a b best) (qJ (yZX js ms n m np pn pv ne ed a b best)) 60 15 [.a [.lf n (fJ js),.lf m (fM ms)],.a [.lf np (fP pn pv),.lf ne (fE ed)],.n .i64 a,.n .i64 b,.n .i64 best] =
 (bif (g1 [.a [.lf n (fJ js),.lf m (fM ms)],.a [.lf np (fP pn pv),.lf ne (fE ed)],.n .i64 a,.n .i64 b,.n .i64 best] && Go.Rx.gP (np≤1000∧ne≤8192∧∀ i,i < ne→OkE (ed i))) then (bif (g1 [.a [.lf n (fJ js),.lf m (fM ms)],.a [.lf np (fP pn pv),.lf ne (fE ed)],.n .i64 a,.n .i64 b,.n .i64 best] && Go.Rx.gP (np≤1000∧ne≤8192∧∀ i,i < ne→OkE (ed i))) then (bif (g1 [.lf (qR js ms n m np pn pv ne ed a b best) (fQ (qO js ms n m np pn pv ne ed a b best)),.lf (qR js ms n m np pn pv ne ed a b best) (fQ (qO js ms n m np pn pv ne ed a b best))] && (decide (qR js ms n m np pn pv ne ed a b best≤9223372036854775000))) then (bif (g1 [.a [.lf (qQ js ms n m np pn pv ne ed a b best) (qF js ms n m np pn pv ne ed a b best),.lf (qS js ms n m np pn pv ne ed a b best) (qE js ms n m np pn pv ne ed a b best)],.a [.lf (qQ js ms n m np pn pv ne ed a b best) (qF js ms n m np pn pv ne ed a b best),.lf (qS js ms n m np pn pv ne ed a b best) (qE js ms n m np pn pv ne ed a b best)]] && Go.Rx.gP (np≤1000∧ne≤8192∧∀ i,i < ne→OkE (ed i))) then some (.v (.b true),[])
 else none)
 else none)
 else none)
 else none):=by kernel_rfl
theorem zXI (js:Nat→J) (ms:Nat→Ms) (n m:Nat) (np:Nat) (pn:Nat→Nat) (pv:Nat→Nat→Int) (ne:Nat) (ed:Nat→Ed) (a b best:Int) (hp:np≤1000) (he:ne≤8192) (hed:∀ i,i < ne→OkE (ed i)):zQ Tryz.prog 15 [.a [.lf n (fJ js),.lf m (fM ms)],.a [.lf np (fP pn pv),.lf ne (fE ed)],.n .i64 a,.n .i64 b,.n .i64 best] (.v (.b true)):=by
 refine qV (N:=60) (LO:=qJ (yZX js ms n m np pn pv ne ed a b best)) jY jQ (jK (l:=[(17,o_lk [.a [.lf n (fJ js),.lf m (fM ms)],.a [.lf np (fP pn pv),.lf ne (fE ed)],.n .i64 a,.n .i64 b,.n .i64 best] (Go.Rx.gP (np≤1000∧ne≤8192∧∀ i,i < ne→OkE (ed i))) (.v (.t [.a [.lf (qQ js ms n m np pn pv ne ed a b best) (qF js ms n m np pn pv ne ed a b best),.lf (qS js ms n m np pn pv ne ed a b best) (qE js ms n m np pn pv ne ed a b best)],.lf (qR js ms n m np pn pv ne ed a b best) (fQ (qO js ms n m np pn pv ne ed a b best))]))),(35,o_lk [.a [.lf n (fJ js),.lf m (fM ms)],.a [.lf np (fP pn pv),.lf ne (fE ed)],.n .i64 a,.n .i64 b,.n .i64 best] (Go.Rx.gP (np≤1000∧ne≤8192∧∀ i,i < ne→OkE (ed i))) (.v (.t [.a [.lf (qQ js ms n m np pn pv ne ed a b best) (qF js ms n m np pn pv ne ed a b best),.lf (qS js ms n m np pn pv ne ed a b best) (qE js ms n m np pn pv ne ed a b best)],.lf (qR js ms n m np pn pv ne ed a b best) (fQ (qO js ms n m np pn pv ne ed a b best))]))),(36,o_lk [.lf (qR js ms n m np pn pv ne ed a b best) (fQ (qO js ms n m np pn pv ne ed a b best)),.lf (qR js ms n m np pn pv ne ed a b best) (fQ (qO js ms n m np pn pv ne ed a b best))] (decide (qR js ms n m np pn pv ne ed a b best≤9223372036854775000)) (.v (.b true))),(37,o_lk [.a [.lf (qQ js ms n m np pn pv ne ed a b best) (qF js ms n m np pn pv ne ed a b best),.lf (qS js ms n m np pn pv ne ed a b best) (qE js ms n m np pn pv ne ed a b best)],.a [.lf (qQ js ms n m np pn pv ne ed a b best) (qF js ms n m np pn pv ne ed a b best),.lf (qS js ms n m np pn pv ne ed a b best) (qE js ms n m np pn pv ne ed a b best)]] (Go.Rx.gP (np≤1000∧ne≤8192∧∀ i,i < ne→OkE (ed i))) (.v (.b true)))]) (m:=[]) ⟨qWI (fun h=>snd_prw js ms n m np pn pv ne ed a b best (snd_pr0 (np + ne + 1) js ms n m np pn pv ne ed a b best (by omega) (Go.Rx.gP_spec h).1 (Go.Rx.gP_spec h).2.1 (Go.Rx.gP_spec h).2.2)),qWI (fun h=>snd_prw js ms n m np pn pv ne ed a b best (snd_rpr0 (np + ne + 1) js ms n m np pn pv ne ed a b best (by omega) (Go.Rx.gP_spec h).1 (Go.Rx.gP_spec h).2.1)),qWI (fun h=>snd_siw _ _ (vYX h)),qWI (fun h=>sm_prw js ms n m np pn pv ne ed a b best (Go.Rx.gP_spec h).1 (Go.Rx.gP_spec h).2.1 (Go.Rx.gP_spec h).2.2),trivial⟩ trivial) (fun p S hp => ?_) ?_
 ·refine qW (L:=qY Tf 15) (l:=(yZX js ms n m np pn pv ne ed a b best)) (show AllP _ (yZX js ms n m np pn pv ne ed a b best) from trivial) p S hp
 ·refine (pxprs js ms n m np pn pv ne ed a b best).trans ?_;simp only [g1_t,Go.Rx.gP_of (show np≤1000∧ne≤8192∧∀ i,i < ne→OkE (ed i) from ⟨hp,he,hed⟩),vYU (qR_le js ms n m np pn pv ne ed a b best hp),vZQ,vYY]
end Go.Proofs.YtklmegnpfhiibaaGreat.Xq

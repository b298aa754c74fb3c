/- Part 9 of the texts behind the last one: rules and contracts. No condition. -/
import Derived.Test.YtglkkhpdbfacfaaBV8
open Bool renaming and_eq_true → vQJ, true_and → vZW
open Go.IntKind renaming wrap → vYX
namespace Go.Proofs.Ytglkkhpdbfacfaa.Bb
open Go.Rx Rt Go.Sx Go.RowKit Ba
structure Ed where
 u:Int
 v:Int
 c:Int
 s:Int
 kd:Int
 dp:Int
 ix:Int
 pr:Int
 n1:Nat
 f1:Nat→List PV
 n2:Nat
 f2:Nat→List PV
 n3:Nat
 f3:Nat→List PV
 n4:Nat
 f4:Nat→List PV
def edP (e:Ed):List PV:=[.n .i64 e.u,.n .i64 e.v,.n .i64 e.c,.n .i64 e.s,.n .i64 e.kd,.lf e.n1 e.f1,.n .i64 e.dp,.n .i64 e.ix,.lf e.n2 e.f2,.n .i64 e.pr,.lf e.n3 e.f3,.lf e.n4 e.f4]
def fE (ed:Nat→Ed):Nat→List PV:=fun v=>edP (ed v)
structure Gr where
 np:Nat
 pt:Nat→List PV
 ne:Nat
 ed:Nat→Ed
def gP (g:Gr):List PV:=[.lf g.np g.pt,.lf g.ne (fE g.ed)]
def unE (r:List PV):Ed:=match r with
 | [.n _ u,.n _ v,.n _ c,.n _ s,.n _ kd,.lf n1 f1,.n _ dp,.n _ ix,.lf n2 f2,.n _ pr,.lf n3 f3,.lf n4 f4]=>⟨u,v,c,s,kd,dp,ix,pr,n1,f1,n2,f2,n3,f3,n4,f4⟩
 | _=>⟨0,0,0,0,0,0,0,0,0,fun _=>[],0,fun _=>[],0,fun _=>[],0,fun _=>[]⟩
def unFE (f:Nat→List PV):Nat→Ed:=fun v=>unE (f v)
def isP (g:Gr) (v:Int):Bool:=decide (0≤v) && decide (v < (g.np:Int))
def usB (s m:Int):Bool:=bif decide (m=0) then decide (s=1) else bif decide (m=1) then decide (s=1) || decide (s=0) else bif decide (m=2) then !decide (s=2) else false
def btB (a b c d:Int):Bool:=decide (d=0) || (decide (a < c) || (decide (a=c) && decide (b < d)))
def lsB (a b c d:Int):Bool:=bif decide (c < 0) || decide (a < 0) then decide (0≤a) && decide (c < 0) else decide (a < c) || (decide (a=c) && decide (b < d))
def cpI (u v a b:Int):Int:=bif decide (u < a) then -1 else bif decide (a < u) then 1 else bif decide (v < b) then -1 else bif decide (b < v) then 1 else 0
noncomputable def orip (g:Gr) (v:Int):OrS:=orS [] []
noncomputable def lsip (g:Gr) (v:Int):List (List Nat × yK):=[]
set_option maxRecDepth 100000 in
theorem pxip (g:Gr) (v:Int):qZV Tf (orip g v) (qY (lsip g v)) 60 54 [.a (gP g),.n .i64 v] =
 (bif (decide (0≤v)) then (bif (decide (v < (g.np:Int))) then some (.v (.b true),[])
 else some (.v (.b false),[]))
 else some (.v (.b false),[])):=by kernel_rfl
theorem jYE (g:Gr) (v:Int):zH Try.prog 54 [.a (gP g),.n .i64 v] (.v (.b (isP g v))):=by
 refine zJ (N:=60) (LO:=qY (lsip g v)) kJ jJ (kX (l:=[]) (m:=[]) trivial trivial) (fun p S hp => ?_) ?_
 ·refine qV (L:=qZ Tf 54) (l:=(lsip g v)) (show AllP _ (lsip g v) from trivial) p S hp
 ·refine (pxip g v).trans ?_;unfold isP;cases decide (0≤v) <;> cases decide (v < (g.np:Int)) <;> rfl
def cip:Gr × Int→Prop:=fun t=>match t with | (_,_)=>True
def eip:Gr × Int→List PV:=fun t=>match t with | (g,v)=>[.a (gP g),.n .i64 v]
noncomputable def rip:Gr × Int→Ret:=fun t=>match t with | (g,v)=>.v (.b (isP g v))
def dip:List PV→Gr × Int:=fun ps=>match ps with
 | [.a [.lf np pt,.lf ne ed],.n _ v]=>(⟨np,pt,ne,unFE ed⟩,v)
 | _=>(⟨0,fun _=>[],0,fun _=>unE []⟩,0)
noncomputable def o_ip:List PV→Option (Bool × Ret):=o_fm dip cip eip rip
theorem jKY:qZC Try.prog 54 o_ip:=qJJ fun t h=>by
 obtain ⟨g,v⟩:=t;exact jYE g v
noncomputable def orus (s m:Int):OrS:=orS [] []
noncomputable def lsus (s m:Int):List (List Nat × yK):=[]
set_option maxRecDepth 100000 in
theorem pxus (s m:Int):qZV Tf (orus s m) (qY (lsus s m)) 60 69 [.n .i64 s,.n .i64 m] =
 (bif (decide (m=0)) then (bif (decide (s=1)) then some (.v (.b true),[])
 else some (.v (.b false),[]))
 else (bif (decide (m=1)) then (bif (decide (s=1)) then some (.v (.b true),[])
 else (bif (decide (s=0)) then some (.v (.b true),[])
 else some (.v (.b false),[])))
 else (bif (decide (m=2)) then (bif (!decide (s=2)) then some (.v (.b true),[])
 else some (.v (.b false),[]))
 else some (.v (.b false),[])))):=by kernel_rfl
theorem jYX (s m:Int):zH Try.prog 69 [.n .i64 s,.n .i64 m] (.v (.b (usB s m))):=by
 refine zJ (N:=60) (LO:=qY (lsus s m)) kJ jJ (kX (l:=[]) (m:=[]) trivial trivial) (fun p S hp => ?_) ?_
 ·refine qV (L:=qZ Tf 69) (l:=(lsus s m)) (show AllP _ (lsus s m) from trivial) p S hp
 ·refine (pxus s m).trans ?_;unfold usB;cases decide (m=0) <;> cases decide (m=1) <;> cases decide (m=2) <;> cases decide (s=0) <;> cases decide (s=1) <;> cases decide (s=2) <;> rfl
def cus:Int × Int→Prop:=fun t=>match t with | (_,_)=>True
def eus:Int × Int→List PV:=fun t=>match t with | (s,m)=>[.n .i64 s,.n .i64 m]
noncomputable def rus:Int × Int→Ret:=fun t=>match t with | (s,m)=>.v (.b (usB s m))
def dus:List PV→Int × Int:=fun ps=>match ps with
 | [.n _ a,.n _ b]=>(a,b)
 | _=>(0,0)
noncomputable def o_us:List PV→Option (Bool × Ret):=o_fm dus cus eus rus
theorem jWV:qZC Try.prog 69 o_us:=qJJ fun t h=>by
 obtain ⟨s,m⟩:=t;exact jYX s m
noncomputable def orbt (a b c d:Int):OrS:=orS [] []
noncomputable def lsbt (a b c d:Int):List (List Nat × yK):=[]
set_option maxRecDepth 100000 in
theorem pxbt (a b c d:Int):qZV Tf (orbt a b c d) (qY (lsbt a b c d)) 60 65 [.a [.n .i64 a,.n .i64 b],.a [.n .i64 c,.n .i64 d]] =
 (bif (decide (d=0)) then some (.v (.b true),[])
 else (bif (decide (a < c)) then some (.v (.b true),[])
 else (bif (decide (a=c)) then (bif (decide (b < d)) then some (.v (.b true),[])
 else some (.v (.b false),[]))
 else some (.v (.b false),[])))):=by kernel_rfl
theorem jJJ (a b c d:Int):zH Try.prog 65 [.a [.n .i64 a,.n .i64 b],.a [.n .i64 c,.n .i64 d]] (.v (.b (btB a b c d))):=by
 refine zJ (N:=60) (LO:=qY (lsbt a b c d)) kJ jJ (kX (l:=[]) (m:=[]) trivial trivial) (fun p S hp => ?_) ?_
 ·refine qV (L:=qZ Tf 65) (l:=(lsbt a b c d)) (show AllP _ (lsbt a b c d) from trivial) p S hp
 ·refine (pxbt a b c d).trans ?_;unfold btB;cases decide (d=0) <;> cases decide (a < c) <;> cases decide (a=c) <;> cases decide (b < d) <;> rfl
def cbt:Int × Int × Int × Int→Prop:=fun t=>match t with | (_,_,_,_)=>True
def ebt:Int × Int × Int × Int→List PV:=fun t=>match t with | (a,b,c,d)=>[.a [.n .i64 a,.n .i64 b],.a [.n .i64 c,.n .i64 d]]
noncomputable def rbt:Int × Int × Int × Int→Ret:=fun t=>match t with | (a,b,c,d)=>.v (.b (btB a b c d))
def dbt:List PV→Int × Int × Int × Int:=fun ps=>match ps with
 | [.a [.n _ a,.n _ b],.a [.n _ c,.n _ d]]=>(a,b,c,d)
 | _=>(0,0,0,0)
noncomputable def o_bt:List PV→Option (Bool × Ret):=o_fm dbt cbt ebt rbt
theorem jZJ:qZC Try.prog 65 o_bt:=qJJ fun t h=>by
 obtain ⟨a,b,c,d⟩:=t;exact jJJ a b c d
noncomputable def orcp (e:Ed) (a b:Int):OrS:=orS [] []
noncomputable def lscp (e:Ed) (a b:Int):List (List Nat × yK):=[]
set_option maxRecDepth 100000 in
theorem pxcp (e:Ed) (a b:Int):qZV Tf (orcp e a b) (qY (lscp e a b)) 60 63 [.a (edP e),.a [.n .i64 a,.n .i64 b]] =
 (bif (!decide (e.u=e.u)) then (bif (!decide (a=a)) then (bif (!decide (e.v=e.v)) then (bif (!decide (b=b)) then some (.v (.n .i64 0),[])
 else some (.v (.n .i64 (-1)),[]))
 else (bif (!decide (b=b)) then some (.v (.n .i64 1),[])
 else (bif (decide (e.v < b)) then some (.v (.n .i64 (-1)),[])
 else (bif (decide (b < e.v)) then some (.v (.n .i64 1),[])
 else some (.v (.n .i64 0),[])))))
 else (bif (!decide (e.v=e.v)) then (bif (!decide (b=b)) then some (.v (.n .i64 (-1)),[])
 else some (.v (.n .i64 (-1)),[]))
 else (bif (!decide (b=b)) then some (.v (.n .i64 (-1)),[])
 else (bif (decide (e.v < b)) then some (.v (.n .i64 (-1)),[])
 else (bif (decide (b < e.v)) then some (.v (.n .i64 (-1)),[])
 else some (.v (.n .i64 (-1)),[]))))))
 else (bif (!decide (a=a)) then (bif (!decide (e.v=e.v)) then (bif (!decide (b=b)) then some (.v (.n .i64 1),[])
 else some (.v (.n .i64 1),[]))
 else (bif (!decide (b=b)) then some (.v (.n .i64 1),[])
 else (bif (decide (e.v < b)) then some (.v (.n .i64 1),[])
 else (bif (decide (b < e.v)) then some (.v (.n .i64 1),[])
 else some (.v (.n .i64 1),[])))))
 else (bif (decide (e.u < a)) then (bif (!decide (e.v=e.v)) then (bif (!decide (b=b)) then some (.v (.n .i64 (-1)),[])
 else some (.v (.n .i64 (-1)),[]))
 else (bif (!decide (b=b)) then some (.v (.n .i64 (-1)),[])
 else (bif (decide (e.v < b)) then some (.v (.n .i64 (-1)),[])
 else (bif (decide (b < e.v)) then some (.v (.n .i64 (-1)),[])
 else some (.v (.n .i64 (-1)),[])))))
 else (bif (decide (a < e.u)) then (bif (!decide (e.v=e.v)) then (bif (!decide (b=b)) then some (.v (.n .i64 1),[])
 else some (.v (.n .i64 1),[]))
 else (bif (!decide (b=b)) then some (.v (.n .i64 1),[])
 else (bif (decide (e.v < b)) then some (.v (.n .i64 1),[])
 else (bif (decide (b < e.v)) then some (.v (.n .i64 1),[])
 else some (.v (.n .i64 1),[])))))
 else (bif (!decide (e.v=e.v)) then (bif (!decide (b=b)) then some (.v (.n .i64 0),[])
 else some (.v (.n .i64 (-1)),[]))
 else (bif (!decide (b=b)) then some (.v (.n .i64 1),[])
 else (bif (decide (e.v < b)) then some (.v (.n .i64 (-1)),[])
 else (bif (decide (b < e.v)) then some (.v (.n .i64 1),[])
 else some (.v (.n .i64 0),[]))))))))):=by kernel_rfl
theorem jJQ (e:Ed) (a b:Int):zH Try.prog 63 [.a (edP e),.a [.n .i64 a,.n .i64 b]] (.v (.n .i64 (cpI e.u e.v a b))):=by
 refine zJ (N:=60) (LO:=qY (lscp e a b)) kJ jJ (kX (l:=[]) (m:=[]) trivial trivial) (fun p S hp => ?_) ?_
 ·refine qV (L:=qZ Tf 63) (l:=(lscp e a b)) (show AllP _ (lscp e a b) from trivial) p S hp
 ·refine (pxcp e a b).trans ?_;unfold cpI;simp only [decide_true,Bool.not_true,vYZ];cases decide (e.u < a) <;> cases decide (a < e.u) <;> cases decide (e.v < b) <;> cases decide (b < e.v) <;> rfl
def ccp:Ed × Int × Int→Prop:=fun t=>match t with | (_,_,_)=>True
def ecp:Ed × Int × Int→List PV:=fun t=>match t with | (e,a,b)=>[.a (edP e),.a [.n .i64 a,.n .i64 b]]
noncomputable def rcp:Ed × Int × Int→Ret:=fun t=>match t with | (e,a,b)=>.v (.n .i64 (cpI e.u e.v a b))
def dcp:List PV→Ed × Int × Int:=fun ps=>match ps with
 | [.a r,.a [.n _ a,.n _ b]]=>(unE r,a,b)
 | _=>(unE [],0,0)
noncomputable def o_cp:List PV→Option (Bool × Ret):=o_fm dcp ccp ecp rcp
theorem jWL:qZC Try.prog 63 o_cp:=qJJ fun t h=>by
 obtain ⟨e,a,b⟩:=t;exact jJQ e a b
def okE (g:Gr) (i:Nat):Bool:=isP g (g.ed i).u && (isP g (g.ed i).v && (!decide ((g.ed i).v≤(g.ed i).u) && (!decide ((g.ed i).c < 0) && (!decide (1099511627776 < (g.ed i).c) && (decide (i=0) || !decide (0≤cpI (g.ed (i - 1)).u (g.ed (i - 1)).v (g.ed i).u (g.ed i).v))))))
def wfB (g:Gr):Bool:=decide (g.np≤1024) && (decide (g.ne≤8192) && allN (fun i:Nat=>okE g i) g.ne 0)
noncomputable def orwf (g:Gr):OrS:=orS [(54,o_ip),(63,o_cp)] []
noncomputable def hwf (g:Gr) (i:Int):St:=⟨[(1,.p 1 0),(17,.v (.n .i64 (g.ne:Int))),(18,.v (.n .i64 i))],[(1,.blk [.v (.lf g.np g.pt),.v (.lf g.ne (fE g.ed))])]⟩
set_option maxRecDepth 100000 in
theorem rdwf (G:St→Option (Ret × Mem)) (K:Cont) (g:Gr) (i:Int):yX (g.ne + 10) (cxS Tf (orwf g) (g.ne + 10) 53 (ntmF Tf 53)) (evX Tf (orwf g) (g.ne + 10) 53 (ntmF Tf 53)) (qY []) (qZ Tf 53 [0,1,0,1,1]) [0,1,0,1,1] (Tf.hint 53 (qJ (qZ Tf 53 [0,1,0,1,1]))) K G (hwf g i) =
 (bif (decide (i < (g.ne:Int))) then (bif (inB i g.ne) then (bif (gF1 cip eip (g,((g.ed (i).toNat).u))) then (bif (isP g ((g.ed (i).toNat).u)) then (bif (gF1 cip eip (g,((g.ed (i).toNat).v))) then (bif (isP g ((g.ed (i).toNat).v)) then (bif (decide ((g.ed (i).toNat).v≤(g.ed (i).toNat).u)) then (K .ret ⟨[(2,.v (.b false))],[]⟩)
 else (bif (decide ((g.ed (i).toNat).c < 0)) then (K .ret ⟨[(2,.v (.b false))],[]⟩)
 else (bif (decide (1099511627776 < (g.ed (i).toNat).c)) then (K .ret ⟨[(2,.v (.b false))],[]⟩)
 else (bif (decide (0 < i)) then (bif (inB (vYX .i64 (i - 1)) g.ne) then (bif (gF1 ccp ecp ((g.ed ((vYX .i64 (i - 1))).toNat),((g.ed (i).toNat).u),((g.ed (i).toNat).v))) then (bif (decide (0≤(cpI (g.ed ((vYX .i64 (i - 1))).toNat).u (g.ed ((vYX .i64 (i - 1))).toNat).v ((g.ed (i).toNat).u) ((g.ed (i).toNat).v)))) then (K .ret ⟨[(2,.v (.b false))],[]⟩)
 else (G (hwf g (vYX .i64 (i + 1)))))
 else none)
 else none)
 else (G (hwf g (vYX .i64 (i + 1))))))))
 else (K .ret ⟨[(2,.v (.b false))],[]⟩))
 else none)
 else (K .ret ⟨[(2,.v (.b false))],[]⟩))
 else none)
 else none)
 else (K (.exit 0) ⟨[],[]⟩)):=by kernel_rfl
theorem lpwf (K:Cont) (g:Gr) (_:g.ne≤8192):LFX (g.ne + 10) (cxS Tf (orwf g) (g.ne + 10) 53 (ntmF Tf 53)) (evX Tf (orwf g) (g.ne + 10) 53 (ntmF Tf 53)) (qY []) (qZ Tf 53 [0,1,0,1,1]) [0,1,0,1,1] (Tf.hint 53 (qJ (qZ Tf 53 [0,1,0,1,1]))) K (g.ne + 10) (hwf g 0)=bif (allN (fun i:Nat=>okE g i) g.ne 0) then (K (.exit 0) ⟨[],[]⟩) else (K .ret ⟨[(2,.v (.b false))],[]⟩):=by
 refine (zKQ (L:=LFX (g.ne + 10) (cxS Tf (orwf g) (g.ne + 10) 53 (ntmF Tf 53)) (evX Tf (orwf g) (g.ne + 10) 53 (ntmF Tf 53)) (qY []) (qZ Tf 53 [0,1,0,1,1]) [0,1,0,1,1] (Tf.hint 53 (qJ (qZ Tf 53 [0,1,0,1,1]))) K) (stp:=yX (g.ne + 10) (cxS Tf (orwf g) (g.ne + 10) 53 (ntmF Tf 53)) (evX Tf (orwf g) (g.ne + 10) 53 (ntmF Tf 53)) (qY []) (qZ Tf 53 [0,1,0,1,1]) [0,1,0,1,1] (Tf.hint 53 (qJ (qZ Tf 53 [0,1,0,1,1]))) K) (fun _ _=>rfl) (fun (i:Nat) (_:Unit)=>hwf g (i:Int)) (fun _ _=>True) (fun (i:Nat) _=>okE g i) (fun _ _=>()) (c:=g.ne) (fun _=>(K (.exit 0) ⟨[],[]⟩)) (fun i _=>(K .ret ⟨[(2,.v (.b false))],[]⟩)) (fun G i f hi _ => ?_) (fun _ _ _ _ _=>trivial) (fun G f _ => ?_) g.ne 0 (g.ne + 10) () (by omega) (by omega) trivial).trans ((qYE _ _ _ _ _).trans (qJQ _ _ _ _ _))
 ·refine (rdwf G K g i).trans ?_;rw [vYJ (show (i:Int) < (g.ne:Int) by omega),qQB (by omega),zV (show i < g.ne by omega)];simp only [toN,uX (C:=cip) (t:=_) trivial,vYQ];by_cases h0:i=0
  ·have e0:decide (0 < (i:Int))=false:=vYY (by omega);simp only [okE,e0,vYJ h0,Bool.true_or,vYZ,Bool.and_true];cases isP g (g.ed i).u <;> cases isP g (g.ed i).v <;> cases decide ((g.ed i).v≤(g.ed i).u) <;> cases decide ((g.ed i).c < 0) <;> cases decide (1099511627776 < (g.ed i).c) <;> rfl
  ·have e0:decide (0 < (i:Int))=true:=vYJ (by omega);have e1:vYX .i64 ((i:Int) - 1)=((i - 1:Nat):Int):=by rw [yG (by omega)]; omega
   simp only [okE,e0,e1,toN,zV (show i - 1 < g.ne by omega),uX (C:=ccp) (t:=_) trivial,vYY h0,Bool.false_or,vYQ];cases isP g (g.ed i).u <;> cases isP g (g.ed i).v <;> cases decide ((g.ed i).v≤(g.ed i).u) <;> cases decide ((g.ed i).c < 0) <;> cases decide (1099511627776 < (g.ed i).c) <;> cases decide (0≤cpI (g.ed (i - 1)).u (g.ed (i - 1)).v (g.ed i).u (g.ed i).v) <;> rfl
 ·refine (rdwf G K g g.ne).trans ?_;rw [vYY (show ¬ (g.ne:Int) < (g.ne:Int) by omega)];rfl
noncomputable def lswf (g:Gr):List (List Nat × yK):=[([0,1,0,1,1],sumF (fun _:Unit=>(hwf g 0)) (fun _=>()) (fun _ K=>(bif (decide (g.ne≤8192)) then (bif (allN (fun i:Nat=>okE g i) g.ne 0) then (K (.exit 0) ⟨[],[]⟩) else (K .ret ⟨[(2,.v (.b false))],[]⟩)) else none)))]
set_option maxRecDepth 100000 in
theorem pxwf (g:Gr):qZV Tf (orwf g) (qY (lswf g)) (g.ne + 10) 53 [.a (gP g)] =
 (bif (decide (1024 < (g.np:Int))) then some (.v (.b false),[])
 else (bif (decide (8192 < (g.ne:Int))) then some (.v (.b false),[])
 else (bif (gSt (hwf g 0) (hwf g 0)) then (bif (decide (g.ne≤8192)) then (bif (allN (fun i:Nat=>okE g i) g.ne 0) then some (.v (.b true),[])
 else some (.v (.b false),[]))
 else none)
 else none))):=by kernel_rfl
theorem jYU (g:Gr):zH Try.prog 53 [.a (gP g)] (.v (.b (wfB g))):=by
 refine zJ (N:=(g.ne + 10)) (LO:=qY (lswf g)) kJ jJ (kX (l:=[(54,o_ip),(63,o_cp)]) (m:=[]) ⟨jKY,jWL,trivial⟩ trivial) (fun p S hp => ?_) ?_
 ·refine qV (L:=qZ Tf 53) (l:=(lswf g)) (show AllP _ (lswf g) from ⟨?_,trivial⟩) p S hp
  ·dsimp only;refine yV (T:=Tf) (o:=(orwf g)) (f:=53) (LO:=qY []) (p:=[0,1,0,1,1]) kZ ?_;intro t K r hr;obtain ⟨hg,hr⟩:=qQ hr;have hn:=vYK hg;exact (lpwf K g hn).trans hr
 ·refine (pxwf g).trans ?_;unfold wfB;by_cases h1:g.np≤1024
  ·rw [vYY (show ¬ (1024:Int) < (g.np:Int) by omega),vYJ h1];by_cases h2:g.ne≤8192
   ·rw [vYY (show ¬ (8192:Int) < (g.ne:Int) by omega),vYJ h2];simp only [yY,vYQ,vYZ,vZW];cases allN (fun i:Nat=>okE g i) g.ne 0 <;> rfl
   ·rw [vYJ (show (8192:Int) < (g.ne:Int) by omega),vYY h2]; rfl
  ·rw [vYJ (show (1024:Int) < (g.np:Int) by omega),vYY h1]; rfl
def cwf:Gr→Prop:=fun t=>match t with | _=>True
def ewf:Gr→List PV:=fun t=>match t with | g=>[.a (gP g)]
noncomputable def rwf:Gr→Ret:=fun t=>match t with | g=>.v (.b (wfB g))
def dwf:List PV→Gr:=fun ps=>match ps with
 | [.a [.lf np pt,.lf ne ed]]=>⟨np,pt,ne,unFE ed⟩
 | _=>⟨0,fun _=>[],0,fun _=>unE []⟩
noncomputable def o_wf:List PV→Option (Bool × Ret):=o_fm dwf cwf ewf rwf
theorem jWW:qZC Try.prog 53 o_wf:=qJJ fun t h=>by
 revert h; revert t; intro g h
 exact jYU g
noncomputable def hor (g:Gr) (i:Int):St:=⟨[(1,.p 1 0),(3,.v (.n .i64 i))],[(1,.blk [.v (.lf g.np g.pt),.v (.lf g.ne (fE g.ed))])]⟩
end Go.Proofs.Ytglkkhpdbfacfaa.Bb
namespace Go.Proofs.Ytglkkhpdbfacfaa.Bc
open Go.Rx Rt Go.Sx Go.RowKit Ba Bb
def nsR (σ:St) (k:Nat):Nat→Go.Rx.Rows:=match qU σ.M k with
 | some (.nst _ _ _ (.fo _ f) _)=>f
 | _=>fun _=>.l []
def nsN (σ:St) (k:Nat):Nat→Nat:=fun u=>(nsR σ k u).len
def nsI (σ:St) (k c:Nat):Nat→Nat→Int:=fun u w=>match nsR σ k u with
 | .fo _ f=>(match (f w)[c]? with | some (.n _ i)=>i | _=>0)
 | _=>0
noncomputable def orlk (N:Nat) (g:Gr) (m:Int):OrS:=orS [(69,o_us)] []
noncomputable def hlk (N:Nat) (g:Gr) (m:Int) (i:Int) (ln:Nat→Nat) (lt:Nat→Nat→Int) (lc:Nat→Nat→Int):St:=⟨[(1,.v (.n .i64 m)),(2,.p 2 0),(5,.o 11),(14,.v (.n .i64 (g.ne:Int))),(15,.v (.n .i64 i))],[(2,.blk [.v (.lf g.np g.pt),.v (.lf g.ne (fE g.ed))]),(11,.nst 102 104 2 (.fo (g.np:Int).toNat fun u=>(.fo (ln u) (fun w=>[.n .i64 (lt u w),.n .i64 (lc u w)]))) none)]⟩
set_option maxRecDepth 100000 in
theorem rdlk (G:St→Option (Ret × Mem)) (K:Cont) (N:Nat) (g:Gr) (m:Int) (i:Int) (ln:Nat→Nat) (lt:Nat→Nat→Int) (lc:Nat→Nat→Int):yX N (cxS Tf (orlk N g m) N 56 (ntmF Tf 56)) (evX Tf (orlk N g m) N 56 (ntmF Tf 56)) (qY []) (qZ Tf 56 [0,1,0,1,1]) [0,1,0,1,1] (Tf.hint 56 (qJ (qZ Tf 56 [0,1,0,1,1]))) K G (hlk N g m i ln lt lc) =
 (bif (decide (i < (g.ne:Int))) then (bif (inB i g.ne) then (bif (gF1 cus eus (((g.ed (i).toNat).s),m)) then (bif (usB ((g.ed (i).toNat).s) m) then (bif (inB (g.ed (i).toNat).u (g.np:Int).toNat) then (bif (decide ((ln (g.ed (i).toNat).u.toNat) + 1≤1000000)) then (bif (inB (g.ed (i).toNat).u (g.np:Int).toNat) then (bif (Nat.beq (g.ed (i).toNat).u.toNat (g.ed (i).toNat).u.toNat) then (bif (Nat.beq (g.ed (i).toNat).u.toNat (g.ed (i).toNat).u.toNat) then (bif (inB (g.ed (i).toNat).v (g.np:Int).toNat) then (bif (decide ((bif (Nat.beq (g.ed (i).toNat).v.toNat (g.ed (i).toNat).u.toNat) then ((ln (g.ed (i).toNat).u.toNat) + 1) else (ln (g.ed (i).toNat).v.toNat)) + 1≤1000000)) then (bif (inB (g.ed (i).toNat).v (g.np:Int).toNat) then (bif (Nat.beq (g.ed (i).toNat).v.toNat (g.ed (i).toNat).v.toNat) then (bif (Nat.beq (g.ed (i).toNat).v.toNat (g.ed (i).toNat).v.toNat) then (G (hlk N g m (vYX .i64 (i + 1)) (fun u=>(bif (Nat.beq u (g.ed (i).toNat).v.toNat) then ((bif (Nat.beq (g.ed (i).toNat).v.toNat (g.ed (i).toNat).u.toNat) then ((ln (g.ed (i).toNat).u.toNat) + 1) else (ln (g.ed (i).toNat).v.toNat)) + 1) else (bif (Nat.beq u (g.ed (i).toNat).u.toNat) then ((ln (g.ed (i).toNat).u.toNat) + 1) else (ln u)))) (fun u w=>(bif (Nat.beq u (g.ed (i).toNat).v.toNat) then (bif (Nat.beq w (bif (Nat.beq (g.ed (i).toNat).v.toNat (g.ed (i).toNat).u.toNat) then ((ln (g.ed (i).toNat).u.toNat) + 1) else (ln (g.ed (i).toNat).v.toNat))) then (g.ed (i).toNat).u else (bif (Nat.beq (g.ed (i).toNat).v.toNat (g.ed (i).toNat).u.toNat) then (bif (Nat.beq w (ln (g.ed (i).toNat).u.toNat)) then (g.ed (i).toNat).v else (lt (g.ed (i).toNat).u.toNat w)) else (lt (g.ed (i).toNat).v.toNat w))) else (bif (Nat.beq u (g.ed (i).toNat).u.toNat) then (bif (Nat.beq w (ln (g.ed (i).toNat).u.toNat)) then (g.ed (i).toNat).v else (lt (g.ed (i).toNat).u.toNat w)) else (lt u w)))) (fun u w=>(bif (Nat.beq u (g.ed (i).toNat).v.toNat) then (bif (Nat.beq w (bif (Nat.beq (g.ed (i).toNat).v.toNat (g.ed (i).toNat).u.toNat) then ((ln (g.ed (i).toNat).u.toNat) + 1) else (ln (g.ed (i).toNat).v.toNat))) then (g.ed (i).toNat).c else (bif (Nat.beq (g.ed (i).toNat).v.toNat (g.ed (i).toNat).u.toNat) then (bif (Nat.beq w (ln (g.ed (i).toNat).u.toNat)) then (g.ed (i).toNat).c else (lc (g.ed (i).toNat).u.toNat w)) else (lc (g.ed (i).toNat).v.toNat w))) else (bif (Nat.beq u (g.ed (i).toNat).u.toNat) then (bif (Nat.beq w (ln (g.ed (i).toNat).u.toNat)) then (g.ed (i).toNat).c else (lc (g.ed (i).toNat).u.toNat w)) else (lc u w))))))
 else none)
 else none)
 else none)
 else none)
 else none)
 else none)
 else none)
 else none)
 else none)
 else none)
 else (G (hlk N g m (vYX .i64 (i + 1)) (fun u=>(ln u)) (fun u w=>(lt u w)) (fun u w=>(lc u w)))))
 else none)
 else none)
 else (K (.exit 0) ⟨[(5,.o 11)],[(11,.reg 102 1 (.fo (g.np:Int).toNat (fun u=>[.lf (ln u) (fun w=>[.n .i64 (lt u w),.n .i64 (lc u w)])])))]⟩)):=by kernel_rfl
noncomputable def dclk (g:Gr) (m:Int):(Int × (Nat→Nat) × (Nat→Nat→Int) × (Nat→Nat→Int))→(Int × (Nat→Nat) × (Nat→Nat→Int) × (Nat→Nat→Int)) ⊕ (Nat × Int × (Nat→Nat) × (Nat→Nat→Int) × (Nat→Nat→Int)):=fun t=>match t with | (i,ln,lt,lc)=>(bif (decide (i < (g.ne:Int))) then (bif (inB i g.ne) then (bif (gF1 cus eus (((g.ed (i).toNat).s),m)) then (bif (usB ((g.ed (i).toNat).s) m) then (bif (inB (g.ed (i).toNat).u (g.np:Int).toNat) then (bif (decide ((ln (g.ed (i).toNat).u.toNat) + 1≤1000000)) then (bif (Nat.beq (g.ed (i).toNat).u.toNat (g.ed (i).toNat).u.toNat) then (bif (inB (g.ed (i).toNat).v (g.np:Int).toNat) then (bif (decide ((bif (Nat.beq (g.ed (i).toNat).v.toNat (g.ed (i).toNat).u.toNat) then ((ln (g.ed (i).toNat).u.toNat) + 1) else (ln (g.ed (i).toNat).v.toNat)) + 1≤1000000)) then (bif (Nat.beq (g.ed (i).toNat).v.toNat (g.ed (i).toNat).v.toNat) then (.inl ((vYX .i64 (i + 1)),(fun u=>(bif (Nat.beq u (g.ed (i).toNat).v.toNat) then ((bif (Nat.beq (g.ed (i).toNat).v.toNat (g.ed (i).toNat).u.toNat) then ((ln (g.ed (i).toNat).u.toNat) + 1) else (ln (g.ed (i).toNat).v.toNat)) + 1) else (bif (Nat.beq u (g.ed (i).toNat).u.toNat) then ((ln (g.ed (i).toNat).u.toNat) + 1) else (ln u)))),(fun u w=>(bif (Nat.beq u (g.ed (i).toNat).v.toNat) then (bif (Nat.beq w (bif (Nat.beq (g.ed (i).toNat).v.toNat (g.ed (i).toNat).u.toNat) then ((ln (g.ed (i).toNat).u.toNat) + 1) else (ln (g.ed (i).toNat).v.toNat))) then (g.ed (i).toNat).u else (bif (Nat.beq (g.ed (i).toNat).v.toNat (g.ed (i).toNat).u.toNat) then (bif (Nat.beq w (ln (g.ed (i).toNat).u.toNat)) then (g.ed (i).toNat).v else (lt (g.ed (i).toNat).u.toNat w)) else (lt (g.ed (i).toNat).v.toNat w))) else (bif (Nat.beq u (g.ed (i).toNat).u.toNat) then (bif (Nat.beq w (ln (g.ed (i).toNat).u.toNat)) then (g.ed (i).toNat).v else (lt (g.ed (i).toNat).u.toNat w)) else (lt u w)))),(fun u w=>(bif (Nat.beq u (g.ed (i).toNat).v.toNat) then (bif (Nat.beq w (bif (Nat.beq (g.ed (i).toNat).v.toNat (g.ed (i).toNat).u.toNat) then ((ln (g.ed (i).toNat).u.toNat) + 1) else (ln (g.ed (i).toNat).v.toNat))) then (g.ed (i).toNat).c else (bif (Nat.beq (g.ed (i).toNat).v.toNat (g.ed (i).toNat).u.toNat) then (bif (Nat.beq w (ln (g.ed (i).toNat).u.toNat)) then (g.ed (i).toNat).c else (lc (g.ed (i).toNat).u.toNat w)) else (lc (g.ed (i).toNat).v.toNat w))) else (bif (Nat.beq u (g.ed (i).toNat).u.toNat) then (bif (Nat.beq w (ln (g.ed (i).toNat).u.toNat)) then (g.ed (i).toNat).c else (lc (g.ed (i).toNat).u.toNat w)) else (lc u w)))))) else (.inr (1,(i,ln,lt,lc)))) else (.inr (1,(i,ln,lt,lc)))) else (.inr (1,(i,ln,lt,lc)))) else (.inr (1,(i,ln,lt,lc)))) else (.inr (1,(i,ln,lt,lc)))) else (.inr (1,(i,ln,lt,lc)))) else (.inl ((vYX .i64 (i + 1)),(fun u=>(ln u)),(fun u w=>(lt u w)),(fun u w=>(lc u w))))) else (.inr (1,(i,ln,lt,lc)))) else (.inr (1,(i,ln,lt,lc)))) else (.inr (0,(i,ln,lt,lc))))
noncomputable def kxlk (N:Nat) (g:Gr) (m:Int) (K:Cont) (w9:Nat × Int × (Nat→Nat) × (Nat→Nat→Int) × (Nat→Nat→Int)):Option (Ret × Mem):=bif Nat.beq w9.1 0 then (K (.exit 0) ⟨[(5,.o 11)],[(11,.reg 102 1 (.fo (g.np:Int).toNat (fun u=>[.lf (w9.2.2.1 u) (fun w=>[.n .i64 (w9.2.2.2.1 u w),.n .i64 (w9.2.2.2.2 u w)])])))]⟩) else none
theorem wllk (K:Cont) (N:Nat) (g:Gr) (m:Int):∀ n9 (t:(Int × (Nat→Nat) × (Nat→Nat→Int) × (Nat→Nat→Int))),LFX N (cxS Tf (orlk N g m) N 56 (ntmF Tf 56)) (evX Tf (orlk N g m) N 56 (ntmF Tf 56)) (qY []) (qZ Tf 56 [0,1,0,1,1]) [0,1,0,1,1] (Tf.hint 56 (qJ (qZ Tf 56 [0,1,0,1,1]))) K n9 (hlk N g m t.1 t.2.1 t.2.2.1 t.2.2.2)=(qX (dclk g m) n9 t).bind (kxlk N g m K):=fun n9 t=>by
 refine qQY (L:=LFX N (cxS Tf (orlk N g m) N 56 (ntmF Tf 56)) (evX Tf (orlk N g m) N 56 (ntmF Tf 56)) (qY []) (qZ Tf 56 [0,1,0,1,1]) [0,1,0,1,1] (Tf.hint 56 (qJ (qZ Tf 56 [0,1,0,1,1]))) K) (stp:=yX N (cxS Tf (orlk N g m) N 56 (ntmF Tf 56)) (evX Tf (orlk N g m) N 56 (ntmF Tf 56)) (qY []) (qZ Tf 56 [0,1,0,1,1]) [0,1,0,1,1] (Tf.hint 56 (qJ (qZ Tf 56 [0,1,0,1,1]))) K) (fun _ _=>rfl) (fun _=>rfl) (fun t=>hlk N g m t.1 t.2.1 t.2.2.1 t.2.2.2) (fun _=>True) (dclk g m) (kxlk N g m K) (fun G t _ => ?_) (fun _ _ _ _=>trivial) n9 t trivial;obtain ⟨i,ln,lt,lc⟩:=t;refine (rdlk G K N g m i ln lt lc).trans ?_;dsimp only [dclk];cases (decide (i < (g.ne:Int)))
 ·rfl
 ·cases (inB i g.ne)
  ·rfl
  ·cases (gF1 cus eus (((g.ed (i).toNat).s),m))
   ·rfl
   ·cases (usB ((g.ed (i).toNat).s) m)
    ·rfl
    ·cases (inB (g.ed (i).toNat).u (g.np:Int).toNat)
     ·rfl
     ·cases (decide ((ln (g.ed (i).toNat).u.toNat) + 1≤1000000))
      ·rfl
      ·cases (Nat.beq (g.ed (i).toNat).u.toNat (g.ed (i).toNat).u.toNat)
       ·rfl
       ·cases (inB (g.ed (i).toNat).v (g.np:Int).toNat)
        ·rfl
        ·cases (decide ((bif (Nat.beq (g.ed (i).toNat).v.toNat (g.ed (i).toNat).u.toNat) then ((ln (g.ed (i).toNat).u.toNat) + 1) else (ln (g.ed (i).toNat).v.toNat)) + 1≤1000000))
         ·rfl
         ·cases (Nat.beq (g.ed (i).toNat).v.toNat (g.ed (i).toNat).v.toNat)
          ·rfl
          ·rfl
noncomputable def zHZ (N:Nat) (g:Gr) (m:Int) (t:(Int × (Nat→Nat) × (Nat→Nat→Int) × (Nat→Nat→Int))):Bool:=(qX (dclk g m) N t).isSome
noncomputable def zQU (N:Nat) (g:Gr) (m:Int) (t:(Int × (Nat→Nat) × (Nat→Nat→Int) × (Nat→Nat→Int))):Nat × Int × (Nat→Nat) × (Nat→Nat→Int) × (Nat→Nat→Int):=(qX (dclk g m) N t).getD (99,t)
theorem lwlk (K:Cont) (N:Nat) (g:Gr) (m:Int) (t:(Int × (Nat→Nat) × (Nat→Nat→Int) × (Nat→Nat→Int))) (hg:zHZ N g m t=true):LFX N (cxS Tf (orlk N g m) N 56 (ntmF Tf 56)) (evX Tf (orlk N g m) N 56 (ntmF Tf 56)) (qY []) (qZ Tf 56 [0,1,0,1,1]) [0,1,0,1,1] (Tf.hint 56 (qJ (qZ Tf 56 [0,1,0,1,1]))) K N (hlk N g m t.1 t.2.1 t.2.2.1 t.2.2.2)=kxlk N g m K (zQU N g m t):=by
 refine (wllk K N g m N t).trans ?_;unfold zHZ at hg;unfold zQU;cases h:qX (dclk g m) N t with
 | none=>rw [h] at hg; cases hg
 | some y=>rfl
end Go.Proofs.Ytglkkhpdbfacfaa.Bc
namespace Go.Proofs.Ytglkkhpdbfacfaa.Bd
open Go.Rx Rt Go.Sx Go.RowKit Ba Bb Bc
noncomputable def orpu (N n:Nat) (_ _ _:Nat→Int) (ec ep ex:Int):OrS:=orS [(65,o_bt)] []
noncomputable def hpu (N n:Nat) (_ _ _:Nat→Int) (ec ep ex:Int) (i:Int) (xc:Nat→Int) (xp:Nat→Int) (xx:Nat→Int):St:=⟨[(0,.p 1000000 0),(4,.o 1000001),(5,.v (.n .i64 i))],[(1000000,.blk [.un]),(1000001,.reg 98 3 (.fo (n + 1) (fun v=>[.n .i64 (xc v),.n .i64 (xp v),.n .i64 (xx v)])))]⟩
set_option maxRecDepth 100000 in
theorem rdpu (G:St→Option (Ret × Mem)) (K:Cont) (N n:Nat) (qc qp qx:Nat→Int) (ec ep ex:Int) (i:Int) (xc:Nat→Int) (xp:Nat→Int) (xx:Nat→Int):yX N (cxS Tf (orpu N n qc qp qx ec ep ex) N 66 (ntmF Tf 66)) (evX Tf (orpu N n qc qp qx ec ep ex) N 66 (ntmF Tf 66)) (qY []) (qZ Tf 66 [0,1,0,1,1]) [0,1,0,1,1] (Tf.hint 66 (qJ (qZ Tf 66 [0,1,0,1,1]))) K G (hpu N n qc qp qx ec ep ex i xc xp xx) =
 (bif (decide (0 < i)) then (bif (inB i (n + 1)) then (bif (inB (vYX .i64 ((vYX .i64 (i - 1)).tdiv 2)) (n + 1)) then (bif (gF1 cbt ebt ((xc (i).toNat),(xp (i).toNat),(xc (vYX .i64 ((vYX .i64 (i - 1)).tdiv 2)).toNat),(xp (vYX .i64 ((vYX .i64 (i - 1)).tdiv 2)).toNat))) then (bif (btB (xc (i).toNat) (xp (i).toNat) (xc (vYX .i64 ((vYX .i64 (i - 1)).tdiv 2)).toNat) (xp (vYX .i64 ((vYX .i64 (i - 1)).tdiv 2)).toNat)) then (bif (inB (vYX .i64 ((vYX .i64 (i - 1)).tdiv 2)) (n + 1)) then (bif (inB i (n + 1)) then (bif (inB i (n + 1)) then (bif (inB (vYX .i64 ((vYX .i64 (i - 1)).tdiv 2)) (n + 1)) then (G (hpu N n qc qp qx ec ep ex (vYX .i64 ((vYX .i64 (i - 1)).tdiv 2)) (fun v=>(bif (Nat.beq v (vYX .i64 ((vYX .i64 (i - 1)).tdiv 2)).toNat) then (xc (i).toNat) else (bif (Nat.beq v (i).toNat) then (xc (vYX .i64 ((vYX .i64 (i - 1)).tdiv 2)).toNat) else (xc v)))) (fun v=>(bif (Nat.beq v (vYX .i64 ((vYX .i64 (i - 1)).tdiv 2)).toNat) then (xp (i).toNat) else (bif (Nat.beq v (i).toNat) then (xp (vYX .i64 ((vYX .i64 (i - 1)).tdiv 2)).toNat) else (xp v)))) (fun v=>(bif (Nat.beq v (vYX .i64 ((vYX .i64 (i - 1)).tdiv 2)).toNat) then (xx (i).toNat) else (bif (Nat.beq v (i).toNat) then (xx (vYX .i64 ((vYX .i64 (i - 1)).tdiv 2)).toNat) else (xx v))))))
 else none)
 else none)
 else none)
 else none)
 else (K (.exit 0) ⟨[(0,.p 1000000 0),(4,.o 1000001)],[(1000000,.blk [.un]),(1000001,.reg 98 3 (.fo (n + 1) (fun v=>[.n .i64 (xc v),.n .i64 (xp v),.n .i64 (xx v)])))]⟩))
 else none)
 else none)
 else none)
 else (K (.exit 0) ⟨[(0,.p 1000000 0),(4,.o 1000001)],[(1000000,.blk [.un]),(1000001,.reg 98 3 (.fo (n + 1) (fun v=>[.n .i64 (xc v),.n .i64 (xp v),.n .i64 (xx v)])))]⟩)):=by kernel_rfl
noncomputable def dcpu (n:Nat):(Int × (Nat→Int) × (Nat→Int) × (Nat→Int))→(Int × (Nat→Int) × (Nat→Int) × (Nat→Int)) ⊕ (Nat × Int × (Nat→Int) × (Nat→Int) × (Nat→Int)):=fun t=>match t with | (i,xc,xp,xx)=>(bif (decide (0 < i)) then (bif (inB i (n + 1)) then (bif (inB (vYX .i64 ((vYX .i64 (i - 1)).tdiv 2)) (n + 1)) then (bif (gF1 cbt ebt ((xc (i).toNat),(xp (i).toNat),(xc (vYX .i64 ((vYX .i64 (i - 1)).tdiv 2)).toNat),(xp (vYX .i64 ((vYX .i64 (i - 1)).tdiv 2)).toNat))) then (bif (btB (xc (i).toNat) (xp (i).toNat) (xc (vYX .i64 ((vYX .i64 (i - 1)).tdiv 2)).toNat) (xp (vYX .i64 ((vYX .i64 (i - 1)).tdiv 2)).toNat)) then (.inl ((vYX .i64 ((vYX .i64 (i - 1)).tdiv 2)),(fun v=>(bif (Nat.beq v (vYX .i64 ((vYX .i64 (i - 1)).tdiv 2)).toNat) then (xc (i).toNat) else (bif (Nat.beq v (i).toNat) then (xc (vYX .i64 ((vYX .i64 (i - 1)).tdiv 2)).toNat) else (xc v)))),(fun v=>(bif (Nat.beq v (vYX .i64 ((vYX .i64 (i - 1)).tdiv 2)).toNat) then (xp (i).toNat) else (bif (Nat.beq v (i).toNat) then (xp (vYX .i64 ((vYX .i64 (i - 1)).tdiv 2)).toNat) else (xp v)))),(fun v=>(bif (Nat.beq v (vYX .i64 ((vYX .i64 (i - 1)).tdiv 2)).toNat) then (xx (i).toNat) else (bif (Nat.beq v (i).toNat) then (xx (vYX .i64 ((vYX .i64 (i - 1)).tdiv 2)).toNat) else (xx v)))))) else (.inr (0,(i,xc,xp,xx)))) else (.inr (1,(i,xc,xp,xx)))) else (.inr (1,(i,xc,xp,xx)))) else (.inr (1,(i,xc,xp,xx)))) else (.inr (0,(i,xc,xp,xx))))
noncomputable def kxpu (N n:Nat) (_ _ _:Nat→Int) (ec ep ex:Int) (K:Cont) (w9:Nat × Int × (Nat→Int) × (Nat→Int) × (Nat→Int)):Option (Ret × Mem):=bif Nat.beq w9.1 0 then (K (.exit 0) ⟨[(0,.p 1000000 0),(4,.o 1000001)],[(1000000,.blk [.un]),(1000001,.reg 98 3 (.fo (n + 1) (fun v=>[.n .i64 (w9.2.2.1 v),.n .i64 (w9.2.2.2.1 v),.n .i64 (w9.2.2.2.2 v)])))]⟩) else none
theorem wlpu (K:Cont) (N n:Nat) (qc qp qx:Nat→Int) (ec ep ex:Int):∀ n9 (t:(Int × (Nat→Int) × (Nat→Int) × (Nat→Int))),LFX N (cxS Tf (orpu N n qc qp qx ec ep ex) N 66 (ntmF Tf 66)) (evX Tf (orpu N n qc qp qx ec ep ex) N 66 (ntmF Tf 66)) (qY []) (qZ Tf 66 [0,1,0,1,1]) [0,1,0,1,1] (Tf.hint 66 (qJ (qZ Tf 66 [0,1,0,1,1]))) K n9 (hpu N n qc qp qx ec ep ex t.1 t.2.1 t.2.2.1 t.2.2.2)=(qX (dcpu n) n9 t).bind (kxpu N n qc qp qx ec ep ex K):=fun n9 t=>by
 refine qQY (L:=LFX N (cxS Tf (orpu N n qc qp qx ec ep ex) N 66 (ntmF Tf 66)) (evX Tf (orpu N n qc qp qx ec ep ex) N 66 (ntmF Tf 66)) (qY []) (qZ Tf 66 [0,1,0,1,1]) [0,1,0,1,1] (Tf.hint 66 (qJ (qZ Tf 66 [0,1,0,1,1]))) K) (stp:=yX N (cxS Tf (orpu N n qc qp qx ec ep ex) N 66 (ntmF Tf 66)) (evX Tf (orpu N n qc qp qx ec ep ex) N 66 (ntmF Tf 66)) (qY []) (qZ Tf 66 [0,1,0,1,1]) [0,1,0,1,1] (Tf.hint 66 (qJ (qZ Tf 66 [0,1,0,1,1]))) K) (fun _ _=>rfl) (fun _=>rfl) (fun t=>hpu N n qc qp qx ec ep ex t.1 t.2.1 t.2.2.1 t.2.2.2) (fun _=>True) (dcpu n) (kxpu N n qc qp qx ec ep ex K) (fun G t _ => ?_) (fun _ _ _ _=>trivial) n9 t trivial;obtain ⟨i,xc,xp,xx⟩:=t;refine (rdpu G K N n qc qp qx ec ep ex i xc xp xx).trans ?_;dsimp only [dcpu];cases (decide (0 < i))
 ·rfl
 ·cases (inB i (n + 1))
  ·rfl
  ·cases (inB (vYX .i64 ((vYX .i64 (i - 1)).tdiv 2)) (n + 1))
   ·rfl
   ·cases (gF1 cbt ebt ((xc (i).toNat),(xp (i).toNat),(xc (vYX .i64 ((vYX .i64 (i - 1)).tdiv 2)).toNat),(xp (vYX .i64 ((vYX .i64 (i - 1)).tdiv 2)).toNat)))
    ·rfl
    ·cases (btB (xc (i).toNat) (xp (i).toNat) (xc (vYX .i64 ((vYX .i64 (i - 1)).tdiv 2)).toNat) (xp (vYX .i64 ((vYX .i64 (i - 1)).tdiv 2)).toNat))
     ·rfl
     ·rfl
noncomputable def zUE (N:Nat) (n:Nat) (t:(Int × (Nat→Int) × (Nat→Int) × (Nat→Int))):Bool:=(qX (dcpu n) N t).isSome
noncomputable def qXL (N:Nat) (n:Nat) (t:(Int × (Nat→Int) × (Nat→Int) × (Nat→Int))):Nat × Int × (Nat→Int) × (Nat→Int) × (Nat→Int):=(qX (dcpu n) N t).getD (99,t)
theorem lwpu (K:Cont) (N n:Nat) (qc qp qx:Nat→Int) (ec ep ex:Int) (t:(Int × (Nat→Int) × (Nat→Int) × (Nat→Int))) (hg:zUE N n t=true):LFX N (cxS Tf (orpu N n qc qp qx ec ep ex) N 66 (ntmF Tf 66)) (evX Tf (orpu N n qc qp qx ec ep ex) N 66 (ntmF Tf 66)) (qY []) (qZ Tf 66 [0,1,0,1,1]) [0,1,0,1,1] (Tf.hint 66 (qJ (qZ Tf 66 [0,1,0,1,1]))) K N (hpu N n qc qp qx ec ep ex t.1 t.2.1 t.2.2.1 t.2.2.2)=kxpu N n qc qp qx ec ep ex K (qXL N n t):=by
 refine (wlpu K N n qc qp qx ec ep ex N t).trans ?_;unfold zUE at hg;unfold qXL;cases h:qX (dcpu n) N t with
 | none=>rw [h] at hg; cases hg
 | some y=>rfl
noncomputable def orpo (N n:Nat) (_ _ _:Nat→Int):OrS:=orS [(65,o_bt)] []
noncomputable def hpo (N n:Nat) (qc qp qx:Nat→Int) (i:Int) (xc:Nat→Int) (xp:Nat→Int) (xx:Nat→Int):St:=⟨[(0,.p 1000000 0),(2,.p 2 0),(3,.o 1000001),(4,.p 4 0),(5,.v (.n .i64 (vYX .i64 ((n:Int) - 1)))),(6,.v (.n .i64 i))],[(1000000,.blk [.un]),(2,.blk [.v (.n .i64 0),.v (.n .i64 0),.v (.n .i64 0)]),(4,.blk [.v (.n .i64 (qc 0)),.v (.n .i64 (qp 0)),.v (.n .i64 (qx 0))]),(1000001,.reg 98 3 (.fo (vYX .i64 ((n:Int) - 1)).toNat (fun v=>[.n .i64 (xc v),.n .i64 (xp v),.n .i64 (xx v)])))]⟩
set_option maxRecDepth 100000 in
theorem rdpo (G:St→Option (Ret × Mem)) (K:Cont) (N n:Nat) (qc qp qx:Nat→Int) (i:Int) (xc:Nat→Int) (xp:Nat→Int) (xx:Nat→Int):yX N (cxS Tf (orpo N n qc qp qx) N 64 (ntmF Tf 64)) (evX Tf (orpo N n qc qp qx) N 64 (ntmF Tf 64)) (qY []) (qZ Tf 64 [0,1,0,1,1,1,1,1]) [0,1,0,1,1,1,1,1] (Tf.hint 64 (qJ (qZ Tf 64 [0,1,0,1,1,1,1,1]))) K G (hpo N n qc qp qx i xc xp xx) =
 (bif (decide ((vYX .i64 ((vYX .i64 (2 * i)) + 1)) < (vYX .i64 ((n:Int) - 1)))) then (bif (decide ((vYX .i64 ((vYX .i64 ((vYX .i64 (2 * i)) + 1)) + 1)) < (vYX .i64 ((n:Int) - 1)))) then (bif (inB (vYX .i64 ((vYX .i64 ((vYX .i64 (2 * i)) + 1)) + 1)) (vYX .i64 ((n:Int) - 1)).toNat) then (bif (inB (vYX .i64 ((vYX .i64 (2 * i)) + 1)) (vYX .i64 ((n:Int) - 1)).toNat) then (bif (gF1 cbt ebt ((xc (vYX .i64 ((vYX .i64 ((vYX .i64 (2 * i)) + 1)) + 1)).toNat),(xp (vYX .i64 ((vYX .i64 ((vYX .i64 (2 * i)) + 1)) + 1)).toNat),(xc (vYX .i64 ((vYX .i64 (2 * i)) + 1)).toNat),(xp (vYX .i64 ((vYX .i64 (2 * i)) + 1)).toNat))) then (bif (btB (xc (vYX .i64 ((vYX .i64 ((vYX .i64 (2 * i)) + 1)) + 1)).toNat) (xp (vYX .i64 ((vYX .i64 ((vYX .i64 (2 * i)) + 1)) + 1)).toNat) (xc (vYX .i64 ((vYX .i64 (2 * i)) + 1)).toNat) (xp (vYX .i64 ((vYX .i64 (2 * i)) + 1)).toNat)) then (bif (inB (vYX .i64 ((vYX .i64 ((vYX .i64 (2 * i)) + 1)) + 1)) (vYX .i64 ((n:Int) - 1)).toNat) then (bif (inB i (vYX .i64 ((n:Int) - 1)).toNat) then (bif (gF1 cbt ebt ((xc (vYX .i64 ((vYX .i64 ((vYX .i64 (2 * i)) + 1)) + 1)).toNat),(xp (vYX .i64 ((vYX .i64 ((vYX .i64 (2 * i)) + 1)) + 1)).toNat),(xc (i).toNat),(xp (i).toNat))) then (bif (btB (xc (vYX .i64 ((vYX .i64 ((vYX .i64 (2 * i)) + 1)) + 1)).toNat) (xp (vYX .i64 ((vYX .i64 ((vYX .i64 (2 * i)) + 1)) + 1)).toNat) (xc (i).toNat) (xp (i).toNat)) then (bif (inB (vYX .i64 ((vYX .i64 ((vYX .i64 (2 * i)) + 1)) + 1)) (vYX .i64 ((n:Int) - 1)).toNat) then (bif (inB i (vYX .i64 ((n:Int) - 1)).toNat) then (bif (inB i (vYX .i64 ((n:Int) - 1)).toNat) then (bif (inB (vYX .i64 ((vYX .i64 ((vYX .i64 (2 * i)) + 1)) + 1)) (vYX .i64 ((n:Int) - 1)).toNat) then (G (hpo N n qc qp qx (vYX .i64 ((vYX .i64 ((vYX .i64 (2 * i)) + 1)) + 1)) (fun v=>(bif (Nat.beq v (vYX .i64 ((vYX .i64 ((vYX .i64 (2 * i)) + 1)) + 1)).toNat) then (xc (i).toNat) else (bif (Nat.beq v (i).toNat) then (xc (vYX .i64 ((vYX .i64 ((vYX .i64 (2 * i)) + 1)) + 1)).toNat) else (xc v)))) (fun v=>(bif (Nat.beq v (vYX .i64 ((vYX .i64 ((vYX .i64 (2 * i)) + 1)) + 1)).toNat) then (xp (i).toNat) else (bif (Nat.beq v (i).toNat) then (xp (vYX .i64 ((vYX .i64 ((vYX .i64 (2 * i)) + 1)) + 1)).toNat) else (xp v)))) (fun v=>(bif (Nat.beq v (vYX .i64 ((vYX .i64 ((vYX .i64 (2 * i)) + 1)) + 1)).toNat) then (xx (i).toNat) else (bif (Nat.beq v (i).toNat) then (xx (vYX .i64 ((vYX .i64 ((vYX .i64 (2 * i)) + 1)) + 1)).toNat) else (xx v))))))
 else none)
 else none)
 else none)
 else none)
 else (K (.exit 0) ⟨[(0,.p 1000000 0),(2,.p 2 0),(3,.o 1000001),(4,.p 4 0)],[(1000000,.blk [.un]),(2,.blk [.v (.n .i64 0),.v (.n .i64 0),.v (.n .i64 0)]),(4,.blk [.v (.n .i64 (qc 0)),.v (.n .i64 (qp 0)),.v (.n .i64 (qx 0))]),(1000001,.reg 98 3 (.fo (vYX .i64 ((n:Int) - 1)).toNat (fun v=>[.n .i64 (xc v),.n .i64 (xp v),.n .i64 (xx v)])))]⟩))
 else none)
 else none)
 else none)
 else (bif (inB (vYX .i64 ((vYX .i64 (2 * i)) + 1)) (vYX .i64 ((n:Int) - 1)).toNat) then (bif (inB i (vYX .i64 ((n:Int) - 1)).toNat) then (bif (gF1 cbt ebt ((xc (vYX .i64 ((vYX .i64 (2 * i)) + 1)).toNat),(xp (vYX .i64 ((vYX .i64 (2 * i)) + 1)).toNat),(xc (i).toNat),(xp (i).toNat))) then (bif (btB (xc (vYX .i64 ((vYX .i64 (2 * i)) + 1)).toNat) (xp (vYX .i64 ((vYX .i64 (2 * i)) + 1)).toNat) (xc (i).toNat) (xp (i).toNat)) then (bif (inB (vYX .i64 ((vYX .i64 (2 * i)) + 1)) (vYX .i64 ((n:Int) - 1)).toNat) then (bif (inB i (vYX .i64 ((n:Int) - 1)).toNat) then (bif (inB i (vYX .i64 ((n:Int) - 1)).toNat) then (bif (inB (vYX .i64 ((vYX .i64 (2 * i)) + 1)) (vYX .i64 ((n:Int) - 1)).toNat) then (G (hpo N n qc qp qx (vYX .i64 ((vYX .i64 (2 * i)) + 1)) (fun v=>(bif (Nat.beq v (vYX .i64 ((vYX .i64 (2 * i)) + 1)).toNat) then (xc (i).toNat) else (bif (Nat.beq v (i).toNat) then (xc (vYX .i64 ((vYX .i64 (2 * i)) + 1)).toNat) else (xc v)))) (fun v=>(bif (Nat.beq v (vYX .i64 ((vYX .i64 (2 * i)) + 1)).toNat) then (xp (i).toNat) else (bif (Nat.beq v (i).toNat) then (xp (vYX .i64 ((vYX .i64 (2 * i)) + 1)).toNat) else (xp v)))) (fun v=>(bif (Nat.beq v (vYX .i64 ((vYX .i64 (2 * i)) + 1)).toNat) then (xx (i).toNat) else (bif (Nat.beq v (i).toNat) then (xx (vYX .i64 ((vYX .i64 (2 * i)) + 1)).toNat) else (xx v))))))
 else none)
 else none)
 else none)
 else none)
 else (K (.exit 0) ⟨[(0,.p 1000000 0),(2,.p 2 0),(3,.o 1000001),(4,.p 4 0)],[(1000000,.blk [.un]),(2,.blk [.v (.n .i64 0),.v (.n .i64 0),.v (.n .i64 0)]),(4,.blk [.v (.n .i64 (qc 0)),.v (.n .i64 (qp 0)),.v (.n .i64 (qx 0))]),(1000001,.reg 98 3 (.fo (vYX .i64 ((n:Int) - 1)).toNat (fun v=>[.n .i64 (xc v),.n .i64 (xp v),.n .i64 (xx v)])))]⟩))
 else none)
 else none)
 else none))
 else none)
 else none)
 else none)
 else (bif (inB (vYX .i64 ((vYX .i64 (2 * i)) + 1)) (vYX .i64 ((n:Int) - 1)).toNat) then (bif (inB i (vYX .i64 ((n:Int) - 1)).toNat) then (bif (gF1 cbt ebt ((xc (vYX .i64 ((vYX .i64 (2 * i)) + 1)).toNat),(xp (vYX .i64 ((vYX .i64 (2 * i)) + 1)).toNat),(xc (i).toNat),(xp (i).toNat))) then (bif (btB (xc (vYX .i64 ((vYX .i64 (2 * i)) + 1)).toNat) (xp (vYX .i64 ((vYX .i64 (2 * i)) + 1)).toNat) (xc (i).toNat) (xp (i).toNat)) then (bif (inB (vYX .i64 ((vYX .i64 (2 * i)) + 1)) (vYX .i64 ((n:Int) - 1)).toNat) then (bif (inB i (vYX .i64 ((n:Int) - 1)).toNat) then (bif (inB i (vYX .i64 ((n:Int) - 1)).toNat) then (bif (inB (vYX .i64 ((vYX .i64 (2 * i)) + 1)) (vYX .i64 ((n:Int) - 1)).toNat) then (G (hpo N n qc qp qx (vYX .i64 ((vYX .i64 (2 * i)) + 1)) (fun v=>(bif (Nat.beq v (vYX .i64 ((vYX .i64 (2 * i)) + 1)).toNat) then (xc (i).toNat) else (bif (Nat.beq v (i).toNat) then (xc (vYX .i64 ((vYX .i64 (2 * i)) + 1)).toNat) else (xc v)))) (fun v=>(bif (Nat.beq v (vYX .i64 ((vYX .i64 (2 * i)) + 1)).toNat) then (xp (i).toNat) else (bif (Nat.beq v (i).toNat) then (xp (vYX .i64 ((vYX .i64 (2 * i)) + 1)).toNat) else (xp v)))) (fun v=>(bif (Nat.beq v (vYX .i64 ((vYX .i64 (2 * i)) + 1)).toNat) then (xx (i).toNat) else (bif (Nat.beq v (i).toNat) then (xx (vYX .i64 ((vYX .i64 (2 * i)) + 1)).toNat) else (xx v))))))
 else none)
 else none)
 else none)
 else none)
 else (K (.exit 0) ⟨[(0,.p 1000000 0),(2,.p 2 0),(3,.o 1000001),(4,.p 4 0)],[(1000000,.blk [.un]),(2,.blk [.v (.n .i64 0),.v (.n .i64 0),.v (.n .i64 0)]),(4,.blk [.v (.n .i64 (qc 0)),.v (.n .i64 (qp 0)),.v (.n .i64 (qx 0))]),(1000001,.reg 98 3 (.fo (vYX .i64 ((n:Int) - 1)).toNat (fun v=>[.n .i64 (xc v),.n .i64 (xp v),.n .i64 (xx v)])))]⟩))
 else none)
 else none)
 else none))
 else (K (.exit 0) ⟨[(0,.p 1000000 0),(2,.p 2 0),(3,.o 1000001),(4,.p 4 0)],[(1000000,.blk [.un]),(2,.blk [.v (.n .i64 0),.v (.n .i64 0),.v (.n .i64 0)]),(4,.blk [.v (.n .i64 (qc 0)),.v (.n .i64 (qp 0)),.v (.n .i64 (qx 0))]),(1000001,.reg 98 3 (.fo (vYX .i64 ((n:Int) - 1)).toNat (fun v=>[.n .i64 (xc v),.n .i64 (xp v),.n .i64 (xx v)])))]⟩)):=by kernel_rfl
noncomputable def dcpo (n:Nat):(Int × (Nat→Int) × (Nat→Int) × (Nat→Int))→(Int × (Nat→Int) × (Nat→Int) × (Nat→Int)) ⊕ (Nat × Int × (Nat→Int) × (Nat→Int) × (Nat→Int)):=fun t=>match t with | (i,xc,xp,xx)=>(bif (decide ((vYX .i64 ((vYX .i64 (2 * i)) + 1)) < (vYX .i64 ((n:Int) - 1)))) then (bif (decide ((vYX .i64 ((vYX .i64 ((vYX .i64 (2 * i)) + 1)) + 1)) < (vYX .i64 ((n:Int) - 1)))) then (bif (inB (vYX .i64 ((vYX .i64 ((vYX .i64 (2 * i)) + 1)) + 1)) (vYX .i64 ((n:Int) - 1)).toNat) then (bif (inB (vYX .i64 ((vYX .i64 (2 * i)) + 1)) (vYX .i64 ((n:Int) - 1)).toNat) then (bif (gF1 cbt ebt ((xc (vYX .i64 ((vYX .i64 ((vYX .i64 (2 * i)) + 1)) + 1)).toNat),(xp (vYX .i64 ((vYX .i64 ((vYX .i64 (2 * i)) + 1)) + 1)).toNat),(xc (vYX .i64 ((vYX .i64 (2 * i)) + 1)).toNat),(xp (vYX .i64 ((vYX .i64 (2 * i)) + 1)).toNat))) then (bif (btB (xc (vYX .i64 ((vYX .i64 ((vYX .i64 (2 * i)) + 1)) + 1)).toNat) (xp (vYX .i64 ((vYX .i64 ((vYX .i64 (2 * i)) + 1)) + 1)).toNat) (xc (vYX .i64 ((vYX .i64 (2 * i)) + 1)).toNat) (xp (vYX .i64 ((vYX .i64 (2 * i)) + 1)).toNat)) then (bif (inB i (vYX .i64 ((n:Int) - 1)).toNat) then (bif (gF1 cbt ebt ((xc (vYX .i64 ((vYX .i64 ((vYX .i64 (2 * i)) + 1)) + 1)).toNat),(xp (vYX .i64 ((vYX .i64 ((vYX .i64 (2 * i)) + 1)) + 1)).toNat),(xc (i).toNat),(xp (i).toNat))) then (bif (btB (xc (vYX .i64 ((vYX .i64 ((vYX .i64 (2 * i)) + 1)) + 1)).toNat) (xp (vYX .i64 ((vYX .i64 ((vYX .i64 (2 * i)) + 1)) + 1)).toNat) (xc (i).toNat) (xp (i).toNat)) then (.inl ((vYX .i64 ((vYX .i64 ((vYX .i64 (2 * i)) + 1)) + 1)),(fun v=>(bif (Nat.beq v (vYX .i64 ((vYX .i64 ((vYX .i64 (2 * i)) + 1)) + 1)).toNat) then (xc (i).toNat) else (bif (Nat.beq v (i).toNat) then (xc (vYX .i64 ((vYX .i64 ((vYX .i64 (2 * i)) + 1)) + 1)).toNat) else (xc v)))),(fun v=>(bif (Nat.beq v (vYX .i64 ((vYX .i64 ((vYX .i64 (2 * i)) + 1)) + 1)).toNat) then (xp (i).toNat) else (bif (Nat.beq v (i).toNat) then (xp (vYX .i64 ((vYX .i64 ((vYX .i64 (2 * i)) + 1)) + 1)).toNat) else (xp v)))),(fun v=>(bif (Nat.beq v (vYX .i64 ((vYX .i64 ((vYX .i64 (2 * i)) + 1)) + 1)).toNat) then (xx (i).toNat) else (bif (Nat.beq v (i).toNat) then (xx (vYX .i64 ((vYX .i64 ((vYX .i64 (2 * i)) + 1)) + 1)).toNat) else (xx v)))))) else (.inr (0,(i,xc,xp,xx)))) else (.inr (1,(i,xc,xp,xx)))) else (.inr (1,(i,xc,xp,xx)))) else (bif (inB i (vYX .i64 ((n:Int) - 1)).toNat) then (bif (gF1 cbt ebt ((xc (vYX .i64 ((vYX .i64 (2 * i)) + 1)).toNat),(xp (vYX .i64 ((vYX .i64 (2 * i)) + 1)).toNat),(xc (i).toNat),(xp (i).toNat))) then (bif (btB (xc (vYX .i64 ((vYX .i64 (2 * i)) + 1)).toNat) (xp (vYX .i64 ((vYX .i64 (2 * i)) + 1)).toNat) (xc (i).toNat) (xp (i).toNat)) then (.inl ((vYX .i64 ((vYX .i64 (2 * i)) + 1)),(fun v=>(bif (Nat.beq v (vYX .i64 ((vYX .i64 (2 * i)) + 1)).toNat) then (xc (i).toNat) else (bif (Nat.beq v (i).toNat) then (xc (vYX .i64 ((vYX .i64 (2 * i)) + 1)).toNat) else (xc v)))),(fun v=>(bif (Nat.beq v (vYX .i64 ((vYX .i64 (2 * i)) + 1)).toNat) then (xp (i).toNat) else (bif (Nat.beq v (i).toNat) then (xp (vYX .i64 ((vYX .i64 (2 * i)) + 1)).toNat) else (xp v)))),(fun v=>(bif (Nat.beq v (vYX .i64 ((vYX .i64 (2 * i)) + 1)).toNat) then (xx (i).toNat) else (bif (Nat.beq v (i).toNat) then (xx (vYX .i64 ((vYX .i64 (2 * i)) + 1)).toNat) else (xx v)))))) else (.inr (0,(i,xc,xp,xx)))) else (.inr (1,(i,xc,xp,xx)))) else (.inr (1,(i,xc,xp,xx))))) else (.inr (1,(i,xc,xp,xx)))) else (.inr (1,(i,xc,xp,xx)))) else (.inr (1,(i,xc,xp,xx)))) else (bif (inB (vYX .i64 ((vYX .i64 (2 * i)) + 1)) (vYX .i64 ((n:Int) - 1)).toNat) then (bif (inB i (vYX .i64 ((n:Int) - 1)).toNat) then (bif (gF1 cbt ebt ((xc (vYX .i64 ((vYX .i64 (2 * i)) + 1)).toNat),(xp (vYX .i64 ((vYX .i64 (2 * i)) + 1)).toNat),(xc (i).toNat),(xp (i).toNat))) then (bif (btB (xc (vYX .i64 ((vYX .i64 (2 * i)) + 1)).toNat) (xp (vYX .i64 ((vYX .i64 (2 * i)) + 1)).toNat) (xc (i).toNat) (xp (i).toNat)) then (.inl ((vYX .i64 ((vYX .i64 (2 * i)) + 1)),(fun v=>(bif (Nat.beq v (vYX .i64 ((vYX .i64 (2 * i)) + 1)).toNat) then (xc (i).toNat) else (bif (Nat.beq v (i).toNat) then (xc (vYX .i64 ((vYX .i64 (2 * i)) + 1)).toNat) else (xc v)))),(fun v=>(bif (Nat.beq v (vYX .i64 ((vYX .i64 (2 * i)) + 1)).toNat) then (xp (i).toNat) else (bif (Nat.beq v (i).toNat) then (xp (vYX .i64 ((vYX .i64 (2 * i)) + 1)).toNat) else (xp v)))),(fun v=>(bif (Nat.beq v (vYX .i64 ((vYX .i64 (2 * i)) + 1)).toNat) then (xx (i).toNat) else (bif (Nat.beq v (i).toNat) then (xx (vYX .i64 ((vYX .i64 (2 * i)) + 1)).toNat) else (xx v)))))) else (.inr (0,(i,xc,xp,xx)))) else (.inr (1,(i,xc,xp,xx)))) else (.inr (1,(i,xc,xp,xx)))) else (.inr (1,(i,xc,xp,xx))))) else (.inr (0,(i,xc,xp,xx))))
noncomputable def kxpo (N n:Nat) (qc qp qx:Nat→Int) (K:Cont) (w9:Nat × Int × (Nat→Int) × (Nat→Int) × (Nat→Int)):Option (Ret × Mem):=bif Nat.beq w9.1 0 then (K (.exit 0) ⟨[(0,.p 1000000 0),(2,.p 2 0),(3,.o 1000001),(4,.p 4 0)],[(1000000,.blk [.un]),(2,.blk [.v (.n .i64 0),.v (.n .i64 0),.v (.n .i64 0)]),(4,.blk [.v (.n .i64 (qc 0)),.v (.n .i64 (qp 0)),.v (.n .i64 (qx 0))]),(1000001,.reg 98 3 (.fo (vYX .i64 ((n:Int) - 1)).toNat (fun v=>[.n .i64 (w9.2.2.1 v),.n .i64 (w9.2.2.2.1 v),.n .i64 (w9.2.2.2.2 v)])))]⟩) else none
theorem wlpo (K:Cont) (N n:Nat) (qc qp qx:Nat→Int):∀ n9 (t:(Int × (Nat→Int) × (Nat→Int) × (Nat→Int))),LFX N (cxS Tf (orpo N n qc qp qx) N 64 (ntmF Tf 64)) (evX Tf (orpo N n qc qp qx) N 64 (ntmF Tf 64)) (qY []) (qZ Tf 64 [0,1,0,1,1,1,1,1]) [0,1,0,1,1,1,1,1] (Tf.hint 64 (qJ (qZ Tf 64 [0,1,0,1,1,1,1,1]))) K n9 (hpo N n qc qp qx t.1 t.2.1 t.2.2.1 t.2.2.2)=(qX (dcpo n) n9 t).bind (kxpo N n qc qp qx K):=fun n9 t=>by
 refine qQY (L:=LFX N (cxS Tf (orpo N n qc qp qx) N 64 (ntmF Tf 64)) (evX Tf (orpo N n qc qp qx) N 64 (ntmF Tf 64)) (qY []) (qZ Tf 64 [0,1,0,1,1,1,1,1]) [0,1,0,1,1,1,1,1] (Tf.hint 64 (qJ (qZ Tf 64 [0,1,0,1,1,1,1,1]))) K) (stp:=yX N (cxS Tf (orpo N n qc qp qx) N 64 (ntmF Tf 64)) (evX Tf (orpo N n qc qp qx) N 64 (ntmF Tf 64)) (qY []) (qZ Tf 64 [0,1,0,1,1,1,1,1]) [0,1,0,1,1,1,1,1] (Tf.hint 64 (qJ (qZ Tf 64 [0,1,0,1,1,1,1,1]))) K) (fun _ _=>rfl) (fun _=>rfl) (fun t=>hpo N n qc qp qx t.1 t.2.1 t.2.2.1 t.2.2.2) (fun _=>True) (dcpo n) (kxpo N n qc qp qx K) (fun G t _ => ?_) (fun _ _ _ _=>trivial) n9 t trivial;obtain ⟨i,xc,xp,xx⟩:=t;refine (rdpo G K N n qc qp qx i xc xp xx).trans ?_;dsimp only [dcpo];cases (decide ((vYX .i64 ((vYX .i64 (2 * i)) + 1)) < (vYX .i64 ((n:Int) - 1))))
 ·rfl
 ·cases (decide ((vYX .i64 ((vYX .i64 ((vYX .i64 (2 * i)) + 1)) + 1)) < (vYX .i64 ((n:Int) - 1))))
  ·cases (inB (vYX .i64 ((vYX .i64 (2 * i)) + 1)) (vYX .i64 ((n:Int) - 1)).toNat)
   ·rfl
   ·cases (inB i (vYX .i64 ((n:Int) - 1)).toNat)
    ·rfl
    ·cases (gF1 cbt ebt ((xc (vYX .i64 ((vYX .i64 (2 * i)) + 1)).toNat),(xp (vYX .i64 ((vYX .i64 (2 * i)) + 1)).toNat),(xc (i).toNat),(xp (i).toNat)))
     ·rfl
     ·cases (btB (xc (vYX .i64 ((vYX .i64 (2 * i)) + 1)).toNat) (xp (vYX .i64 ((vYX .i64 (2 * i)) + 1)).toNat) (xc (i).toNat) (xp (i).toNat))
      ·rfl
      ·rfl
  ·cases (inB (vYX .i64 ((vYX .i64 ((vYX .i64 (2 * i)) + 1)) + 1)) (vYX .i64 ((n:Int) - 1)).toNat)
   ·rfl
   ·cases (inB (vYX .i64 ((vYX .i64 (2 * i)) + 1)) (vYX .i64 ((n:Int) - 1)).toNat)
    ·rfl
    ·cases (gF1 cbt ebt ((xc (vYX .i64 ((vYX .i64 ((vYX .i64 (2 * i)) + 1)) + 1)).toNat),(xp (vYX .i64 ((vYX .i64 ((vYX .i64 (2 * i)) + 1)) + 1)).toNat),(xc (vYX .i64 ((vYX .i64 (2 * i)) + 1)).toNat),(xp (vYX .i64 ((vYX .i64 (2 * i)) + 1)).toNat)))
     ·rfl
     ·cases (btB (xc (vYX .i64 ((vYX .i64 ((vYX .i64 (2 * i)) + 1)) + 1)).toNat) (xp (vYX .i64 ((vYX .i64 ((vYX .i64 (2 * i)) + 1)) + 1)).toNat) (xc (vYX .i64 ((vYX .i64 (2 * i)) + 1)).toNat) (xp (vYX .i64 ((vYX .i64 (2 * i)) + 1)).toNat))
      ·cases (inB i (vYX .i64 ((n:Int) - 1)).toNat)
       ·rfl
       ·cases (gF1 cbt ebt ((xc (vYX .i64 ((vYX .i64 (2 * i)) + 1)).toNat),(xp (vYX .i64 ((vYX .i64 (2 * i)) + 1)).toNat),(xc (i).toNat),(xp (i).toNat)))
        ·rfl
        ·cases (btB (xc (vYX .i64 ((vYX .i64 (2 * i)) + 1)).toNat) (xp (vYX .i64 ((vYX .i64 (2 * i)) + 1)).toNat) (xc (i).toNat) (xp (i).toNat))
         ·rfl
         ·rfl
      ·cases (inB i (vYX .i64 ((n:Int) - 1)).toNat)
       ·rfl
       ·cases (gF1 cbt ebt ((xc (vYX .i64 ((vYX .i64 ((vYX .i64 (2 * i)) + 1)) + 1)).toNat),(xp (vYX .i64 ((vYX .i64 ((vYX .i64 (2 * i)) + 1)) + 1)).toNat),(xc (i).toNat),(xp (i).toNat)))
        ·rfl
        ·cases (btB (xc (vYX .i64 ((vYX .i64 ((vYX .i64 (2 * i)) + 1)) + 1)).toNat) (xp (vYX .i64 ((vYX .i64 ((vYX .i64 (2 * i)) + 1)) + 1)).toNat) (xc (i).toNat) (xp (i).toNat))
         ·rfl
         ·rfl
noncomputable def zUI (N:Nat) (n:Nat) (t:(Int × (Nat→Int) × (Nat→Int) × (Nat→Int))):Bool:=(qX (dcpo n) N t).isSome
noncomputable def qWQ (N:Nat) (n:Nat) (t:(Int × (Nat→Int) × (Nat→Int) × (Nat→Int))):Nat × Int × (Nat→Int) × (Nat→Int) × (Nat→Int):=(qX (dcpo n) N t).getD (99,t)
theorem lwpo (K:Cont) (N n:Nat) (qc qp qx:Nat→Int) (t:(Int × (Nat→Int) × (Nat→Int) × (Nat→Int))) (hg:zUI N n t=true):LFX N (cxS Tf (orpo N n qc qp qx) N 64 (ntmF Tf 64)) (evX Tf (orpo N n qc qp qx) N 64 (ntmF Tf 64)) (qY []) (qZ Tf 64 [0,1,0,1,1,1,1,1]) [0,1,0,1,1,1,1,1] (Tf.hint 64 (qJ (qZ Tf 64 [0,1,0,1,1,1,1,1]))) K N (hpo N n qc qp qx t.1 t.2.1 t.2.2.1 t.2.2.2)=kxpo N n qc qp qx K (qWQ N n t):=by
 refine (wlpo K N n qc qp qx N t).trans ?_;unfold zUI at hg;unfold qWQ;cases h:qX (dcpo n) N t with
 | none=>rw [h] at hg; cases hg
 | some y=>rfl
end Go.Proofs.Ytglkkhpdbfacfaa.Bd
namespace Go.Proofs.Ytglkkhpdbfacfaa.Be
open Go.Rx Rt Go.Sx Go.RowKit Ba Bb Bc Bd
def leR (c1 p1 c2 p2:Int):Prop:=c1 < c2 ∨ (c1=c2∧p1≤p2)
theorem leR.trans {a b c d e f:Int} (_:leR a b c d) (_:leR c d e f):leR a b e f:=by unfold leR at *; omega
theorem leR.refl (a b:Int):leR a b a b:=.inr ⟨rfl,Int.le_refl _⟩
theorem bt_t {a b c d:Int} (h:btB a b c d=true) (_:0 < d):leR a b c d:=by
 unfold btB at h;simp only [Bool.or_eq_true,vQJ,decide_eq_true_eq] at h;unfold leR; omega
theorem bt_f {a b c d:Int} (h:btB a b c d=false):leR c d a b:=by
 unfold btB at h;simp only [Bool.or_eq_false_iff,Bool.and_eq_false_imp,decide_eq_true_eq,decide_eq_false_iff_not] at h;unfold leR; omega
def swF (f:Nat→Int) (p i:Nat):Nat→Int:=fun v=>bif Nat.beq v p then f i else bif Nat.beq v i then f p else f v
theorem qXI (f:Nat→Int) (p i:Nat):swF f p i p=f i:=by unfold swF; rw [Nat.beq_refl]; rfl
theorem swF_i {f:Nat→Int} {p i:Nat}:swF f p i i=f p:=by
 unfold swF;by_cases e:i=p
 ·subst e; rw [Nat.beq_refl]; rfl
 ·rw [qQW,vYY e,Nat.beq_refl]; rfl
theorem kG {f:Nat→Int} {p i v:Nat} (h1:v ≠ p) (h2:v ≠ i):swF f p i v=f v:=by
 unfold swF; rw [qQW,vYY h1,qQW,vYY h2]; rfl
def SubQ (n:Nat) (c p x:Nat→Int) (n':Nat) (c' p' x':Nat→Int):Prop:=∀ k,k < n→∃ j,j < n'∧c k=c' j∧p k=p' j∧x k=x' j
theorem SubQ.refl (n:Nat) (c p x:Nat→Int):SubQ n c p x n c p x:=fun k h=>⟨k,h,rfl,rfl,rfl⟩
theorem SubQ.trans {n n' n'':Nat} {c p x c' p' x' c'' p'' x'':Nat→Int} (h:SubQ n c p x n' c' p' x') (h':SubQ n' c' p' x' n'' c'' p'' x''):SubQ n c p x n'' c'' p'' x'':=fun k hk=>by
 obtain ⟨j,hj,e1,e2,e3⟩:=h k hk;obtain ⟨l,hl,g1,g2,g3⟩:=h' j hj;exact ⟨l,hl,e1.trans g1,e2.trans g2,e3.trans g3⟩
theorem yVD {n a i:Nat} {c p x:Nat→Int} (ha:a < n) (hi:i < n):SubQ n (swF c a i) (swF p a i) (swF x a i) n c p x∧SubQ n c p x n (swF c a i) (swF p a i) (swF x a i):=by
 refine ⟨fun k hk => ?_,fun k hk => ?_⟩
 ·by_cases e1:k=a
  ·subst e1; exact ⟨i,hi,qXI _ _ _,qXI _ _ _,qXI _ _ _⟩
  ·by_cases e2:k=i
   ·subst e2; exact ⟨a,ha,swF_i,swF_i,swF_i⟩
   ·exact ⟨k,hk,kG e1 e2,kG e1 e2,kG e1 e2⟩
 ·by_cases e1:k=a
  ·subst e1; exact ⟨i,hi,swF_i.symm,swF_i.symm,swF_i.symm⟩
  ·by_cases e2:k=i
   ·subst e2; exact ⟨a,ha,(qXI _ _ _).symm,(qXI _ _ _).symm,(qXI _ _ _).symm⟩
   ·exact ⟨k,hk,(kG e1 e2).symm,(kG e1 e2).symm,(kG e1 e2).symm⟩
def Heap (n:Nat) (c p:Nat→Int):Prop:=∀ k,0 < k→k < n→leR (c ((k - 1) / 2)) (p ((k - 1) / 2)) (c k) (p k)
def PosQ (n:Nat) (p:Nat→Int):Prop:=∀ k,k < n→0 < p k
def yVB (n:Nat) (c p:Nat→Int) (i:Nat):Prop:=(∀ k,0 < k→k < n→k ≠ i→leR (c ((k - 1) / 2)) (p ((k - 1) / 2)) (c k) (p k))∧(0 < i→∀ k,0 < k→k < n→(k - 1) / 2=i→leR (c ((i - 1) / 2)) (p ((i - 1) / 2)) (c k) (p k))
theorem yGA {n i:Nat} {c p:Nat→Int} (h:yVB n c p i) (h0:0 < i) (_:i < n) (hl:leR (c i) (p i) (c ((i - 1) / 2)) (p ((i - 1) / 2))):yVB n (swF c ((i - 1) / 2) i) (swF p ((i - 1) / 2) i) ((i - 1) / 2):=by
 obtain ⟨h1,h2⟩:=h;generalize hq:(i - 1) / 2=q at *;have hqi:q < i:=by omega
 refine ⟨fun k k0 kn kq => ?_,fun q0 k k0 kn kp => ?_⟩
 ·by_cases ki:k=i
  ·subst ki;rw [hq,qXI,qXI,swF_i,swF_i]; exact hl
  ·rw [kG kq ki,kG kq ki];by_cases e1:(k - 1) / 2=i
   ·rw [e1,swF_i,swF_i]; exact h2 h0 k k0 kn e1
   ·by_cases e2:(k - 1) / 2=q
    ·rw [e2,qXI,qXI]
     have:=h1 k k0 kn ki
     rw [e2] at this;exact hl.trans this
    ·rw [kG e2 e1,kG e2 e1]; exact h1 k k0 kn ki
 ·have hpq:(q - 1) / 2 < q:=by omega
  rw [kG (show (q - 1) / 2 ≠ q by omega) (show (q - 1) / 2 ≠ i by omega),kG (show (q - 1) / 2 ≠ q by omega) (show (q - 1) / 2 ≠ i by omega)];have a1:=h1 q q0 (by omega) (by omega);by_cases ki:k=i
  ·subst ki; rw [swF_i,swF_i]; exact a1
  ·rw [kG (show k ≠ q by omega) ki,kG (show k ≠ q by omega) ki];have a2:=h1 k k0 kn ki;rw [kp] at a2;exact a1.trans a2
theorem jJV {i:Nat} (_:0 < i) (_:i≤2000000):vYX .i64 ((vYX .i64 ((i:Int) - 1)).tdiv 2)=(((i - 1) / 2:Nat):Int):=by
 rw [yG (show -9223372036854775808≤(i:Int) - 1∧(i:Int) - 1≤9223372036854775807 by omega),show (i:Int) - 1=((i - 1:Nat):Int) by omega,show (2:Int)=((2:Nat):Int) from rfl,← Int.ofNat_tdiv];generalize hq:(i - 1) / 2=q;rw [yG (by omega)]
theorem yJC {n i:Nat} {xc xp xx:Nat→Int} (h0:0 < i) (_:i≤n) (_:n≤1000000):dcpu n ((i:Int),xc,xp,xx)=bif btB (xc i) (xp i) (xc ((i - 1) / 2)) (xp ((i - 1) / 2)) then .inl ((((i - 1) / 2:Nat):Int),swF xc ((i - 1) / 2) i,swF xp ((i - 1) / 2) i,swF xx ((i - 1) / 2) i) else .inr (0,(i:Int),xc,xp,xx):=by
 unfold dcpu;simp only [jJV h0 (show i≤2000000 by omega),vYJ (show (0:Int) < (i:Int) by omega),zV (show i < n + 1 by omega),zV (show (i - 1) / 2 < n + 1 by omega),toN,uX (C:=cbt) (t:=_) trivial,vYQ];rfl
theorem yJB {n:Nat} {xc xp xx:Nat→Int}:dcpu n (((0:Nat):Int),xc,xp,xx)=.inr (0,((0:Nat):Int),xc,xp,xx):=by
 dsimp only [dcpu];rw [vYY (show ¬ (0:Int) < ((0:Nat):Int) by omega)]; rfl
theorem jVU {n:Nat} (hn:n≤1000000):∀ (i N:Nat) (c p x:Nat→Int),i≤n→i < N→yVB (n + 1) c p i→PosQ (n + 1) p→∃ i' c' p' x',qX (dcpu n) N ((i:Int),c,p,x)=some (0,i',c',p',x')∧Heap (n + 1) c' p'∧PosQ (n + 1) p'∧SubQ (n + 1) c p x (n + 1) c' p' x'∧SubQ (n + 1) c' p' x' (n + 1) c p x:=fun i=>by
 induction i using Nat.strongRecOn with
 | ind i ih =>
  intro N c p x hi hN hh hp;obtain ⟨N,rfl⟩:∃ M,N=M + 1:=⟨N - 1,by omega⟩
  rw [qX];by_cases h0:i=0
  ·subst h0;rw [yJB];exact ⟨_,c,p,x,rfl,fun k k0 kn=>hh.1 k k0 kn (by omega),hp,SubQ.refl _ _ _ _,SubQ.refl _ _ _ _⟩
  ·rw [yJC (by omega) hi hn];cases hb:btB (c i) (p i) (c ((i - 1) / 2)) (p ((i - 1) / 2)) with
   | false =>
    refine ⟨_,c,p,x,rfl,fun k k0 kn => ?_,hp,SubQ.refl _ _ _ _,SubQ.refl _ _ _ _⟩;by_cases e:k=i
    ·subst e; exact bt_f hb
    ·exact hh.1 k k0 kn e
   | true =>
    simp only [vYQ];have hl:=bt_t hb (hp _ (by omega));have hs:=yVD (n:=n + 1) (a:=(i - 1) / 2) (i:=i) (c:=c) (p:=p) (x:=x) (by omega) (by omega);obtain ⟨i',c',p',x',g1,g2,g3,g4,g5⟩:=ih ((i - 1) / 2) (by omega) N _ _ (swF x ((i - 1) / 2) i) (by omega) (by omega) (yGA hh (by omega) (by omega) hl) (fun k hk=>by
     obtain ⟨j,hj,_,e2,_⟩:=hs.1 k hk;rw [e2]; exact hp j hj)
    exact ⟨i',c',p',x',g1,g2,g3,hs.2.trans g4,g5.trans hs.1⟩
def yVC (m:Nat) (c p:Nat→Int) (i:Nat):Prop:=(∀ k,0 < k→k < m→(k - 1) / 2 ≠ i→leR (c ((k - 1) / 2)) (p ((k - 1) / 2)) (c k) (p k))∧(0 < i→∀ k,0 < k→k < m→(k - 1) / 2=i→leR (c ((i - 1) / 2)) (p ((i - 1) / 2)) (c k) (p k))
theorem yJG {m i d:Nat} {c p:Nat→Int} (h:yVC m c p i) (hd0:0 < d) (hd:d < m) (hpd:(d - 1) / 2=i) (hall:∀ k,0 < k→k < m→(k - 1) / 2=i→leR (c d) (p d) (c k) (p k)) (hl:leR (c d) (p d) (c i) (p i)):yVC m (swF c d i) (swF p d i) d:=by
 obtain ⟨h1,h2⟩:=h;refine ⟨fun k k0 km kd => ?_,fun _ k k0 km kd => ?_⟩
 ·by_cases e1:k=d
  ·subst e1; rw [hpd,qXI,qXI,swF_i,swF_i]; exact hl
  ·by_cases e2:k=i
   ·subst e2;rw [swF_i,swF_i,kG (show (k - 1) / 2 ≠ d by omega) (show (k - 1) / 2 ≠ k by omega),kG (show (k - 1) / 2 ≠ d by omega) (show (k - 1) / 2 ≠ k by omega)];exact h2 k0 d hd0 hd hpd
   ·rw [kG e1 e2,kG e1 e2];by_cases e3:(k - 1) / 2=i
    ·rw [e3,swF_i,swF_i]; exact hall k k0 km e3
    ·rw [kG kd e3,kG kd e3]; exact h1 k k0 km e3
 ·rw [hpd,swF_i,swF_i,kG (show k ≠ d by omega) (show k ≠ i by omega),kG (show k ≠ d by omega) (show k ≠ i by omega)]
  have:=h1 k k0 km (by omega)
  rw [kd] at this;exact this
def dnI (m:Nat) (c p:Nat→Int) (i:Nat):Nat:=bif decide (2 * i + 2 < m) && btB (c (2 * i + 2)) (p (2 * i + 2)) (c (2 * i + 1)) (p (2 * i + 1)) then 2 * i + 2 else 2 * i + 1
theorem yWD {m i:Nat} {c p:Nat→Int} (_:2 * i + 1 < m) (hp:PosQ m p):0 < dnI m c p i∧dnI m c p i < m∧(dnI m c p i - 1) / 2=i∧i < dnI m c p i∧∀ k,0 < k→k < m→(k - 1) / 2=i→leR (c (dnI m c p i)) (p (dnI m c p i)) (c k) (p k):=by
 unfold dnI;have hk:∀ k,0 < k→(k - 1) / 2=i→k=2 * i + 1 ∨ k=2 * i + 2:=fun k h1 h2=>by omega
 by_cases h2:2 * i + 2 < m
 ·rw [vYJ h2,vZW];cases hb:btB (c (2 * i + 2)) (p (2 * i + 2)) (c (2 * i + 1)) (p (2 * i + 1)) with
  | true =>
   rw [vYQ];refine ⟨by omega,h2,by omega,by omega,fun k k0 km kp => ?_⟩;rcases hk k k0 kp with rfl | rfl
   ·exact bt_t hb (hp _ (by omega))
   ·exact leR.refl _ _
  | false =>
   rw [vYZ];refine ⟨by omega,by omega,by omega,by omega,fun k k0 km kp => ?_⟩;rcases hk k k0 kp with rfl | rfl
   ·exact leR.refl _ _
   ·exact bt_f hb
 ·rw [vYY h2,Bool.false_and,vYZ];refine ⟨by omega,by omega,by omega,by omega,fun k k0 km kp => ?_⟩;rcases hk k k0 kp with rfl | rfl
  ·exact leR.refl _ _
  ·omega
theorem yJE {n i:Nat} {xc xp xx:Nat→Int} (_:1≤n) (_:n≤1000000) (_:i≤n):dcpo n ((i:Int),xc,xp,xx)=bif decide (2 * i + 1 < n - 1) then (bif btB (xc (dnI (n - 1) xc xp i)) (xp (dnI (n - 1) xc xp i)) (xc i) (xp i) then .inl (((dnI (n - 1) xc xp i:Nat):Int),swF xc (dnI (n - 1) xc xp i) i,swF xp (dnI (n - 1) xc xp i) i,swF xx (dnI (n - 1) xc xp i) i) else .inr (0,(i:Int),xc,xp,xx)) else .inr (0,(i:Int),xc,xp,xx):=by
 have e0:vYX .i64 ((n:Int) - 1)=((n - 1:Nat):Int):=by rw [yG (by omega)]; omega
 have e1:vYX .i64 ((vYX .i64 (2 * (i:Int))) + 1)=((2 * i + 1:Nat):Int):=by
  rw [yG (show -9223372036854775808≤2 * (i:Int)∧2 * (i:Int)≤9223372036854775807 by omega),yG (by omega)]; omega
 have e2:vYX .i64 (((2 * i + 1:Nat):Int) + 1)=((2 * i + 2:Nat):Int):=by rw [yG (by omega)]; omega
 dsimp only [dcpo];simp only [e0,e1,e2,toN,uX (C:=cbt) (t:=_) trivial,vYQ];unfold dnI;by_cases h:2 * i + 1 < n - 1
 ·rw [vYJ (show ((2 * i + 1:Nat):Int) < ((n - 1:Nat):Int) by omega),vYJ h];by_cases h2:2 * i + 2 < n - 1
  ·simp only [vYJ (show ((2 * i + 2:Nat):Int) < ((n - 1:Nat):Int) by omega),vYJ h2,zV h2,zV h,zV (show i < n - 1 by omega),vYQ,vZW];cases hb:btB (xc (2 * i + 2)) (xp (2 * i + 2)) (xc (2 * i + 1)) (xp (2 * i + 1)) <;> simp only [vYQ,vYZ] <;> rfl
  ·simp only [vYY (show ¬ ((2 * i + 2:Nat):Int) < ((n - 1:Nat):Int) by omega),vYY h2,zV h,zV (show i < n - 1 by omega),vYQ,vYZ,Bool.false_and];rfl
 ·rw [vYY (show ¬ ((2 * i + 1:Nat):Int) < ((n - 1:Nat):Int) by omega),vYY h]; rfl
theorem jVW {n:Nat} (h1:1≤n) (hn:n≤1000000):∀ (j i N:Nat) (c p x:Nat→Int),n - i=j→i≤n→j < N→yVC (n - 1) c p i→PosQ (n - 1) p→∃ i' c' p' x',qX (dcpo n) N ((i:Int),c,p,x)=some (0,i',c',p',x')∧Heap (n - 1) c' p'∧PosQ (n - 1) p'∧SubQ (n - 1) c p x (n - 1) c' p' x'∧SubQ (n - 1) c' p' x' (n - 1) c p x:=fun j=>by
 induction j using Nat.strongRecOn with
 | ind j ih =>
  intro i N c p x hj hi hN hh hp;obtain ⟨N,rfl⟩:∃ M,N=M + 1:=⟨N - 1,by omega⟩
  rw [qX,yJE h1 hn hi];by_cases h:2 * i + 1 < n - 1
  ·obtain ⟨d1,d2,d3,d4,d5⟩:=yWD (c:=c) h hp;generalize dnI (n - 1) c p i=d at *;rw [vYJ h,vYQ];cases hb:btB (c d) (p d) (c i) (p i) with
   | false =>
    refine ⟨_,c,p,x,rfl,fun k k0 kn => ?_,hp,SubQ.refl _ _ _ _,SubQ.refl _ _ _ _⟩;by_cases e:(k - 1) / 2=i
    ·rw [e]; exact (bt_f hb).trans (d5 k k0 kn e)
    ·exact hh.1 k k0 kn e
   | true =>
    simp only [vYQ];have hl:=bt_t hb (hp _ (by omega));have hs:=yVD (n:=n - 1) (a:=d) (i:=i) (c:=c) (p:=p) (x:=x) d2 (by omega);obtain ⟨i',c',p',x',g1,g2,g3,g4,g5⟩:=ih (n - d) (by omega) d N _ _ (swF x d i) rfl (by omega) (by omega) (yJG hh d1 d2 d3 d5 hl) (fun k hk=>by
     obtain ⟨j,hj,_,e2,_⟩:=hs.1 k hk;rw [e2]; exact hp j hj)
    exact ⟨i',c',p',x',g1,g2,g3,hs.2.trans g4,g5.trans hs.1⟩
  ·rw [vYY h,vYZ];refine ⟨_,c,p,x,rfl,fun k k0 kn=>hh.1 k k0 kn (by omega),hp,SubQ.refl _ _ _ _,SubQ.refl _ _ _ _⟩
theorem zVJ {n:Nat} {c p:Nat→Int} (h:Heap n c p):∀ k,k < n→leR (c 0) (p 0) (c k) (p k):=fun k=>by
 induction k using Nat.strongRecOn with
 | ind k ih =>
  intro hk;by_cases e:k=0
  ·subst e; exact leR.refl _ _
  ·exact (ih ((k - 1) / 2) (by omega) (by omega)).trans (h k (by omega) hk)
end Go.Proofs.Ytglkkhpdbfacfaa.Be
namespace Go.Proofs.Ytglkkhpdbfacfaa.Bf
open Go.Rx Rt Go.Sx Go.RowKit Ba Bb Bc Bd Be
def q3 (c p x:Nat→Int):Nat→List PV:=fun v=>[.n .i64 (c v),.n .i64 (p v),.n .i64 (x v)]
def unq (k:Nat) (f:Nat→List PV):Nat→Int:=fun v=>match (f v)[k]? with
 | some (.n _ i)=>i
 | _=>0
abbrev Tri:=(Nat→Int) × (Nat→Int) × (Nat→Int)
noncomputable def puT (n:Nat) (c p x:Nat→Int) (ec ep ex:Int):Tri:=(qXL (n + 2) n ((n:Int),(fun v=>(bif (Nat.beq v n) then ec else (c v))),(fun v=>(bif (Nat.beq v n) then ep else (p v))),(fun v=>(bif (Nat.beq v n) then ex else (x v))))).2.2
noncomputable def poT (n:Nat) (c p x:Nat→Int):Tri:=(qWQ (n + 2) n (((0:Nat):Int),(fun v=>(bif (Nat.beq v 0) then (c (n - 1)) else (c v))),(fun v=>(bif (Nat.beq v 0) then (p (n - 1)) else (p v))),(fun v=>(bif (Nat.beq v 0) then (x (n - 1)) else (x v))))).2.2
structure QOk (n:Nat) (c p:Nat→Int):Prop where
 le:n≤1000000
 heap:Heap n c p
 pos:PosQ n p
theorem zWL {n:Nat} {c p x:Nat→Int} {ec ep ex:Int} (h:QOk n c p) (hn:n + 1≤1000000) (he:0 < ep):zUE (n + 2) n ((n:Int),(fun v=>(bif (Nat.beq v n) then ec else (c v))),(fun v=>(bif (Nat.beq v n) then ep else (p v))),(fun v=>(bif (Nat.beq v n) then ex else (x v))))=true ∧
  (qXL (n + 2) n ((n:Int),(fun v=>(bif (Nat.beq v n) then ec else (c v))),(fun v=>(bif (Nat.beq v n) then ep else (p v))),(fun v=>(bif (Nat.beq v n) then ex else (x v))))).1=0 ∧
  QOk (n + 1) (puT n c p x ec ep ex).1 (puT n c p x ec ep ex).2.1∧(∀ k,k < n + 1→((puT n c p x ec ep ex).1 k=ec∧(puT n c p x ec ep ex).2.1 k=ep∧(puT n c p x ec ep ex).2.2 k=ex) ∨ ∃ j,j < n∧(puT n c p x ec ep ex).1 k=c j∧(puT n c p x ec ep ex).2.1 k=p j∧(puT n c p x ec ep ex).2.2 k=x j) ∧
  (∃ k,k < n + 1∧(puT n c p x ec ep ex).1 k=ec∧(puT n c p x ec ep ex).2.1 k=ep∧(puT n c p x ec ep ex).2.2 k=ex)∧SubQ n c p x (n + 1) (puT n c p x ec ep ex).1 (puT n c p x ec ep ex).2.1 (puT n c p x ec ep ex).2.2:=by
 have w:∀ (f:Nat→Int) (y:Int) (v:Nat),(bif Nat.beq v n then y else f v)=if v=n then y else f v:=fun f y v=>by
  rw [qQW]; by_cases e:v=n
  ·rw [vYJ e,if_pos e]; rfl
  ·rw [vYY e,if_neg e]; rfl
 have hu:yVB (n + 1) (fun v=>(bif (Nat.beq v n) then ec else (c v))) (fun v=>(bif (Nat.beq v n) then ep else (p v))) n:=by
  refine ⟨fun k k0 kn ke => ?_,fun n0 k k0 kn kp=>by omega⟩;simp only [w];rw [if_neg ke,if_neg ke,if_neg (show ¬ (k - 1) / 2=n by omega),if_neg (show ¬ (k - 1) / 2=n by omega)];exact h.heap k k0 (by omega)
 have hpz:PosQ (n + 1) (fun v=>(bif (Nat.beq v n) then ep else (p v))):=fun k hk=>by
  simp only [w];by_cases e:k=n
  ·rw [if_pos e]; exact he
  ·rw [if_neg e]; exact h.pos k (by omega)
 obtain ⟨i',c',p',x',g1,g2,g3,g4,g5⟩:=jVU (show n≤1000000 by omega) n (n + 2) _ _ (fun v=>(bif (Nat.beq v n) then ex else (x v))) (Nat.le_refl _) (by omega) hu hpz;have ho:qXL (n + 2) n ((n:Int),(fun v=>(bif (Nat.beq v n) then ec else (c v))),(fun v=>(bif (Nat.beq v n) then ep else (p v))),(fun v=>(bif (Nat.beq v n) then ex else (x v))))=(0,i',c',p',x'):=by unfold qXL; rw [g1]; rfl
 have ht:puT n c p x ec ep ex=(c',p',x'):=by unfold puT; rw [ho]
 rw [ho,ht];refine ⟨by unfold zUE; rw [g1]; rfl,rfl,⟨hn,g2,g3⟩,fun k hk => ?_,?_,fun k hk => ?_⟩
 ·obtain ⟨j,hj,e1,e2,e3⟩:=g5 k hk;simp only [w] at e1 e2 e3;by_cases e:j=n
  ·rw [if_pos e] at e1 e2 e3; exact .inl ⟨e1,e2,e3⟩
  ·rw [if_neg e] at e1 e2 e3; exact .inr ⟨j,by omega,e1,e2,e3⟩
 ·obtain ⟨j,hj,e1,e2,e3⟩:=g4 n (by omega);simp only [w,if_true] at e1 e2 e3;exact ⟨j,hj,e1.symm,e2.symm,e3.symm⟩
 ·obtain ⟨j,hj,e1,e2,e3⟩:=g4 k (by omega);simp only [w,if_neg (show ¬ k=n by omega)] at e1 e2 e3;exact ⟨j,hj,e1,e2,e3⟩
theorem zQJ {n:Nat} {c p x:Nat→Int} (h:QOk n c p) (h1:1≤n):zUI (n + 2) n (((0:Nat):Int),(fun v=>(bif (Nat.beq v 0) then (c (n - 1)) else (c v))),(fun v=>(bif (Nat.beq v 0) then (p (n - 1)) else (p v))),(fun v=>(bif (Nat.beq v 0) then (x (n - 1)) else (x v))))=true ∧
  (qWQ (n + 2) n (((0:Nat):Int),(fun v=>(bif (Nat.beq v 0) then (c (n - 1)) else (c v))),(fun v=>(bif (Nat.beq v 0) then (p (n - 1)) else (p v))),(fun v=>(bif (Nat.beq v 0) then (x (n - 1)) else (x v))))).1=0 ∧
  QOk (n - 1) (poT n c p x).1 (poT n c p x).2.1∧SubQ (n - 1) (poT n c p x).1 (poT n c p x).2.1 (poT n c p x).2.2 n c p x ∧
  (∀ k,k < n→k=0 ∨ ∃ j,j < n - 1∧c k=(poT n c p x).1 j∧p k=(poT n c p x).2.1 j∧x k=(poT n c p x).2.2 j):=by
 have w:∀ (f:Nat→Int) (v:Nat),(bif Nat.beq v 0 then f (n - 1) else f v)=if v=0 then f (n - 1) else f v:=fun f v=>by
  rw [qQW]; by_cases e:v=0
  ·rw [vYJ e,if_pos e]; rfl
  ·rw [vYY e,if_neg e]; rfl
 have hu:yVC (n - 1) (fun v=>(bif (Nat.beq v 0) then (c (n - 1)) else (c v))) (fun v=>(bif (Nat.beq v 0) then (p (n - 1)) else (p v))) 0:=by
  refine ⟨fun k k0 kn ke => ?_,fun n0=>absurd n0 (by omega)⟩;simp only [w];rw [if_neg (show ¬ k=0 by omega),if_neg (show ¬ k=0 by omega),if_neg ke,if_neg ke];exact h.heap k k0 (by omega)
 have hpz:PosQ (n - 1) (fun v=>(bif (Nat.beq v 0) then (p (n - 1)) else (p v))):=fun k hk=>by
  simp only [w];by_cases e:k=0
  ·rw [if_pos e]; exact h.pos _ (by omega)
  ·rw [if_neg e]; exact h.pos k (by omega)
 obtain ⟨i',c',p',x',g1,g2,g3,g4,g5⟩:=jVW h1 h.le n 0 (n + 2) _ _ (fun v=>(bif (Nat.beq v 0) then (x (n - 1)) else (x v))) (by omega) (by omega) (by omega) hu hpz;have ho:qWQ (n + 2) n (((0:Nat):Int),(fun v=>(bif (Nat.beq v 0) then (c (n - 1)) else (c v))),(fun v=>(bif (Nat.beq v 0) then (p (n - 1)) else (p v))),(fun v=>(bif (Nat.beq v 0) then (x (n - 1)) else (x v))))=(0,i',c',p',x'):=by unfold qWQ; rw [g1]; rfl
 have ht:poT n c p x=(c',p',x'):=by unfold poT; rw [ho]
 rw [ho,ht];refine ⟨by unfold zUI; rw [g1]; rfl,rfl,⟨by have:=h.le; omega,g2,g3⟩,fun k hk => ?_,fun k hk => ?_⟩
 ·obtain ⟨j,hj,e1,e2,e3⟩:=g5 k hk;simp only [w] at e1 e2 e3;by_cases e:j=0
  ·rw [if_pos e] at e1 e2 e3; exact ⟨n - 1,by omega,e1,e2,e3⟩
  ·rw [if_neg e] at e1 e2 e3; exact ⟨j,by omega,e1,e2,e3⟩
 ·by_cases e0:k=0
  ·exact .inl e0
  ·refine .inr ?_;by_cases e:k=n - 1
   ·obtain ⟨j,hj,e1,e2,e3⟩:=g4 0 (by omega);simp only [w,if_true] at e1 e2 e3;subst e;exact ⟨j,hj,e1,e2,e3⟩
   ·obtain ⟨j,hj,e1,e2,e3⟩:=g4 k (by omega);simp only [w,if_neg e0] at e1 e2 e3;exact ⟨j,hj,e1,e2,e3⟩
noncomputable def lspu (N n:Nat) (qc qp qx:Nat→Int) (ec ep ex:Int):List (List Nat × yK):=[([0,1,0,1,1],sumF (fun t:(Int × (Nat→Int) × (Nat→Int) × (Nat→Int))=>(hpu N n qc qp qx ec ep ex t.1 t.2.1 t.2.2.1 t.2.2.2)) (fun σ=>(slI σ 5,rgI σ 1000001 0,rgI σ 1000001 1,rgI σ 1000001 2)) (fun t K=>(bif zUE N n t then kxpu N n qc qp qx ec ep ex K (qXL N n t) else none)))]
set_option maxRecDepth 100000 in
theorem pxpu (N n:Nat) (qc qp qx:Nat→Int) (ec ep ex:Int):zGH Tf (orpu N n qc qp qx ec ep ex) (qY (lspu N n qc qp qx ec ep ex)) N 66 [.p 1000000 0,.v (.a [.n .i64 ec,.n .i64 ep,.n .i64 ex])] [.gs 98 3 (.lf n (q3 qc qp qx))] =
 (bif (decide (n + 1≤1000000)) then (bif (gSt (hpu N n qc qp qx ec ep ex (vYX .i64 (((n + 1):Int) - 1)) (fun v=>(bif (Nat.beq v n) then ec else (qc v))) (fun v=>(bif (Nat.beq v n) then ep else (qp v))) (fun v=>(bif (Nat.beq v n) then ex else (qx v)))) (hpu N n qc qp qx ec ep ex (vYX .i64 (((n + 1):Int) - 1)) (fun v=>(bif (Nat.beq v n) then ec else (qc v))) (fun v=>(bif (Nat.beq v n) then ep else (qp v))) (fun v=>(bif (Nat.beq v n) then ex else (qx v))))) then (bif (zUE N n ((vYX .i64 (((n + 1):Int) - 1)),(fun v=>(bif (Nat.beq v n) then ec else (qc v))),(fun v=>(bif (Nat.beq v n) then ep else (qp v))),(fun v=>(bif (Nat.beq v n) then ex else (qx v))))) then (bif (Nat.beq (qXL N n ((vYX .i64 (((n + 1):Int) - 1)),(fun v=>(bif (Nat.beq v n) then ec else (qc v))),(fun v=>(bif (Nat.beq v n) then ep else (qp v))),(fun v=>(bif (Nat.beq v n) then ex else (qx v))))).1 0) then some (.v (.t [.t [],.gs 98 3 (.lf (n + 1) (fun v=>[.n .i64 ((qXL N n ((vYX .i64 (((n + 1):Int) - 1)),(fun v=>(bif (Nat.beq v n) then ec else (qc v))),(fun v=>(bif (Nat.beq v n) then ep else (qp v))),(fun v=>(bif (Nat.beq v n) then ex else (qx v))))).2.2.1 v),.n .i64 ((qXL N n ((vYX .i64 (((n + 1):Int) - 1)),(fun v=>(bif (Nat.beq v n) then ec else (qc v))),(fun v=>(bif (Nat.beq v n) then ep else (qp v))),(fun v=>(bif (Nat.beq v n) then ex else (qx v))))).2.2.2.1 v),.n .i64 ((qXL N n ((vYX .i64 (((n + 1):Int) - 1)),(fun v=>(bif (Nat.beq v n) then ec else (qc v))),(fun v=>(bif (Nat.beq v n) then ep else (qp v))),(fun v=>(bif (Nat.beq v n) then ex else (qx v))))).2.2.2.2 v)]))]),[])
 else none)
 else none)
 else none)
 else none):=by kernel_rfl
theorem jYG (N n:Nat) (qc qp qx:Nat→Int) (ec ep ex:Int) (hN:N=n + 2) (h:QOk n qc qp) (hn:n + 1≤1000000) (he:0 < ep):zWY Try.prog 66 [.p 1000000 0,.v (.a [.n .i64 ec,.n .i64 ep,.n .i64 ex])] [.gs 98 3 (.lf n (q3 qc qp qx))] (.t []) ([.gs 98 3 (.lf (n + 1) (q3 (puT n qc qp qx ec ep ex).1 (puT n qc qp qx ec ep ex).2.1 (puT n qc qp qx ec ep ex).2.2))]):=by
 refine qXG (N:=N) (LO:=qY (lspu N n qc qp qx ec ep ex)) kJ jJ (kX (l:=[(65,o_bt)]) (m:=[]) ⟨jZJ,trivial⟩ trivial) (fun p S hp => ?_) ?_
 ·refine qV (L:=qZ Tf 66) (l:=(lspu N n qc qp qx ec ep ex)) (show AllP _ (lspu N n qc qp qx ec ep ex) from ⟨?_,trivial⟩) p S hp
  ·dsimp only;refine yV (T:=Tf) (o:=(orpu N n qc qp qx ec ep ex)) (f:=66) (LO:=qY []) (p:=[0,1,0,1,1]) kZ ?_;intro t K r hr;obtain ⟨hg,hr⟩:=qQ hr
   skip
   exact (lwpu K N n qc qp qx ec ep ex t hg).trans hr
 ·refine (pxpu N n qc qp qx ec ep ex).trans ?_;subst hN;have e:vYX .i64 (((n:Int) + 1) - 1)=(n:Int):=by rw [yG (by omega)]; omega
  obtain ⟨s1,s2,_⟩:=zWL (x:=qx) (ex:=ex) h hn he;simp only [e,yY,vYJ hn,vYQ];rw [show zUE (n + 2) n ((n:Int),(fun v=>(bif (Nat.beq v n) then ec else (qc v))),(fun v=>(bif (Nat.beq v n) then ep else (qp v))),(fun v=>(bif (Nat.beq v n) then ex else (qx v))))=true from s1,show (qXL (n + 2) n ((n:Int),(fun v=>(bif (Nat.beq v n) then ec else (qc v))),(fun v=>(bif (Nat.beq v n) then ep else (qp v))),(fun v=>(bif (Nat.beq v n) then ex else (qx v))))).1=0 from s2];rfl
noncomputable def lspo (N n:Nat) (qc qp qx:Nat→Int):List (List Nat × yK):=[([0,1,0,1,1,1,1,1],sumF (fun t:(Int × (Nat→Int) × (Nat→Int) × (Nat→Int))=>(hpo N n qc qp qx t.1 t.2.1 t.2.2.1 t.2.2.2)) (fun σ=>(slI σ 6,rgI σ 1000001 0,rgI σ 1000001 1,rgI σ 1000001 2)) (fun t K=>(bif zUI N n t then kxpo N n qc qp qx K (qWQ N n t) else none)))]
set_option maxRecDepth 100000 in
theorem pxpo (N n:Nat) (qc qp qx:Nat→Int):zGH Tf (orpo N n qc qp qx) (qY (lspo N n qc qp qx)) N 64 [.p 1000000 0] [.gs 98 3 (.lf n (q3 qc qp qx))] =
 (bif (inB 0 n) then (bif (inB (vYX .i64 ((n:Int) - 1)) n) then (bif (inB 0 n) then (bif (decide (0≤(vYX .i64 ((n:Int) - 1)))) then (bif (decide ((vYX .i64 ((n:Int) - 1)).toNat≤n)) then (bif (gSt (hpo N n qc qp qx 0 (fun v=>(bif (Nat.beq v 0) then (qc (vYX .i64 ((n:Int) - 1)).toNat) else (qc v))) (fun v=>(bif (Nat.beq v 0) then (qp (vYX .i64 ((n:Int) - 1)).toNat) else (qp v))) (fun v=>(bif (Nat.beq v 0) then (qx (vYX .i64 ((n:Int) - 1)).toNat) else (qx v)))) (hpo N n qc qp qx 0 (fun v=>(bif (Nat.beq v 0) then (qc (vYX .i64 ((n:Int) - 1)).toNat) else (qc v))) (fun v=>(bif (Nat.beq v 0) then (qp (vYX .i64 ((n:Int) - 1)).toNat) else (qp v))) (fun v=>(bif (Nat.beq v 0) then (qx (vYX .i64 ((n:Int) - 1)).toNat) else (qx v))))) then (bif (zUI N n (0,(fun v=>(bif (Nat.beq v 0) then (qc (vYX .i64 ((n:Int) - 1)).toNat) else (qc v))),(fun v=>(bif (Nat.beq v 0) then (qp (vYX .i64 ((n:Int) - 1)).toNat) else (qp v))),(fun v=>(bif (Nat.beq v 0) then (qx (vYX .i64 ((n:Int) - 1)).toNat) else (qx v))))) then (bif (Nat.beq (qWQ N n (0,(fun v=>(bif (Nat.beq v 0) then (qc (vYX .i64 ((n:Int) - 1)).toNat) else (qc v))),(fun v=>(bif (Nat.beq v 0) then (qp (vYX .i64 ((n:Int) - 1)).toNat) else (qp v))),(fun v=>(bif (Nat.beq v 0) then (qx (vYX .i64 ((n:Int) - 1)).toNat) else (qx v))))).1 0) then some (.v (.t [.a [.n .i64 (qc 0),.n .i64 (qp 0),.n .i64 (qx 0)],.gs 98 3 (.lf (vYX .i64 ((n:Int) - 1)).toNat (fun v=>[.n .i64 ((qWQ N n (0,(fun v=>(bif (Nat.beq v 0) then (qc (vYX .i64 ((n:Int) - 1)).toNat) else (qc v))),(fun v=>(bif (Nat.beq v 0) then (qp (vYX .i64 ((n:Int) - 1)).toNat) else (qp v))),(fun v=>(bif (Nat.beq v 0) then (qx (vYX .i64 ((n:Int) - 1)).toNat) else (qx v))))).2.2.1 v),.n .i64 ((qWQ N n (0,(fun v=>(bif (Nat.beq v 0) then (qc (vYX .i64 ((n:Int) - 1)).toNat) else (qc v))),(fun v=>(bif (Nat.beq v 0) then (qp (vYX .i64 ((n:Int) - 1)).toNat) else (qp v))),(fun v=>(bif (Nat.beq v 0) then (qx (vYX .i64 ((n:Int) - 1)).toNat) else (qx v))))).2.2.2.1 v),.n .i64 ((qWQ N n (0,(fun v=>(bif (Nat.beq v 0) then (qc (vYX .i64 ((n:Int) - 1)).toNat) else (qc v))),(fun v=>(bif (Nat.beq v 0) then (qp (vYX .i64 ((n:Int) - 1)).toNat) else (qp v))),(fun v=>(bif (Nat.beq v 0) then (qx (vYX .i64 ((n:Int) - 1)).toNat) else (qx v))))).2.2.2.2 v)]))]),[])
 else none)
 else none)
 else none)
 else none)
 else none)
 else none)
 else none)
 else none):=by kernel_rfl
theorem jYA (N n:Nat) (qc qp qx:Nat→Int) (hN:N=n + 2) (h:QOk n qc qp) (h1:1≤n):zWY Try.prog 64 [.p 1000000 0] [.gs 98 3 (.lf n (q3 qc qp qx))] (.a [.n .i64 (qc 0),.n .i64 (qp 0),.n .i64 (qx 0)]) ([.gs 98 3 (.lf (n - 1) (q3 (poT n qc qp qx).1 (poT n qc qp qx).2.1 (poT n qc qp qx).2.2))]):=by
 refine qXG (N:=N) (LO:=qY (lspo N n qc qp qx)) kJ jJ (kX (l:=[(65,o_bt)]) (m:=[]) ⟨jZJ,trivial⟩ trivial) (fun p S hp => ?_) ?_
 ·refine qV (L:=qZ Tf 64) (l:=(lspo N n qc qp qx)) (show AllP _ (lspo N n qc qp qx) from ⟨?_,trivial⟩) p S hp
  ·dsimp only;refine yV (T:=Tf) (o:=(orpo N n qc qp qx)) (f:=64) (LO:=qY []) (p:=[0,1,0,1,1,1,1,1]) kZ ?_;intro t K r hr;obtain ⟨hg,hr⟩:=qQ hr
   skip
   exact (lwpo K N n qc qp qx t hg).trans hr
 ·refine (pxpo N n qc qp qx).trans ?_;subst hN;have hle:=h.le;have e:vYX .i64 ((n:Int) - 1)=((n - 1:Nat):Int):=by rw [yG (by omega)]; omega
  obtain ⟨s1,s2,_⟩:=zQJ (x:=qx) h h1;simp only [e,toN,yY,zV (show n - 1 < n by omega),show inB 0 n=true from zV (p:=0) (show 0 < n by omega),vYJ (show (0:Int)≤((n - 1:Nat):Int) by omega),vYJ (show n - 1≤n by omega),vYQ];rw [show zUI (n + 2) n (0,(fun v=>(bif (Nat.beq v 0) then (qc (n - 1)) else (qc v))),(fun v=>(bif (Nat.beq v 0) then (qp (n - 1)) else (qp v))),(fun v=>(bif (Nat.beq v 0) then (qx (n - 1)) else (qx v))))=true from s1,show (qWQ (n + 2) n (0,(fun v=>(bif (Nat.beq v 0) then (qc (n - 1)) else (qc v))),(fun v=>(bif (Nat.beq v 0) then (qp (n - 1)) else (qp v))),(fun v=>(bif (Nat.beq v 0) then (qx (n - 1)) else (qx v))))).1=0 from s2];rfl
def cpu:Nat × (Nat→Int) × (Nat→Int) × (Nat→Int) × Int × Int × Int→Prop:=fun t=>match t with | (n,c,p,_,_,ep,_)=>QOk n c p∧n + 1≤1000000∧0 < ep
def hpu:Nat × (Nat→Int) × (Nat→Int) × (Nat→Int) × Int × Int × Int→List HV:=fun t=>match t with | (n,_,p,_,ec,ep,ex)=>[.p 1000000 0,.v (.a [.n .i64 ec,.n .i64 ep,.n .i64 ex])]
def epu:Nat × (Nat→Int) × (Nat→Int) × (Nat→Int) × Int × Int × Int→List PV:=fun t=>match t with | (n,c,p,x,_,_,_)=>[.gs 98 3 (.lf n (q3 c p x))]
noncomputable def xpu:Nat × (Nat→Int) × (Nat→Int) × (Nat→Int) × Int × Int × Int→PV:=fun t=>match t with | (_,_,_,_,_,_,_)=>.t []
noncomputable def qpu:Nat × (Nat→Int) × (Nat→Int) × (Nat→Int) × Int × Int × Int→List PV:=fun t=>match t with | (n,c,p,x,ec,ep,ex)=>[.gs 98 3 (.lf (n + 1) (q3 (puT n c p x ec ep ex).1 (puT n c p x ec ep ex).2.1 (puT n c p x ec ep ex).2.2))]
def dpu:List HV→List PV→Nat × (Nat→Int) × (Nat→Int) × (Nat→Int) × Int × Int × Int:=fun hs ps=>match hs,ps with
 | [.p _ _,.v (.a [.n _ a,.n _ b,.n _ d])],[.gs _ _ (.lf n f)]=>(n,unq 0 f,unq 1 f,unq 2 f,a,b,d)
 | _,_=>(0,fun _=>0,fun _=>0,fun _=>0,0,0,0)
noncomputable def o_pu:List HV→List PV→Option (Bool × (PV × List PV)):=o_fb dpu cpu hpu epu xpu qpu
theorem jWH:OneOkBq Try.prog 66 o_pu (Tf.gq 66):=by
 rw [show Tf.gq 66=true by kernel_rfl];refine jKU fun t h => ?_
 obtain ⟨n,c,p,x,ec,ep,ex⟩:=t;exact jYG (n + 2) n c p x ec ep ex rfl h.1 h.2.1 h.2.2
def cpo:Nat × (Nat→Int) × (Nat→Int) × (Nat→Int)→Prop:=fun t=>match t with | (n,c,p,_)=>QOk n c p∧1≤n
def hpo:Nat × (Nat→Int) × (Nat→Int) × (Nat→Int)→List HV:=fun t=>match t with | (_,_,p,_)=>[.p 1000000 0]
def epo:Nat × (Nat→Int) × (Nat→Int) × (Nat→Int)→List PV:=fun t=>match t with | (n,c,p,x)=>[.gs 98 3 (.lf n (q3 c p x))]
noncomputable def xpo:Nat × (Nat→Int) × (Nat→Int) × (Nat→Int)→PV:=fun t=>match t with | (n,c,p,x)=>.a [.n .i64 (c 0),.n .i64 (p 0),.n .i64 (x 0)]
noncomputable def qpo:Nat × (Nat→Int) × (Nat→Int) × (Nat→Int)→List PV:=fun t=>match t with | (n,c,p,x)=>[.gs 98 3 (.lf (n - 1) (q3 (poT n c p x).1 (poT n c p x).2.1 (poT n c p x).2.2))]
def dpo:List HV→List PV→Nat × (Nat→Int) × (Nat→Int) × (Nat→Int):=fun hs ps=>match hs,ps with
 | [.p _ _],[.gs _ _ (.lf n f)]=>(n,unq 0 f,unq 1 f,unq 2 f)
 | _,_=>(0,fun _=>0,fun _=>0,fun _=>0)
noncomputable def o_po:List HV→List PV→Option (Bool × (PV × List PV)):=o_fb dpo cpo hpo epo xpo qpo
theorem jWA:OneOkBq Try.prog 64 o_po (Tf.gq 64):=by
 rw [show Tf.gq 64=true by kernel_rfl];refine jKU fun t h => ?_
 obtain ⟨n,c,p,x⟩:=t;exact jYA (n + 2) n c p x rfl h.1 h.2
end Go.Proofs.Ytglkkhpdbfacfaa.Bf
namespace Go.Proofs.Ytglkkhpdbfacfaa.Bh
open Go.Rx Rt Go.Sx Go.RowKit Ba Bb Bc Bd Be Bf
def ixB (t c rc rp:Nat→Int) (x:Int) (i:Nat):Bool:=!(decide (rp (t i).toNat=vYX .i64 (rp x.toNat - 1)) && decide (vYX .i64 (rc (t i).toNat + c i)=rc x.toNat))
def ixI (n:Nat) (t c rc rp:Nat→Int) (x:Int):Int:=bif allN (fun i:Nat=>ixB t c rc rp x i) n 0 then -1 else ((Rx.firstK (fun i:Nat=>ixB t c rc rp x i) n 0:Nat):Int)
noncomputable def orix (n:Nat) (_ _:Nat→Int) (_:Nat) (_ _:Nat→Int) (x:Int):OrS:=orS [] []
noncomputable def hix (n:Nat) (tt cc:Nat→Int) (np:Nat) (rc rp:Nat→Int) (x:Int) (i:Int):St:=⟨[(0,.v (.lf n (fun w=>[.n .i64 (tt w),.n .i64 (cc w)]))),(1,.v (.f 68 [] [.c [.lf np (fun v=>[.n .i64 (rc v),.n .i64 (rp v)])] 0,.c [.n .i64 x] 0])),(7,.v (.n .i64 (n:Int))),(8,.v (.n .i64 i))],[]⟩
set_option maxRecDepth 100000 in
theorem rdix (G:St→Option (Ret × Mem)) (K:Cont) (n:Nat) (tt cc:Nat→Int) (np:Nat) (rc rp:Nat→Int) (x:Int) (i:Int):yX (n + 10) (cxS Tf (orix n tt cc np rc rp x) (n + 10) 67 (ntmF Tf 67)) (evX Tf (orix n tt cc np rc rp x) (n + 10) 67 (ntmF Tf 67)) (qY []) (qZ Tf 67 [0,1,0,1]) [0,1,0,1] (Tf.hint 67 (qJ (qZ Tf 67 [0,1,0,1]))) K G (hix n tt cc np rc rp x i) =
 (bif (decide (i < (n:Int))) then (bif (inB i n) then (bif (inB (tt (i).toNat) np) then (bif (inB x np) then (bif (decide ((rp ((tt (i).toNat)).toNat)=(vYX .i64 ((rp (x).toNat) - 1)))) then (bif (inB x np) then (bif (decide ((vYX .i64 ((rc ((tt (i).toNat)).toNat) + (cc (i).toNat)))=(rc (x).toNat))) then (K .ret ⟨[(4,.v (.n .i64 i))],[]⟩)
 else (G (hix n tt cc np rc rp x (vYX .i64 (i + 1)))))
 else none)
 else (G (hix n tt cc np rc rp x (vYX .i64 (i + 1)))))
 else none)
 else none)
 else none)
 else (K (.exit 0) ⟨[],[]⟩)):=by kernel_rfl
theorem lpix (K:Cont) (n:Nat) (tt cc:Nat→Int) (np:Nat) (rc rp:Nat→Int) (x:Int) (_:n≤100000) (ht:∀ i,i < n→inB (tt i) np=true) (hx:inB x np=true):LFX (n + 10) (cxS Tf (orix n tt cc np rc rp x) (n + 10) 67 (ntmF Tf 67)) (evX Tf (orix n tt cc np rc rp x) (n + 10) 67 (ntmF Tf 67)) (qY []) (qZ Tf 67 [0,1,0,1]) [0,1,0,1] (Tf.hint 67 (qJ (qZ Tf 67 [0,1,0,1]))) K (n + 10) (hix n tt cc np rc rp x 0)=bif (allN (fun i:Nat=>ixB tt cc rc rp x i) n 0) then (K (.exit 0) ⟨[],[]⟩) else (K .ret ⟨[(4,.v (.n .i64 ((Rx.firstK (fun i:Nat=>ixB tt cc rc rp x i) n 0:Nat):Int)))],[]⟩):=by
 refine (zKQ (L:=LFX (n + 10) (cxS Tf (orix n tt cc np rc rp x) (n + 10) 67 (ntmF Tf 67)) (evX Tf (orix n tt cc np rc rp x) (n + 10) 67 (ntmF Tf 67)) (qY []) (qZ Tf 67 [0,1,0,1]) [0,1,0,1] (Tf.hint 67 (qJ (qZ Tf 67 [0,1,0,1]))) K) (stp:=yX (n + 10) (cxS Tf (orix n tt cc np rc rp x) (n + 10) 67 (ntmF Tf 67)) (evX Tf (orix n tt cc np rc rp x) (n + 10) 67 (ntmF Tf 67)) (qY []) (qZ Tf 67 [0,1,0,1]) [0,1,0,1] (Tf.hint 67 (qJ (qZ Tf 67 [0,1,0,1]))) K) (fun _ _=>rfl) (fun (i:Nat) (_:Unit)=>hix n tt cc np rc rp x (i:Int)) (fun _ _=>True) (fun (i:Nat) _=>ixB tt cc rc rp x i) (fun _ _=>()) (c:=n) (fun _=>(K (.exit 0) ⟨[],[]⟩)) (fun i _=>(K .ret ⟨[(4,.v (.n .i64 (i:Int)))],[]⟩)) (fun G i f hi _ => ?_) (fun _ _ _ _ _=>trivial) (fun G f _ => ?_) n 0 (n + 10) () (by omega) (by omega) trivial).trans ((qYE _ _ _ _ _).trans (qXH _ _ _ _ _))
 ·refine (rdix G K n tt cc np rc rp x i).trans ?_;rw [vYJ (show (i:Int) < (n:Int) by omega),qQB (by omega),zV (show i < n by omega)];simp only [toN,ht i (by omega),hx,vYQ,ixB];cases decide (rp (tt i).toNat=vYX .i64 (rp x.toNat - 1)) <;> cases decide (vYX .i64 (rc (tt i).toNat + cc i)=rc x.toNat) <;> rfl
 ·refine (rdix G K n tt cc np rc rp x n).trans ?_;rw [vYY (show ¬ (n:Int) < (n:Int) by omega)];rfl
noncomputable def lsix (n:Nat) (tt cc:Nat→Int) (np:Nat) (rc rp:Nat→Int) (x:Int):List (List Nat × yK):=[([0,1,0,1],sumF (fun _:Unit=>(hix n tt cc np rc rp x 0)) (fun _=>()) (fun _ K=>(bif (decide (n≤100000)) then (bif (allN (fun i:Nat=>ixB tt cc rc rp x i) n 0) then (K (.exit 0) ⟨[],[]⟩) else (K .ret ⟨[(4,.v (.n .i64 ((Rx.firstK (fun i:Nat=>ixB tt cc rc rp x i) n 0:Nat):Int)))],[]⟩)) else none)))]
set_option maxRecDepth 100000 in
theorem pxix (n:Nat) (tt cc:Nat→Int) (np:Nat) (rc rp:Nat→Int) (x:Int):qZV Tf (orix n tt cc np rc rp x) (qY (lsix n tt cc np rc rp x)) (n + 10) 67 [.lf n (fun w=>[.n .i64 (tt w),.n .i64 (cc w)]),.f 68 [] [.c [.lf np (fun v=>[.n .i64 (rc v),.n .i64 (rp v)])] 0,.c [.n .i64 x] 0]] =
 (bif (gSt (hix n tt cc np rc rp x 0) (hix n tt cc np rc rp x 0)) then (bif (decide (n≤100000)) then (bif (allN (fun i:Nat=>ixB tt cc rc rp x i) n 0) then some (.v (.n .i64 (-1)),[])
 else some (.v (.n .i64 ((Rx.firstK (fun i:Nat=>ixB tt cc rc rp x i) n 0:Nat):Int)),[]))
 else none)
 else none):=by kernel_rfl
theorem jYD (n:Nat) (tt cc:Nat→Int) (np:Nat) (rc rp:Nat→Int) (x:Int) (hn:n≤100000) (ht:∀ i,i < n→inB (tt i) np=true) (hx:inB x np=true):zH Try.prog 67 [.lf n (fun w=>[.n .i64 (tt w),.n .i64 (cc w)]),.f 68 [] [.c [.lf np (fun v=>[.n .i64 (rc v),.n .i64 (rp v)])] 0,.c [.n .i64 x] 0]] (.v (.n .i64 (ixI n tt cc rc rp x))):=by
 refine zJ (N:=(n + 10)) (LO:=qY (lsix n tt cc np rc rp x)) kJ jJ (kX (l:=[]) (m:=[]) trivial trivial) (fun p S hp => ?_) ?_
 ·refine qV (L:=qZ Tf 67) (l:=(lsix n tt cc np rc rp x)) (show AllP _ (lsix n tt cc np rc rp x) from ⟨?_,trivial⟩) p S hp
  ·dsimp only;refine yV (T:=Tf) (o:=(orix n tt cc np rc rp x)) (f:=67) (LO:=qY []) (p:=[0,1,0,1]) kZ ?_;intro t K r hr;obtain ⟨hg,hr⟩:=qQ hr;have hn:=vYK hg;exact (lpix K n tt cc np rc rp x hn ht hx).trans hr
 ·refine (pxix n tt cc np rc rp x).trans ?_;unfold ixI;simp only [yY,vYJ hn,vYQ];cases allN (fun i:Nat=>ixB tt cc rc rp x i) n 0 <;> rfl
def tcP (t c:Nat→Int):Nat→List PV:=fun w=>[.n .i64 (t w),.n .i64 (c w)]
def cix:Nat × (Nat→Int) × (Nat→Int) × Nat × (Nat→Int) × (Nat→Int) × Int→Prop:=fun t=>match t with | (n,t,_,np,_,_,x)=>n≤100000∧(∀ i,i < n→inB (t i) np=true)∧inB x np=true
def eix:Nat × (Nat→Int) × (Nat→Int) × Nat × (Nat→Int) × (Nat→Int) × Int→List PV:=fun t=>match t with | (n,t,c,np,rc,rp,x)=>[.lf n (tcP t c),.f 68 [] [.c [.lf np (tcP rc rp)] 0,.c [.n .i64 x] 0]]
noncomputable def rix:Nat × (Nat→Int) × (Nat→Int) × Nat × (Nat→Int) × (Nat→Int) × Int→Ret:=fun t=>match t with | (n,t,c,_,rc,rp,x)=>.v (.n .i64 (ixI n t c rc rp x))
def dix:List PV→Nat × (Nat→Int) × (Nat→Int) × Nat × (Nat→Int) × (Nat→Int) × Int:=fun ps=>match ps with
 | [.lf n f,.f _ _ [.c [.lf np r] _,.c [.n _ x] _]]=>(n,unq 0 f,unq 1 f,np,unq 0 r,unq 1 r,x)
 | _=>(0,fun _=>0,fun _=>0,0,fun _=>0,fun _=>0,0)
noncomputable def o_ix:List PV→Option (Bool × Ret):=o_fm dix cix eix rix
theorem jWC:qZC Try.prog 67 o_ix:=qJJ fun t h=>by
 obtain ⟨n,t,c,np,rc,rp,x⟩:=t;exact jYD n t c np rc rp x h.1 h.2.1 h.2.2
end Go.Proofs.Ytglkkhpdbfacfaa.Bh

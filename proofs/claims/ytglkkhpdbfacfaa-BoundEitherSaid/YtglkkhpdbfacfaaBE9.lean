/- Part 9 of the texts behind the last one: rules and contracts. No condition. -/
import Derived.Test.YtglkkhpdbfacfaaBE8
open Bool renaming and_eq_true → vQJ, true_and → vZW
open Go.IntKind renaming wrap → vYX
namespace Go.Proofs.Ytglkkhpdbfacfaa.Bb
open Go.Rx Rt Go.Sx Go.RowKit Ba
structure Ed where
 u:Int
 v:Int
 c:Int
 s:Int
 kd:Int
 dp:Int
 ix:Int
 pr:Int
 n1:Nat
 f1:Nat→List PV
 n2:Nat
 f2:Nat→List PV
 n3:Nat
 f3:Nat→List PV
 n4:Nat
 f4:Nat→List PV
def edP (e:Ed):List PV:=[.n .i64 e.u,.n .i64 e.v,.n .i64 e.c,.n .i64 e.s,.n .i64 e.kd,.lf e.n1 e.f1,.n .i64 e.dp,.n .i64 e.ix,.lf e.n2 e.f2,.n .i64 e.pr,.lf e.n3 e.f3,.lf e.n4 e.f4]
def fE (ed:Nat→Ed):Nat→List PV:=fun v=>edP (ed v)
structure Gr where
 np:Nat
 pt:Nat→List PV
 ne:Nat
 ed:Nat→Ed
def gP (g:Gr):List PV:=[.lf g.np g.pt,.lf g.ne (fE g.ed)]
def unE (r:List PV):Ed:=match r with
 | [.n _ u,.n _ v,.n _ c,.n _ s,.n _ kd,.lf n1 f1,.n _ dp,.n _ ix,.lf n2 f2,.n _ pr,.lf n3 f3,.lf n4 f4]=>⟨u,v,c,s,kd,dp,ix,pr,n1,f1,n2,f2,n3,f3,n4,f4⟩
 | _=>⟨0,0,0,0,0,0,0,0,0,fun _=>[],0,fun _=>[],0,fun _=>[],0,fun _=>[]⟩
def unFE (f:Nat→List PV):Nat→Ed:=fun v=>unE (f v)
def isP (g:Gr) (v:Int):Bool:=decide (0≤v) && decide (v < (g.np:Int))
def usB (s m:Int):Bool:=bif decide (m=0) then decide (s=1) else bif decide (m=1) then decide (s=1) || decide (s=0) else bif decide (m=2) then !decide (s=2) else false
def btB (a b c d:Int):Bool:=decide (d=0) || (decide (a < c) || (decide (a=c) && decide (b < d)))
def lsB (a b c d:Int):Bool:=bif decide (c < 0) || decide (a < 0) then decide (0≤a) && decide (c < 0) else decide (a < c) || (decide (a=c) && decide (b < d))
def cpI (u v a b:Int):Int:=bif decide (u < a) then -1 else bif decide (a < u) then 1 else bif decide (v < b) then -1 else bif decide (b < v) then 1 else 0
noncomputable def orip (g:Gr) (v:Int):OrS:=orS [] []
noncomputable def lsip (g:Gr) (v:Int):List (List Nat × yK):=[]
set_option maxRecDepth 100000 in
theorem pxip (g:Gr) (v:Int):qQK Tf (orip g v) (qY (lsip g v)) 60 54 [.a (gP g),.n .i64 v] =
 (bif (decide (0≤v)) then (bif (decide (v < (g.np:Int))) then some (.v (.b true),[])
 else some (.v (.b false),[]))
 else some (.v (.b false),[])):=by kernel_rfl
theorem jUW (g:Gr) (v:Int):yY Try.prog 54 [.a (gP g),.n .i64 v] (.v (.b (isP g v))):=by
 refine qG (N:=60) (LO:=qY (lsip g v)) yV yX (yG (l:=[]) (m:=[]) trivial trivial) (fun p S hp => ?_) ?_
 ·refine qW (L:=qQ Tf 54) (l:=(lsip g v)) (show AllP _ (lsip g v) from trivial) p S hp
 ·refine (pxip g v).trans ?_;unfold isP;cases decide (0≤v) <;> cases decide (v < (g.np:Int)) <;> rfl
def cip:Gr × Int→Prop:=fun t=>match t with | (_,_)=>True
def eip:Gr × Int→List PV:=fun t=>match t with | (g,v)=>[.a (gP g),.n .i64 v]
noncomputable def rip:Gr × Int→Ret:=fun t=>match t with | (g,v)=>.v (.b (isP g v))
def dip:List PV→Gr × Int:=fun ps=>match ps with
 | [.a [.lf np pt,.lf ne ed],.n _ v]=>(⟨np,pt,ne,unFE ed⟩,v)
 | _=>(⟨0,fun _=>[],0,fun _=>unE []⟩,0)
noncomputable def o_ip:List PV→Option (Bool × Ret):=o_fm dip cip eip rip
theorem jWQ:qQY Try.prog 54 o_ip:=qQF fun t h=>by
 obtain ⟨g,v⟩:=t;exact jUW g v
noncomputable def orus (s m:Int):OrS:=orS [] []
noncomputable def lsus (s m:Int):List (List Nat × yK):=[]
set_option maxRecDepth 100000 in
theorem pxus (s m:Int):qQK Tf (orus s m) (qY (lsus s m)) 60 69 [.n .i64 s,.n .i64 m] =
 (bif (decide (m=0)) then (bif (decide (s=1)) then some (.v (.b true),[])
 else some (.v (.b false),[]))
 else (bif (decide (m=1)) then (bif (decide (s=1)) then some (.v (.b true),[])
 else (bif (decide (s=0)) then some (.v (.b true),[])
 else some (.v (.b false),[])))
 else (bif (decide (m=2)) then (bif (!decide (s=2)) then some (.v (.b true),[])
 else some (.v (.b false),[]))
 else some (.v (.b false),[])))):=by kernel_rfl
theorem jKA (s m:Int):yY Try.prog 69 [.n .i64 s,.n .i64 m] (.v (.b (usB s m))):=by
 refine qG (N:=60) (LO:=qY (lsus s m)) yV yX (yG (l:=[]) (m:=[]) trivial trivial) (fun p S hp => ?_) ?_
 ·refine qW (L:=qQ Tf 69) (l:=(lsus s m)) (show AllP _ (lsus s m) from trivial) p S hp
 ·refine (pxus s m).trans ?_;unfold usB;cases decide (m=0) <;> cases decide (m=1) <;> cases decide (m=2) <;> cases decide (s=0) <;> cases decide (s=1) <;> cases decide (s=2) <;> rfl
def cus:Int × Int→Prop:=fun t=>match t with | (_,_)=>True
def eus:Int × Int→List PV:=fun t=>match t with | (s,m)=>[.n .i64 s,.n .i64 m]
noncomputable def rus:Int × Int→Ret:=fun t=>match t with | (s,m)=>.v (.b (usB s m))
def dus:List PV→Int × Int:=fun ps=>match ps with
 | [.n _ a,.n _ b]=>(a,b)
 | _=>(0,0)
noncomputable def o_us:List PV→Option (Bool × Ret):=o_fm dus cus eus rus
theorem jHF:qQY Try.prog 69 o_us:=qQF fun t h=>by
 obtain ⟨s,m⟩:=t;exact jKA s m
noncomputable def jHB (e:Ed) (m:Int):OrS:=orS [] []
noncomputable def yVU (e:Ed) (m:Int):List (List Nat × yK):=[]
set_option maxRecDepth 100000 in
theorem jHY (e:Ed) (m:Int):qQK Tf (jHB e m) (qY (yVU e m)) 60 48 [.a [.n .i64 e.u,.n .i64 e.v,.n .i64 e.c,.n .i64 e.s,.n .i64 e.kd,.lf e.n1 e.f1,.n .i64 e.dp,.n .i64 e.ix,.lf e.n2 e.f2,.n .i64 e.pr,.lf e.n3 e.f3,.lf e.n4 e.f4],.n .i64 m] =
 (bif (decide (m=0)) then (bif (decide (e.s=1)) then some (.v (.b true),[])
 else some (.v (.b false),[]))
 else (bif (decide (m=1)) then (bif (decide (e.s=1)) then some (.v (.b true),[])
 else (bif (decide (e.s=0)) then some (.v (.b true),[])
 else some (.v (.b false),[])))
 else (bif (decide (m=2)) then (bif (!decide (e.s=2)) then some (.v (.b true),[])
 else some (.v (.b false),[]))
 else some (.v (.b false),[])))):=by kernel_rfl
theorem jQB (e:Ed) (m:Int):yY Try.prog 48 [.a [.n .i64 e.u,.n .i64 e.v,.n .i64 e.c,.n .i64 e.s,.n .i64 e.kd,.lf e.n1 e.f1,.n .i64 e.dp,.n .i64 e.ix,.lf e.n2 e.f2,.n .i64 e.pr,.lf e.n3 e.f3,.lf e.n4 e.f4],.n .i64 m] (.v (.b (usB e.s m))):=by
 refine qG (N:=60) (LO:=qY (yVU e m)) yV yX (yG (l:=[]) (m:=[]) trivial trivial) (fun p S hp => ?_) ?_
 ·refine qW (L:=qQ Tf 48) (l:=(yVU e m)) (show AllP _ (yVU e m) from trivial) p S hp
 ·refine (jHY e m).trans ?_;unfold usB;cases decide (m=0) <;> cases decide (m=1) <;> cases decide (m=2) <;> cases decide (e.s=0) <;> cases decide (e.s=1) <;> cases decide (e.s=2) <;> rfl
def cru:Ed × Int→Prop:=fun t=>match t with | (_,_)=>True
def eru:Ed × Int→List PV:=fun t=>match t with | (e,m)=>[.a (edP e),.n .i64 m]
noncomputable def rru:Ed × Int→Ret:=fun t=>match t with | (e,m)=>.v (.b (usB e.s m))
def dru:List PV→Ed × Int:=fun ps=>match ps with
 | [.a r,.n _ b]=>(unE r,b)
 | _=>(unE [],0)
noncomputable def o_ru:List PV→Option (Bool × Ret):=o_fm dru cru eru rru
theorem jXG:qQY Try.prog 48 o_ru:=qQF fun t h=>by
 obtain ⟨e,m⟩:=t;exact jQB e m
noncomputable def orbt (a b c d:Int):OrS:=orS [] []
noncomputable def lsbt (a b c d:Int):List (List Nat × yK):=[]
set_option maxRecDepth 100000 in
theorem pxbt (a b c d:Int):qQK Tf (orbt a b c d) (qY (lsbt a b c d)) 60 65 [.a [.n .i64 a,.n .i64 b],.a [.n .i64 c,.n .i64 d]] =
 (bif (decide (d=0)) then some (.v (.b true),[])
 else (bif (decide (a < c)) then some (.v (.b true),[])
 else (bif (decide (a=c)) then (bif (decide (b < d)) then some (.v (.b true),[])
 else some (.v (.b false),[]))
 else some (.v (.b false),[])))):=by kernel_rfl
theorem jUE (a b c d:Int):yY Try.prog 65 [.a [.n .i64 a,.n .i64 b],.a [.n .i64 c,.n .i64 d]] (.v (.b (btB a b c d))):=by
 refine qG (N:=60) (LO:=qY (lsbt a b c d)) yV yX (yG (l:=[]) (m:=[]) trivial trivial) (fun p S hp => ?_) ?_
 ·refine qW (L:=qQ Tf 65) (l:=(lsbt a b c d)) (show AllP _ (lsbt a b c d) from trivial) p S hp
 ·refine (pxbt a b c d).trans ?_;unfold btB;cases decide (d=0) <;> cases decide (a < c) <;> cases decide (a=c) <;> cases decide (b < d) <;> rfl
def cbt:Int × Int × Int × Int→Prop:=fun t=>match t with | (_,_,_,_)=>True
def ebt:Int × Int × Int × Int→List PV:=fun t=>match t with | (a,b,c,d)=>[.a [.n .i64 a,.n .i64 b],.a [.n .i64 c,.n .i64 d]]
noncomputable def rbt:Int × Int × Int × Int→Ret:=fun t=>match t with | (a,b,c,d)=>.v (.b (btB a b c d))
def dbt:List PV→Int × Int × Int × Int:=fun ps=>match ps with
 | [.a [.n _ a,.n _ b],.a [.n _ c,.n _ d]]=>(a,b,c,d)
 | _=>(0,0,0,0)
noncomputable def o_bt:List PV→Option (Bool × Ret):=o_fm dbt cbt ebt rbt
theorem jJX:qQY Try.prog 65 o_bt:=qQF fun t h=>by
 obtain ⟨a,b,c,d⟩:=t;exact jUE a b c d
noncomputable def orls (a b c d:Int):OrS:=orS [] []
noncomputable def lsls (a b c d:Int):List (List Nat × yK):=[]
set_option maxRecDepth 100000 in
theorem pxls (a b c d:Int):qQK Tf (orls a b c d) (qY (lsls a b c d)) 60 51 [.a [.n .i64 a,.n .i64 b],.a [.n .i64 c,.n .i64 d]] =
 (bif (decide (c < 0)) then (bif (decide (0≤a)) then (bif (decide (c < 0)) then some (.v (.b true),[])
 else some (.v (.b false),[]))
 else some (.v (.b false),[]))
 else (bif (decide (a < 0)) then (bif (decide (0≤a)) then (bif (decide (c < 0)) then some (.v (.b true),[])
 else some (.v (.b false),[]))
 else some (.v (.b false),[]))
 else (bif (decide (a < c)) then some (.v (.b true),[])
 else (bif (decide (a=c)) then (bif (decide (b < d)) then some (.v (.b true),[])
 else some (.v (.b false),[]))
 else some (.v (.b false),[]))))):=by kernel_rfl
theorem jUJ (a b c d:Int):yY Try.prog 51 [.a [.n .i64 a,.n .i64 b],.a [.n .i64 c,.n .i64 d]] (.v (.b (lsB a b c d))):=by
 refine qG (N:=60) (LO:=qY (lsls a b c d)) yV yX (yG (l:=[]) (m:=[]) trivial trivial) (fun p S hp => ?_) ?_
 ·refine qW (L:=qQ Tf 51) (l:=(lsls a b c d)) (show AllP _ (lsls a b c d) from trivial) p S hp
 ·refine (pxls a b c d).trans ?_;unfold lsB;cases decide (c < 0) <;> cases decide (a < 0) <;> cases decide (0≤a) <;> cases decide (a < c) <;> cases decide (a=c) <;> cases decide (b < d) <;> rfl
def cls:Int × Int × Int × Int→Prop:=fun t=>match t with | (_,_,_,_)=>True
def els:Int × Int × Int × Int→List PV:=fun t=>match t with | (a,b,c,d)=>[.a [.n .i64 a,.n .i64 b],.a [.n .i64 c,.n .i64 d]]
noncomputable def rls:Int × Int × Int × Int→Ret:=fun t=>match t with | (a,b,c,d)=>.v (.b (lsB a b c d))
def dls:List PV→Int × Int × Int × Int:=fun ps=>match ps with
 | [.a [.n _ a,.n _ b],.a [.n _ c,.n _ d]]=>(a,b,c,d)
 | _=>(0,0,0,0)
noncomputable def o_ls:List PV→Option (Bool × Ret):=o_fm dls cls els rls
theorem kQX:qQY Try.prog 51 o_ls:=qQF fun t h=>by
 obtain ⟨a,b,c,d⟩:=t;exact jUJ a b c d
noncomputable def orcp (e:Ed) (a b:Int):OrS:=orS [] []
noncomputable def lscp (e:Ed) (a b:Int):List (List Nat × yK):=[]
set_option maxRecDepth 100000 in
theorem pxcp (e:Ed) (a b:Int):qQK Tf (orcp e a b) (qY (lscp e a b)) 60 63 [.a (edP e),.a [.n .i64 a,.n .i64 b]] =
 (bif (!decide (e.u=e.u)) then (bif (!decide (a=a)) then (bif (!decide (e.v=e.v)) then (bif (!decide (b=b)) then some (.v (.n .i64 0),[])
 else some (.v (.n .i64 (-1)),[]))
 else (bif (!decide (b=b)) then some (.v (.n .i64 1),[])
 else (bif (decide (e.v < b)) then some (.v (.n .i64 (-1)),[])
 else (bif (decide (b < e.v)) then some (.v (.n .i64 1),[])
 else some (.v (.n .i64 0),[])))))
 else (bif (!decide (e.v=e.v)) then (bif (!decide (b=b)) then some (.v (.n .i64 (-1)),[])
 else some (.v (.n .i64 (-1)),[]))
 else (bif (!decide (b=b)) then some (.v (.n .i64 (-1)),[])
 else (bif (decide (e.v < b)) then some (.v (.n .i64 (-1)),[])
 else (bif (decide (b < e.v)) then some (.v (.n .i64 (-1)),[])
 else some (.v (.n .i64 (-1)),[]))))))
 else (bif (!decide (a=a)) then (bif (!decide (e.v=e.v)) then (bif (!decide (b=b)) then some (.v (.n .i64 1),[])
 else some (.v (.n .i64 1),[]))
 else (bif (!decide (b=b)) then some (.v (.n .i64 1),[])
 else (bif (decide (e.v < b)) then some (.v (.n .i64 1),[])
 else (bif (decide (b < e.v)) then some (.v (.n .i64 1),[])
 else some (.v (.n .i64 1),[])))))
 else (bif (decide (e.u < a)) then (bif (!decide (e.v=e.v)) then (bif (!decide (b=b)) then some (.v (.n .i64 (-1)),[])
 else some (.v (.n .i64 (-1)),[]))
 else (bif (!decide (b=b)) then some (.v (.n .i64 (-1)),[])
 else (bif (decide (e.v < b)) then some (.v (.n .i64 (-1)),[])
 else (bif (decide (b < e.v)) then some (.v (.n .i64 (-1)),[])
 else some (.v (.n .i64 (-1)),[])))))
 else (bif (decide (a < e.u)) then (bif (!decide (e.v=e.v)) then (bif (!decide (b=b)) then some (.v (.n .i64 1),[])
 else some (.v (.n .i64 1),[]))
 else (bif (!decide (b=b)) then some (.v (.n .i64 1),[])
 else (bif (decide (e.v < b)) then some (.v (.n .i64 1),[])
 else (bif (decide (b < e.v)) then some (.v (.n .i64 1),[])
 else some (.v (.n .i64 1),[])))))
 else (bif (!decide (e.v=e.v)) then (bif (!decide (b=b)) then some (.v (.n .i64 0),[])
 else some (.v (.n .i64 (-1)),[]))
 else (bif (!decide (b=b)) then some (.v (.n .i64 1),[])
 else (bif (decide (e.v < b)) then some (.v (.n .i64 (-1)),[])
 else (bif (decide (b < e.v)) then some (.v (.n .i64 1),[])
 else some (.v (.n .i64 0),[]))))))))):=by kernel_rfl
theorem jUC (e:Ed) (a b:Int):yY Try.prog 63 [.a (edP e),.a [.n .i64 a,.n .i64 b]] (.v (.n .i64 (cpI e.u e.v a b))):=by
 refine qG (N:=60) (LO:=qY (lscp e a b)) yV yX (yG (l:=[]) (m:=[]) trivial trivial) (fun p S hp => ?_) ?_
 ·refine qW (L:=qQ Tf 63) (l:=(lscp e a b)) (show AllP _ (lscp e a b) from trivial) p S hp
 ·refine (pxcp e a b).trans ?_;unfold cpI;simp only [decide_true,Bool.not_true,vYZ];cases decide (e.u < a) <;> cases decide (a < e.u) <;> cases decide (e.v < b) <;> cases decide (b < e.v) <;> rfl
def ccp:Ed × Int × Int→Prop:=fun t=>match t with | (_,_,_)=>True
def ecp:Ed × Int × Int→List PV:=fun t=>match t with | (e,a,b)=>[.a (edP e),.a [.n .i64 a,.n .i64 b]]
noncomputable def rcp:Ed × Int × Int→Ret:=fun t=>match t with | (e,a,b)=>.v (.n .i64 (cpI e.u e.v a b))
def dcp:List PV→Ed × Int × Int:=fun ps=>match ps with
 | [.a r,.a [.n _ a,.n _ b]]=>(unE r,a,b)
 | _=>(unE [],0,0)
noncomputable def o_cp:List PV→Option (Bool × Ret):=o_fm dcp ccp ecp rcp
theorem kQD:qQY Try.prog 63 o_cp:=qQF fun t h=>by
 obtain ⟨e,a,b⟩:=t;exact jUC e a b
def okE (g:Gr) (i:Nat):Bool:=isP g (g.ed i).u && (isP g (g.ed i).v && (!decide ((g.ed i).v≤(g.ed i).u) && (!decide ((g.ed i).c < 0) && (!decide (1099511627776 < (g.ed i).c) && (decide (i=0) || !decide (0≤cpI (g.ed (i - 1)).u (g.ed (i - 1)).v (g.ed i).u (g.ed i).v))))))
def wfB (g:Gr):Bool:=decide (g.np≤1024) && (decide (g.ne≤8192) && allN (fun i:Nat=>okE g i) g.ne 0)
noncomputable def orwf (g:Gr):OrS:=orS [(54,o_ip),(63,o_cp)] []
noncomputable def hwf (g:Gr) (i:Int):St:=⟨[(1,.p 1 0),(17,.v (.n .i64 (g.ne:Int))),(18,.v (.n .i64 i))],[(1,.blk [.v (.lf g.np g.pt),.v (.lf g.ne (fE g.ed))])]⟩
set_option maxRecDepth 100000 in
theorem rdwf (G:St→Option (Ret × Mem)) (K:Cont) (g:Gr) (i:Int):zH (g.ne + 10) (cxS Tf (orwf g) (g.ne + 10) 53 (ntmF Tf 53)) (evX Tf (orwf g) (g.ne + 10) 53 (ntmF Tf 53)) (qY []) (qQ Tf 53 [0,1,0,1,1]) [0,1,0,1,1] (Tf.hint 53 (qJ (qQ Tf 53 [0,1,0,1,1]))) K G (hwf g i) =
 (bif (decide (i < (g.ne:Int))) then (bif (inB i g.ne) then (bif (gF1 cip eip (g,((g.ed (i).toNat).u))) then (bif (isP g ((g.ed (i).toNat).u)) then (bif (gF1 cip eip (g,((g.ed (i).toNat).v))) then (bif (isP g ((g.ed (i).toNat).v)) then (bif (decide ((g.ed (i).toNat).v≤(g.ed (i).toNat).u)) then (K .ret ⟨[(2,.v (.b false))],[]⟩)
 else (bif (decide ((g.ed (i).toNat).c < 0)) then (K .ret ⟨[(2,.v (.b false))],[]⟩)
 else (bif (decide (1099511627776 < (g.ed (i).toNat).c)) then (K .ret ⟨[(2,.v (.b false))],[]⟩)
 else (bif (decide (0 < i)) then (bif (inB (vYX .i64 (i - 1)) g.ne) then (bif (gF1 ccp ecp ((g.ed ((vYX .i64 (i - 1))).toNat),((g.ed (i).toNat).u),((g.ed (i).toNat).v))) then (bif (decide (0≤(cpI (g.ed ((vYX .i64 (i - 1))).toNat).u (g.ed ((vYX .i64 (i - 1))).toNat).v ((g.ed (i).toNat).u) ((g.ed (i).toNat).v)))) then (K .ret ⟨[(2,.v (.b false))],[]⟩)
 else (G (hwf g (vYX .i64 (i + 1)))))
 else none)
 else none)
 else (G (hwf g (vYX .i64 (i + 1))))))))
 else (K .ret ⟨[(2,.v (.b false))],[]⟩))
 else none)
 else (K .ret ⟨[(2,.v (.b false))],[]⟩))
 else none)
 else none)
 else (K (.exit 0) ⟨[],[]⟩)):=by kernel_rfl
theorem lpwf (K:Cont) (g:Gr) (_:g.ne≤8192):LFX (g.ne + 10) (cxS Tf (orwf g) (g.ne + 10) 53 (ntmF Tf 53)) (evX Tf (orwf g) (g.ne + 10) 53 (ntmF Tf 53)) (qY []) (qQ Tf 53 [0,1,0,1,1]) [0,1,0,1,1] (Tf.hint 53 (qJ (qQ Tf 53 [0,1,0,1,1]))) K (g.ne + 10) (hwf g 0)=bif (allN (fun i:Nat=>okE g i) g.ne 0) then (K (.exit 0) ⟨[],[]⟩) else (K .ret ⟨[(2,.v (.b false))],[]⟩):=by
 refine (zQK (L:=LFX (g.ne + 10) (cxS Tf (orwf g) (g.ne + 10) 53 (ntmF Tf 53)) (evX Tf (orwf g) (g.ne + 10) 53 (ntmF Tf 53)) (qY []) (qQ Tf 53 [0,1,0,1,1]) [0,1,0,1,1] (Tf.hint 53 (qJ (qQ Tf 53 [0,1,0,1,1]))) K) (stp:=zH (g.ne + 10) (cxS Tf (orwf g) (g.ne + 10) 53 (ntmF Tf 53)) (evX Tf (orwf g) (g.ne + 10) 53 (ntmF Tf 53)) (qY []) (qQ Tf 53 [0,1,0,1,1]) [0,1,0,1,1] (Tf.hint 53 (qJ (qQ Tf 53 [0,1,0,1,1]))) K) (fun _ _=>rfl) (fun (i:Nat) (_:Unit)=>hwf g (i:Int)) (fun _ _=>True) (fun (i:Nat) _=>okE g i) (fun _ _=>()) (c:=g.ne) (fun _=>(K (.exit 0) ⟨[],[]⟩)) (fun i _=>(K .ret ⟨[(2,.v (.b false))],[]⟩)) (fun G i f hi _ => ?_) (fun _ _ _ _ _=>trivial) (fun G f _ => ?_) g.ne 0 (g.ne + 10) () (by omega) (by omega) trivial).trans ((qYQ _ _ _ _ _).trans (qYZ _ _ _ _ _))
 ·refine (rdwf G K g i).trans ?_;rw [vYJ (show (i:Int) < (g.ne:Int) by omega),uK (by omega),zU (show i < g.ne by omega)];simp only [toN,kW (C:=cip) (t:=_) trivial,vYQ];by_cases h0:i=0
  ·have e0:decide (0 < (i:Int))=false:=vYY (by omega);simp only [okE,e0,vYJ h0,Bool.true_or,vYZ,Bool.and_true];cases isP g (g.ed i).u <;> cases isP g (g.ed i).v <;> cases decide ((g.ed i).v≤(g.ed i).u) <;> cases decide ((g.ed i).c < 0) <;> cases decide (1099511627776 < (g.ed i).c) <;> rfl
  ·have e0:decide (0 < (i:Int))=true:=vYJ (by omega);have e1:vYX .i64 ((i:Int) - 1)=((i - 1:Nat):Int):=by rw [yH (by omega)]; omega
   simp only [okE,e0,e1,toN,zU (show i - 1 < g.ne by omega),kW (C:=ccp) (t:=_) trivial,vYY h0,Bool.false_or,vYQ];cases isP g (g.ed i).u <;> cases isP g (g.ed i).v <;> cases decide ((g.ed i).v≤(g.ed i).u) <;> cases decide ((g.ed i).c < 0) <;> cases decide (1099511627776 < (g.ed i).c) <;> cases decide (0≤cpI (g.ed (i - 1)).u (g.ed (i - 1)).v (g.ed i).u (g.ed i).v) <;> rfl
 ·refine (rdwf G K g g.ne).trans ?_;rw [vYY (show ¬ (g.ne:Int) < (g.ne:Int) by omega)];rfl
noncomputable def lswf (g:Gr):List (List Nat × yK):=[([0,1,0,1,1],sumF (fun _:Unit=>(hwf g 0)) (fun _=>()) (fun _ K=>(bif (decide (g.ne≤8192)) then (bif (allN (fun i:Nat=>okE g i) g.ne 0) then (K (.exit 0) ⟨[],[]⟩) else (K .ret ⟨[(2,.v (.b false))],[]⟩)) else none)))]
set_option maxRecDepth 100000 in
theorem pxwf (g:Gr):qQK Tf (orwf g) (qY (lswf g)) (g.ne + 10) 53 [.a (gP g)] =
 (bif (decide (1024 < (g.np:Int))) then some (.v (.b false),[])
 else (bif (decide (8192 < (g.ne:Int))) then some (.v (.b false),[])
 else (bif (gSt (hwf g 0) (hwf g 0)) then (bif (decide (g.ne≤8192)) then (bif (allN (fun i:Nat=>okE g i) g.ne 0) then some (.v (.b true),[])
 else some (.v (.b false),[]))
 else none)
 else none))):=by kernel_rfl
theorem jKH (g:Gr):yY Try.prog 53 [.a (gP g)] (.v (.b (wfB g))):=by
 refine qG (N:=(g.ne + 10)) (LO:=qY (lswf g)) yV yX (yG (l:=[(54,o_ip),(63,o_cp)]) (m:=[]) ⟨jWQ,kQD,trivial⟩ trivial) (fun p S hp => ?_) ?_
 ·refine qW (L:=qQ Tf 53) (l:=(lswf g)) (show AllP _ (lswf g) from ⟨?_,trivial⟩) p S hp
  ·dsimp only;refine yZ (T:=Tf) (o:=(orwf g)) (f:=53) (LO:=qY []) (p:=[0,1,0,1,1]) jQ ?_;intro t K r hr;obtain ⟨hg,hr⟩:=qZ hr;have hn:=vYK hg;exact (lpwf K g hn).trans hr
 ·refine (pxwf g).trans ?_;unfold wfB;by_cases h1:g.np≤1024
  ·rw [vYY (show ¬ (1024:Int) < (g.np:Int) by omega),vYJ h1];by_cases h2:g.ne≤8192
   ·rw [vYY (show ¬ (8192:Int) < (g.ne:Int) by omega),vYJ h2];simp only [yQ,vYQ,vYZ,vZW];cases allN (fun i:Nat=>okE g i) g.ne 0 <;> rfl
   ·rw [vYJ (show (8192:Int) < (g.ne:Int) by omega),vYY h2]; rfl
  ·rw [vYJ (show (1024:Int) < (g.np:Int) by omega),vYY h1]; rfl
def cwf:Gr→Prop:=fun t=>match t with | _=>True
def ewf:Gr→List PV:=fun t=>match t with | g=>[.a (gP g)]
noncomputable def rwf:Gr→Ret:=fun t=>match t with | g=>.v (.b (wfB g))
def dwf:List PV→Gr:=fun ps=>match ps with
 | [.a [.lf np pt,.lf ne ed]]=>⟨np,pt,ne,unFE ed⟩
 | _=>⟨0,fun _=>[],0,fun _=>unE []⟩
noncomputable def o_wf:List PV→Option (Bool × Ret):=o_fm dwf cwf ewf rwf
theorem jHE:qQY Try.prog 53 o_wf:=qQF fun t h=>by
 revert h; revert t; intro g h
 exact jKH g
def coE (g:Gr) (i:Nat):Bool:=!decide ((g.ed i).c < 0) && !decide (1099511627776 < (g.ed i).c)
def orE (g:Gr) (i:Nat):Bool:=!decide ((g.ed i).u < 0) && (!decide ((g.ed i).v≤(g.ed i).u) && (!decide ((g.np:Int)≤(g.ed i).v) && (decide (i=0) || (!decide ((g.ed i).u < (g.ed (i - 1)).u) && !(decide ((g.ed (i - 1)).u=(g.ed i).u) && decide ((g.ed i).v≤(g.ed (i - 1)).v))))))
def odB (g:Gr):Bool:=allN (fun i:Nat=>orE g i) g.ne 0 && (decide (g.np≤1024) && decide (g.ne≤8192))
def frB (g:Gr):Bool:=allN (fun i:Nat=>coE g i) g.ne 0 && odB g
noncomputable def oror (g:Gr):OrS:=orS [] []
noncomputable def hor (g:Gr) (i:Int):St:=⟨[(1,.p 1 0),(3,.v (.n .i64 i))],[(1,.blk [.v (.lf g.np g.pt),.v (.lf g.ne (fE g.ed))])]⟩
set_option maxRecDepth 100000 in
theorem rdor (G:St→Option (Ret × Mem)) (K:Cont) (g:Gr) (i:Int):zH (g.ne + 10) (cxS Tf (oror g) (g.ne + 10) 62 (ntmF Tf 62)) (evX Tf (oror g) (g.ne + 10) 62 (ntmF Tf 62)) (qY []) (qQ Tf 62 [0,1,0,1]) [0,1,0,1] (Tf.hint 62 (qJ (qQ Tf 62 [0,1,0,1]))) K G (hor g i) =
 (bif (decide (i < (g.ne:Int))) then (bif (inB i g.ne) then (bif (decide ((g.ed (i).toNat).u < 0)) then (K .ret ⟨[(1,.p 1 0),(2,.v (.b false))],[(1,.blk [.v (.lf g.np g.pt),.v (.lf g.ne (fE g.ed))])]⟩)
 else (bif (decide ((g.ed (i).toNat).v≤(g.ed (i).toNat).u)) then (K .ret ⟨[(1,.p 1 0),(2,.v (.b false))],[(1,.blk [.v (.lf g.np g.pt),.v (.lf g.ne (fE g.ed))])]⟩)
 else (bif (decide ((g.np:Int)≤(g.ed (i).toNat).v)) then (K .ret ⟨[(1,.p 1 0),(2,.v (.b false))],[(1,.blk [.v (.lf g.np g.pt),.v (.lf g.ne (fE g.ed))])]⟩)
 else (bif (decide (0 < i)) then (bif (inB (vYX .i64 (i - 1)) g.ne) then (bif (decide ((g.ed (i).toNat).u < (g.ed ((vYX .i64 (i - 1))).toNat).u)) then (K .ret ⟨[(1,.p 1 0),(2,.v (.b false))],[(1,.blk [.v (.lf g.np g.pt),.v (.lf g.ne (fE g.ed))])]⟩)
 else (bif (inB (vYX .i64 (i - 1)) g.ne) then (bif (decide ((g.ed ((vYX .i64 (i - 1))).toNat).u=(g.ed (i).toNat).u)) then (bif (inB (vYX .i64 (i - 1)) g.ne) then (bif (decide ((g.ed (i).toNat).v≤(g.ed ((vYX .i64 (i - 1))).toNat).v)) then (K .ret ⟨[(1,.p 1 0),(2,.v (.b false))],[(1,.blk [.v (.lf g.np g.pt),.v (.lf g.ne (fE g.ed))])]⟩)
 else (G (hor g (vYX .i64 (i + 1)))))
 else none)
 else (G (hor g (vYX .i64 (i + 1)))))
 else none))
 else none)
 else (G (hor g (vYX .i64 (i + 1))))))))
 else none)
 else (K (.exit 0) ⟨[(1,.p 1 0)],[(1,.blk [.v (.lf g.np g.pt),.v (.lf g.ne (fE g.ed))])]⟩)):=by kernel_rfl
theorem lpor (K:Cont) (g:Gr) (_:g.ne≤8192):LFX (g.ne + 10) (cxS Tf (oror g) (g.ne + 10) 62 (ntmF Tf 62)) (evX Tf (oror g) (g.ne + 10) 62 (ntmF Tf 62)) (qY []) (qQ Tf 62 [0,1,0,1]) [0,1,0,1] (Tf.hint 62 (qJ (qQ Tf 62 [0,1,0,1]))) K (g.ne + 10) (hor g 0)=bif (allN (fun i:Nat=>orE g i) g.ne 0) then (K (.exit 0) ⟨[(1,.p 1 0)],[(1,.blk [.v (.lf g.np g.pt),.v (.lf g.ne (fE g.ed))])]⟩) else (K .ret ⟨[(1,.p 1 0),(2,.v (.b false))],[(1,.blk [.v (.lf g.np g.pt),.v (.lf g.ne (fE g.ed))])]⟩):=by
 refine (zQK (L:=LFX (g.ne + 10) (cxS Tf (oror g) (g.ne + 10) 62 (ntmF Tf 62)) (evX Tf (oror g) (g.ne + 10) 62 (ntmF Tf 62)) (qY []) (qQ Tf 62 [0,1,0,1]) [0,1,0,1] (Tf.hint 62 (qJ (qQ Tf 62 [0,1,0,1]))) K) (stp:=zH (g.ne + 10) (cxS Tf (oror g) (g.ne + 10) 62 (ntmF Tf 62)) (evX Tf (oror g) (g.ne + 10) 62 (ntmF Tf 62)) (qY []) (qQ Tf 62 [0,1,0,1]) [0,1,0,1] (Tf.hint 62 (qJ (qQ Tf 62 [0,1,0,1]))) K) (fun _ _=>rfl) (fun (i:Nat) (_:Unit)=>hor g (i:Int)) (fun _ _=>True) (fun (i:Nat) _=>orE g i) (fun _ _=>()) (c:=g.ne) (fun _=>(K (.exit 0) ⟨[(1,.p 1 0)],[(1,.blk [.v (.lf g.np g.pt),.v (.lf g.ne (fE g.ed))])]⟩)) (fun i _=>(K .ret ⟨[(1,.p 1 0),(2,.v (.b false))],[(1,.blk [.v (.lf g.np g.pt),.v (.lf g.ne (fE g.ed))])]⟩)) (fun G i f hi _ => ?_) (fun _ _ _ _ _=>trivial) (fun G f _ => ?_) g.ne 0 (g.ne + 10) () (by omega) (by omega) trivial).trans ((qYQ _ _ _ _ _).trans (qYZ _ _ _ _ _))
 ·refine (rdor G K g i).trans ?_;rw [vYJ (show (i:Int) < (g.ne:Int) by omega),uK (by omega),zU (show i < g.ne by omega)];simp only [toN,vYQ];by_cases h0:i=0
  ·have e0:decide (0 < (i:Int))=false:=vYY (by omega);simp only [orE,e0,vYJ h0,Bool.true_or,vYZ,Bool.and_true];cases decide ((g.ed i).u < 0) <;> cases decide ((g.ed i).v≤(g.ed i).u) <;> cases decide ((g.np:Int)≤(g.ed i).v) <;> rfl
  ·have e0:decide (0 < (i:Int))=true:=vYJ (by omega);have e1:vYX .i64 ((i:Int) - 1)=((i - 1:Nat):Int):=by rw [yH (by omega)]; omega
   simp only [orE,e0,e1,toN,zU (show i - 1 < g.ne by omega),vYY h0,Bool.false_or,vYQ];cases decide ((g.ed i).u < 0) <;> cases decide ((g.ed i).v≤(g.ed i).u) <;> cases decide ((g.np:Int)≤(g.ed i).v) <;> cases decide ((g.ed i).u < (g.ed (i - 1)).u) <;> cases decide ((g.ed (i - 1)).u=(g.ed i).u) <;> cases decide ((g.ed i).v≤(g.ed (i - 1)).v) <;> rfl
 ·refine (rdor G K g g.ne).trans ?_;rw [vYY (show ¬ (g.ne:Int) < (g.ne:Int) by omega)];rfl
noncomputable def lsor (g:Gr):List (List Nat × yK):=[([0,1,0,1],sumF (fun _:Unit=>(hor g 0)) (fun _=>()) (fun _ K=>(bif (decide (g.ne≤8192)) then (bif (allN (fun i:Nat=>orE g i) g.ne 0) then (K (.exit 0) ⟨[(1,.p 1 0)],[(1,.blk [.v (.lf g.np g.pt),.v (.lf g.ne (fE g.ed))])]⟩) else (K .ret ⟨[(1,.p 1 0),(2,.v (.b false))],[(1,.blk [.v (.lf g.np g.pt),.v (.lf g.ne (fE g.ed))])]⟩)) else none)))]
set_option maxRecDepth 100000 in
theorem pxor (g:Gr):qQK Tf (oror g) (qY (lsor g)) (g.ne + 10) 62 [.a (gP g)] =
 (bif (gSt (hor g 0) (hor g 0)) then (bif (decide (g.ne≤8192)) then (bif (allN (fun i:Nat=>orE g i) g.ne 0) then (bif (decide ((g.np:Int)≤1024)) then (bif (decide ((g.ne:Int)≤8192)) then some (.v (.b true),[])
 else some (.v (.b false),[]))
 else some (.v (.b false),[]))
 else some (.v (.b false),[]))
 else none)
 else none):=by kernel_rfl
theorem jUZ (g:Gr) (hn:g.ne≤8192):yY Try.prog 62 [.a (gP g)] (.v (.b (odB g))):=by
 refine qG (N:=(g.ne + 10)) (LO:=qY (lsor g)) yV yX (yG (l:=[]) (m:=[]) trivial trivial) (fun p S hp => ?_) ?_
 ·refine qW (L:=qQ Tf 62) (l:=(lsor g)) (show AllP _ (lsor g) from ⟨?_,trivial⟩) p S hp
  ·dsimp only;refine yZ (T:=Tf) (o:=(oror g)) (f:=62) (LO:=qY []) (p:=[0,1,0,1]) jQ ?_;intro t K r hr;obtain ⟨hg,hr⟩:=qZ hr;have hn:=vYK hg;exact (lpor K g hn).trans hr
 ·refine (pxor g).trans ?_;unfold odB;simp only [yQ,vYJ hn,vYQ,Bool.and_true];cases allN (fun i:Nat=>orE g i) g.ne 0
  ·rfl
  ·by_cases h1:g.np≤1024
   ·simp only [vYJ h1,vYJ (show (g.np:Int)≤1024 by omega),vYJ (show (g.ne:Int)≤8192 by omega)]; rfl
   ·simp only [vYY h1,vYY (show ¬ (g.np:Int)≤1024 by omega)]; rfl
def cor:Gr→Prop:=fun t=>match t with | g=>g.ne≤8192
def eor:Gr→List PV:=fun t=>match t with | g=>[.a (gP g)]
noncomputable def ror:Gr→Ret:=fun t=>match t with | g=>.v (.b (odB g))
def dor:List PV→Gr:=fun ps=>match ps with
 | [.a [.lf np pt,.lf ne ed]]=>⟨np,pt,ne,unFE ed⟩
 | _=>⟨0,fun _=>[],0,fun _=>unE []⟩
noncomputable def o_or:List PV→Option (Bool × Ret):=o_fm dor cor eor ror
theorem kQK:qQY Try.prog 62 o_or:=qQF fun t h=>by
 revert h; revert t; intro g h
 exact jUZ g h
noncomputable def orfo (g:Gr):OrS:=orS [(62,o_or)] []
noncomputable def hfo (g:Gr) (i:Int):St:=⟨[(1,.p 1 0),(3,.v (.n .i64 i))],[(1,.blk [.v (.lf g.np g.pt),.v (.lf g.ne (fE g.ed))])]⟩
set_option maxRecDepth 100000 in
theorem rdfo (G:St→Option (Ret × Mem)) (K:Cont) (g:Gr) (i:Int):zH (g.ne + 10) (cxS Tf (orfo g) (g.ne + 10) 50 (ntmF Tf 50)) (evX Tf (orfo g) (g.ne + 10) 50 (ntmF Tf 50)) (qY []) (qQ Tf 50 [0,1,0,1]) [0,1,0,1] (Tf.hint 50 (qJ (qQ Tf 50 [0,1,0,1]))) K G (hfo g i) =
 (bif (decide (i < (g.ne:Int))) then (bif (inB i g.ne) then (bif (decide ((g.ed (i).toNat).c < 0)) then (K .ret ⟨[(1,.p 1 0),(2,.v (.b false))],[(1,.blk [.v (.lf g.np g.pt),.v (.lf g.ne (fE g.ed))])]⟩)
 else (bif (inB i g.ne) then (bif (decide (1099511627776 < (g.ed (i).toNat).c)) then (K .ret ⟨[(1,.p 1 0),(2,.v (.b false))],[(1,.blk [.v (.lf g.np g.pt),.v (.lf g.ne (fE g.ed))])]⟩)
 else (G (hfo g (vYX .i64 (i + 1)))))
 else none))
 else none)
 else (K (.exit 0) ⟨[(1,.p 1 0)],[(1,.blk [.v (.lf g.np g.pt),.v (.lf g.ne (fE g.ed))])]⟩)):=by kernel_rfl
theorem lpfo (K:Cont) (g:Gr) (_:g.ne≤8192):LFX (g.ne + 10) (cxS Tf (orfo g) (g.ne + 10) 50 (ntmF Tf 50)) (evX Tf (orfo g) (g.ne + 10) 50 (ntmF Tf 50)) (qY []) (qQ Tf 50 [0,1,0,1]) [0,1,0,1] (Tf.hint 50 (qJ (qQ Tf 50 [0,1,0,1]))) K (g.ne + 10) (hfo g 0)=bif (allN (fun i:Nat=>coE g i) g.ne 0) then (K (.exit 0) ⟨[(1,.p 1 0)],[(1,.blk [.v (.lf g.np g.pt),.v (.lf g.ne (fE g.ed))])]⟩) else (K .ret ⟨[(1,.p 1 0),(2,.v (.b false))],[(1,.blk [.v (.lf g.np g.pt),.v (.lf g.ne (fE g.ed))])]⟩):=by
 refine (zQK (L:=LFX (g.ne + 10) (cxS Tf (orfo g) (g.ne + 10) 50 (ntmF Tf 50)) (evX Tf (orfo g) (g.ne + 10) 50 (ntmF Tf 50)) (qY []) (qQ Tf 50 [0,1,0,1]) [0,1,0,1] (Tf.hint 50 (qJ (qQ Tf 50 [0,1,0,1]))) K) (stp:=zH (g.ne + 10) (cxS Tf (orfo g) (g.ne + 10) 50 (ntmF Tf 50)) (evX Tf (orfo g) (g.ne + 10) 50 (ntmF Tf 50)) (qY []) (qQ Tf 50 [0,1,0,1]) [0,1,0,1] (Tf.hint 50 (qJ (qQ Tf 50 [0,1,0,1]))) K) (fun _ _=>rfl) (fun (i:Nat) (_:Unit)=>hfo g (i:Int)) (fun _ _=>True) (fun (i:Nat) _=>coE g i) (fun _ _=>()) (c:=g.ne) (fun _=>(K (.exit 0) ⟨[(1,.p 1 0)],[(1,.blk [.v (.lf g.np g.pt),.v (.lf g.ne (fE g.ed))])]⟩)) (fun i _=>(K .ret ⟨[(1,.p 1 0),(2,.v (.b false))],[(1,.blk [.v (.lf g.np g.pt),.v (.lf g.ne (fE g.ed))])]⟩)) (fun G i f hi _ => ?_) (fun _ _ _ _ _=>trivial) (fun G f _ => ?_) g.ne 0 (g.ne + 10) () (by omega) (by omega) trivial).trans ((qYQ _ _ _ _ _).trans (qYZ _ _ _ _ _))
 ·refine (rdfo G K g i).trans ?_;rw [vYJ (show (i:Int) < (g.ne:Int) by omega),uK (by omega),zU (show i < g.ne by omega)];simp only [toN,vYQ,coE];cases decide ((g.ed i).c < 0) <;> cases decide (1099511627776 < (g.ed i).c) <;> rfl
 ·refine (rdfo G K g g.ne).trans ?_;rw [vYY (show ¬ (g.ne:Int) < (g.ne:Int) by omega)];rfl
noncomputable def lsfo (g:Gr):List (List Nat × yK):=[([0,1,0,1],sumF (fun _:Unit=>(hfo g 0)) (fun _=>()) (fun _ K=>(bif (decide (g.ne≤8192)) then (bif (allN (fun i:Nat=>coE g i) g.ne 0) then (K (.exit 0) ⟨[(1,.p 1 0)],[(1,.blk [.v (.lf g.np g.pt),.v (.lf g.ne (fE g.ed))])]⟩) else (K .ret ⟨[(1,.p 1 0),(2,.v (.b false))],[(1,.blk [.v (.lf g.np g.pt),.v (.lf g.ne (fE g.ed))])]⟩)) else none)))]
set_option maxRecDepth 100000 in
theorem pxfo (g:Gr):qQK Tf (orfo g) (qY (lsfo g)) (g.ne + 10) 50 [.a (gP g)] =
 (bif (gSt (hfo g 0) (hfo g 0)) then (bif (decide (g.ne≤8192)) then (bif (allN (fun i:Nat=>coE g i) g.ne 0) then (bif (gF1 cor eor g) then (bif (odB g) then some (.v (.b true),[])
 else some (.v (.b false),[]))
 else none)
 else some (.v (.b false),[]))
 else none)
 else none):=by kernel_rfl
theorem jUH (g:Gr) (hn:g.ne≤8192):yY Try.prog 50 [.a (gP g)] (.v (.b (frB g))):=by
 refine qG (N:=(g.ne + 10)) (LO:=qY (lsfo g)) yV yX (yG (l:=[(62,o_or)]) (m:=[]) ⟨kQK,trivial⟩ trivial) (fun p S hp => ?_) ?_
 ·refine qW (L:=qQ Tf 50) (l:=(lsfo g)) (show AllP _ (lsfo g) from ⟨?_,trivial⟩) p S hp
  ·dsimp only;refine yZ (T:=Tf) (o:=(orfo g)) (f:=50) (LO:=qY []) (p:=[0,1,0,1]) jQ ?_;intro t K r hr;obtain ⟨hg,hr⟩:=qZ hr;have hn:=vYK hg;exact (lpfo K g hn).trans hr
 ·refine (pxfo g).trans ?_;unfold frB;simp only [yQ,vYJ hn,kW (C:=cor) (t:=g) hn,vYQ];cases allN (fun i:Nat=>coE g i) g.ne 0 <;> cases odB g <;> rfl
def cfo:Gr→Prop:=fun t=>match t with | g=>g.ne≤8192
def efo:Gr→List PV:=fun t=>match t with | g=>[.a (gP g)]
noncomputable def rfo:Gr→Ret:=fun t=>match t with | g=>.v (.b (frB g))
def dfo:List PV→Gr:=fun ps=>match ps with
 | [.a [.lf np pt,.lf ne ed]]=>⟨np,pt,ne,unFE ed⟩
 | _=>⟨0,fun _=>[],0,fun _=>unE []⟩
noncomputable def o_fo:List PV→Option (Bool × Ret):=o_fm dfo cfo efo rfo
theorem kQH:qQY Try.prog 50 o_fo:=qQF fun t h=>by
 revert h; revert t; intro g h
 exact jUH g h
noncomputable def oras (g:Gr) (a b:Int):OrS:=orS [(50,o_fo)] []
noncomputable def lsas (g:Gr) (a b:Int):List (List Nat × yK):=[]
set_option maxRecDepth 100000 in
theorem pxas (g:Gr) (a b:Int):qQK Tf (oras g a b) (qY (lsas g a b)) 60 32 [.a (gP g),.n .i64 a,.n .i64 b] =
 (bif (gF1 cfo efo g) then (bif (frB g) then (bif (decide (0≤a)) then (bif (decide (a < (g.np:Int))) then (bif (decide (0≤b)) then (bif (decide (b < (g.np:Int))) then some (.v (.b true),[])
 else some (.v (.b false),[]))
 else some (.v (.b false),[]))
 else some (.v (.b false),[]))
 else some (.v (.b false),[]))
 else some (.v (.b false),[]))
 else none):=by kernel_rfl
theorem jUF (g:Gr) (a b:Int) (hn:g.ne≤8192):yY Try.prog 32 [.a (gP g),.n .i64 a,.n .i64 b] (.v (.b (frB g && (isP g a && isP g b)))):=by
 refine qG (N:=60) (LO:=qY (lsas g a b)) yV yX (yG (l:=[(50,o_fo)]) (m:=[]) ⟨kQH,trivial⟩ trivial) (fun p S hp => ?_) ?_
 ·refine qW (L:=qQ Tf 32) (l:=(lsas g a b)) (show AllP _ (lsas g a b) from trivial) p S hp
 ·refine (pxas g a b).trans ?_;unfold isP;simp only [kW (C:=cfo) (t:=g) hn,vYQ];cases frB g <;> cases decide (0≤a) <;> cases decide (a < (g.np:Int)) <;> cases decide (0≤b) <;> cases decide (b < (g.np:Int)) <;> rfl
def cas:Gr × Int × Int→Prop:=fun t=>match t with | (g,_,_)=>g.ne≤8192
def eas:Gr × Int × Int→List PV:=fun t=>match t with | (g,a,b)=>[.a (gP g),.n .i64 a,.n .i64 b]
noncomputable def ras:Gr × Int × Int→Ret:=fun t=>match t with | (g,a,b)=>.v (.b (frB g && (isP g a && isP g b)))
def das:List PV→Gr × Int × Int:=fun ps=>match ps with
 | [.a [.lf np pt,.lf ne ed],.n _ a,.n _ b]=>(⟨np,pt,ne,unFE ed⟩,a,b)
 | _=>(⟨0,fun _=>[],0,fun _=>unE []⟩,0,0)
noncomputable def o_as:List PV→Option (Bool × Ret):=o_fm das cas eas ras
theorem kQI:qQY Try.prog 32 o_as:=qQF fun t h=>by
 obtain ⟨g,a,b⟩:=t;exact jUF g a b h
theorem zHK {a b:Nat→Bool}:∀ n p,allN (fun i:Nat=>a i && b i) n p=(allN a n p && allN b n p)
 | 0,_=>rfl
 | n + 1,p=>by
  simp only [allN,zHK n];cases a p <;> cases b p <;> simp
theorem jWB (g:Gr) (i:Nat):okE g i=(coE g i && orE g i):=by
 unfold okE coE orE isP cpI;rw [Bool.eq_iff_iff];simp only [vQJ,Bool.or_eq_true,Bool.not_eq_true',decide_eq_true_eq,decide_eq_false_iff_not,Bool.and_eq_false_imp];generalize (g.ed (i - 1)).u=x;generalize (g.ed (i - 1)).v=y;by_cases h1:x < (g.ed i).u
 ·rw [vYJ h1]; simp only [vYQ]; omega
 ·rw [vYY h1];by_cases h2:(g.ed i).u < x
  ·rw [vYJ h2]; simp only [vYQ,vYZ]; omega
  ·rw [vYY h2];by_cases h3:y < (g.ed i).v
   ·rw [vYJ h3]; simp only [vYQ,vYZ]; omega
   ·rw [vYY h3];by_cases h4:(g.ed i).v < y
    ·rw [vYJ h4]; simp only [vYQ,vYZ]; omega
    ·rw [vYY h4]; simp only [vYZ]; omega
theorem jGB (g:Gr):frB g=wfB g:=by
 unfold frB wfB odB;rw [show (fun i:Nat=>okE g i)=fun i:Nat=>coE g i && orE g i from funext (jWB g),zHK];cases allN (fun i:Nat=>coE g i) g.ne 0 <;> cases allN (fun i:Nat=>orE g i) g.ne 0 <;> simp
end Go.Proofs.Ytglkkhpdbfacfaa.Bb
namespace Go.Proofs.Ytglkkhpdbfacfaa.Bc
open Go.Rx Rt Go.Sx Go.RowKit Ba Bb
def nsR (σ:St) (k:Nat):Nat→Go.Rx.Rows:=match qX σ.M k with
 | some (.nst _ _ _ (.fo _ f) _)=>f
 | _=>fun _=>.l []
def nsN (σ:St) (k:Nat):Nat→Nat:=fun u=>(nsR σ k u).len
def nsI (σ:St) (k c:Nat):Nat→Nat→Int:=fun u w=>match nsR σ k u with
 | .fo _ f=>(match (f w)[c]? with | some (.n _ i)=>i | _=>0)
 | _=>0
noncomputable def orlk (N:Nat) (g:Gr) (m:Int):OrS:=orS [(69,o_us)] []
noncomputable def hlk (N:Nat) (g:Gr) (m:Int) (i:Int) (ln:Nat→Nat) (lt:Nat→Nat→Int) (lc:Nat→Nat→Int):St:=⟨[(1,.v (.n .i64 m)),(2,.p 2 0),(5,.o 11),(14,.v (.n .i64 (g.ne:Int))),(15,.v (.n .i64 i))],[(2,.blk [.v (.lf g.np g.pt),.v (.lf g.ne (fE g.ed))]),(11,.nst 102 104 2 (.fo (g.np:Int).toNat fun u=>(.fo (ln u) (fun w=>[.n .i64 (lt u w),.n .i64 (lc u w)]))) none)]⟩
set_option maxRecDepth 100000 in
theorem rdlk (G:St→Option (Ret × Mem)) (K:Cont) (N:Nat) (g:Gr) (m:Int) (i:Int) (ln:Nat→Nat) (lt:Nat→Nat→Int) (lc:Nat→Nat→Int):zH N (cxS Tf (orlk N g m) N 56 (ntmF Tf 56)) (evX Tf (orlk N g m) N 56 (ntmF Tf 56)) (qY []) (qQ Tf 56 [0,1,0,1,1]) [0,1,0,1,1] (Tf.hint 56 (qJ (qQ Tf 56 [0,1,0,1,1]))) K G (hlk N g m i ln lt lc) =
 (bif (decide (i < (g.ne:Int))) then (bif (inB i g.ne) then (bif (gF1 cus eus (((g.ed (i).toNat).s),m)) then (bif (usB ((g.ed (i).toNat).s) m) then (bif (inB (g.ed (i).toNat).u (g.np:Int).toNat) then (bif (decide ((ln (g.ed (i).toNat).u.toNat) + 1≤1000000)) then (bif (inB (g.ed (i).toNat).u (g.np:Int).toNat) then (bif (Nat.beq (g.ed (i).toNat).u.toNat (g.ed (i).toNat).u.toNat) then (bif (Nat.beq (g.ed (i).toNat).u.toNat (g.ed (i).toNat).u.toNat) then (bif (inB (g.ed (i).toNat).v (g.np:Int).toNat) then (bif (decide ((bif (Nat.beq (g.ed (i).toNat).v.toNat (g.ed (i).toNat).u.toNat) then ((ln (g.ed (i).toNat).u.toNat) + 1) else (ln (g.ed (i).toNat).v.toNat)) + 1≤1000000)) then (bif (inB (g.ed (i).toNat).v (g.np:Int).toNat) then (bif (Nat.beq (g.ed (i).toNat).v.toNat (g.ed (i).toNat).v.toNat) then (bif (Nat.beq (g.ed (i).toNat).v.toNat (g.ed (i).toNat).v.toNat) then (G (hlk N g m (vYX .i64 (i + 1)) (fun u=>(bif (Nat.beq u (g.ed (i).toNat).v.toNat) then ((bif (Nat.beq (g.ed (i).toNat).v.toNat (g.ed (i).toNat).u.toNat) then ((ln (g.ed (i).toNat).u.toNat) + 1) else (ln (g.ed (i).toNat).v.toNat)) + 1) else (bif (Nat.beq u (g.ed (i).toNat).u.toNat) then ((ln (g.ed (i).toNat).u.toNat) + 1) else (ln u)))) (fun u w=>(bif (Nat.beq u (g.ed (i).toNat).v.toNat) then (bif (Nat.beq w (bif (Nat.beq (g.ed (i).toNat).v.toNat (g.ed (i).toNat).u.toNat) then ((ln (g.ed (i).toNat).u.toNat) + 1) else (ln (g.ed (i).toNat).v.toNat))) then (g.ed (i).toNat).u else (bif (Nat.beq (g.ed (i).toNat).v.toNat (g.ed (i).toNat).u.toNat) then (bif (Nat.beq w (ln (g.ed (i).toNat).u.toNat)) then (g.ed (i).toNat).v else (lt (g.ed (i).toNat).u.toNat w)) else (lt (g.ed (i).toNat).v.toNat w))) else (bif (Nat.beq u (g.ed (i).toNat).u.toNat) then (bif (Nat.beq w (ln (g.ed (i).toNat).u.toNat)) then (g.ed (i).toNat).v else (lt (g.ed (i).toNat).u.toNat w)) else (lt u w)))) (fun u w=>(bif (Nat.beq u (g.ed (i).toNat).v.toNat) then (bif (Nat.beq w (bif (Nat.beq (g.ed (i).toNat).v.toNat (g.ed (i).toNat).u.toNat) then ((ln (g.ed (i).toNat).u.toNat) + 1) else (ln (g.ed (i).toNat).v.toNat))) then (g.ed (i).toNat).c else (bif (Nat.beq (g.ed (i).toNat).v.toNat (g.ed (i).toNat).u.toNat) then (bif (Nat.beq w (ln (g.ed (i).toNat).u.toNat)) then (g.ed (i).toNat).c else (lc (g.ed (i).toNat).u.toNat w)) else (lc (g.ed (i).toNat).v.toNat w))) else (bif (Nat.beq u (g.ed (i).toNat).u.toNat) then (bif (Nat.beq w (ln (g.ed (i).toNat).u.toNat)) then (g.ed (i).toNat).c else (lc (g.ed (i).toNat).u.toNat w)) else (lc u w))))))
 else none)
 else none)
 else none)
 else none)
 else none)
 else none)
 else none)
 else none)
 else none)
 else none)
 else (G (hlk N g m (vYX .i64 (i + 1)) (fun u=>(ln u)) (fun u w=>(lt u w)) (fun u w=>(lc u w)))))
 else none)
 else none)
 else (K (.exit 0) ⟨[(5,.o 11)],[(11,.reg 102 1 (.fo (g.np:Int).toNat (fun u=>[.lf (ln u) (fun w=>[.n .i64 (lt u w),.n .i64 (lc u w)])])))]⟩)):=by kernel_rfl
noncomputable def dclk (g:Gr) (m:Int):(Int × (Nat→Nat) × (Nat→Nat→Int) × (Nat→Nat→Int))→(Int × (Nat→Nat) × (Nat→Nat→Int) × (Nat→Nat→Int)) ⊕ (Nat × Int × (Nat→Nat) × (Nat→Nat→Int) × (Nat→Nat→Int)):=fun t=>match t with | (i,ln,lt,lc)=>(bif (decide (i < (g.ne:Int))) then (bif (inB i g.ne) then (bif (gF1 cus eus (((g.ed (i).toNat).s),m)) then (bif (usB ((g.ed (i).toNat).s) m) then (bif (inB (g.ed (i).toNat).u (g.np:Int).toNat) then (bif (decide ((ln (g.ed (i).toNat).u.toNat) + 1≤1000000)) then (bif (Nat.beq (g.ed (i).toNat).u.toNat (g.ed (i).toNat).u.toNat) then (bif (inB (g.ed (i).toNat).v (g.np:Int).toNat) then (bif (decide ((bif (Nat.beq (g.ed (i).toNat).v.toNat (g.ed (i).toNat).u.toNat) then ((ln (g.ed (i).toNat).u.toNat) + 1) else (ln (g.ed (i).toNat).v.toNat)) + 1≤1000000)) then (bif (Nat.beq (g.ed (i).toNat).v.toNat (g.ed (i).toNat).v.toNat) then (.inl ((vYX .i64 (i + 1)),(fun u=>(bif (Nat.beq u (g.ed (i).toNat).v.toNat) then ((bif (Nat.beq (g.ed (i).toNat).v.toNat (g.ed (i).toNat).u.toNat) then ((ln (g.ed (i).toNat).u.toNat) + 1) else (ln (g.ed (i).toNat).v.toNat)) + 1) else (bif (Nat.beq u (g.ed (i).toNat).u.toNat) then ((ln (g.ed (i).toNat).u.toNat) + 1) else (ln u)))),(fun u w=>(bif (Nat.beq u (g.ed (i).toNat).v.toNat) then (bif (Nat.beq w (bif (Nat.beq (g.ed (i).toNat).v.toNat (g.ed (i).toNat).u.toNat) then ((ln (g.ed (i).toNat).u.toNat) + 1) else (ln (g.ed (i).toNat).v.toNat))) then (g.ed (i).toNat).u else (bif (Nat.beq (g.ed (i).toNat).v.toNat (g.ed (i).toNat).u.toNat) then (bif (Nat.beq w (ln (g.ed (i).toNat).u.toNat)) then (g.ed (i).toNat).v else (lt (g.ed (i).toNat).u.toNat w)) else (lt (g.ed (i).toNat).v.toNat w))) else (bif (Nat.beq u (g.ed (i).toNat).u.toNat) then (bif (Nat.beq w (ln (g.ed (i).toNat).u.toNat)) then (g.ed (i).toNat).v else (lt (g.ed (i).toNat).u.toNat w)) else (lt u w)))),(fun u w=>(bif (Nat.beq u (g.ed (i).toNat).v.toNat) then (bif (Nat.beq w (bif (Nat.beq (g.ed (i).toNat).v.toNat (g.ed (i).toNat).u.toNat) then ((ln (g.ed (i).toNat).u.toNat) + 1) else (ln (g.ed (i).toNat).v.toNat))) then (g.ed (i).toNat).c else (bif (Nat.beq (g.ed (i).toNat).v.toNat (g.ed (i).toNat).u.toNat) then (bif (Nat.beq w (ln (g.ed (i).toNat).u.toNat)) then (g.ed (i).toNat).c else (lc (g.ed (i).toNat).u.toNat w)) else (lc (g.ed (i).toNat).v.toNat w))) else (bif (Nat.beq u (g.ed (i).toNat).u.toNat) then (bif (Nat.beq w (ln (g.ed (i).toNat).u.toNat)) then (g.ed (i).toNat).c else (lc (g.ed (i).toNat).u.toNat w)) else (lc u w)))))) else (.inr (1,(i,ln,lt,lc)))) else (.inr (1,(i,ln,lt,lc)))) else (.inr (1,(i,ln,lt,lc)))) else (.inr (1,(i,ln,lt,lc)))) else (.inr (1,(i,ln,lt,lc)))) else (.inr (1,(i,ln,lt,lc)))) else (.inl ((vYX .i64 (i + 1)),(fun u=>(ln u)),(fun u w=>(lt u w)),(fun u w=>(lc u w))))) else (.inr (1,(i,ln,lt,lc)))) else (.inr (1,(i,ln,lt,lc)))) else (.inr (0,(i,ln,lt,lc))))
noncomputable def kxlk (N:Nat) (g:Gr) (m:Int) (K:Cont) (w9:Nat × Int × (Nat→Nat) × (Nat→Nat→Int) × (Nat→Nat→Int)):Option (Ret × Mem):=bif Nat.beq w9.1 0 then (K (.exit 0) ⟨[(5,.o 11)],[(11,.reg 102 1 (.fo (g.np:Int).toNat (fun u=>[.lf (w9.2.2.1 u) (fun w=>[.n .i64 (w9.2.2.2.1 u w),.n .i64 (w9.2.2.2.2 u w)])])))]⟩) else none
theorem wllk (K:Cont) (N:Nat) (g:Gr) (m:Int):∀ n9 (t:(Int × (Nat→Nat) × (Nat→Nat→Int) × (Nat→Nat→Int))),LFX N (cxS Tf (orlk N g m) N 56 (ntmF Tf 56)) (evX Tf (orlk N g m) N 56 (ntmF Tf 56)) (qY []) (qQ Tf 56 [0,1,0,1,1]) [0,1,0,1,1] (Tf.hint 56 (qJ (qQ Tf 56 [0,1,0,1,1]))) K n9 (hlk N g m t.1 t.2.1 t.2.2.1 t.2.2.2)=(qU (dclk g m) n9 t).bind (kxlk N g m K):=fun n9 t=>by
 refine kG (L:=LFX N (cxS Tf (orlk N g m) N 56 (ntmF Tf 56)) (evX Tf (orlk N g m) N 56 (ntmF Tf 56)) (qY []) (qQ Tf 56 [0,1,0,1,1]) [0,1,0,1,1] (Tf.hint 56 (qJ (qQ Tf 56 [0,1,0,1,1]))) K) (stp:=zH N (cxS Tf (orlk N g m) N 56 (ntmF Tf 56)) (evX Tf (orlk N g m) N 56 (ntmF Tf 56)) (qY []) (qQ Tf 56 [0,1,0,1,1]) [0,1,0,1,1] (Tf.hint 56 (qJ (qQ Tf 56 [0,1,0,1,1]))) K) (fun _ _=>rfl) (fun _=>rfl) (fun t=>hlk N g m t.1 t.2.1 t.2.2.1 t.2.2.2) (fun _=>True) (dclk g m) (kxlk N g m K) (fun G t _ => ?_) (fun _ _ _ _=>trivial) n9 t trivial;obtain ⟨i,ln,lt,lc⟩:=t;refine (rdlk G K N g m i ln lt lc).trans ?_;dsimp only [dclk];cases (decide (i < (g.ne:Int)))
 ·rfl
 ·cases (inB i g.ne)
  ·rfl
  ·cases (gF1 cus eus (((g.ed (i).toNat).s),m))
   ·rfl
   ·cases (usB ((g.ed (i).toNat).s) m)
    ·rfl
    ·cases (inB (g.ed (i).toNat).u (g.np:Int).toNat)
     ·rfl
     ·cases (decide ((ln (g.ed (i).toNat).u.toNat) + 1≤1000000))
      ·rfl
      ·cases (Nat.beq (g.ed (i).toNat).u.toNat (g.ed (i).toNat).u.toNat)
       ·rfl
       ·cases (inB (g.ed (i).toNat).v (g.np:Int).toNat)
        ·rfl
        ·cases (decide ((bif (Nat.beq (g.ed (i).toNat).v.toNat (g.ed (i).toNat).u.toNat) then ((ln (g.ed (i).toNat).u.toNat) + 1) else (ln (g.ed (i).toNat).v.toNat)) + 1≤1000000))
         ·rfl
         ·cases (Nat.beq (g.ed (i).toNat).v.toNat (g.ed (i).toNat).v.toNat)
          ·rfl
          ·rfl
noncomputable def yQX (N:Nat) (g:Gr) (m:Int) (t:(Int × (Nat→Nat) × (Nat→Nat→Int) × (Nat→Nat→Int))):Bool:=(qU (dclk g m) N t).isSome
noncomputable def zZH (N:Nat) (g:Gr) (m:Int) (t:(Int × (Nat→Nat) × (Nat→Nat→Int) × (Nat→Nat→Int))):Nat × Int × (Nat→Nat) × (Nat→Nat→Int) × (Nat→Nat→Int):=(qU (dclk g m) N t).getD (99,t)
theorem lwlk (K:Cont) (N:Nat) (g:Gr) (m:Int) (t:(Int × (Nat→Nat) × (Nat→Nat→Int) × (Nat→Nat→Int))) (hg:yQX N g m t=true):LFX N (cxS Tf (orlk N g m) N 56 (ntmF Tf 56)) (evX Tf (orlk N g m) N 56 (ntmF Tf 56)) (qY []) (qQ Tf 56 [0,1,0,1,1]) [0,1,0,1,1] (Tf.hint 56 (qJ (qQ Tf 56 [0,1,0,1,1]))) K N (hlk N g m t.1 t.2.1 t.2.2.1 t.2.2.2)=kxlk N g m K (zZH N g m t):=by
 refine (wllk K N g m N t).trans ?_;unfold yQX at hg;unfold zZH;cases h:qU (dclk g m) N t with
 | none=>rw [h] at hg; cases hg
 | some y=>rfl
end Go.Proofs.Ytglkkhpdbfacfaa.Bc
namespace Go.Proofs.Ytglkkhpdbfacfaa.Bd
open Go.Rx Rt Go.Sx Go.RowKit Ba Bb Bc
noncomputable def orpu (N n:Nat) (_ _ _:Nat→Int) (ec ep ex:Int):OrS:=orS [(65,o_bt)] []
noncomputable def hpu (N n:Nat) (_ _ _:Nat→Int) (ec ep ex:Int) (i:Int) (xc:Nat→Int) (xp:Nat→Int) (xx:Nat→Int):St:=⟨[(0,.p 1000000 0),(4,.o 1000001),(5,.v (.n .i64 i))],[(1000000,.blk [.un]),(1000001,.reg 98 3 (.fo (n + 1) (fun v=>[.n .i64 (xc v),.n .i64 (xp v),.n .i64 (xx v)])))]⟩
set_option maxRecDepth 100000 in
theorem rdpu (G:St→Option (Ret × Mem)) (K:Cont) (N n:Nat) (qc qp qx:Nat→Int) (ec ep ex:Int) (i:Int) (xc:Nat→Int) (xp:Nat→Int) (xx:Nat→Int):zH N (cxS Tf (orpu N n qc qp qx ec ep ex) N 66 (ntmF Tf 66)) (evX Tf (orpu N n qc qp qx ec ep ex) N 66 (ntmF Tf 66)) (qY []) (qQ Tf 66 [0,1,0,1,1]) [0,1,0,1,1] (Tf.hint 66 (qJ (qQ Tf 66 [0,1,0,1,1]))) K G (hpu N n qc qp qx ec ep ex i xc xp xx) =
 (bif (decide (0 < i)) then (bif (inB i (n + 1)) then (bif (inB (vYX .i64 ((vYX .i64 (i - 1)).tdiv 2)) (n + 1)) then (bif (gF1 cbt ebt ((xc (i).toNat),(xp (i).toNat),(xc (vYX .i64 ((vYX .i64 (i - 1)).tdiv 2)).toNat),(xp (vYX .i64 ((vYX .i64 (i - 1)).tdiv 2)).toNat))) then (bif (btB (xc (i).toNat) (xp (i).toNat) (xc (vYX .i64 ((vYX .i64 (i - 1)).tdiv 2)).toNat) (xp (vYX .i64 ((vYX .i64 (i - 1)).tdiv 2)).toNat)) then (bif (inB (vYX .i64 ((vYX .i64 (i - 1)).tdiv 2)) (n + 1)) then (bif (inB i (n + 1)) then (bif (inB i (n + 1)) then (bif (inB (vYX .i64 ((vYX .i64 (i - 1)).tdiv 2)) (n + 1)) then (G (hpu N n qc qp qx ec ep ex (vYX .i64 ((vYX .i64 (i - 1)).tdiv 2)) (fun v=>(bif (Nat.beq v (vYX .i64 ((vYX .i64 (i - 1)).tdiv 2)).toNat) then (xc (i).toNat) else (bif (Nat.beq v (i).toNat) then (xc (vYX .i64 ((vYX .i64 (i - 1)).tdiv 2)).toNat) else (xc v)))) (fun v=>(bif (Nat.beq v (vYX .i64 ((vYX .i64 (i - 1)).tdiv 2)).toNat) then (xp (i).toNat) else (bif (Nat.beq v (i).toNat) then (xp (vYX .i64 ((vYX .i64 (i - 1)).tdiv 2)).toNat) else (xp v)))) (fun v=>(bif (Nat.beq v (vYX .i64 ((vYX .i64 (i - 1)).tdiv 2)).toNat) then (xx (i).toNat) else (bif (Nat.beq v (i).toNat) then (xx (vYX .i64 ((vYX .i64 (i - 1)).tdiv 2)).toNat) else (xx v))))))
 else none)
 else none)
 else none)
 else none)
 else (K (.exit 0) ⟨[(0,.p 1000000 0),(4,.o 1000001)],[(1000000,.blk [.un]),(1000001,.reg 98 3 (.fo (n + 1) (fun v=>[.n .i64 (xc v),.n .i64 (xp v),.n .i64 (xx v)])))]⟩))
 else none)
 else none)
 else none)
 else (K (.exit 0) ⟨[(0,.p 1000000 0),(4,.o 1000001)],[(1000000,.blk [.un]),(1000001,.reg 98 3 (.fo (n + 1) (fun v=>[.n .i64 (xc v),.n .i64 (xp v),.n .i64 (xx v)])))]⟩)):=by kernel_rfl
noncomputable def dcpu (n:Nat):(Int × (Nat→Int) × (Nat→Int) × (Nat→Int))→(Int × (Nat→Int) × (Nat→Int) × (Nat→Int)) ⊕ (Nat × Int × (Nat→Int) × (Nat→Int) × (Nat→Int)):=fun t=>match t with | (i,xc,xp,xx)=>(bif (decide (0 < i)) then (bif (inB i (n + 1)) then (bif (inB (vYX .i64 ((vYX .i64 (i - 1)).tdiv 2)) (n + 1)) then (bif (gF1 cbt ebt ((xc (i).toNat),(xp (i).toNat),(xc (vYX .i64 ((vYX .i64 (i - 1)).tdiv 2)).toNat),(xp (vYX .i64 ((vYX .i64 (i - 1)).tdiv 2)).toNat))) then (bif (btB (xc (i).toNat) (xp (i).toNat) (xc (vYX .i64 ((vYX .i64 (i - 1)).tdiv 2)).toNat) (xp (vYX .i64 ((vYX .i64 (i - 1)).tdiv 2)).toNat)) then (.inl ((vYX .i64 ((vYX .i64 (i - 1)).tdiv 2)),(fun v=>(bif (Nat.beq v (vYX .i64 ((vYX .i64 (i - 1)).tdiv 2)).toNat) then (xc (i).toNat) else (bif (Nat.beq v (i).toNat) then (xc (vYX .i64 ((vYX .i64 (i - 1)).tdiv 2)).toNat) else (xc v)))),(fun v=>(bif (Nat.beq v (vYX .i64 ((vYX .i64 (i - 1)).tdiv 2)).toNat) then (xp (i).toNat) else (bif (Nat.beq v (i).toNat) then (xp (vYX .i64 ((vYX .i64 (i - 1)).tdiv 2)).toNat) else (xp v)))),(fun v=>(bif (Nat.beq v (vYX .i64 ((vYX .i64 (i - 1)).tdiv 2)).toNat) then (xx (i).toNat) else (bif (Nat.beq v (i).toNat) then (xx (vYX .i64 ((vYX .i64 (i - 1)).tdiv 2)).toNat) else (xx v)))))) else (.inr (0,(i,xc,xp,xx)))) else (.inr (1,(i,xc,xp,xx)))) else (.inr (1,(i,xc,xp,xx)))) else (.inr (1,(i,xc,xp,xx)))) else (.inr (0,(i,xc,xp,xx))))
noncomputable def kxpu (N n:Nat) (_ _ _:Nat→Int) (ec ep ex:Int) (K:Cont) (w9:Nat × Int × (Nat→Int) × (Nat→Int) × (Nat→Int)):Option (Ret × Mem):=bif Nat.beq w9.1 0 then (K (.exit 0) ⟨[(0,.p 1000000 0),(4,.o 1000001)],[(1000000,.blk [.un]),(1000001,.reg 98 3 (.fo (n + 1) (fun v=>[.n .i64 (w9.2.2.1 v),.n .i64 (w9.2.2.2.1 v),.n .i64 (w9.2.2.2.2 v)])))]⟩) else none
theorem wlpu (K:Cont) (N n:Nat) (qc qp qx:Nat→Int) (ec ep ex:Int):∀ n9 (t:(Int × (Nat→Int) × (Nat→Int) × (Nat→Int))),LFX N (cxS Tf (orpu N n qc qp qx ec ep ex) N 66 (ntmF Tf 66)) (evX Tf (orpu N n qc qp qx ec ep ex) N 66 (ntmF Tf 66)) (qY []) (qQ Tf 66 [0,1,0,1,1]) [0,1,0,1,1] (Tf.hint 66 (qJ (qQ Tf 66 [0,1,0,1,1]))) K n9 (hpu N n qc qp qx ec ep ex t.1 t.2.1 t.2.2.1 t.2.2.2)=(qU (dcpu n) n9 t).bind (kxpu N n qc qp qx ec ep ex K):=fun n9 t=>by
 refine kG (L:=LFX N (cxS Tf (orpu N n qc qp qx ec ep ex) N 66 (ntmF Tf 66)) (evX Tf (orpu N n qc qp qx ec ep ex) N 66 (ntmF Tf 66)) (qY []) (qQ Tf 66 [0,1,0,1,1]) [0,1,0,1,1] (Tf.hint 66 (qJ (qQ Tf 66 [0,1,0,1,1]))) K) (stp:=zH N (cxS Tf (orpu N n qc qp qx ec ep ex) N 66 (ntmF Tf 66)) (evX Tf (orpu N n qc qp qx ec ep ex) N 66 (ntmF Tf 66)) (qY []) (qQ Tf 66 [0,1,0,1,1]) [0,1,0,1,1] (Tf.hint 66 (qJ (qQ Tf 66 [0,1,0,1,1]))) K) (fun _ _=>rfl) (fun _=>rfl) (fun t=>hpu N n qc qp qx ec ep ex t.1 t.2.1 t.2.2.1 t.2.2.2) (fun _=>True) (dcpu n) (kxpu N n qc qp qx ec ep ex K) (fun G t _ => ?_) (fun _ _ _ _=>trivial) n9 t trivial;obtain ⟨i,xc,xp,xx⟩:=t;refine (rdpu G K N n qc qp qx ec ep ex i xc xp xx).trans ?_;dsimp only [dcpu];cases (decide (0 < i))
 ·rfl
 ·cases (inB i (n + 1))
  ·rfl
  ·cases (inB (vYX .i64 ((vYX .i64 (i - 1)).tdiv 2)) (n + 1))
   ·rfl
   ·cases (gF1 cbt ebt ((xc (i).toNat),(xp (i).toNat),(xc (vYX .i64 ((vYX .i64 (i - 1)).tdiv 2)).toNat),(xp (vYX .i64 ((vYX .i64 (i - 1)).tdiv 2)).toNat)))
    ·rfl
    ·cases (btB (xc (i).toNat) (xp (i).toNat) (xc (vYX .i64 ((vYX .i64 (i - 1)).tdiv 2)).toNat) (xp (vYX .i64 ((vYX .i64 (i - 1)).tdiv 2)).toNat))
     ·rfl
     ·rfl
noncomputable def zWZ (N:Nat) (n:Nat) (t:(Int × (Nat→Int) × (Nat→Int) × (Nat→Int))):Bool:=(qU (dcpu n) N t).isSome
noncomputable def qWI (N:Nat) (n:Nat) (t:(Int × (Nat→Int) × (Nat→Int) × (Nat→Int))):Nat × Int × (Nat→Int) × (Nat→Int) × (Nat→Int):=(qU (dcpu n) N t).getD (99,t)
theorem lwpu (K:Cont) (N n:Nat) (qc qp qx:Nat→Int) (ec ep ex:Int) (t:(Int × (Nat→Int) × (Nat→Int) × (Nat→Int))) (hg:zWZ N n t=true):LFX N (cxS Tf (orpu N n qc qp qx ec ep ex) N 66 (ntmF Tf 66)) (evX Tf (orpu N n qc qp qx ec ep ex) N 66 (ntmF Tf 66)) (qY []) (qQ Tf 66 [0,1,0,1,1]) [0,1,0,1,1] (Tf.hint 66 (qJ (qQ Tf 66 [0,1,0,1,1]))) K N (hpu N n qc qp qx ec ep ex t.1 t.2.1 t.2.2.1 t.2.2.2)=kxpu N n qc qp qx ec ep ex K (qWI N n t):=by
 refine (wlpu K N n qc qp qx ec ep ex N t).trans ?_;unfold zWZ at hg;unfold qWI;cases h:qU (dcpu n) N t with
 | none=>rw [h] at hg; cases hg
 | some y=>rfl
noncomputable def orpo (N n:Nat) (_ _ _:Nat→Int):OrS:=orS [(65,o_bt)] []
noncomputable def hpo (N n:Nat) (qc qp qx:Nat→Int) (i:Int) (xc:Nat→Int) (xp:Nat→Int) (xx:Nat→Int):St:=⟨[(0,.p 1000000 0),(2,.p 2 0),(3,.o 1000001),(4,.p 4 0),(5,.v (.n .i64 (vYX .i64 ((n:Int) - 1)))),(6,.v (.n .i64 i))],[(1000000,.blk [.un]),(2,.blk [.v (.n .i64 0),.v (.n .i64 0),.v (.n .i64 0)]),(4,.blk [.v (.n .i64 (qc 0)),.v (.n .i64 (qp 0)),.v (.n .i64 (qx 0))]),(1000001,.reg 98 3 (.fo (vYX .i64 ((n:Int) - 1)).toNat (fun v=>[.n .i64 (xc v),.n .i64 (xp v),.n .i64 (xx v)])))]⟩
set_option maxRecDepth 100000 in
theorem rdpo (G:St→Option (Ret × Mem)) (K:Cont) (N n:Nat) (qc qp qx:Nat→Int) (i:Int) (xc:Nat→Int) (xp:Nat→Int) (xx:Nat→Int):zH N (cxS Tf (orpo N n qc qp qx) N 64 (ntmF Tf 64)) (evX Tf (orpo N n qc qp qx) N 64 (ntmF Tf 64)) (qY []) (qQ Tf 64 [0,1,0,1,1,1,1,1]) [0,1,0,1,1,1,1,1] (Tf.hint 64 (qJ (qQ Tf 64 [0,1,0,1,1,1,1,1]))) K G (hpo N n qc qp qx i xc xp xx) =
 (bif (decide ((vYX .i64 ((vYX .i64 (2 * i)) + 1)) < (vYX .i64 ((n:Int) - 1)))) then (bif (decide ((vYX .i64 ((vYX .i64 ((vYX .i64 (2 * i)) + 1)) + 1)) < (vYX .i64 ((n:Int) - 1)))) then (bif (inB (vYX .i64 ((vYX .i64 ((vYX .i64 (2 * i)) + 1)) + 1)) (vYX .i64 ((n:Int) - 1)).toNat) then (bif (inB (vYX .i64 ((vYX .i64 (2 * i)) + 1)) (vYX .i64 ((n:Int) - 1)).toNat) then (bif (gF1 cbt ebt ((xc (vYX .i64 ((vYX .i64 ((vYX .i64 (2 * i)) + 1)) + 1)).toNat),(xp (vYX .i64 ((vYX .i64 ((vYX .i64 (2 * i)) + 1)) + 1)).toNat),(xc (vYX .i64 ((vYX .i64 (2 * i)) + 1)).toNat),(xp (vYX .i64 ((vYX .i64 (2 * i)) + 1)).toNat))) then (bif (btB (xc (vYX .i64 ((vYX .i64 ((vYX .i64 (2 * i)) + 1)) + 1)).toNat) (xp (vYX .i64 ((vYX .i64 ((vYX .i64 (2 * i)) + 1)) + 1)).toNat) (xc (vYX .i64 ((vYX .i64 (2 * i)) + 1)).toNat) (xp (vYX .i64 ((vYX .i64 (2 * i)) + 1)).toNat)) then (bif (inB (vYX .i64 ((vYX .i64 ((vYX .i64 (2 * i)) + 1)) + 1)) (vYX .i64 ((n:Int) - 1)).toNat) then (bif (inB i (vYX .i64 ((n:Int) - 1)).toNat) then (bif (gF1 cbt ebt ((xc (vYX .i64 ((vYX .i64 ((vYX .i64 (2 * i)) + 1)) + 1)).toNat),(xp (vYX .i64 ((vYX .i64 ((vYX .i64 (2 * i)) + 1)) + 1)).toNat),(xc (i).toNat),(xp (i).toNat))) then (bif (btB (xc (vYX .i64 ((vYX .i64 ((vYX .i64 (2 * i)) + 1)) + 1)).toNat) (xp (vYX .i64 ((vYX .i64 ((vYX .i64 (2 * i)) + 1)) + 1)).toNat) (xc (i).toNat) (xp (i).toNat)) then (bif (inB (vYX .i64 ((vYX .i64 ((vYX .i64 (2 * i)) + 1)) + 1)) (vYX .i64 ((n:Int) - 1)).toNat) then (bif (inB i (vYX .i64 ((n:Int) - 1)).toNat) then (bif (inB i (vYX .i64 ((n:Int) - 1)).toNat) then (bif (inB (vYX .i64 ((vYX .i64 ((vYX .i64 (2 * i)) + 1)) + 1)) (vYX .i64 ((n:Int) - 1)).toNat) then (G (hpo N n qc qp qx (vYX .i64 ((vYX .i64 ((vYX .i64 (2 * i)) + 1)) + 1)) (fun v=>(bif (Nat.beq v (vYX .i64 ((vYX .i64 ((vYX .i64 (2 * i)) + 1)) + 1)).toNat) then (xc (i).toNat) else (bif (Nat.beq v (i).toNat) then (xc (vYX .i64 ((vYX .i64 ((vYX .i64 (2 * i)) + 1)) + 1)).toNat) else (xc v)))) (fun v=>(bif (Nat.beq v (vYX .i64 ((vYX .i64 ((vYX .i64 (2 * i)) + 1)) + 1)).toNat) then (xp (i).toNat) else (bif (Nat.beq v (i).toNat) then (xp (vYX .i64 ((vYX .i64 ((vYX .i64 (2 * i)) + 1)) + 1)).toNat) else (xp v)))) (fun v=>(bif (Nat.beq v (vYX .i64 ((vYX .i64 ((vYX .i64 (2 * i)) + 1)) + 1)).toNat) then (xx (i).toNat) else (bif (Nat.beq v (i).toNat) then (xx (vYX .i64 ((vYX .i64 ((vYX .i64 (2 * i)) + 1)) + 1)).toNat) else (xx v))))))
 else none)
 else none)
 else none)
 else none)
 else (K (.exit 0) ⟨[(0,.p 1000000 0),(2,.p 2 0),(3,.o 1000001),(4,.p 4 0)],[(1000000,.blk [.un]),(2,.blk [.v (.n .i64 0),.v (.n .i64 0),.v (.n .i64 0)]),(4,.blk [.v (.n .i64 (qc 0)),.v (.n .i64 (qp 0)),.v (.n .i64 (qx 0))]),(1000001,.reg 98 3 (.fo (vYX .i64 ((n:Int) - 1)).toNat (fun v=>[.n .i64 (xc v),.n .i64 (xp v),.n .i64 (xx v)])))]⟩))
 else none)
 else none)
 else none)
 else (bif (inB (vYX .i64 ((vYX .i64 (2 * i)) + 1)) (vYX .i64 ((n:Int) - 1)).toNat) then (bif (inB i (vYX .i64 ((n:Int) - 1)).toNat) then (bif (gF1 cbt ebt ((xc (vYX .i64 ((vYX .i64 (2 * i)) + 1)).toNat),(xp (vYX .i64 ((vYX .i64 (2 * i)) + 1)).toNat),(xc (i).toNat),(xp (i).toNat))) then (bif (btB (xc (vYX .i64 ((vYX .i64 (2 * i)) + 1)).toNat) (xp (vYX .i64 ((vYX .i64 (2 * i)) + 1)).toNat) (xc (i).toNat) (xp (i).toNat)) then (bif (inB (vYX .i64 ((vYX .i64 (2 * i)) + 1)) (vYX .i64 ((n:Int) - 1)).toNat) then (bif (inB i (vYX .i64 ((n:Int) - 1)).toNat) then (bif (inB i (vYX .i64 ((n:Int) - 1)).toNat) then (bif (inB (vYX .i64 ((vYX .i64 (2 * i)) + 1)) (vYX .i64 ((n:Int) - 1)).toNat) then (G (hpo N n qc qp qx (vYX .i64 ((vYX .i64 (2 * i)) + 1)) (fun v=>(bif (Nat.beq v (vYX .i64 ((vYX .i64 (2 * i)) + 1)).toNat) then (xc (i).toNat) else (bif (Nat.beq v (i).toNat) then (xc (vYX .i64 ((vYX .i64 (2 * i)) + 1)).toNat) else (xc v)))) (fun v=>(bif (Nat.beq v (vYX .i64 ((vYX .i64 (2 * i)) + 1)).toNat) then (xp (i).toNat) else (bif (Nat.beq v (i).toNat) then (xp (vYX .i64 ((vYX .i64 (2 * i)) + 1)).toNat) else (xp v)))) (fun v=>(bif (Nat.beq v (vYX .i64 ((vYX .i64 (2 * i)) + 1)).toNat) then (xx (i).toNat) else (bif (Nat.beq v (i).toNat) then (xx (vYX .i64 ((vYX .i64 (2 * i)) + 1)).toNat) else (xx v))))))
 else none)
 else none)
 else none)
 else none)
 else (K (.exit 0) ⟨[(0,.p 1000000 0),(2,.p 2 0),(3,.o 1000001),(4,.p 4 0)],[(1000000,.blk [.un]),(2,.blk [.v (.n .i64 0),.v (.n .i64 0),.v (.n .i64 0)]),(4,.blk [.v (.n .i64 (qc 0)),.v (.n .i64 (qp 0)),.v (.n .i64 (qx 0))]),(1000001,.reg 98 3 (.fo (vYX .i64 ((n:Int) - 1)).toNat (fun v=>[.n .i64 (xc v),.n .i64 (xp v),.n .i64 (xx v)])))]⟩))
 else none)
 else none)
 else none))
 else none)
 else none)
 else none)
 else (bif (inB (vYX .i64 ((vYX .i64 (2 * i)) + 1)) (vYX .i64 ((n:Int) - 1)).toNat) then (bif (inB i (vYX .i64 ((n:Int) - 1)).toNat) then (bif (gF1 cbt ebt ((xc (vYX .i64 ((vYX .i64 (2 * i)) + 1)).toNat),(xp (vYX .i64 ((vYX .i64 (2 * i)) + 1)).toNat),(xc (i).toNat),(xp (i).toNat))) then (bif (btB (xc (vYX .i64 ((vYX .i64 (2 * i)) + 1)).toNat) (xp (vYX .i64 ((vYX .i64 (2 * i)) + 1)).toNat) (xc (i).toNat) (xp (i).toNat)) then (bif (inB (vYX .i64 ((vYX .i64 (2 * i)) + 1)) (vYX .i64 ((n:Int) - 1)).toNat) then (bif (inB i (vYX .i64 ((n:Int) - 1)).toNat) then (bif (inB i (vYX .i64 ((n:Int) - 1)).toNat) then (bif (inB (vYX .i64 ((vYX .i64 (2 * i)) + 1)) (vYX .i64 ((n:Int) - 1)).toNat) then (G (hpo N n qc qp qx (vYX .i64 ((vYX .i64 (2 * i)) + 1)) (fun v=>(bif (Nat.beq v (vYX .i64 ((vYX .i64 (2 * i)) + 1)).toNat) then (xc (i).toNat) else (bif (Nat.beq v (i).toNat) then (xc (vYX .i64 ((vYX .i64 (2 * i)) + 1)).toNat) else (xc v)))) (fun v=>(bif (Nat.beq v (vYX .i64 ((vYX .i64 (2 * i)) + 1)).toNat) then (xp (i).toNat) else (bif (Nat.beq v (i).toNat) then (xp (vYX .i64 ((vYX .i64 (2 * i)) + 1)).toNat) else (xp v)))) (fun v=>(bif (Nat.beq v (vYX .i64 ((vYX .i64 (2 * i)) + 1)).toNat) then (xx (i).toNat) else (bif (Nat.beq v (i).toNat) then (xx (vYX .i64 ((vYX .i64 (2 * i)) + 1)).toNat) else (xx v))))))
 else none)
 else none)
 else none)
 else none)
 else (K (.exit 0) ⟨[(0,.p 1000000 0),(2,.p 2 0),(3,.o 1000001),(4,.p 4 0)],[(1000000,.blk [.un]),(2,.blk [.v (.n .i64 0),.v (.n .i64 0),.v (.n .i64 0)]),(4,.blk [.v (.n .i64 (qc 0)),.v (.n .i64 (qp 0)),.v (.n .i64 (qx 0))]),(1000001,.reg 98 3 (.fo (vYX .i64 ((n:Int) - 1)).toNat (fun v=>[.n .i64 (xc v),.n .i64 (xp v),.n .i64 (xx v)])))]⟩))
 else none)
 else none)
 else none))
 else (K (.exit 0) ⟨[(0,.p 1000000 0),(2,.p 2 0),(3,.o 1000001),(4,.p 4 0)],[(1000000,.blk [.un]),(2,.blk [.v (.n .i64 0),.v (.n .i64 0),.v (.n .i64 0)]),(4,.blk [.v (.n .i64 (qc 0)),.v (.n .i64 (qp 0)),.v (.n .i64 (qx 0))]),(1000001,.reg 98 3 (.fo (vYX .i64 ((n:Int) - 1)).toNat (fun v=>[.n .i64 (xc v),.n .i64 (xp v),.n .i64 (xx v)])))]⟩)):=by kernel_rfl
noncomputable def dcpo (n:Nat):(Int × (Nat→Int) × (Nat→Int) × (Nat→Int))→(Int × (Nat→Int) × (Nat→Int) × (Nat→Int)) ⊕ (Nat × Int × (Nat→Int) × (Nat→Int) × (Nat→Int)):=fun t=>match t with | (i,xc,xp,xx)=>(bif (decide ((vYX .i64 ((vYX .i64 (2 * i)) + 1)) < (vYX .i64 ((n:Int) - 1)))) then (bif (decide ((vYX .i64 ((vYX .i64 ((vYX .i64 (2 * i)) + 1)) + 1)) < (vYX .i64 ((n:Int) - 1)))) then (bif (inB (vYX .i64 ((vYX .i64 ((vYX .i64 (2 * i)) + 1)) + 1)) (vYX .i64 ((n:Int) - 1)).toNat) then (bif (inB (vYX .i64 ((vYX .i64 (2 * i)) + 1)) (vYX .i64 ((n:Int) - 1)).toNat) then (bif (gF1 cbt ebt ((xc (vYX .i64 ((vYX .i64 ((vYX .i64 (2 * i)) + 1)) + 1)).toNat),(xp (vYX .i64 ((vYX .i64 ((vYX .i64 (2 * i)) + 1)) + 1)).toNat),(xc (vYX .i64 ((vYX .i64 (2 * i)) + 1)).toNat),(xp (vYX .i64 ((vYX .i64 (2 * i)) + 1)).toNat))) then (bif (btB (xc (vYX .i64 ((vYX .i64 ((vYX .i64 (2 * i)) + 1)) + 1)).toNat) (xp (vYX .i64 ((vYX .i64 ((vYX .i64 (2 * i)) + 1)) + 1)).toNat) (xc (vYX .i64 ((vYX .i64 (2 * i)) + 1)).toNat) (xp (vYX .i64 ((vYX .i64 (2 * i)) + 1)).toNat)) then (bif (inB i (vYX .i64 ((n:Int) - 1)).toNat) then (bif (gF1 cbt ebt ((xc (vYX .i64 ((vYX .i64 ((vYX .i64 (2 * i)) + 1)) + 1)).toNat),(xp (vYX .i64 ((vYX .i64 ((vYX .i64 (2 * i)) + 1)) + 1)).toNat),(xc (i).toNat),(xp (i).toNat))) then (bif (btB (xc (vYX .i64 ((vYX .i64 ((vYX .i64 (2 * i)) + 1)) + 1)).toNat) (xp (vYX .i64 ((vYX .i64 ((vYX .i64 (2 * i)) + 1)) + 1)).toNat) (xc (i).toNat) (xp (i).toNat)) then (.inl ((vYX .i64 ((vYX .i64 ((vYX .i64 (2 * i)) + 1)) + 1)),(fun v=>(bif (Nat.beq v (vYX .i64 ((vYX .i64 ((vYX .i64 (2 * i)) + 1)) + 1)).toNat) then (xc (i).toNat) else (bif (Nat.beq v (i).toNat) then (xc (vYX .i64 ((vYX .i64 ((vYX .i64 (2 * i)) + 1)) + 1)).toNat) else (xc v)))),(fun v=>(bif (Nat.beq v (vYX .i64 ((vYX .i64 ((vYX .i64 (2 * i)) + 1)) + 1)).toNat) then (xp (i).toNat) else (bif (Nat.beq v (i).toNat) then (xp (vYX .i64 ((vYX .i64 ((vYX .i64 (2 * i)) + 1)) + 1)).toNat) else (xp v)))),(fun v=>(bif (Nat.beq v (vYX .i64 ((vYX .i64 ((vYX .i64 (2 * i)) + 1)) + 1)).toNat) then (xx (i).toNat) else (bif (Nat.beq v (i).toNat) then (xx (vYX .i64 ((vYX .i64 ((vYX .i64 (2 * i)) + 1)) + 1)).toNat) else (xx v)))))) else (.inr (0,(i,xc,xp,xx)))) else (.inr (1,(i,xc,xp,xx)))) else (.inr (1,(i,xc,xp,xx)))) else (bif (inB i (vYX .i64 ((n:Int) - 1)).toNat) then (bif (gF1 cbt ebt ((xc (vYX .i64 ((vYX .i64 (2 * i)) + 1)).toNat),(xp (vYX .i64 ((vYX .i64 (2 * i)) + 1)).toNat),(xc (i).toNat),(xp (i).toNat))) then (bif (btB (xc (vYX .i64 ((vYX .i64 (2 * i)) + 1)).toNat) (xp (vYX .i64 ((vYX .i64 (2 * i)) + 1)).toNat) (xc (i).toNat) (xp (i).toNat)) then (.inl ((vYX .i64 ((vYX .i64 (2 * i)) + 1)),(fun v=>(bif (Nat.beq v (vYX .i64 ((vYX .i64 (2 * i)) + 1)).toNat) then (xc (i).toNat) else (bif (Nat.beq v (i).toNat) then (xc (vYX .i64 ((vYX .i64 (2 * i)) + 1)).toNat) else (xc v)))),(fun v=>(bif (Nat.beq v (vYX .i64 ((vYX .i64 (2 * i)) + 1)).toNat) then (xp (i).toNat) else (bif (Nat.beq v (i).toNat) then (xp (vYX .i64 ((vYX .i64 (2 * i)) + 1)).toNat) else (xp v)))),(fun v=>(bif (Nat.beq v (vYX .i64 ((vYX .i64 (2 * i)) + 1)).toNat) then (xx (i).toNat) else (bif (Nat.beq v (i).toNat) then (xx (vYX .i64 ((vYX .i64 (2 * i)) + 1)).toNat) else (xx v)))))) else (.inr (0,(i,xc,xp,xx)))) else (.inr (1,(i,xc,xp,xx)))) else (.inr (1,(i,xc,xp,xx))))) else (.inr (1,(i,xc,xp,xx)))) else (.inr (1,(i,xc,xp,xx)))) else (.inr (1,(i,xc,xp,xx)))) else (bif (inB (vYX .i64 ((vYX .i64 (2 * i)) + 1)) (vYX .i64 ((n:Int) - 1)).toNat) then (bif (inB i (vYX .i64 ((n:Int) - 1)).toNat) then (bif (gF1 cbt ebt ((xc (vYX .i64 ((vYX .i64 (2 * i)) + 1)).toNat),(xp (vYX .i64 ((vYX .i64 (2 * i)) + 1)).toNat),(xc (i).toNat),(xp (i).toNat))) then (bif (btB (xc (vYX .i64 ((vYX .i64 (2 * i)) + 1)).toNat) (xp (vYX .i64 ((vYX .i64 (2 * i)) + 1)).toNat) (xc (i).toNat) (xp (i).toNat)) then (.inl ((vYX .i64 ((vYX .i64 (2 * i)) + 1)),(fun v=>(bif (Nat.beq v (vYX .i64 ((vYX .i64 (2 * i)) + 1)).toNat) then (xc (i).toNat) else (bif (Nat.beq v (i).toNat) then (xc (vYX .i64 ((vYX .i64 (2 * i)) + 1)).toNat) else (xc v)))),(fun v=>(bif (Nat.beq v (vYX .i64 ((vYX .i64 (2 * i)) + 1)).toNat) then (xp (i).toNat) else (bif (Nat.beq v (i).toNat) then (xp (vYX .i64 ((vYX .i64 (2 * i)) + 1)).toNat) else (xp v)))),(fun v=>(bif (Nat.beq v (vYX .i64 ((vYX .i64 (2 * i)) + 1)).toNat) then (xx (i).toNat) else (bif (Nat.beq v (i).toNat) then (xx (vYX .i64 ((vYX .i64 (2 * i)) + 1)).toNat) else (xx v)))))) else (.inr (0,(i,xc,xp,xx)))) else (.inr (1,(i,xc,xp,xx)))) else (.inr (1,(i,xc,xp,xx)))) else (.inr (1,(i,xc,xp,xx))))) else (.inr (0,(i,xc,xp,xx))))
noncomputable def kxpo (N n:Nat) (qc qp qx:Nat→Int) (K:Cont) (w9:Nat × Int × (Nat→Int) × (Nat→Int) × (Nat→Int)):Option (Ret × Mem):=bif Nat.beq w9.1 0 then (K (.exit 0) ⟨[(0,.p 1000000 0),(2,.p 2 0),(3,.o 1000001),(4,.p 4 0)],[(1000000,.blk [.un]),(2,.blk [.v (.n .i64 0),.v (.n .i64 0),.v (.n .i64 0)]),(4,.blk [.v (.n .i64 (qc 0)),.v (.n .i64 (qp 0)),.v (.n .i64 (qx 0))]),(1000001,.reg 98 3 (.fo (vYX .i64 ((n:Int) - 1)).toNat (fun v=>[.n .i64 (w9.2.2.1 v),.n .i64 (w9.2.2.2.1 v),.n .i64 (w9.2.2.2.2 v)])))]⟩) else none
theorem wlpo (K:Cont) (N n:Nat) (qc qp qx:Nat→Int):∀ n9 (t:(Int × (Nat→Int) × (Nat→Int) × (Nat→Int))),LFX N (cxS Tf (orpo N n qc qp qx) N 64 (ntmF Tf 64)) (evX Tf (orpo N n qc qp qx) N 64 (ntmF Tf 64)) (qY []) (qQ Tf 64 [0,1,0,1,1,1,1,1]) [0,1,0,1,1,1,1,1] (Tf.hint 64 (qJ (qQ Tf 64 [0,1,0,1,1,1,1,1]))) K n9 (hpo N n qc qp qx t.1 t.2.1 t.2.2.1 t.2.2.2)=(qU (dcpo n) n9 t).bind (kxpo N n qc qp qx K):=fun n9 t=>by
 refine kG (L:=LFX N (cxS Tf (orpo N n qc qp qx) N 64 (ntmF Tf 64)) (evX Tf (orpo N n qc qp qx) N 64 (ntmF Tf 64)) (qY []) (qQ Tf 64 [0,1,0,1,1,1,1,1]) [0,1,0,1,1,1,1,1] (Tf.hint 64 (qJ (qQ Tf 64 [0,1,0,1,1,1,1,1]))) K) (stp:=zH N (cxS Tf (orpo N n qc qp qx) N 64 (ntmF Tf 64)) (evX Tf (orpo N n qc qp qx) N 64 (ntmF Tf 64)) (qY []) (qQ Tf 64 [0,1,0,1,1,1,1,1]) [0,1,0,1,1,1,1,1] (Tf.hint 64 (qJ (qQ Tf 64 [0,1,0,1,1,1,1,1]))) K) (fun _ _=>rfl) (fun _=>rfl) (fun t=>hpo N n qc qp qx t.1 t.2.1 t.2.2.1 t.2.2.2) (fun _=>True) (dcpo n) (kxpo N n qc qp qx K) (fun G t _ => ?_) (fun _ _ _ _=>trivial) n9 t trivial;obtain ⟨i,xc,xp,xx⟩:=t;refine (rdpo G K N n qc qp qx i xc xp xx).trans ?_;dsimp only [dcpo];cases (decide ((vYX .i64 ((vYX .i64 (2 * i)) + 1)) < (vYX .i64 ((n:Int) - 1))))
 ·rfl
 ·cases (decide ((vYX .i64 ((vYX .i64 ((vYX .i64 (2 * i)) + 1)) + 1)) < (vYX .i64 ((n:Int) - 1))))
  ·cases (inB (vYX .i64 ((vYX .i64 (2 * i)) + 1)) (vYX .i64 ((n:Int) - 1)).toNat)
   ·rfl
   ·cases (inB i (vYX .i64 ((n:Int) - 1)).toNat)
    ·rfl
    ·cases (gF1 cbt ebt ((xc (vYX .i64 ((vYX .i64 (2 * i)) + 1)).toNat),(xp (vYX .i64 ((vYX .i64 (2 * i)) + 1)).toNat),(xc (i).toNat),(xp (i).toNat)))
     ·rfl
     ·cases (btB (xc (vYX .i64 ((vYX .i64 (2 * i)) + 1)).toNat) (xp (vYX .i64 ((vYX .i64 (2 * i)) + 1)).toNat) (xc (i).toNat) (xp (i).toNat))
      ·rfl
      ·rfl
  ·cases (inB (vYX .i64 ((vYX .i64 ((vYX .i64 (2 * i)) + 1)) + 1)) (vYX .i64 ((n:Int) - 1)).toNat)
   ·rfl
   ·cases (inB (vYX .i64 ((vYX .i64 (2 * i)) + 1)) (vYX .i64 ((n:Int) - 1)).toNat)
    ·rfl
    ·cases (gF1 cbt ebt ((xc (vYX .i64 ((vYX .i64 ((vYX .i64 (2 * i)) + 1)) + 1)).toNat),(xp (vYX .i64 ((vYX .i64 ((vYX .i64 (2 * i)) + 1)) + 1)).toNat),(xc (vYX .i64 ((vYX .i64 (2 * i)) + 1)).toNat),(xp (vYX .i64 ((vYX .i64 (2 * i)) + 1)).toNat)))
     ·rfl
     ·cases (btB (xc (vYX .i64 ((vYX .i64 ((vYX .i64 (2 * i)) + 1)) + 1)).toNat) (xp (vYX .i64 ((vYX .i64 ((vYX .i64 (2 * i)) + 1)) + 1)).toNat) (xc (vYX .i64 ((vYX .i64 (2 * i)) + 1)).toNat) (xp (vYX .i64 ((vYX .i64 (2 * i)) + 1)).toNat))
      ·cases (inB i (vYX .i64 ((n:Int) - 1)).toNat)
       ·rfl
       ·cases (gF1 cbt ebt ((xc (vYX .i64 ((vYX .i64 (2 * i)) + 1)).toNat),(xp (vYX .i64 ((vYX .i64 (2 * i)) + 1)).toNat),(xc (i).toNat),(xp (i).toNat)))
        ·rfl
        ·cases (btB (xc (vYX .i64 ((vYX .i64 (2 * i)) + 1)).toNat) (xp (vYX .i64 ((vYX .i64 (2 * i)) + 1)).toNat) (xc (i).toNat) (xp (i).toNat))
         ·rfl
         ·rfl
      ·cases (inB i (vYX .i64 ((n:Int) - 1)).toNat)
       ·rfl
       ·cases (gF1 cbt ebt ((xc (vYX .i64 ((vYX .i64 ((vYX .i64 (2 * i)) + 1)) + 1)).toNat),(xp (vYX .i64 ((vYX .i64 ((vYX .i64 (2 * i)) + 1)) + 1)).toNat),(xc (i).toNat),(xp (i).toNat)))
        ·rfl
        ·cases (btB (xc (vYX .i64 ((vYX .i64 ((vYX .i64 (2 * i)) + 1)) + 1)).toNat) (xp (vYX .i64 ((vYX .i64 ((vYX .i64 (2 * i)) + 1)) + 1)).toNat) (xc (i).toNat) (xp (i).toNat))
         ·rfl
         ·rfl
noncomputable def zWJ (N:Nat) (n:Nat) (t:(Int × (Nat→Int) × (Nat→Int) × (Nat→Int))):Bool:=(qU (dcpo n) N t).isSome
noncomputable def qWL (N:Nat) (n:Nat) (t:(Int × (Nat→Int) × (Nat→Int) × (Nat→Int))):Nat × Int × (Nat→Int) × (Nat→Int) × (Nat→Int):=(qU (dcpo n) N t).getD (99,t)
theorem lwpo (K:Cont) (N n:Nat) (qc qp qx:Nat→Int) (t:(Int × (Nat→Int) × (Nat→Int) × (Nat→Int))) (hg:zWJ N n t=true):LFX N (cxS Tf (orpo N n qc qp qx) N 64 (ntmF Tf 64)) (evX Tf (orpo N n qc qp qx) N 64 (ntmF Tf 64)) (qY []) (qQ Tf 64 [0,1,0,1,1,1,1,1]) [0,1,0,1,1,1,1,1] (Tf.hint 64 (qJ (qQ Tf 64 [0,1,0,1,1,1,1,1]))) K N (hpo N n qc qp qx t.1 t.2.1 t.2.2.1 t.2.2.2)=kxpo N n qc qp qx K (qWL N n t):=by
 refine (wlpo K N n qc qp qx N t).trans ?_;unfold zWJ at hg;unfold qWL;cases h:qU (dcpo n) N t with
 | none=>rw [h] at hg; cases hg
 | some y=>rfl
end Go.Proofs.Ytglkkhpdbfacfaa.Bd
namespace Go.Proofs.Ytglkkhpdbfacfaa.Be
open Go.Rx Rt Go.Sx Go.RowKit Ba Bb Bc Bd
def leR (c1 p1 c2 p2:Int):Prop:=c1 < c2 ∨ (c1=c2∧p1≤p2)
theorem leR.trans {a b c d e f:Int} (_:leR a b c d) (_:leR c d e f):leR a b e f:=by unfold leR at *; omega
theorem leR.refl (a b:Int):leR a b a b:=.inr ⟨rfl,Int.le_refl _⟩
theorem bt_t {a b c d:Int} (h:btB a b c d=true) (_:0 < d):leR a b c d:=by
 unfold btB at h;simp only [Bool.or_eq_true,vQJ,decide_eq_true_eq] at h;unfold leR; omega
theorem bt_f {a b c d:Int} (h:btB a b c d=false):leR c d a b:=by
 unfold btB at h;simp only [Bool.or_eq_false_iff,Bool.and_eq_false_imp,decide_eq_true_eq,decide_eq_false_iff_not] at h;unfold leR; omega
def swF (f:Nat→Int) (p i:Nat):Nat→Int:=fun v=>bif Nat.beq v p then f i else bif Nat.beq v i then f p else f v
theorem qWF (f:Nat→Int) (p i:Nat):swF f p i p=f i:=by unfold swF; rw [Nat.beq_refl]; rfl
theorem swF_i {f:Nat→Int} {p i:Nat}:swF f p i i=f p:=by
 unfold swF;by_cases e:i=p
 ·subst e; rw [Nat.beq_refl]; rfl
 ·rw [uH,vYY e,Nat.beq_refl]; rfl
theorem uU {f:Nat→Int} {p i v:Nat} (h1:v ≠ p) (h2:v ≠ i):swF f p i v=f v:=by
 unfold swF; rw [uH,vYY h1,uH,vYY h2]; rfl
def SubQ (n:Nat) (c p x:Nat→Int) (n':Nat) (c' p' x':Nat→Int):Prop:=∀ k,k < n→∃ j,j < n'∧c k=c' j∧p k=p' j∧x k=x' j
theorem SubQ.refl (n:Nat) (c p x:Nat→Int):SubQ n c p x n c p x:=fun k h=>⟨k,h,rfl,rfl,rfl⟩
theorem SubQ.trans {n n' n'':Nat} {c p x c' p' x' c'' p'' x'':Nat→Int} (h:SubQ n c p x n' c' p' x') (h':SubQ n' c' p' x' n'' c'' p'' x''):SubQ n c p x n'' c'' p'' x'':=fun k hk=>by
 obtain ⟨j,hj,e1,e2,e3⟩:=h k hk;obtain ⟨l,hl,g1,g2,g3⟩:=h' j hj;exact ⟨l,hl,e1.trans g1,e2.trans g2,e3.trans g3⟩
theorem yHX {n a i:Nat} {c p x:Nat→Int} (ha:a < n) (hi:i < n):SubQ n (swF c a i) (swF p a i) (swF x a i) n c p x∧SubQ n c p x n (swF c a i) (swF p a i) (swF x a i):=by
 refine ⟨fun k hk => ?_,fun k hk => ?_⟩
 ·by_cases e1:k=a
  ·subst e1; exact ⟨i,hi,qWF _ _ _,qWF _ _ _,qWF _ _ _⟩
  ·by_cases e2:k=i
   ·subst e2; exact ⟨a,ha,swF_i,swF_i,swF_i⟩
   ·exact ⟨k,hk,uU e1 e2,uU e1 e2,uU e1 e2⟩
 ·by_cases e1:k=a
  ·subst e1; exact ⟨i,hi,swF_i.symm,swF_i.symm,swF_i.symm⟩
  ·by_cases e2:k=i
   ·subst e2; exact ⟨a,ha,(qWF _ _ _).symm,(qWF _ _ _).symm,(qWF _ _ _).symm⟩
   ·exact ⟨k,hk,(uU e1 e2).symm,(uU e1 e2).symm,(uU e1 e2).symm⟩
def Heap (n:Nat) (c p:Nat→Int):Prop:=∀ k,0 < k→k < n→leR (c ((k - 1) / 2)) (p ((k - 1) / 2)) (c k) (p k)
def PosQ (n:Nat) (p:Nat→Int):Prop:=∀ k,k < n→0 < p k
def yHK (n:Nat) (c p:Nat→Int) (i:Nat):Prop:=(∀ k,0 < k→k < n→k ≠ i→leR (c ((k - 1) / 2)) (p ((k - 1) / 2)) (c k) (p k))∧(0 < i→∀ k,0 < k→k < n→(k - 1) / 2=i→leR (c ((i - 1) / 2)) (p ((i - 1) / 2)) (c k) (p k))
theorem jQU {n i:Nat} {c p:Nat→Int} (h:yHK n c p i) (h0:0 < i) (_:i < n) (hl:leR (c i) (p i) (c ((i - 1) / 2)) (p ((i - 1) / 2))):yHK n (swF c ((i - 1) / 2) i) (swF p ((i - 1) / 2) i) ((i - 1) / 2):=by
 obtain ⟨h1,h2⟩:=h;generalize hq:(i - 1) / 2=q at *;have hqi:q < i:=by omega
 refine ⟨fun k k0 kn kq => ?_,fun q0 k k0 kn kp => ?_⟩
 ·by_cases ki:k=i
  ·subst ki;rw [hq,qWF,qWF,swF_i,swF_i]; exact hl
  ·rw [uU kq ki,uU kq ki];by_cases e1:(k - 1) / 2=i
   ·rw [e1,swF_i,swF_i]; exact h2 h0 k k0 kn e1
   ·by_cases e2:(k - 1) / 2=q
    ·rw [e2,qWF,qWF]
     have:=h1 k k0 kn ki
     rw [e2] at this;exact hl.trans this
    ·rw [uU e2 e1,uU e2 e1]; exact h1 k k0 kn ki
 ·have hpq:(q - 1) / 2 < q:=by omega
  rw [uU (show (q - 1) / 2 ≠ q by omega) (show (q - 1) / 2 ≠ i by omega),uU (show (q - 1) / 2 ≠ q by omega) (show (q - 1) / 2 ≠ i by omega)];have a1:=h1 q q0 (by omega) (by omega);by_cases ki:k=i
  ·subst ki; rw [swF_i,swF_i]; exact a1
  ·rw [uU (show k ≠ q by omega) ki,uU (show k ≠ q by omega) ki];have a2:=h1 k k0 kn ki;rw [kp] at a2;exact a1.trans a2
theorem jXK {i:Nat} (_:0 < i) (_:i≤2000000):vYX .i64 ((vYX .i64 ((i:Int) - 1)).tdiv 2)=(((i - 1) / 2:Nat):Int):=by
 rw [yH (show -9223372036854775808≤(i:Int) - 1∧(i:Int) - 1≤9223372036854775807 by omega),show (i:Int) - 1=((i - 1:Nat):Int) by omega,show (2:Int)=((2:Nat):Int) from rfl,← Int.ofNat_tdiv];generalize hq:(i - 1) / 2=q;rw [yH (by omega)]
theorem yKD {n i:Nat} {xc xp xx:Nat→Int} (h0:0 < i) (_:i≤n) (_:n≤1000000):dcpu n ((i:Int),xc,xp,xx)=bif btB (xc i) (xp i) (xc ((i - 1) / 2)) (xp ((i - 1) / 2)) then .inl ((((i - 1) / 2:Nat):Int),swF xc ((i - 1) / 2) i,swF xp ((i - 1) / 2) i,swF xx ((i - 1) / 2) i) else .inr (0,(i:Int),xc,xp,xx):=by
 unfold dcpu;simp only [jXK h0 (show i≤2000000 by omega),vYJ (show (0:Int) < (i:Int) by omega),zU (show i < n + 1 by omega),zU (show (i - 1) / 2 < n + 1 by omega),toN,kW (C:=cbt) (t:=_) trivial,vYQ];rfl
theorem yKC {n:Nat} {xc xp xx:Nat→Int}:dcpu n (((0:Nat):Int),xc,xp,xx)=.inr (0,((0:Nat):Int),xc,xp,xx):=by
 dsimp only [dcpu];rw [vYY (show ¬ (0:Int) < ((0:Nat):Int) by omega)]; rfl
theorem kZJ {n:Nat} (hn:n≤1000000):∀ (i N:Nat) (c p x:Nat→Int),i≤n→i < N→yHK (n + 1) c p i→PosQ (n + 1) p→∃ i' c' p' x',qU (dcpu n) N ((i:Int),c,p,x)=some (0,i',c',p',x')∧Heap (n + 1) c' p'∧PosQ (n + 1) p'∧SubQ (n + 1) c p x (n + 1) c' p' x'∧SubQ (n + 1) c' p' x' (n + 1) c p x:=fun i=>by
 induction i using Nat.strongRecOn with
 | ind i ih =>
  intro N c p x hi hN hh hp;obtain ⟨N,rfl⟩:∃ M,N=M + 1:=⟨N - 1,by omega⟩
  rw [qU];by_cases h0:i=0
  ·subst h0;rw [yKC];exact ⟨_,c,p,x,rfl,fun k k0 kn=>hh.1 k k0 kn (by omega),hp,SubQ.refl _ _ _ _,SubQ.refl _ _ _ _⟩
  ·rw [yKD (by omega) hi hn];cases hb:btB (c i) (p i) (c ((i - 1) / 2)) (p ((i - 1) / 2)) with
   | false =>
    refine ⟨_,c,p,x,rfl,fun k k0 kn => ?_,hp,SubQ.refl _ _ _ _,SubQ.refl _ _ _ _⟩;by_cases e:k=i
    ·subst e; exact bt_f hb
    ·exact hh.1 k k0 kn e
   | true =>
    simp only [vYQ];have hl:=bt_t hb (hp _ (by omega));have hs:=yHX (n:=n + 1) (a:=(i - 1) / 2) (i:=i) (c:=c) (p:=p) (x:=x) (by omega) (by omega);obtain ⟨i',c',p',x',g1,g2,g3,g4,g5⟩:=ih ((i - 1) / 2) (by omega) N _ _ (swF x ((i - 1) / 2) i) (by omega) (by omega) (jQU hh (by omega) (by omega) hl) (fun k hk=>by
     obtain ⟨j,hj,_,e2,_⟩:=hs.1 k hk;rw [e2]; exact hp j hj)
    exact ⟨i',c',p',x',g1,g2,g3,hs.2.trans g4,g5.trans hs.1⟩
def yHU (m:Nat) (c p:Nat→Int) (i:Nat):Prop:=(∀ k,0 < k→k < m→(k - 1) / 2 ≠ i→leR (c ((k - 1) / 2)) (p ((k - 1) / 2)) (c k) (p k))∧(0 < i→∀ k,0 < k→k < m→(k - 1) / 2=i→leR (c ((i - 1) / 2)) (p ((i - 1) / 2)) (c k) (p k))
theorem yKH {m i d:Nat} {c p:Nat→Int} (h:yHU m c p i) (hd0:0 < d) (hd:d < m) (hpd:(d - 1) / 2=i) (hall:∀ k,0 < k→k < m→(k - 1) / 2=i→leR (c d) (p d) (c k) (p k)) (hl:leR (c d) (p d) (c i) (p i)):yHU m (swF c d i) (swF p d i) d:=by
 obtain ⟨h1,h2⟩:=h;refine ⟨fun k k0 km kd => ?_,fun _ k k0 km kd => ?_⟩
 ·by_cases e1:k=d
  ·subst e1; rw [hpd,qWF,qWF,swF_i,swF_i]; exact hl
  ·by_cases e2:k=i
   ·subst e2;rw [swF_i,swF_i,uU (show (k - 1) / 2 ≠ d by omega) (show (k - 1) / 2 ≠ k by omega),uU (show (k - 1) / 2 ≠ d by omega) (show (k - 1) / 2 ≠ k by omega)];exact h2 k0 d hd0 hd hpd
   ·rw [uU e1 e2,uU e1 e2];by_cases e3:(k - 1) / 2=i
    ·rw [e3,swF_i,swF_i]; exact hall k k0 km e3
    ·rw [uU kd e3,uU kd e3]; exact h1 k k0 km e3
 ·rw [hpd,swF_i,swF_i,uU (show k ≠ d by omega) (show k ≠ i by omega),uU (show k ≠ d by omega) (show k ≠ i by omega)]
  have:=h1 k k0 km (by omega)
  rw [kd] at this;exact this
def dnI (m:Nat) (c p:Nat→Int) (i:Nat):Nat:=bif decide (2 * i + 2 < m) && btB (c (2 * i + 2)) (p (2 * i + 2)) (c (2 * i + 1)) (p (2 * i + 1)) then 2 * i + 2 else 2 * i + 1
theorem yGK {m i:Nat} {c p:Nat→Int} (_:2 * i + 1 < m) (hp:PosQ m p):0 < dnI m c p i∧dnI m c p i < m∧(dnI m c p i - 1) / 2=i∧i < dnI m c p i∧∀ k,0 < k→k < m→(k - 1) / 2=i→leR (c (dnI m c p i)) (p (dnI m c p i)) (c k) (p k):=by
 unfold dnI;have hk:∀ k,0 < k→(k - 1) / 2=i→k=2 * i + 1 ∨ k=2 * i + 2:=fun k h1 h2=>by omega
 by_cases h2:2 * i + 2 < m
 ·rw [vYJ h2,vZW];cases hb:btB (c (2 * i + 2)) (p (2 * i + 2)) (c (2 * i + 1)) (p (2 * i + 1)) with
  | true =>
   rw [vYQ];refine ⟨by omega,h2,by omega,by omega,fun k k0 km kp => ?_⟩;rcases hk k k0 kp with rfl | rfl
   ·exact bt_t hb (hp _ (by omega))
   ·exact leR.refl _ _
  | false =>
   rw [vYZ];refine ⟨by omega,by omega,by omega,by omega,fun k k0 km kp => ?_⟩;rcases hk k k0 kp with rfl | rfl
   ·exact leR.refl _ _
   ·exact bt_f hb
 ·rw [vYY h2,Bool.false_and,vYZ];refine ⟨by omega,by omega,by omega,by omega,fun k k0 km kp => ?_⟩;rcases hk k k0 kp with rfl | rfl
  ·exact leR.refl _ _
  ·omega
theorem yKF {n i:Nat} {xc xp xx:Nat→Int} (_:1≤n) (_:n≤1000000) (_:i≤n):dcpo n ((i:Int),xc,xp,xx)=bif decide (2 * i + 1 < n - 1) then (bif btB (xc (dnI (n - 1) xc xp i)) (xp (dnI (n - 1) xc xp i)) (xc i) (xp i) then .inl (((dnI (n - 1) xc xp i:Nat):Int),swF xc (dnI (n - 1) xc xp i) i,swF xp (dnI (n - 1) xc xp i) i,swF xx (dnI (n - 1) xc xp i) i) else .inr (0,(i:Int),xc,xp,xx)) else .inr (0,(i:Int),xc,xp,xx):=by
 have e0:vYX .i64 ((n:Int) - 1)=((n - 1:Nat):Int):=by rw [yH (by omega)]; omega
 have e1:vYX .i64 ((vYX .i64 (2 * (i:Int))) + 1)=((2 * i + 1:Nat):Int):=by
  rw [yH (show -9223372036854775808≤2 * (i:Int)∧2 * (i:Int)≤9223372036854775807 by omega),yH (by omega)]; omega
 have e2:vYX .i64 (((2 * i + 1:Nat):Int) + 1)=((2 * i + 2:Nat):Int):=by rw [yH (by omega)]; omega
 dsimp only [dcpo];simp only [e0,e1,e2,toN,kW (C:=cbt) (t:=_) trivial,vYQ];unfold dnI;by_cases h:2 * i + 1 < n - 1
 ·rw [vYJ (show ((2 * i + 1:Nat):Int) < ((n - 1:Nat):Int) by omega),vYJ h];by_cases h2:2 * i + 2 < n - 1
  ·simp only [vYJ (show ((2 * i + 2:Nat):Int) < ((n - 1:Nat):Int) by omega),vYJ h2,zU h2,zU h,zU (show i < n - 1 by omega),vYQ,vZW];cases hb:btB (xc (2 * i + 2)) (xp (2 * i + 2)) (xc (2 * i + 1)) (xp (2 * i + 1)) <;> simp only [vYQ,vYZ] <;> rfl
  ·simp only [vYY (show ¬ ((2 * i + 2:Nat):Int) < ((n - 1:Nat):Int) by omega),vYY h2,zU h,zU (show i < n - 1 by omega),vYQ,vYZ,Bool.false_and];rfl
 ·rw [vYY (show ¬ ((2 * i + 1:Nat):Int) < ((n - 1:Nat):Int) by omega),vYY h]; rfl
theorem kZU {n:Nat} (h1:1≤n) (hn:n≤1000000):∀ (j i N:Nat) (c p x:Nat→Int),n - i=j→i≤n→j < N→yHU (n - 1) c p i→PosQ (n - 1) p→∃ i' c' p' x',qU (dcpo n) N ((i:Int),c,p,x)=some (0,i',c',p',x')∧Heap (n - 1) c' p'∧PosQ (n - 1) p'∧SubQ (n - 1) c p x (n - 1) c' p' x'∧SubQ (n - 1) c' p' x' (n - 1) c p x:=fun j=>by
 induction j using Nat.strongRecOn with
 | ind j ih =>
  intro i N c p x hj hi hN hh hp;obtain ⟨N,rfl⟩:∃ M,N=M + 1:=⟨N - 1,by omega⟩
  rw [qU,yKF h1 hn hi];by_cases h:2 * i + 1 < n - 1
  ·obtain ⟨d1,d2,d3,d4,d5⟩:=yGK (c:=c) h hp;generalize dnI (n - 1) c p i=d at *;rw [vYJ h,vYQ];cases hb:btB (c d) (p d) (c i) (p i) with
   | false =>
    refine ⟨_,c,p,x,rfl,fun k k0 kn => ?_,hp,SubQ.refl _ _ _ _,SubQ.refl _ _ _ _⟩;by_cases e:(k - 1) / 2=i
    ·rw [e]; exact (bt_f hb).trans (d5 k k0 kn e)
    ·exact hh.1 k k0 kn e
   | true =>
    simp only [vYQ];have hl:=bt_t hb (hp _ (by omega));have hs:=yHX (n:=n - 1) (a:=d) (i:=i) (c:=c) (p:=p) (x:=x) d2 (by omega);obtain ⟨i',c',p',x',g1,g2,g3,g4,g5⟩:=ih (n - d) (by omega) d N _ _ (swF x d i) rfl (by omega) (by omega) (yKH hh d1 d2 d3 d5 hl) (fun k hk=>by
     obtain ⟨j,hj,_,e2,_⟩:=hs.1 k hk;rw [e2]; exact hp j hj)
    exact ⟨i',c',p',x',g1,g2,g3,hs.2.trans g4,g5.trans hs.1⟩
  ·rw [vYY h,vYZ];refine ⟨_,c,p,x,rfl,fun k k0 kn=>hh.1 k k0 kn (by omega),hp,SubQ.refl _ _ _ _,SubQ.refl _ _ _ _⟩
theorem zGU {n:Nat} {c p:Nat→Int} (h:Heap n c p):∀ k,k < n→leR (c 0) (p 0) (c k) (p k):=fun k=>by
 induction k using Nat.strongRecOn with
 | ind k ih =>
  intro hk;by_cases e:k=0
  ·subst e; exact leR.refl _ _
  ·exact (ih ((k - 1) / 2) (by omega) (by omega)).trans (h k (by omega) hk)
end Go.Proofs.Ytglkkhpdbfacfaa.Be

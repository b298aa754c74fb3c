/- Part 22 of the texts behind the last one: rules and contracts. No condition. -/
import Derived.Test.YtklmegnpfhiibaaGreatBK21
open Option.some renaming injEq → vQZ
open Bool renaming and_eq_true → vQJ, true_and → vZW
open List renaming getElem?_eq_getElem → vQK, mem_cons → vZG
open Go.IntKind renaming wrap → vYW
namespace Go.Proofs.YtklmegnpfhiibaaGreat.Bb
open Go.Rx Rt Go.Sx Go.RowKit Ba
structure Ed where
 u:Int
 v:Int
 c:Int
 s:Int
 kd:Int
 dp:Int
 ix:Int
 pr:Int
 n1:Nat
 f1:Nat→List PV
 n2:Nat
 f2:Nat→List PV
 n3:Nat
 f3:Nat→List PV
 n4:Nat
 f4:Nat→List PV
def edP (e:Ed):List PV:=[.n .i64 e.u,.n .i64 e.v,.n .i64 e.c,.n .i64 e.s,.n .i64 e.kd,.lf e.n1 e.f1,.n .i64 e.dp,.n .i64 e.ix,.lf e.n2 e.f2,.n .i64 e.pr,.lf e.n3 e.f3,.lf e.n4 e.f4]
def fE (ed:Nat→Ed):Nat→List PV:=fun v=>edP (ed v)
structure Gr where
 np:Nat
 pt:Nat→List PV
 ne:Nat
 ed:Nat→Ed
def gP (g:Gr):List PV:=[.lf g.np g.pt,.lf g.ne (fE g.ed)]
def unE (r:List PV):Ed:=match r with
 | [.n _ u,.n _ v,.n _ c,.n _ s,.n _ kd,.lf n1 f1,.n _ dp,.n _ ix,.lf n2 f2,.n _ pr,.lf n3 f3,.lf n4 f4]=>⟨u,v,c,s,kd,dp,ix,pr,n1,f1,n2,f2,n3,f3,n4,f4⟩
 | _=>⟨0,0,0,0,0,0,0,0,0,fun _=>[],0,fun _=>[],0,fun _=>[],0,fun _=>[]⟩
def unFE (f:Nat→List PV):Nat→Ed:=fun v=>unE (f v)
def isP (g:Gr) (v:Int):Bool:=decide (0≤v) && decide (v < (g.np:Int))
def usB (s m:Int):Bool:=bif decide (m=0) then decide (s=1) else bif decide (m=1) then decide (s=1) || decide (s=0) else bif decide (m=2) then !decide (s=2) else false
def lsB (a b c d:Int):Bool:=bif decide (c < 0) || decide (a < 0) then decide (0≤a) && decide (c < 0) else decide (a < c) || (decide (a=c) && decide (b < d))
def cpI (u v a b:Int):Int:=bif decide (u < a) then -1 else bif decide (a < u) then 1 else bif decide (v < b) then -1 else bif decide (b < v) then 1 else 0
noncomputable def orip (g:Gr) (v:Int):OrS:=orS [] []
noncomputable def lsip (g:Gr) (v:Int):List (List Nat × yV):=[]
set_option maxRecDepth 100000 in
theorem pxip (g:Gr) (v:Int):qQI Tf (orip g v) (qY (lsip g v)) 60 81 [.a (gP g),.n .i64 v] =
 (bif (decide (0≤v)) then (bif (decide (v < (g.np:Int))) then some (.v (.b true),[])
 else some (.v (.b false),[]))
 else some (.v (.b false),[])):=by kernel_rfl
theorem snd_ip (g:Gr) (v:Int):zY Tryz.prog 81 [.a (gP g),.n .i64 v] (.v (.b (isP g v))):=by
 refine qH (N:=60) (LO:=qY (lsip g v)) jY yH (jK (l:=[]) (m:=[]) trivial trivial) (fun p S hp => ?_) ?_
 ·refine qX (L:=qZ Tf 81) (l:=(lsip g v)) (show AllP _ (lsip g v) from trivial) p S hp
 ·refine (pxip g v).trans ?_;unfold isP;cases decide (0≤v) <;> cases decide (v < (g.np:Int)) <;> rfl
def cip:Gr × Int→Prop:=fun t=>match t with | (_,_)=>True
def eip:Gr × Int→List PV:=fun t=>match t with | (g,v)=>[.a (gP g),.n .i64 v]
noncomputable def rip:Gr × Int→Ret:=fun t=>match t with | (g,v)=>.v (.b (isP g v))
def dip:List PV→Gr × Int:=fun ps=>match ps with
 | [.a [.lf np pt,.lf ne ed],.n _ v]=>(⟨np,pt,ne,unFE ed⟩,v)
 | _=>(⟨0,fun _=>[],0,fun _=>unE []⟩,0)
noncomputable def o_ip:List PV→Option (Bool × Ret):=o_fm dip cip eip rip
theorem ok_ip:jH Tryz.prog 81 o_ip:=qQD fun t h=>by
 obtain ⟨g,v⟩:=t;exact snd_ip g v
noncomputable def orus (s m:Int):OrS:=orS [] []
noncomputable def lsus (s m:Int):List (List Nat × yV):=[]
set_option maxRecDepth 100000 in
theorem pxus (s m:Int):qQI Tf (orus s m) (qY (lsus s m)) 60 117 [.n .i64 s,.n .i64 m] =
 (bif (decide (m=0)) then (bif (decide (s=1)) then some (.v (.b true),[])
 else some (.v (.b false),[]))
 else (bif (decide (m=1)) then (bif (decide (s=1)) then some (.v (.b true),[])
 else (bif (decide (s=0)) then some (.v (.b true),[])
 else some (.v (.b false),[])))
 else (bif (decide (m=2)) then (bif (!decide (s=2)) then some (.v (.b true),[])
 else some (.v (.b false),[]))
 else some (.v (.b false),[])))):=by kernel_rfl
theorem snd_us (s m:Int):zY Tryz.prog 117 [.n .i64 s,.n .i64 m] (.v (.b (usB s m))):=by
 refine qH (N:=60) (LO:=qY (lsus s m)) jY yH (jK (l:=[]) (m:=[]) trivial trivial) (fun p S hp => ?_) ?_
 ·refine qX (L:=qZ Tf 117) (l:=(lsus s m)) (show AllP _ (lsus s m) from trivial) p S hp
 ·refine (pxus s m).trans ?_;unfold usB;cases decide (m=0) <;> cases decide (m=1) <;> cases decide (m=2) <;> cases decide (s=0) <;> cases decide (s=1) <;> cases decide (s=2) <;> rfl
def cus:Int × Int→Prop:=fun t=>match t with | (_,_)=>True
def eus:Int × Int→List PV:=fun t=>match t with | (s,m)=>[.n .i64 s,.n .i64 m]
noncomputable def rus:Int × Int→Ret:=fun t=>match t with | (s,m)=>.v (.b (usB s m))
def dus:List PV→Int × Int:=fun ps=>match ps with
 | [.n _ a,.n _ b]=>(a,b)
 | _=>(0,0)
noncomputable def o_us:List PV→Option (Bool × Ret):=o_fm dus cus eus rus
theorem ok_us:jH Tryz.prog 117 o_us:=qQD fun t h=>by
 obtain ⟨s,m⟩:=t;exact snd_us s m
noncomputable def orrus (e:Ed) (m:Int):OrS:=orS [] []
noncomputable def yZD (e:Ed) (m:Int):List (List Nat × yV):=[]
set_option maxRecDepth 100000 in
theorem pxrus (e:Ed) (m:Int):qQI Tf (orrus e m) (qY (yZD e m)) 60 40 [.a [.n .i64 e.u,.n .i64 e.v,.n .i64 e.c,.n .i64 e.s,.n .i64 e.kd,.lf e.n1 e.f1,.n .i64 e.dp,.n .i64 e.ix,.lf e.n2 e.f2,.n .i64 e.pr,.lf e.n3 e.f3,.lf e.n4 e.f4],.n .i64 m] =
 (bif (decide (m=0)) then (bif (decide (e.s=1)) then some (.v (.b true),[])
 else some (.v (.b false),[]))
 else (bif (decide (m=1)) then (bif (decide (e.s=1)) then some (.v (.b true),[])
 else (bif (decide (e.s=0)) then some (.v (.b true),[])
 else some (.v (.b false),[])))
 else (bif (decide (m=2)) then (bif (!decide (e.s=2)) then some (.v (.b true),[])
 else some (.v (.b false),[]))
 else some (.v (.b false),[])))):=by kernel_rfl
theorem snd_rus (e:Ed) (m:Int):zY Tryz.prog 40 [.a [.n .i64 e.u,.n .i64 e.v,.n .i64 e.c,.n .i64 e.s,.n .i64 e.kd,.lf e.n1 e.f1,.n .i64 e.dp,.n .i64 e.ix,.lf e.n2 e.f2,.n .i64 e.pr,.lf e.n3 e.f3,.lf e.n4 e.f4],.n .i64 m] (.v (.b (usB e.s m))):=by
 refine qH (N:=60) (LO:=qY (yZD e m)) jY yH (jK (l:=[]) (m:=[]) trivial trivial) (fun p S hp => ?_) ?_
 ·refine qX (L:=qZ Tf 40) (l:=(yZD e m)) (show AllP _ (yZD e m) from trivial) p S hp
 ·refine (pxrus e m).trans ?_;unfold usB;cases decide (m=0) <;> cases decide (m=1) <;> cases decide (m=2) <;> cases decide (e.s=0) <;> cases decide (e.s=1) <;> cases decide (e.s=2) <;> rfl
def cru:Ed × Int→Prop:=fun t=>match t with | (_,_)=>True
def eru:Ed × Int→List PV:=fun t=>match t with | (e,m)=>[.a (edP e),.n .i64 m]
noncomputable def rru:Ed × Int→Ret:=fun t=>match t with | (e,m)=>.v (.b (usB e.s m))
def dru:List PV→Ed × Int:=fun ps=>match ps with
 | [.a r,.n _ b]=>(unE r,b)
 | _=>(unE [],0)
noncomputable def o_ru:List PV→Option (Bool × Ret):=o_fm dru cru eru rru
theorem ok_ru:jH Tryz.prog 40 o_ru:=qQD fun t h=>by
 obtain ⟨e,m⟩:=t;exact snd_rus e m
noncomputable def orls (a b c d:Int):OrS:=orS [] []
noncomputable def lsls (a b c d:Int):List (List Nat × yV):=[]
set_option maxRecDepth 100000 in
theorem pxls (a b c d:Int):qQI Tf (orls a b c d) (qY (lsls a b c d)) 60 70 [.a [.n .i64 a,.n .i64 b],.a [.n .i64 c,.n .i64 d]] =
 (bif (decide (c < 0)) then (bif (decide (0≤a)) then (bif (decide (c < 0)) then some (.v (.b true),[])
 else some (.v (.b false),[]))
 else some (.v (.b false),[]))
 else (bif (decide (a < 0)) then (bif (decide (0≤a)) then (bif (decide (c < 0)) then some (.v (.b true),[])
 else some (.v (.b false),[]))
 else some (.v (.b false),[]))
 else (bif (decide (a < c)) then some (.v (.b true),[])
 else (bif (decide (a=c)) then (bif (decide (b < d)) then some (.v (.b true),[])
 else some (.v (.b false),[]))
 else some (.v (.b false),[]))))):=by kernel_rfl
theorem snd_ls (a b c d:Int):zY Tryz.prog 70 [.a [.n .i64 a,.n .i64 b],.a [.n .i64 c,.n .i64 d]] (.v (.b (lsB a b c d))):=by
 refine qH (N:=60) (LO:=qY (lsls a b c d)) jY yH (jK (l:=[]) (m:=[]) trivial trivial) (fun p S hp => ?_) ?_
 ·refine qX (L:=qZ Tf 70) (l:=(lsls a b c d)) (show AllP _ (lsls a b c d) from trivial) p S hp
 ·refine (pxls a b c d).trans ?_;unfold lsB;cases decide (c < 0) <;> cases decide (a < 0) <;> cases decide (0≤a) <;> cases decide (a < c) <;> cases decide (a=c) <;> cases decide (b < d) <;> rfl
def cls:Int × Int × Int × Int→Prop:=fun t=>match t with | (_,_,_,_)=>True
def els:Int × Int × Int × Int→List PV:=fun t=>match t with | (a,b,c,d)=>[.a [.n .i64 a,.n .i64 b],.a [.n .i64 c,.n .i64 d]]
noncomputable def rls:Int × Int × Int × Int→Ret:=fun t=>match t with | (a,b,c,d)=>.v (.b (lsB a b c d))
def dls:List PV→Int × Int × Int × Int:=fun ps=>match ps with
 | [.a [.n _ a,.n _ b],.a [.n _ c,.n _ d]]=>(a,b,c,d)
 | _=>(0,0,0,0)
noncomputable def o_ls:List PV→Option (Bool × Ret):=o_fm dls cls els rls
theorem ok_ls:jH Tryz.prog 70 o_ls:=qQD fun t h=>by
 obtain ⟨a,b,c,d⟩:=t;exact snd_ls a b c d
noncomputable def orcp (e:Ed) (a b:Int):OrS:=orS [] []
noncomputable def lscp (e:Ed) (a b:Int):List (List Nat × yV):=[]
set_option maxRecDepth 100000 in
theorem pxcp (e:Ed) (a b:Int):qQI Tf (orcp e a b) (qY (lscp e a b)) 60 111 [.a (edP e),.a [.n .i64 a,.n .i64 b]] =
 (bif (!decide (e.u=e.u)) then (bif (!decide (a=a)) then (bif (!decide (e.v=e.v)) then (bif (!decide (b=b)) then some (.v (.n .i64 0),[])
 else some (.v (.n .i64 (-1)),[]))
 else (bif (!decide (b=b)) then some (.v (.n .i64 1),[])
 else (bif (decide (e.v < b)) then some (.v (.n .i64 (-1)),[])
 else (bif (decide (b < e.v)) then some (.v (.n .i64 1),[])
 else some (.v (.n .i64 0),[])))))
 else (bif (!decide (e.v=e.v)) then (bif (!decide (b=b)) then some (.v (.n .i64 (-1)),[])
 else some (.v (.n .i64 (-1)),[]))
 else (bif (!decide (b=b)) then some (.v (.n .i64 (-1)),[])
 else (bif (decide (e.v < b)) then some (.v (.n .i64 (-1)),[])
 else (bif (decide (b < e.v)) then some (.v (.n .i64 (-1)),[])
 else some (.v (.n .i64 (-1)),[]))))))
 else (bif (!decide (a=a)) then (bif (!decide (e.v=e.v)) then (bif (!decide (b=b)) then some (.v (.n .i64 1),[])
 else some (.v (.n .i64 1),[]))
 else (bif (!decide (b=b)) then some (.v (.n .i64 1),[])
 else (bif (decide (e.v < b)) then some (.v (.n .i64 1),[])
 else (bif (decide (b < e.v)) then some (.v (.n .i64 1),[])
 else some (.v (.n .i64 1),[])))))
 else (bif (decide (e.u < a)) then (bif (!decide (e.v=e.v)) then (bif (!decide (b=b)) then some (.v (.n .i64 (-1)),[])
 else some (.v (.n .i64 (-1)),[]))
 else (bif (!decide (b=b)) then some (.v (.n .i64 (-1)),[])
 else (bif (decide (e.v < b)) then some (.v (.n .i64 (-1)),[])
 else (bif (decide (b < e.v)) then some (.v (.n .i64 (-1)),[])
 else some (.v (.n .i64 (-1)),[])))))
 else (bif (decide (a < e.u)) then (bif (!decide (e.v=e.v)) then (bif (!decide (b=b)) then some (.v (.n .i64 1),[])
 else some (.v (.n .i64 1),[]))
 else (bif (!decide (b=b)) then some (.v (.n .i64 1),[])
 else (bif (decide (e.v < b)) then some (.v (.n .i64 1),[])
 else (bif (decide (b < e.v)) then some (.v (.n .i64 1),[])
 else some (.v (.n .i64 1),[])))))
 else (bif (!decide (e.v=e.v)) then (bif (!decide (b=b)) then some (.v (.n .i64 0),[])
 else some (.v (.n .i64 (-1)),[]))
 else (bif (!decide (b=b)) then some (.v (.n .i64 1),[])
 else (bif (decide (e.v < b)) then some (.v (.n .i64 (-1)),[])
 else (bif (decide (b < e.v)) then some (.v (.n .i64 1),[])
 else some (.v (.n .i64 0),[]))))))))):=by kernel_rfl
theorem snd_cp (e:Ed) (a b:Int):zY Tryz.prog 111 [.a (edP e),.a [.n .i64 a,.n .i64 b]] (.v (.n .i64 (cpI e.u e.v a b))):=by
 refine qH (N:=60) (LO:=qY (lscp e a b)) jY yH (jK (l:=[]) (m:=[]) trivial trivial) (fun p S hp => ?_) ?_
 ·refine qX (L:=qZ Tf 111) (l:=(lscp e a b)) (show AllP _ (lscp e a b) from trivial) p S hp
 ·refine (pxcp e a b).trans ?_;unfold cpI;simp only [decide_true,Bool.not_true,vYY];cases decide (e.u < a) <;> cases decide (a < e.u) <;> cases decide (e.v < b) <;> cases decide (b < e.v) <;> rfl
def ccp:Ed × Int × Int→Prop:=fun t=>match t with | (_,_,_)=>True
def ecp:Ed × Int × Int→List PV:=fun t=>match t with | (e,a,b)=>[.a (edP e),.a [.n .i64 a,.n .i64 b]]
noncomputable def rcp:Ed × Int × Int→Ret:=fun t=>match t with | (e,a,b)=>.v (.n .i64 (cpI e.u e.v a b))
def dcp:List PV→Ed × Int × Int:=fun ps=>match ps with
 | [.a r,.a [.n _ a,.n _ b]]=>(unE r,a,b)
 | _=>(unE [],0,0)
noncomputable def o_cp:List PV→Option (Bool × Ret):=o_fm dcp ccp ecp rcp
theorem yJV:jH Tryz.prog 111 o_cp:=qQD fun t h=>by
 obtain ⟨e,a,b⟩:=t;exact snd_cp e a b
def okE (g:Gr) (i:Nat):Bool:=isP g (g.ed i).u && (isP g (g.ed i).v && (!decide ((g.ed i).v≤(g.ed i).u) && (!decide ((g.ed i).c < 0) && (!decide (1099511627776 < (g.ed i).c) && (decide (i=0) || !decide (0≤cpI (g.ed (i - 1)).u (g.ed (i - 1)).v (g.ed i).u (g.ed i).v))))))
def wfB (g:Gr):Bool:=decide (g.np≤1024) && (decide (g.ne≤8192) && allN (fun i:Nat=>okE g i) g.ne 0)
noncomputable def orwf (g:Gr):OrS:=orS [(81,o_ip),(111,o_cp)] []
noncomputable def hwf (g:Gr) (i:Int):St:=⟨[(1,.p 1 0),(17,.v (.n .i64 (g.ne:Int))),(18,.v (.n .i64 i))],[(1,.blk [.v (.lf g.np g.pt),.v (.lf g.ne (fE g.ed))])]⟩
set_option maxRecDepth 100000 in
theorem rdwf (G:St→Option (Ret × Mem)) (K:Cont) (g:Gr) (i:Int):stpT Tf 80 (orwf g) (g.ne + 10) [] [0,1,0,1,1] K G (hwf g i) =
 (bif (decide (i < (g.ne:Int))) then (bif (inB i g.ne) then (bif (gF1 cip eip (g,((g.ed (i).toNat).u))) then (bif (isP g ((g.ed (i).toNat).u)) then (bif (gF1 cip eip (g,((g.ed (i).toNat).v))) then (bif (isP g ((g.ed (i).toNat).v)) then (bif (decide ((g.ed (i).toNat).v≤(g.ed (i).toNat).u)) then (K .ret ⟨[(2,.v (.b false))],[]⟩)
 else (bif (decide ((g.ed (i).toNat).c < 0)) then (K .ret ⟨[(2,.v (.b false))],[]⟩)
 else (bif (decide (1099511627776 < (g.ed (i).toNat).c)) then (K .ret ⟨[(2,.v (.b false))],[]⟩)
 else (bif (decide (0 < i)) then (bif (inB (vYW .i64 (i - 1)) g.ne) then (bif (gF1 ccp ecp ((g.ed ((vYW .i64 (i - 1))).toNat),((g.ed (i).toNat).u),((g.ed (i).toNat).v))) then (bif (decide (0≤(cpI (g.ed ((vYW .i64 (i - 1))).toNat).u (g.ed ((vYW .i64 (i - 1))).toNat).v ((g.ed (i).toNat).u) ((g.ed (i).toNat).v)))) then (K .ret ⟨[(2,.v (.b false))],[]⟩)
 else (G (hwf g (vYW .i64 (i + 1)))))
 else none)
 else none)
 else (G (hwf g (vYW .i64 (i + 1))))))))
 else (K .ret ⟨[(2,.v (.b false))],[]⟩))
 else none)
 else (K .ret ⟨[(2,.v (.b false))],[]⟩))
 else none)
 else none)
 else (K (.exit 0) ⟨[],[]⟩)):=by kernel_rfl
theorem lpwf (K:Cont) (g:Gr) (_:g.ne≤8192):LFT Tf 80 (orwf g) (g.ne + 10) [] [0,1,0,1,1] K (g.ne + 10) (hwf g 0)=bif (allN (fun i:Nat=>okE g i) g.ne 0) then (K (.exit 0) ⟨[],[]⟩) else (K .ret ⟨[(2,.v (.b false))],[]⟩):=by
 refine (qKL (L:=LFT Tf 80 (orwf g) (g.ne + 10) [] [0,1,0,1,1] K) (stp:=stpT Tf 80 (orwf g) (g.ne + 10) [] [0,1,0,1,1] K) (fun _ _=>rfl) (fun (i:Nat) (_:Unit)=>hwf g (i:Int)) (fun _ _=>True) (fun (i:Nat) _=>okE g i) (fun _ _=>()) (c:=g.ne) (fun _=>(K (.exit 0) ⟨[],[]⟩)) (fun i _=>(K .ret ⟨[(2,.v (.b false))],[]⟩)) (fun G i f hi _ => ?_) (fun _ _ _ _ _=>trivial) (fun G f _ => ?_) g.ne 0 (g.ne + 10) () (by omega) (by omega) trivial).trans ((qKC _ _ _ _ _).trans (qQA _ _ _ _ _))
 ·refine (rdwf G K g i).trans ?_;rw [vYK (show (i:Int) < (g.ne:Int) by omega),jG (by omega),zU (show i < g.ne by omega)];simp only [toN,jV (C:=cip) (t:=_) trivial,vYZ];by_cases h0:i=0
  ·have e0:decide (0 < (i:Int))=false:=vYJ (by omega);simp only [okE,e0,vYK h0,Bool.true_or,vYY,Bool.and_true];cases isP g (g.ed i).u <;> cases isP g (g.ed i).v <;> cases decide ((g.ed i).v≤(g.ed i).u) <;> cases decide ((g.ed i).c < 0) <;> cases decide (1099511627776 < (g.ed i).c) <;> rfl
  ·have e0:decide (0 < (i:Int))=true:=vYK (by omega);have e1:vYW .i64 ((i:Int) - 1)=((i - 1:Nat):Int):=by rw [zV (by omega)]; omega
   simp only [okE,e0,e1,toN,zU (show i - 1 < g.ne by omega),jV (C:=ccp) (t:=_) trivial,vYJ h0,Bool.false_or,vYZ];cases isP g (g.ed i).u <;> cases isP g (g.ed i).v <;> cases decide ((g.ed i).v≤(g.ed i).u) <;> cases decide ((g.ed i).c < 0) <;> cases decide (1099511627776 < (g.ed i).c) <;> cases decide (0≤cpI (g.ed (i - 1)).u (g.ed (i - 1)).v (g.ed i).u (g.ed i).v) <;> rfl
 ·refine (rdwf G K g g.ne).trans ?_;rw [vYJ (show ¬ (g.ne:Int) < (g.ne:Int) by omega)];rfl
noncomputable def lswf (g:Gr):List (List Nat × yV):=[([0,1,0,1,1],sumF (fun _:Unit=>(hwf g 0)) (fun _=>()) (fun _ K=>(bif (decide (g.ne≤8192)) then (bif (allN (fun i:Nat=>okE g i) g.ne 0) then (K (.exit 0) ⟨[],[]⟩) else (K .ret ⟨[(2,.v (.b false))],[]⟩)) else none)))]
set_option maxRecDepth 100000 in
theorem pxwf (g:Gr):qQI Tf (orwf g) (qY (lswf g)) (g.ne + 10) 80 [.a (gP g)] =
 (bif (decide (1024 < (g.np:Int))) then some (.v (.b false),[])
 else (bif (decide (8192 < (g.ne:Int))) then some (.v (.b false),[])
 else (bif (gSt (hwf g 0) (hwf g 0)) then (bif (decide (g.ne≤8192)) then (bif (allN (fun i:Nat=>okE g i) g.ne 0) then some (.v (.b true),[])
 else some (.v (.b false),[]))
 else none)
 else none))):=by kernel_rfl
theorem snd_wf (g:Gr):zY Tryz.prog 80 [.a (gP g)] (.v (.b (wfB g))):=by
 refine qH (N:=(g.ne + 10)) (LO:=qY (lswf g)) jY yH (jK (l:=[(81,o_ip),(111,o_cp)]) (m:=[]) ⟨ok_ip,yJV,trivial⟩ trivial) (fun p S hp => ?_) ?_
 ·refine qX (L:=qZ Tf 80) (l:=(lswf g)) (show AllP _ (lswf g) from ⟨?_,trivial⟩) p S hp
  ·dsimp only;refine jQ (T:=Tf) (o:=(orwf g)) (f:=80) (LO:=qY []) (p:=[0,1,0,1,1]) jU ?_;intro t K r hr;obtain ⟨hg,hr⟩:=qQ hr;have hn:=vYU hg;exact (lpwf K g hn).trans hr
 ·refine (pxwf g).trans ?_;unfold wfB;by_cases h1:g.np≤1024
  ·rw [vYJ (show ¬ (1024:Int) < (g.np:Int) by omega),vYK h1];by_cases h2:g.ne≤8192
   ·rw [vYJ (show ¬ (8192:Int) < (g.ne:Int) by omega),vYK h2];simp only [zW,vYZ,vYY,vZW];cases allN (fun i:Nat=>okE g i) g.ne 0 <;> rfl
   ·rw [vYK (show (8192:Int) < (g.ne:Int) by omega),vYJ h2]; rfl
  ·rw [vYK (show (1024:Int) < (g.np:Int) by omega),vYJ h1]; rfl
def cwf:Gr→Prop:=fun t=>match t with | _=>True
def ewf:Gr→List PV:=fun t=>match t with | g=>[.a (gP g)]
noncomputable def rwf:Gr→Ret:=fun t=>match t with | g=>.v (.b (wfB g))
def dwf:List PV→Gr:=fun ps=>match ps with
 | [.a [.lf np pt,.lf ne ed]]=>⟨np,pt,ne,unFE ed⟩
 | _=>⟨0,fun _=>[],0,fun _=>unE []⟩
noncomputable def o_wf:List PV→Option (Bool × Ret):=o_fm dwf cwf ewf rwf
theorem ok_wf:jH Tryz.prog 80 o_wf:=qQD fun t h=>by
 revert h; revert t; intro g h
 exact snd_wf g
def coE (g:Gr) (i:Nat):Bool:=!decide ((g.ed i).c < 0) && !decide (1099511627776 < (g.ed i).c)
def orE (g:Gr) (i:Nat):Bool:=!decide ((g.ed i).u < 0) && (!decide ((g.ed i).v≤(g.ed i).u) && (!decide ((g.np:Int)≤(g.ed i).v) && (decide (i=0) || (!decide ((g.ed i).u < (g.ed (i - 1)).u) && !(decide ((g.ed (i - 1)).u=(g.ed i).u) && decide ((g.ed i).v≤(g.ed (i - 1)).v))))))
def odB (g:Gr):Bool:=allN (fun i:Nat=>orE g i) g.ne 0 && (decide (g.np≤1024) && decide (g.ne≤8192))
def frB (g:Gr):Bool:=allN (fun i:Nat=>coE g i) g.ne 0 && odB g
noncomputable def oror (g:Gr):OrS:=orS [] []
noncomputable def hor (g:Gr) (i:Int):St:=⟨[(1,.p 1 0),(3,.v (.n .i64 i))],[(1,.blk [.v (.lf g.np g.pt),.v (.lf g.ne (fE g.ed))])]⟩
set_option maxRecDepth 100000 in
theorem rdor (G:St→Option (Ret × Mem)) (K:Cont) (g:Gr) (i:Int):stpT Tf 96 (oror g) (g.ne + 10) [] [0,1,0,1] K G (hor g i) =
 (bif (decide (i < (g.ne:Int))) then (bif (inB i g.ne) then (bif (decide ((g.ed (i).toNat).u < 0)) then (K .ret ⟨[(1,.p 1 0),(2,.v (.b false))],[(1,.blk [.v (.lf g.np g.pt),.v (.lf g.ne (fE g.ed))])]⟩)
 else (bif (decide ((g.ed (i).toNat).v≤(g.ed (i).toNat).u)) then (K .ret ⟨[(1,.p 1 0),(2,.v (.b false))],[(1,.blk [.v (.lf g.np g.pt),.v (.lf g.ne (fE g.ed))])]⟩)
 else (bif (decide ((g.np:Int)≤(g.ed (i).toNat).v)) then (K .ret ⟨[(1,.p 1 0),(2,.v (.b false))],[(1,.blk [.v (.lf g.np g.pt),.v (.lf g.ne (fE g.ed))])]⟩)
 else (bif (decide (0 < i)) then (bif (inB (vYW .i64 (i - 1)) g.ne) then (bif (decide ((g.ed (i).toNat).u < (g.ed ((vYW .i64 (i - 1))).toNat).u)) then (K .ret ⟨[(1,.p 1 0),(2,.v (.b false))],[(1,.blk [.v (.lf g.np g.pt),.v (.lf g.ne (fE g.ed))])]⟩)
 else (bif (inB (vYW .i64 (i - 1)) g.ne) then (bif (decide ((g.ed ((vYW .i64 (i - 1))).toNat).u=(g.ed (i).toNat).u)) then (bif (inB (vYW .i64 (i - 1)) g.ne) then (bif (decide ((g.ed (i).toNat).v≤(g.ed ((vYW .i64 (i - 1))).toNat).v)) then (K .ret ⟨[(1,.p 1 0),(2,.v (.b false))],[(1,.blk [.v (.lf g.np g.pt),.v (.lf g.ne (fE g.ed))])]⟩)
 else (G (hor g (vYW .i64 (i + 1)))))
 else none)
 else (G (hor g (vYW .i64 (i + 1)))))
 else none))
 else none)
 else (G (hor g (vYW .i64 (i + 1))))))))
 else none)
 else (K (.exit 0) ⟨[(1,.p 1 0)],[(1,.blk [.v (.lf g.np g.pt),.v (.lf g.ne (fE g.ed))])]⟩)):=by kernel_rfl
theorem lpor (K:Cont) (g:Gr) (_:g.ne≤8192):LFT Tf 96 (oror g) (g.ne + 10) [] [0,1,0,1] K (g.ne + 10) (hor g 0)=bif (allN (fun i:Nat=>orE g i) g.ne 0) then (K (.exit 0) ⟨[(1,.p 1 0)],[(1,.blk [.v (.lf g.np g.pt),.v (.lf g.ne (fE g.ed))])]⟩) else (K .ret ⟨[(1,.p 1 0),(2,.v (.b false))],[(1,.blk [.v (.lf g.np g.pt),.v (.lf g.ne (fE g.ed))])]⟩):=by
 refine (qKL (L:=LFT Tf 96 (oror g) (g.ne + 10) [] [0,1,0,1] K) (stp:=stpT Tf 96 (oror g) (g.ne + 10) [] [0,1,0,1] K) (fun _ _=>rfl) (fun (i:Nat) (_:Unit)=>hor g (i:Int)) (fun _ _=>True) (fun (i:Nat) _=>orE g i) (fun _ _=>()) (c:=g.ne) (fun _=>(K (.exit 0) ⟨[(1,.p 1 0)],[(1,.blk [.v (.lf g.np g.pt),.v (.lf g.ne (fE g.ed))])]⟩)) (fun i _=>(K .ret ⟨[(1,.p 1 0),(2,.v (.b false))],[(1,.blk [.v (.lf g.np g.pt),.v (.lf g.ne (fE g.ed))])]⟩)) (fun G i f hi _ => ?_) (fun _ _ _ _ _=>trivial) (fun G f _ => ?_) g.ne 0 (g.ne + 10) () (by omega) (by omega) trivial).trans ((qKC _ _ _ _ _).trans (qQA _ _ _ _ _))
 ·refine (rdor G K g i).trans ?_;rw [vYK (show (i:Int) < (g.ne:Int) by omega),jG (by omega),zU (show i < g.ne by omega)];simp only [toN,vYZ];by_cases h0:i=0
  ·have e0:decide (0 < (i:Int))=false:=vYJ (by omega);simp only [orE,e0,vYK h0,Bool.true_or,vYY,Bool.and_true];cases decide ((g.ed i).u < 0) <;> cases decide ((g.ed i).v≤(g.ed i).u) <;> cases decide ((g.np:Int)≤(g.ed i).v) <;> rfl
  ·have e0:decide (0 < (i:Int))=true:=vYK (by omega);have e1:vYW .i64 ((i:Int) - 1)=((i - 1:Nat):Int):=by rw [zV (by omega)]; omega
   simp only [orE,e0,e1,toN,zU (show i - 1 < g.ne by omega),vYJ h0,Bool.false_or,vYZ];cases decide ((g.ed i).u < 0) <;> cases decide ((g.ed i).v≤(g.ed i).u) <;> cases decide ((g.np:Int)≤(g.ed i).v) <;> cases decide ((g.ed i).u < (g.ed (i - 1)).u) <;> cases decide ((g.ed (i - 1)).u=(g.ed i).u) <;> cases decide ((g.ed i).v≤(g.ed (i - 1)).v) <;> rfl
 ·refine (rdor G K g g.ne).trans ?_;rw [vYJ (show ¬ (g.ne:Int) < (g.ne:Int) by omega)];rfl
noncomputable def lsor (g:Gr):List (List Nat × yV):=[([0,1,0,1],sumF (fun _:Unit=>(hor g 0)) (fun _=>()) (fun _ K=>(bif (decide (g.ne≤8192)) then (bif (allN (fun i:Nat=>orE g i) g.ne 0) then (K (.exit 0) ⟨[(1,.p 1 0)],[(1,.blk [.v (.lf g.np g.pt),.v (.lf g.ne (fE g.ed))])]⟩) else (K .ret ⟨[(1,.p 1 0),(2,.v (.b false))],[(1,.blk [.v (.lf g.np g.pt),.v (.lf g.ne (fE g.ed))])]⟩)) else none)))]
set_option maxRecDepth 100000 in
theorem pxor (g:Gr):qQI Tf (oror g) (qY (lsor g)) (g.ne + 10) 96 [.a (gP g)] =
 (bif (gSt (hor g 0) (hor g 0)) then (bif (decide (g.ne≤8192)) then (bif (allN (fun i:Nat=>orE g i) g.ne 0) then (bif (decide ((g.np:Int)≤1024)) then (bif (decide ((g.ne:Int)≤8192)) then some (.v (.b true),[])
 else some (.v (.b false),[]))
 else some (.v (.b false),[]))
 else some (.v (.b false),[]))
 else none)
 else none):=by kernel_rfl
theorem snd_or (g:Gr) (hn:g.ne≤8192):zY Tryz.prog 96 [.a (gP g)] (.v (.b (odB g))):=by
 refine qH (N:=(g.ne + 10)) (LO:=qY (lsor g)) jY yH (jK (l:=[]) (m:=[]) trivial trivial) (fun p S hp => ?_) ?_
 ·refine qX (L:=qZ Tf 96) (l:=(lsor g)) (show AllP _ (lsor g) from ⟨?_,trivial⟩) p S hp
  ·dsimp only;refine jQ (T:=Tf) (o:=(oror g)) (f:=96) (LO:=qY []) (p:=[0,1,0,1]) jU ?_;intro t K r hr;obtain ⟨hg,hr⟩:=qQ hr;have hn:=vYU hg;exact (lpor K g hn).trans hr
 ·refine (pxor g).trans ?_;unfold odB;simp only [zW,vYK hn,vYZ,Bool.and_true];cases allN (fun i:Nat=>orE g i) g.ne 0
  ·rfl
  ·by_cases h1:g.np≤1024
   ·simp only [vYK h1,vYK (show (g.np:Int)≤1024 by omega),vYK (show (g.ne:Int)≤8192 by omega)]; rfl
   ·simp only [vYJ h1,vYJ (show ¬ (g.np:Int)≤1024 by omega)]; rfl
def cor:Gr→Prop:=fun t=>match t with | g=>g.ne≤8192
def eor:Gr→List PV:=fun t=>match t with | g=>[.a (gP g)]
noncomputable def ror:Gr→Ret:=fun t=>match t with | g=>.v (.b (odB g))
def dor:List PV→Gr:=fun ps=>match ps with
 | [.a [.lf np pt,.lf ne ed]]=>⟨np,pt,ne,unFE ed⟩
 | _=>⟨0,fun _=>[],0,fun _=>unE []⟩
noncomputable def o_or:List PV→Option (Bool × Ret):=o_fm dor cor eor ror
theorem ok_or:jH Tryz.prog 96 o_or:=qQD fun t h=>by
 revert h; revert t; intro g h
 exact snd_or g h
noncomputable def orfo (g:Gr):OrS:=orS [(96,o_or)] []
noncomputable def hfo (g:Gr) (i:Int):St:=⟨[(1,.p 1 0),(3,.v (.n .i64 i))],[(1,.blk [.v (.lf g.np g.pt),.v (.lf g.ne (fE g.ed))])]⟩
set_option maxRecDepth 100000 in
theorem rdfo (G:St→Option (Ret × Mem)) (K:Cont) (g:Gr) (i:Int):stpT Tf 69 (orfo g) (g.ne + 10) [] [0,1,0,1] K G (hfo g i) =
 (bif (decide (i < (g.ne:Int))) then (bif (inB i g.ne) then (bif (decide ((g.ed (i).toNat).c < 0)) then (K .ret ⟨[(1,.p 1 0),(2,.v (.b false))],[(1,.blk [.v (.lf g.np g.pt),.v (.lf g.ne (fE g.ed))])]⟩)
 else (bif (inB i g.ne) then (bif (decide (1099511627776 < (g.ed (i).toNat).c)) then (K .ret ⟨[(1,.p 1 0),(2,.v (.b false))],[(1,.blk [.v (.lf g.np g.pt),.v (.lf g.ne (fE g.ed))])]⟩)
 else (G (hfo g (vYW .i64 (i + 1)))))
 else none))
 else none)
 else (K (.exit 0) ⟨[(1,.p 1 0)],[(1,.blk [.v (.lf g.np g.pt),.v (.lf g.ne (fE g.ed))])]⟩)):=by kernel_rfl
theorem lpfo (K:Cont) (g:Gr) (_:g.ne≤8192):LFT Tf 69 (orfo g) (g.ne + 10) [] [0,1,0,1] K (g.ne + 10) (hfo g 0)=bif (allN (fun i:Nat=>coE g i) g.ne 0) then (K (.exit 0) ⟨[(1,.p 1 0)],[(1,.blk [.v (.lf g.np g.pt),.v (.lf g.ne (fE g.ed))])]⟩) else (K .ret ⟨[(1,.p 1 0),(2,.v (.b false))],[(1,.blk [.v (.lf g.np g.pt),.v (.lf g.ne (fE g.ed))])]⟩):=by
 refine (qKL (L:=LFT Tf 69 (orfo g) (g.ne + 10) [] [0,1,0,1] K) (stp:=stpT Tf 69 (orfo g) (g.ne + 10) [] [0,1,0,1] K) (fun _ _=>rfl) (fun (i:Nat) (_:Unit)=>hfo g (i:Int)) (fun _ _=>True) (fun (i:Nat) _=>coE g i) (fun _ _=>()) (c:=g.ne) (fun _=>(K (.exit 0) ⟨[(1,.p 1 0)],[(1,.blk [.v (.lf g.np g.pt),.v (.lf g.ne (fE g.ed))])]⟩)) (fun i _=>(K .ret ⟨[(1,.p 1 0),(2,.v (.b false))],[(1,.blk [.v (.lf g.np g.pt),.v (.lf g.ne (fE g.ed))])]⟩)) (fun G i f hi _ => ?_) (fun _ _ _ _ _=>trivial) (fun G f _ => ?_) g.ne 0 (g.ne + 10) () (by omega) (by omega) trivial).trans ((qKC _ _ _ _ _).trans (qQA _ _ _ _ _))
 ·refine (rdfo G K g i).trans ?_;rw [vYK (show (i:Int) < (g.ne:Int) by omega),jG (by omega),zU (show i < g.ne by omega)];simp only [toN,vYZ,coE];cases decide ((g.ed i).c < 0) <;> cases decide (1099511627776 < (g.ed i).c) <;> rfl
 ·refine (rdfo G K g g.ne).trans ?_;rw [vYJ (show ¬ (g.ne:Int) < (g.ne:Int) by omega)];rfl
noncomputable def lsfo (g:Gr):List (List Nat × yV):=[([0,1,0,1],sumF (fun _:Unit=>(hfo g 0)) (fun _=>()) (fun _ K=>(bif (decide (g.ne≤8192)) then (bif (allN (fun i:Nat=>coE g i) g.ne 0) then (K (.exit 0) ⟨[(1,.p 1 0)],[(1,.blk [.v (.lf g.np g.pt),.v (.lf g.ne (fE g.ed))])]⟩) else (K .ret ⟨[(1,.p 1 0),(2,.v (.b false))],[(1,.blk [.v (.lf g.np g.pt),.v (.lf g.ne (fE g.ed))])]⟩)) else none)))]
set_option maxRecDepth 100000 in
theorem pxfo (g:Gr):qQI Tf (orfo g) (qY (lsfo g)) (g.ne + 10) 69 [.a (gP g)] =
 (bif (gSt (hfo g 0) (hfo g 0)) then (bif (decide (g.ne≤8192)) then (bif (allN (fun i:Nat=>coE g i) g.ne 0) then (bif (gF1 cor eor g) then (bif (odB g) then some (.v (.b true),[])
 else some (.v (.b false),[]))
 else none)
 else some (.v (.b false),[]))
 else none)
 else none):=by kernel_rfl
theorem snd_fo (g:Gr) (hn:g.ne≤8192):zY Tryz.prog 69 [.a (gP g)] (.v (.b (frB g))):=by
 refine qH (N:=(g.ne + 10)) (LO:=qY (lsfo g)) jY yH (jK (l:=[(96,o_or)]) (m:=[]) ⟨ok_or,trivial⟩ trivial) (fun p S hp => ?_) ?_
 ·refine qX (L:=qZ Tf 69) (l:=(lsfo g)) (show AllP _ (lsfo g) from ⟨?_,trivial⟩) p S hp
  ·dsimp only;refine jQ (T:=Tf) (o:=(orfo g)) (f:=69) (LO:=qY []) (p:=[0,1,0,1]) jU ?_;intro t K r hr;obtain ⟨hg,hr⟩:=qQ hr;have hn:=vYU hg;exact (lpfo K g hn).trans hr
 ·refine (pxfo g).trans ?_;unfold frB;simp only [zW,vYK hn,jV (C:=cor) (t:=g) hn,vYZ];cases allN (fun i:Nat=>coE g i) g.ne 0 <;> cases odB g <;> rfl
def cfo:Gr→Prop:=fun t=>match t with | g=>g.ne≤8192
def efo:Gr→List PV:=fun t=>match t with | g=>[.a (gP g)]
noncomputable def rfo:Gr→Ret:=fun t=>match t with | g=>.v (.b (frB g))
def dfo:List PV→Gr:=fun ps=>match ps with
 | [.a [.lf np pt,.lf ne ed]]=>⟨np,pt,ne,unFE ed⟩
 | _=>⟨0,fun _=>[],0,fun _=>unE []⟩
noncomputable def o_fo:List PV→Option (Bool × Ret):=o_fm dfo cfo efo rfo
theorem ok_fo:jH Tryz.prog 69 o_fo:=qQD fun t h=>by
 revert h; revert t; intro g h
 exact snd_fo g h
noncomputable def oras (g:Gr) (a b:Int):OrS:=orS [(69,o_fo)] []
noncomputable def lsas (g:Gr) (a b:Int):List (List Nat × yV):=[]
set_option maxRecDepth 100000 in
theorem pxas (g:Gr) (a b:Int):qQI Tf (oras g a b) (qY (lsas g a b)) 60 38 [.a (gP g),.n .i64 a,.n .i64 b] =
 (bif (gF1 cfo efo g) then (bif (frB g) then (bif (decide (0≤a)) then (bif (decide (a < (g.np:Int))) then (bif (decide (0≤b)) then (bif (decide (b < (g.np:Int))) then some (.v (.b true),[])
 else some (.v (.b false),[]))
 else some (.v (.b false),[]))
 else some (.v (.b false),[]))
 else some (.v (.b false),[]))
 else some (.v (.b false),[]))
 else none):=by kernel_rfl
theorem snd_as (g:Gr) (a b:Int) (hn:g.ne≤8192):zY Tryz.prog 38 [.a (gP g),.n .i64 a,.n .i64 b] (.v (.b (frB g && (isP g a && isP g b)))):=by
 refine qH (N:=60) (LO:=qY (lsas g a b)) jY yH (jK (l:=[(69,o_fo)]) (m:=[]) ⟨ok_fo,trivial⟩ trivial) (fun p S hp => ?_) ?_
 ·refine qX (L:=qZ Tf 38) (l:=(lsas g a b)) (show AllP _ (lsas g a b) from trivial) p S hp
 ·refine (pxas g a b).trans ?_;unfold isP;simp only [jV (C:=cfo) (t:=g) hn,vYZ];cases frB g <;> cases decide (0≤a) <;> cases decide (a < (g.np:Int)) <;> cases decide (0≤b) <;> cases decide (b < (g.np:Int)) <;> rfl
def cas:Gr × Int × Int→Prop:=fun t=>match t with | (g,_,_)=>g.ne≤8192
def eas:Gr × Int × Int→List PV:=fun t=>match t with | (g,a,b)=>[.a (gP g),.n .i64 a,.n .i64 b]
noncomputable def ras:Gr × Int × Int→Ret:=fun t=>match t with | (g,a,b)=>.v (.b (frB g && (isP g a && isP g b)))
def das:List PV→Gr × Int × Int:=fun ps=>match ps with
 | [.a [.lf np pt,.lf ne ed],.n _ a,.n _ b]=>(⟨np,pt,ne,unFE ed⟩,a,b)
 | _=>(⟨0,fun _=>[],0,fun _=>unE []⟩,0,0)
noncomputable def o_as:List PV→Option (Bool × Ret):=o_fm das cas eas ras
theorem ok_as:jH Tryz.prog 38 o_as:=qQD fun t h=>by
 obtain ⟨g,a,b⟩:=t;exact snd_as g a b h
theorem allN_and {a b:Nat→Bool}:∀ n p,allN (fun i:Nat=>a i && b i) n p=(allN a n p && allN b n p)
 | 0,_=>rfl
 | n + 1,p=>by
  simp only [allN,allN_and n];cases a p <;> cases b p <;> simp
theorem okE_eq (g:Gr) (i:Nat):okE g i=(coE g i && orE g i):=by
 unfold okE coE orE isP cpI;rw [Bool.eq_iff_iff];simp only [vQJ,Bool.or_eq_true,Bool.not_eq_true',decide_eq_true_eq,decide_eq_false_iff_not,Bool.and_eq_false_imp];generalize (g.ed (i - 1)).u=x;generalize (g.ed (i - 1)).v=y;by_cases h1:x < (g.ed i).u
 ·rw [vYK h1]; simp only [vYZ]; omega
 ·rw [vYJ h1];by_cases h2:(g.ed i).u < x
  ·rw [vYK h2]; simp only [vYZ,vYY]; omega
  ·rw [vYJ h2];by_cases h3:y < (g.ed i).v
   ·rw [vYK h3]; simp only [vYZ,vYY]; omega
   ·rw [vYJ h3];by_cases h4:(g.ed i).v < y
    ·rw [vYK h4]; simp only [vYZ,vYY]; omega
    ·rw [vYJ h4]; simp only [vYY]; omega
theorem wf_fr (g:Gr):frB g=wfB g:=by
 unfold frB wfB odB;rw [show (fun i:Nat=>okE g i)=fun i:Nat=>coE g i && orE g i from funext (okE_eq g),allN_and];cases allN (fun i:Nat=>coE g i) g.ne 0 <;> cases allN (fun i:Nat=>orE g i) g.ne 0 <;> simp
end Go.Proofs.YtklmegnpfhiibaaGreat.Bb
namespace Go.Proofs.YtklmegnpfhiibaaGreat.Xe
open Go.Rx Rt Go.Sx Go.RowKit Od Nb Nc Xb Xc Bb
def fP (pn:Nat→Nat) (pv:Nat→Nat→Int):Nat→List PV:=fun j=>[.lf (pn j) (fQ (pv j))]
def knd (s:Int):Int:=bif decide (s=1) then 1 else bif decide (s=2) then 2 else 0
def emE (e:Ed):Bool:=decide (e.kd=0) && (decide ((e.n1:Int)=0) && (decide (e.dp=0) && (decide (e.ix=0) && (decide ((e.n2:Int)=0) && (decide (e.pr=0) && (decide ((e.n3:Int)=0) && decide ((e.n4:Int)=0)))))))
def stE (e:Ed):Bool:=!decide (e.s < 0) && (!decide (3 < e.s) && (decide (e.kd=knd e.s) && (!decide (e.s=0) || emE e)))
def dE (js:Nat→J) (ms:Nat→Ms) (n m:Nat) (pn:Nat→Nat) (pv:Nat→Nat→Int) (u v:Nat):Int:=dsQ js ms (pv u) (pv v) n m (pn u) (pn v)
def veB (js:Nat→J) (ms:Nat→Ms) (n m:Nat) (np:Nat) (pn:Nat→Nat) (pv:Nat→Nat→Int) (e:Ed):Bool:=decide (0≤e.u) && (decide (e.u < (np:Int)) && (decide (0≤e.v) && (decide (e.v < (np:Int)) && (!decide (e.v≤e.u) && (decide (e.c=dE js ms n m pn pv e.u.toNat e.v.toNat) && stE e)))))
theorem zYJ {y:Int} {n:Nat} (_:0≤y) (_:y < (n:Int)):inB y n=true:=by
 obtain ⟨k,rfl⟩:∃ k:Nat,y=(k:Int):=⟨y.toNat,by omega⟩
 exact zU (by omega)
noncomputable def orcm (d e:Ed):OrS:=orS [] []
noncomputable def lscm (d e:Ed):List (List Nat × yV):=[]
set_option maxRecDepth 100000 in
theorem pxcm (d e:Ed):qQI Tf (orcm d e) (qY (lscm d e)) 60 74 [.a (edP d),.a (edP e)] =
 (bif (!decide (d.u=d.u)) then (bif (!decide (e.u=e.u)) then (bif (!decide (d.v=d.v)) then (bif (!decide (e.v=e.v)) then some (.v (.n .i64 0),[])
 else some (.v (.n .i64 (-1)),[]))
 else (bif (!decide (e.v=e.v)) then some (.v (.n .i64 1),[])
 else (bif (decide (d.v < e.v)) then some (.v (.n .i64 (-1)),[])
 else (bif (decide (e.v < d.v)) then some (.v (.n .i64 1),[])
 else some (.v (.n .i64 0),[])))))
 else (bif (!decide (d.v=d.v)) then (bif (!decide (e.v=e.v)) then some (.v (.n .i64 (-1)),[])
 else some (.v (.n .i64 (-1)),[]))
 else (bif (!decide (e.v=e.v)) then some (.v (.n .i64 (-1)),[])
 else (bif (decide (d.v < e.v)) then some (.v (.n .i64 (-1)),[])
 else (bif (decide (e.v < d.v)) then some (.v (.n .i64 (-1)),[])
 else some (.v (.n .i64 (-1)),[]))))))
 else (bif (!decide (e.u=e.u)) then (bif (!decide (d.v=d.v)) then (bif (!decide (e.v=e.v)) then some (.v (.n .i64 1),[])
 else some (.v (.n .i64 1),[]))
 else (bif (!decide (e.v=e.v)) then some (.v (.n .i64 1),[])
 else (bif (decide (d.v < e.v)) then some (.v (.n .i64 1),[])
 else (bif (decide (e.v < d.v)) then some (.v (.n .i64 1),[])
 else some (.v (.n .i64 1),[])))))
 else (bif (decide (d.u < e.u)) then (bif (!decide (d.v=d.v)) then (bif (!decide (e.v=e.v)) then some (.v (.n .i64 (-1)),[])
 else some (.v (.n .i64 (-1)),[]))
 else (bif (!decide (e.v=e.v)) then some (.v (.n .i64 (-1)),[])
 else (bif (decide (d.v < e.v)) then some (.v (.n .i64 (-1)),[])
 else (bif (decide (e.v < d.v)) then some (.v (.n .i64 (-1)),[])
 else some (.v (.n .i64 (-1)),[])))))
 else (bif (decide (e.u < d.u)) then (bif (!decide (d.v=d.v)) then (bif (!decide (e.v=e.v)) then some (.v (.n .i64 1),[])
 else some (.v (.n .i64 1),[]))
 else (bif (!decide (e.v=e.v)) then some (.v (.n .i64 1),[])
 else (bif (decide (d.v < e.v)) then some (.v (.n .i64 1),[])
 else (bif (decide (e.v < d.v)) then some (.v (.n .i64 1),[])
 else some (.v (.n .i64 1),[])))))
 else (bif (!decide (d.v=d.v)) then (bif (!decide (e.v=e.v)) then some (.v (.n .i64 0),[])
 else some (.v (.n .i64 (-1)),[]))
 else (bif (!decide (e.v=e.v)) then some (.v (.n .i64 1),[])
 else (bif (decide (d.v < e.v)) then some (.v (.n .i64 (-1)),[])
 else (bif (decide (e.v < d.v)) then some (.v (.n .i64 1),[])
 else some (.v (.n .i64 0),[]))))))))):=by kernel_rfl
theorem snd_cm (d e:Ed):zY Tryz.prog 74 [.a (edP d),.a (edP e)] (.v (.n .i64 (cpI d.u d.v e.u e.v))):=by
 refine qH (N:=60) (LO:=qY (lscm d e)) jY yH (jK (l:=[]) (m:=[]) trivial trivial) (fun p S hp => ?_) ?_
 ·refine qX (L:=qZ Tf 74) (l:=(lscm d e)) (show AllP _ (lscm d e) from trivial) p S hp
 ·refine (pxcm d e).trans ?_;unfold cpI;simp only [decide_true,Bool.not_true,vYY];cases decide (d.u < e.u) <;> cases decide (e.u < d.u) <;> cases decide (d.v < e.v) <;> cases decide (e.v < d.v) <;> rfl
def ccm:Ed × Ed→Prop:=fun t=>match t with | (_,_)=>True
def ecm:Ed × Ed→List PV:=fun t=>match t with | (d,e)=>[.a (edP d),.a (edP e)]
noncomputable def rcm:Ed × Ed→Ret:=fun t=>match t with | (d,e)=>.v (.n .i64 (cpI d.u d.v e.u e.v))
def dcm:List PV→Ed × Ed:=fun ps=>match ps with
 | [.a r,.a s]=>(unE r,unE s)
 | _=>(unE [],unE [])
noncomputable def o_cm:List PV→Option (Bool × Ret):=o_fm dcm ccm ecm rcm
theorem ok_cm:jH Tryz.prog 74 o_cm:=qQD fun t h=>by
 obtain ⟨d,e⟩:=t;exact snd_cm d e
noncomputable def orve0 (js:Nat→J) (ms:Nat→Ms) (n m:Nat) (np:Nat) (pn:Nat→Nat) (pv:Nat→Nat→Int) (ne:Nat) (ed:Nat→Ed) (e:Ed):OrS:=orS [(33,o_ds js ms n m)] []
noncomputable def yZW (js:Nat→J) (ms:Nat→Ms) (n m:Nat) (np:Nat) (pn:Nat→Nat) (pv:Nat→Nat→Int) (ne:Nat) (ed:Nat→Ed) (e:Ed):List (List Nat × yV):=[]
set_option maxRecDepth 100000 in
theorem pxve0 (js:Nat→J) (ms:Nat→Ms) (n m:Nat) (np:Nat) (pn:Nat→Nat) (pv:Nat→Nat→Int) (ne:Nat) (ed:Nat→Ed) (e:Ed):qQI Tf (orve0 js ms n m np pn pv ne ed e) (qY (yZW js ms n m np pn pv ne ed e)) 60 73 [.a [.lf n (fJ js),.lf m (fM ms)],.a [.lf np (fP pn pv),.lf ne (fE ed)],.a (edP e)] =
 (bif (decide (0≤e.u)) then (bif (decide (e.u < (np:Int))) then (bif (decide (0≤e.v)) then (bif (decide (e.v < (np:Int))) then (bif (decide (e.v≤e.u)) then some (.v (.b false),[])
 else (bif (inB e.u np) then (bif (inB e.v np) then (bif (gF1 (cds js ms n m) (eds js ms n m) (pv (e.u).toNat,pv (e.v).toNat,pn (e.u).toNat,pn (e.v).toNat)) then (bif (!decide (e.c=(dsQ js ms (pv (e.u).toNat) (pv (e.v).toNat) n m (pn (e.u).toNat) (pn (e.v).toNat)))) then some (.v (.b false),[])
 else (bif (decide (e.s < 0)) then some (.v (.b false),[])
 else (bif (decide (3 < e.s)) then some (.v (.b false),[])
 else (bif (decide (e.s=1)) then (bif (!decide (e.kd=1)) then some (.v (.b false),[])
 else (bif (!decide (e.s=0)) then some (.v (.b true),[])
 else (bif (decide (e.kd=0)) then (bif (decide ((e.n1:Int)=0)) then (bif (decide (e.dp=0)) then (bif (decide (e.ix=0)) then (bif (decide ((e.n2:Int)=0)) then (bif (decide (e.pr=0)) then (bif (decide ((e.n3:Int)=0)) then (bif (decide ((e.n4:Int)=0)) then some (.v (.b true),[])
 else some (.v (.b false),[]))
 else some (.v (.b false),[]))
 else some (.v (.b false),[]))
 else some (.v (.b false),[]))
 else some (.v (.b false),[]))
 else some (.v (.b false),[]))
 else some (.v (.b false),[]))
 else some (.v (.b false),[]))))
 else (bif (decide (e.s=2)) then (bif (!decide (e.kd=2)) then some (.v (.b false),[])
 else (bif (!decide (e.s=0)) then some (.v (.b true),[])
 else (bif (decide (e.kd=0)) then (bif (decide ((e.n1:Int)=0)) then (bif (decide (e.dp=0)) then (bif (decide (e.ix=0)) then (bif (decide ((e.n2:Int)=0)) then (bif (decide (e.pr=0)) then (bif (decide ((e.n3:Int)=0)) then (bif (decide ((e.n4:Int)=0)) then some (.v (.b true),[])
 else some (.v (.b false),[]))
 else some (.v (.b false),[]))
 else some (.v (.b false),[]))
 else some (.v (.b false),[]))
 else some (.v (.b false),[]))
 else some (.v (.b false),[]))
 else some (.v (.b false),[]))
 else some (.v (.b false),[]))))
 else (bif (!decide (e.kd=0)) then some (.v (.b false),[])
 else (bif (!decide (e.s=0)) then some (.v (.b true),[])
 else (bif (decide (e.kd=0)) then (bif (decide ((e.n1:Int)=0)) then (bif (decide (e.dp=0)) then (bif (decide (e.ix=0)) then (bif (decide ((e.n2:Int)=0)) then (bif (decide (e.pr=0)) then (bif (decide ((e.n3:Int)=0)) then (bif (decide ((e.n4:Int)=0)) then some (.v (.b true),[])
 else some (.v (.b false),[]))
 else some (.v (.b false),[]))
 else some (.v (.b false),[]))
 else some (.v (.b false),[]))
 else some (.v (.b false),[]))
 else some (.v (.b false),[]))
 else some (.v (.b false),[]))
 else some (.v (.b false),[])))))))))
 else none)
 else none)
 else none))
 else some (.v (.b false),[]))
 else some (.v (.b false),[]))
 else some (.v (.b false),[]))
 else some (.v (.b false),[])):=by kernel_rfl
theorem snd_ve0 (js:Nat→J) (ms:Nat→Ms) (n m:Nat) (np:Nat) (pn:Nat→Nat) (pv:Nat→Nat→Int) (ne:Nat) (ed:Nat→Ed) (e:Ed) (hpn:∀ j,j < np→pn j≤50):zY Tryz.prog 73 [.a [.lf n (fJ js),.lf m (fM ms)],.a [.lf np (fP pn pv),.lf ne (fE ed)],.a (edP e)] (.v (.b (veB js ms n m np pn pv e))):=by
 refine qH (N:=60) (LO:=qY (yZW js ms n m np pn pv ne ed e)) jY yH (jK (l:=[(33,o_ds js ms n m)]) (m:=[]) ⟨yJW js ms n m,trivial⟩ trivial) (fun p S hp => ?_) ?_
 ·refine qX (L:=qZ Tf 73) (l:=(yZW js ms n m np pn pv ne ed e)) (show AllP _ (yZW js ms n m np pn pv ne ed e) from trivial) p S hp
 ·refine (pxve0 js ms n m np pn pv ne ed e).trans ?_;unfold veB;by_cases h1:0≤e.u
  ·by_cases h2:e.u < (np:Int)
   ·by_cases h3:0≤e.v
    ·by_cases h4:e.v < (np:Int)
     ·rw [vYK h1,vYK h2,vYK h3,vYK h4,zYJ h1 h2,zYJ h3 h4,jV (C:=cds js ms n m) (t:=(pv e.u.toNat,pv e.v.toNat,pn e.u.toNat,pn e.v.toNat)) ⟨hpn _ (by omega),hpn _ (by omega)⟩];simp only [vYZ,vZW];cases decide (e.v≤e.u) with
      | true=>rfl
      | false =>
       show (bif !decide (e.c=dE js ms n m pn pv e.u.toNat e.v.toNat) then _ else _)=_;cases decide (e.c=dE js ms n m pn pv e.u.toNat e.v.toNat) with
       | false=>rfl
       | true =>
        unfold stE emE knd;cases decide (e.s < 0) <;> try rfl
        cases decide (3 < e.s) <;> try rfl
        cases decide (e.s=1) <;> cases decide (e.s=2)
        all_goals simp only [vYZ,vYY,Bool.not_true,Bool.not_false,vZW]
        ·cases decide (e.kd=0) <;> try rfl
         cases decide (e.s=0) <;> try rfl
         cases decide ((e.n1:Int)=0) <;> try rfl
         cases decide (e.dp=0) <;> try rfl
         cases decide (e.ix=0) <;> try rfl
         cases decide ((e.n2:Int)=0) <;> try rfl
         cases decide (e.pr=0) <;> try rfl
         cases decide ((e.n3:Int)=0) <;> try rfl
         cases decide ((e.n4:Int)=0) <;> rfl
        ·cases decide (e.kd=2) <;> try rfl
         cases decide (e.s=0) <;> try rfl
         cases decide (e.kd=0) <;> try rfl
         cases decide ((e.n1:Int)=0) <;> try rfl
         cases decide (e.dp=0) <;> try rfl
         cases decide (e.ix=0) <;> try rfl
         cases decide ((e.n2:Int)=0) <;> try rfl
         cases decide (e.pr=0) <;> try rfl
         cases decide ((e.n3:Int)=0) <;> try rfl
         cases decide ((e.n4:Int)=0) <;> rfl
        ·cases decide (e.kd=1) <;> try rfl
         cases decide (e.s=0) <;> try rfl
         cases decide (e.kd=0) <;> try rfl
         cases decide ((e.n1:Int)=0) <;> try rfl
         cases decide (e.dp=0) <;> try rfl
         cases decide (e.ix=0) <;> try rfl
         cases decide ((e.n2:Int)=0) <;> try rfl
         cases decide (e.pr=0) <;> try rfl
         cases decide ((e.n3:Int)=0) <;> try rfl
         cases decide ((e.n4:Int)=0) <;> rfl
        ·cases decide (e.kd=1) <;> try rfl
         cases decide (e.s=0) <;> try rfl
         cases decide (e.kd=0) <;> try rfl
         cases decide ((e.n1:Int)=0) <;> try rfl
         cases decide (e.dp=0) <;> try rfl
         cases decide (e.ix=0) <;> try rfl
         cases decide ((e.n2:Int)=0) <;> try rfl
         cases decide (e.pr=0) <;> try rfl
         cases decide ((e.n3:Int)=0) <;> try rfl
         cases decide ((e.n4:Int)=0) <;> rfl
     ·rw [vYK h1,vYK h2,vYK h3,vYJ h4]; rfl
    ·rw [vYK h1,vYK h2,vYJ h3]; rfl
   ·rw [vYK h1,vYJ h2]; rfl
  ·rw [vYJ h1]; rfl
end Go.Proofs.YtklmegnpfhiibaaGreat.Xe
namespace Go.Sx
open Go.RowKit Go.Maps
def SetF (P:Program) (k e b n:Nat) (M:Value→Prop):World→Prop:=fun w=>∃ D:DataW Unit,w.ownsMap P k (plainElem P e) b n D∧∀ key kl,keyOf P k key=some kl→∃ c:Bool,D.atKey kl (.lit (.bool false))=.lit (.bool c)∧(c=true ↔ M key)
theorem setF_dep (P:Program) (k e b n:Nat) (M:Value→Prop):qWA (· = b) (SetF P k e b n M):=fun w w' h ⟨D,⟨es,clock,hb,r⟩,h2⟩=>⟨D,⟨es,clock,by rw [h b rfl]; exact hb,r⟩,h2⟩
section
variable {P:Program} {n:Nat} {w0:Base} {ops:Array Oper} {Q:Exit→Act→World→Prop} {S:yY} {H:Heap}
variable {d:Nat} {ty:TypeId} {pos:String} {af:Array Edge} {g:Option (Nat × Bool)} {rest:List Oper}
theorem doL_makeSet {t k e:TypeId} (id:Nat) (hw:qZH ops S ⟨some d,.makeMap t none,ty,pos,af,g⟩=some true) (hn:Nat.blt d n=true)
  (next:∀ b,DoL P n ⟨w0.w,(id,(· = b),SetF P k e b 0 (fun _=>False)) :: w0.R⟩ ops Q rest ((d,.map (some b)) :: S) H):DoL P n w0 ops Q (⟨some d,.makeMap t none,ty,pos,af,g⟩ :: rest) S H:=by
 intro a w fi kk;unfold wpList;rw [qZQ fi hw,if_pos rfl];refine .inl ?_;unfold Oper.wp;have hrun:(execOp (evD S) ⟨some d,.makeMap t none,ty,pos,af,g⟩).run P w=.ok (.value (.map (some w.heap.size))) (w.alloc (.map #[] 0)):=by
  simp [execOp,run_makeMap]
 rw [qXJ fi (by simp [yQ,Op.operands]) rfl,hrun];simp only [Oper.upon];refine next w.heap.size _ _ (fi.put hn _) (kk.tell ((Grow.refl w).alloc _) id (setF_dep _ _ _ _ _ _) (fun q hq=>by subst hq; exact ⟨Nat.le_refl _,by show w.heap.size < (w.heap.push _).size; simp⟩) ⟨.map [],World.ownsMap_made _ _ _ _,fun key kl _=>⟨false,rfl,by simp⟩⟩)
theorem opV_lookupS {t k e:TypeId} {b m:Nat} {M:Value→Prop} {x y:Operand} {key:Value} {kl:Lit} {c:Bool} {dd:Option Tmp} (id:Nat) (hR:qVQ w0.R id=some ((· = b),SetF P k e b m M)) (K:Keyed P k) (ht:P.underlying t=some (.map k e)) (he:P.underlying e=some .bool)
  (hz:qQW P e (.bool false)) (hx:ev S x=some (.map (some b))) (hy:ev S y=some key) (hkey:keyOf P k key=some kl) (hc:c=true ↔ M key):OpV P w0 S H ⟨dd,.lookup t x y false,ty,pos,af,g⟩ (.bool c) :=
 yG (by simp [yQ,Op.operands,hx,hy]) rfl fun w kk=>by
  obtain ⟨D,hD,h2⟩:=holds_r hR _ _ kk;obtain ⟨v,ps,hrun,hv⟩:=hD.lookup K ht (qVF hz w) (plainElem_bool he false) hkey;obtain ⟨c',e1,e2⟩:=h2 key kl hkey;rw [e1] at hv;have hvc:v=.bool c':=by
   unfold plainElem at hv;rw [he] at hv;cases v <;> simp at hv
   rw [hv.1]
  have hcc:c'=c:=by
   cases c <;> cases c' <;> simp_all
  subst hvc hcc;simp [execOp,zQ hx,zQ hy,hrun]
theorem doL_putSet {t k e:TypeId} {b m:Nat} {M:Value→Prop} {x y z:Operand} {key:Value} {kl:Lit} (id:Nat) (hR:qVQ w0.R id=some ((· = b),SetF P k e b m M)) (K:Keyed P k) (ht:P.underlying t=some (.map k e)) (he:P.underlying e=some .bool) (hm:m < maxLen)
  (hx:ev S x=some (.map (some b))) (hy:ev S y=some key) (hz:ev S z=some (.bool true)) (hkey:keyOf P k key=some kl)
  (hw:qZH ops S ⟨none,.mapUpdate t x y z,ty,pos,af,g⟩=some true) (hu:(updR w0.R id (· = b) (SetF P k e b (m + 1) (fun v=>v=key ∨ M v))).isSome=true)
  (next:∀ R',updR w0.R id (· = b) (SetF P k e b (m + 1) (fun v=>v=key ∨ M v))=some R'→DoL P n ⟨w0.w,R'⟩ ops Q rest S H) :
  DoL P n w0 ops Q (⟨none,.mapUpdate t x y z,ty,pos,af,g⟩ :: rest) S H:=by
 intro a w fi kk;unfold wpList;rw [qZQ fi hw,if_pos rfl];refine .inl ?_;unfold Oper.wp;obtain ⟨R',hR'⟩:=Option.isSome_iff_exists.1 hu;obtain ⟨D,hD,h2⟩:=holds_r hR _ _ kk;obtain ⟨w',hrun0,o1,g1⟩:=hD.update K ht hm hkey (plainElem_bool he true);have hrun:(execOp (evD S) ⟨none,.mapUpdate t x y z,ty,pos,af,g⟩).run P w=.ok .skip w':=by
  simp [execOp,zQ hx,zQ hy,zQ hz,hrun0]
 rw [qXJ fi (by simp [yQ,Op.operands,hx,hy,hz]) rfl,hrun];simp only [Oper.upon];refine next R' hR' _ _ fi (kk.swap hR ⟨g1.os,g1.tape,g1.output,g1.size,fun q h1 h3=>g1.block q h1 (fun e=>h3 (Option.some.inj e))⟩ (fun _ h=>h) (setF_dep _ _ _ _ _ _) ⟨_,o1,fun key' kl' hk' => ?_⟩ hR')
 by_cases ek:kl'=kl
 ·subst ek
  have:=K.inj hk' hkey
  subst this;exact ⟨true,by rw [atKey_put_same hD.isMap (K.key hkey)],by simp⟩
 ·obtain ⟨c,c1,c2⟩:=h2 key' kl' hk';refine ⟨c,by rw [atKey_put_other ek]; exact c1,c2.trans ⟨.inr,fun h=>h.resolve_left fun e=>ek ?_⟩⟩;subst e;exact Option.some.inj (hk'.symm.trans hkey)
theorem key_ten {k e:TypeId} (hu:P.underlying k=some (.array 10 e)) (he:P.underlying e=some (.int .i64)) (h1:P.cellsOf e=1) (hk:P.cellsOf k=10) (hty:P.keyType k=true) (_:1≤P.types.size)
  (zs:List Int) (hz:zs.length=10) (hw:∀ z ∈ zs,(Lit.int .i64 z).wf=true):∃ l,keyOf P k (.agg (zs.map (Value.int .i64)).toArray)=some l:=by
 obtain ⟨m,hm⟩:∃ m,P.types.size=m + 1:=⟨P.types.size - 1,by omega⟩
 have one:∀ z ∈ zs,P.keyLits (m + 1) e [.int .i64 z]=some [.int .i64 z]:=fun z hzm=>by
  unfold Program.keyLits;simp [he,hw z hzm]
 match zs,hz,one with
 | [a,b,c,d,f,g,h,i,j,q],_,one =>
  simp only [vZG,List.not_mem_nil,or_false,forall_eq_or_imp,forall_eq] at one;obtain ⟨o1,o2,o3,o4,o5,o6,o7,o8,o9,o10⟩:=one;refine Option.isSome_iff_exists.1 ?_;unfold keyOf;rw [hu];simp only [hty,Value.formed,hu,hk,vZW,hm];unfold Program.keyLits;simp only [hu,h1,hk];have hcel:∀ xs:Array Value,(Value.agg xs).cells=xs:=fun _=>rfl
  simp [hcel,List.range,List.range.loop,o1,o2,o3,o4,o5,o6,o7,o8,o9,o10]
theorem opV_sliceArr {t l e size:Nat} {x:Operand} {b:Nat} {dd:Option Tmp} (hA:P.underlying t=some (.array l e)) (hs:(P.info? e).map (·.size)=some size) (hx:ev S x=some (.pointer (some ⟨b,0,none⟩))) :
  OpV P w0 S H ⟨dd,.slice t x none none none,ty,pos,af,g⟩ (.slice (some ⟨b,0,none⟩) l l) :=
 yG (by simp [yQ,Op.operands,hx]) rfl fun w _=>by
  cases hi:P.info? e with
  | none=>simp [hi] at hs
  | some i => 
   simp only [execOp,zQ hx,Instr.sliceAt,Instr.sureAddr,run_underlying hA,Sem.run_bind];simp [Instr.sliceBounds,sizeOf,typeInfo,hi,qYK]
theorem doL_copyTo {t t' e dl dc m c b:Nat} {ty':TypeId} {a:Option Addr} {cs cs':List Value} {rows:List (List Value)} {H':Heap} {x y:Operand} (id:Nat) (hB:P.underlying t=some (.slice e)) (hs:(P.info? e).map (·.size)=some 1) (hS:Holds w0 (qJA 1 a rows))
  (h1:∀ v ∈ rows.flatten,v.oneCell'=true) (hx:ev S x=some (.slice (some ⟨b,0,none⟩) dl dc)) (hy:ev S y=some (.slice a m c)) (hr:rows.length=m) (h0:0 < m) (hm:m≤dl) (hd:dl≤cs.length) (hH:qUE H id=some (b,cs,ty'))
  (hw:qZH ops S ⟨some d,.call ⟨.builtin .copy,#[x,y],#[t,t']⟩,ty,pos,af,g⟩=some true) (hn:Nat.blt d n=true)
  (hcs:cs'=rows.flatten ++ cs.drop m) (hu:updH H id cs'=some H') (next:DoL P n w0 ops Q rest ((d,.int .i64 (m:Int)) :: S) H') :
  DoL P n w0 ops Q (⟨some d,.call ⟨.builtin .copy,#[x,y],#[t,t']⟩,ty,pos,af,g⟩ :: rest) S H:=by
 intro act w fi k;unfold wpList;rw [qZQ fi hw,if_pos rfl];refine .inl ?_;unfold Oper.wp;have hF:=hS _ _ k;have hb:=(k.at hH).2;subst hcs;obtain ⟨r0,hr0⟩:∃ r0,rows[0]? = some r0:=⟨_,vQK (by omega)⟩
 obtain ⟨_,b0,off,rfl,_,_⟩:=hF 0 r0 hr0;have hall:∀ r ∈ rows,r.length=1:=fun r hr=>by
  obtain ⟨j,hj⟩:=List.mem_iff_getElem?.1 hr;exact (hF j r hj).1
 have hfl:=rows_len rows hall;rw [hr,Nat.mul_one] at hfl;have hsrc:∀ j v,rows.flatten[j]? = some v→w.cell? ((⟨b0,off,none⟩:Addr).add j)=some v:=fun j v hj=>by
  have hjl:=(List.getElem?_eq_some_iff.1 hj).1;rw [hfl] at hjl;have hrow:rows[j]? = some rows[j]:=vQK (by omega);have hg:=qXB (sz:=1) rows hall j _ hrow 0 (by omega);obtain ⟨_,b1,off1,he,_,hc⟩:=hF _ _ hrow;simp only [vQZ,Addr.mk.injEq,and_true] at he;obtain ⟨rfl,rfl⟩:=he
  have:=hc 0 (by omega)
  rw [← hg] at this;simp only [Nat.mul_one,Nat.add_zero] at this;rw [hj] at this;rw [qYK];exact this
 have hrun0:=run_copy_row (P:=P) w t t' ty e b 0 dl dc ⟨b0,off,none⟩ m c cs.toArray ty' rows.flatten hB hs hb (by rw [hfl]; exact (Nat.min_eq_left hm).symm) hsrc (by rw [hfl]; simp; omega) h1;simp only [List.take_zero,List.nil_append,Nat.zero_add,hfl] at hrun0;have hrun:(execOp act.eval ⟨some d,.call ⟨.builtin .copy,#[x,y],#[t,t']⟩,ty,pos,af,g⟩).run P w=.ok (.value (.int .i64 (m:Int))) (w.setRow b (rows.flatten ++ cs.drop m).toArray):=by
  simp [execOp,resolve,invoke,builtin,fi.ev hx,fi.ev hy,hrun0,goInt]
 rw [hrun];simp only [Oper.upon];exact next _ _ (fi.put hn _) (k.set hH hu)
end
end Go.Sx

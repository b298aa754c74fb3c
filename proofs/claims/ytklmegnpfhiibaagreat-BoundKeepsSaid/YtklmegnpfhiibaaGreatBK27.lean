/- Part 27 of the texts behind the last one: rules and contracts. No condition. -/
import Derived.Test.YtklmegnpfhiibaaGreatBK26
open Bool renaming and_eq_true → vQJ, and_self → vZQ
open Go.IntKind renaming wrap → vYW
namespace Go.Proofs.YtklmegnpfhiibaaGreat.Xd
open Go.Rx Rt Go.Sx Go.RowKit Ba Bb Bc Bn
theorem ok_no {f:Nat}:jH Tryz.prog f (fun _=>none):=fun _ _ h=>nomatch h
noncomputable def orshs (np:Nat) (_:Nat→Nat) (_ _:Nat→Nat→Int) (a:Int):OrS:=orS [(115,fun _=>none)] []
def yZB:List (List Nat × yV):=[([0,1,1,1,0,1,0,0,0,1,1,1,1,0,1],fun _ _=>none)]
set_option maxRecDepth 100000 in
theorem pxshs (np:Nat) (ln:Nat→Nat) (lt lc:Nat→Nat→Int) (a:Int):qQI Tf (orshs np ln lt lc a) (qY yZB) 60 82 [.lf np (fun u=>[.lf (ln u) (fun w=>[.n .i64 (lt u w),.n .i64 (lc u w)])]),.n .i64 a,.n .i64 a] =
 (bif (decide (0≤(np:Int))) then (bif (decide ((np:Int)≤(np:Int))) then (bif (decide ((np:Int)≤1000000)) then (bif (inB a (np:Int).toNat) then (bif (inB a (np:Int).toNat) then (bif (decide (0≤1)) then (bif (decide (a=a)) then (bif (inB a (np:Int).toNat) then (bif (decide (((bif (Nat.beq (a).toNat (a).toNat) then 1 else 0:Int))=0)) then some (.v (.t [.a [.l [],.n .i64 0],.b false]),[])
 else (bif (inB a (np:Int).toNat) then (bif (!decide (a=a)) then (bif (inB a np) then none
 else none)
 else some (.v (.t [.a [.lf 1 (fun _=>[.n .i64 a]),.n .i64 ((bif (Nat.beq (a).toNat (a).toNat) then 0 else 0:Int))],.b true]),[]))
 else none))
 else none)
 else (bif (inB a (np:Int).toNat) then (bif (!((decide (((bif (Nat.beq (a).toNat (a).toNat) then 0 else 0:Int))=((bif (Nat.beq (a).toNat (a).toNat) then 0 else 0:Int)))) && ((decide (((bif (Nat.beq (a).toNat (a).toNat) then 1 else 0:Int))=((bif (Nat.beq (a).toNat (a).toNat) then 1 else 0:Int)))) && true))) then (bif (inB a (np:Int).toNat) then (bif (decide (((bif (Nat.beq (a).toNat (a).toNat) then 1 else 0:Int))=0)) then some (.v (.t [.a [.l [],.n .i64 0],.b false]),[])
 else (bif (inB a (np:Int).toNat) then (bif (!decide (a=a)) then (bif (inB a np) then none
 else none)
 else some (.v (.t [.a [.lf 1 (fun _=>[.n .i64 a]),.n .i64 ((bif (Nat.beq (a).toNat (a).toNat) then 0 else 0:Int))],.b true]),[]))
 else none))
 else none)
 else (bif (inB a np) then none
 else none))
 else none))
 else none)
 else none)
 else none)
 else none)
 else none)
 else none):=by kernel_rfl
theorem snd_shs (np:Nat) (ln:Nat→Nat) (lt lc:Nat→Nat→Int) (a:Int) (hp:np≤1000000) (ha:inB a np=true):zY Tryz.prog 82 [.lf np (fun u=>[.lf (ln u) (fun w=>[.n .i64 (lt u w),.n .i64 (lc u w)])]),.n .i64 a,.n .i64 a] (.v (.t [.a [.lf 1 (fun _=>[.n .i64 a]),.n .i64 0],.b true])):=by
 refine qH (N:=60) (LO:=qY yZB) jY yH (jK (l:=[(115,fun _=>none)]) (m:=[]) ⟨ok_no,trivial⟩ trivial) (fun p S hp => ?_) ?_
 ·refine qX (L:=qZ Tf 82) (l:=yZB) (show AllP _ yZB from ⟨(fun _ _ _ _ _ _ h=>nomatch h),trivial⟩) p S hp
 ·refine (pxshs np ln lt lc a).trans ?_;simp only [toN,ha,Nat.beq_refl,vYK (show (0:Int)≤(np:Int) by omega),vYK (show (np:Int)≤(np:Int) by omega),vYK (show (np:Int)≤1000000 by omega),decide_true,vYZ,vYY,Bool.not_true,vYK (show (0:Int)≤1 by omega),vYJ (show ¬ (1:Int)=0 by omega)]
  try rfl
def clk:Gr × Int→Prop:=fun t=>match t with | (g,_)=>wfB g=true∧g.np≤1000000∧g.ne≤8192
def elk:Gr × Int→List PV:=fun t=>match t with | (g,m)=>[.a (gP g),.n .i64 m]
noncomputable def rlk:Gr × Int→Ret:=fun t=>match t with | (g,m)=>.ow 159 1 (.fo g.np (fun u=>[.lf ((lkO g m).1 u) (tcP ((lkO g m).2.1 u) ((lkO g m).2.2 u))]))
def dlk:List PV→Gr × Int:=fun ps=>match ps with
 | [.a [.lf np pt,.lf ne ed],.n _ b]=>(⟨np,pt,ne,unFE ed⟩,b)
 | _=>(⟨0,fun _=>[],0,fun _=>unE []⟩,0)
noncomputable def o_lk:List PV→Option (Bool × Ret):=o_fm dlk clk elk rlk
theorem zHH:jH Tryz.prog 83 o_lk:=qQD fun t h=>by
 obtain ⟨g,m⟩:=t;exact snd_lk (g.ne + 1) g m rfl h.1 h.2.1 h.2.2
def unq (k:Nat) (h:Nat→List PV) (w:Nat):Int:=match (h w)[k]? with
 | some (.n _ i)=>i
 | _=>0
def ladP (ln:Nat→Nat) (lt lc:Nat→Nat→Int):Nat→List PV:=fun u=>[.lf (ln u) (tcP (lt u) (lc u))]
def unLn (f:Nat→List PV):Nat→Nat:=fun u=>match f u with
 | [.lf n _]=>n
 | _=>0
def unLc (k:Nat) (f:Nat→List PV):Nat→Nat→Int:=fun u w=>match f u with
 | [.lf _ h]=>unq k h w
 | _=>0
theorem isP_inB {g:Gr} {v:Int} (h:isP g v=true):inB v g.np=true:=by
 unfold isP at h;simp only [vQJ,decide_eq_true_eq] at h;exact qHD (y:=v.toNat) (by omega) (by omega)
def csh:Nat × (Nat→Nat) × (Nat→Nat→Int) × (Nat→Nat→Int) × Int × Int→Prop:=fun t=>match t with | (np,_,_,_,a,b)=>np≤1000000∧inB a np=true∧b=a
def esh:Nat × (Nat→Nat) × (Nat→Nat→Int) × (Nat→Nat→Int) × Int × Int→List PV:=fun t=>match t with | (np,ln,lt,lc,a,b)=>[.lf np (ladP ln lt lc),.n .i64 a,.n .i64 b]
noncomputable def rsh:Nat × (Nat→Nat) × (Nat→Nat→Int) × (Nat→Nat→Int) × Int × Int→Ret:=fun t=>match t with | (_,_,_,_,a,b)=>.v (.t [.a [.lf 1 (fun _=>[.n .i64 a]),.n .i64 0],.b true])
def dsh:List PV→Nat × (Nat→Nat) × (Nat→Nat→Int) × (Nat→Nat→Int) × Int × Int:=fun ps=>match ps with
 | [.lf np f,.n _ a,.n _ b]=>(np,unLn f,unLc 0 f,unLc 1 f,a,b)
 | _=>(0,fun _=>0,fun _ _=>0,fun _ _=>0,0,0)
noncomputable def o_sh:List PV→Option (Bool × Ret):=o_fm dsh csh esh rsh
theorem ok_sh:jH Tryz.prog 82 o_sh:=qQD fun t h=>by
 obtain ⟨np,ln,lt,lc,a,b⟩:=t;exact by
  have h:np≤1000000∧inB a np=true∧b=a:=h;obtain ⟨h1,h2,rfl⟩:=h;exact snd_shs np ln lt lc b h1 h2
noncomputable def orsts (g:Gr) (a m:Int):OrS:=orS [(80,o_wf),(81,o_ip),(83,o_lk),(82,o_sh)] []
noncomputable def yZH (g:Gr) (a m:Int):List (List Nat × yV):=[]
set_option maxRecDepth 100000 in
theorem pxsts (g:Gr) (a m:Int):qQI Tf (orsts g a m) (qY (yZH g a m)) 60 46 [.a (gP g),.n .i64 a,.n .i64 a,.n .i64 m] =
 (bif (gF1 cwf ewf g) then (bif (wfB g) then (bif (gF1 cip eip (g,a)) then (bif (isP g a) then (bif (gF1 cip eip (g,a)) then (bif (isP g a) then (bif (decide (m < 0)) then some (.v (.t [.a [.l [],.n .i64 0],.b false]),[])
 else (bif (decide (2 < m)) then some (.v (.t [.a [.l [],.n .i64 0],.b false]),[])
 else (bif (gF1 clk elk (g,m)) then (bif (gF1 csh esh (g.np,((lkO g m).1),((lkO g m).2.1),((lkO g m).2.2),a,a)) then some (.v (.t [.a [.lf 1 (fun _=>[.n .i64 a]),.n .i64 0],.b true]),[])
 else none)
 else none)))
 else some (.v (.t [.a [.l [],.n .i64 0],.b false]),[]))
 else none)
 else some (.v (.t [.a [.l [],.n .i64 0],.b false]),[]))
 else none)
 else some (.v (.t [.a [.l [],.n .i64 0],.b false]),[]))
 else none):=by kernel_rfl
theorem snd_sts (g:Gr) (a m:Int) (hp:g.np≤1000000) (hn:g.ne≤8192) (hm:m=2):zY Tryz.prog 46 [.a (gP g),.n .i64 a,.n .i64 a,.n .i64 m] (bif wfB g && isP g a then .v (.t [.a [.lf 1 (fun _=>[.n .i64 a]),.n .i64 0],.b true]) else .v (.t [.a [.l [],.n .i64 0],.b false])):=by
 refine qH (N:=60) (LO:=qY (yZH g a m)) jY yH (jK (l:=[(80,o_wf),(81,o_ip),(83,o_lk),(82,o_sh)]) (m:=[]) ⟨ok_wf,ok_ip,zHH,ok_sh,trivial⟩ trivial) (fun p S hp => ?_) ?_
 ·refine qX (L:=qZ Tf 46) (l:=(yZH g a m)) (show AllP _ (yZH g a m) from trivial) p S hp
 ·refine (pxsts g a m).trans ?_;subst hm;simp only [jV (C:=cwf) (t:=g) trivial,jV (C:=cip) (t:=(g,a)) trivial,vYZ];cases hw:wfB g with
  | false=>rfl
  | true =>
   cases ha:isP g a with
   | false=>rfl
   | true =>
    rw [jV (C:=clk) (t:=(g,2)) ⟨hw,hp,hn⟩,jV (C:=csh) (t:=(g.np,(lkO g 2).1,(lkO g 2).2.1,(lkO g 2).2.2,a,a)) ⟨hp,isP_inB ha,rfl⟩];rfl
theorem snd_st (g:Gr) (a b m:Int) (h:b=a∧m=2∧g.np≤1000000∧g.ne≤8192):zY Tryz.prog 46 [.a (gP g),.n .i64 a,.n .i64 b,.n .i64 m] (.v (.t [.a [.lf (bif wfB g && isP g a then 1 else 0) (fun _=>[.n .i64 a]),.n .i64 0],.b (wfB g && isP g a)])):=by
 obtain ⟨rfl,rfl,h3,h4⟩:=h;have h:=snd_sts g b 2 h3 h4 rfl;cases hf:wfB g && isP g b with
 | true=>rw [hf] at h; exact h
 | false=>rw [hf] at h; exact qKV (Same.t (xs:=[_,_]) (ys:=[_,_]) ⟨Same.a (xs:=[_,_]) (ys:=[_,_]) ⟨Same.lf rfl,Same.refl _,trivial⟩,Same.refl _,trivial⟩) h
def cst:Gr × Int × Int × Int→Prop:=fun t=>match t with | (g,a,b,m)=>b=a∧m=2∧g.np≤1000000∧g.ne≤8192
def est:Gr × Int × Int × Int→List PV:=fun t=>match t with | (g,a,b,m)=>[.a (gP g),.n .i64 a,.n .i64 b,.n .i64 m]
noncomputable def rst:Gr × Int × Int × Int→Ret:=fun t=>match t with | (g,a,b,_)=>.v (.t [.a [.lf (bif wfB g && isP g a then 1 else 0) (fun _=>[.n .i64 a]),.n .i64 0],.b (wfB g && isP g a)])
def dst:List PV→Gr × Int × Int × Int:=fun ps=>match ps with
 | [.a [.lf np pt,.lf ne ed],.n _ a,.n _ b,.n _ m]=>(⟨np,pt,ne,unFE ed⟩,a,b,m)
 | _=>(⟨0,fun _=>[],0,fun _=>unE []⟩,0,0,0)
noncomputable def o_st:List PV→Option (Bool × Ret):=o_fm dst cst est rst
theorem ok_st:jH Tryz.prog 46 o_st:=qQD fun t h=>by
 obtain ⟨g,a,b,m⟩:=t;exact snd_st g a b m h
noncomputable def orhp (g:Gr) (a b:Int):OrS:=orS [(46,o_st)] []
noncomputable def lshp (g:Gr) (a b:Int):List (List Nat × yV):=[]
set_option maxRecDepth 100000 in
theorem pxhp (g:Gr) (a b:Int):qQI Tf (orhp g a b) (qY (lshp g a b)) 60 43 [.a (gP g),.n .i64 a,.n .i64 b] =
 (bif (gF1 cst est (g,a,a,2)) then (bif (wfB g && isP g a) then (bif (gF1 cst est (g,b,b,2)) then (bif (wfB g && isP g b) then some (.v (.b true),[])
 else some (.v (.b false),[]))
 else none)
 else some (.v (.b false),[]))
 else none):=by kernel_rfl
theorem snd_hp (g:Gr) (a b:Int) (hp:g.np≤1000000) (hn:g.ne≤8192):zY Tryz.prog 43 [.a (gP g),.n .i64 a,.n .i64 b] (.v (.b (wfB g && (isP g a && isP g b)))):=by
 refine qH (N:=60) (LO:=qY (lshp g a b)) jY yH (jK (l:=[(46,o_st)]) (m:=[]) ⟨ok_st,trivial⟩ trivial) (fun p S hp => ?_) ?_
 ·refine qX (L:=qZ Tf 43) (l:=(lshp g a b)) (show AllP _ (lshp g a b) from trivial) p S hp
 ·refine (pxhp g a b).trans ?_;simp only [jV (C:=cst) (t:=(g,a,a,2)) ⟨rfl,rfl,hp,hn⟩,jV (C:=cst) (t:=(g,b,b,2)) ⟨rfl,rfl,hp,hn⟩,vYZ];cases wfB g <;> cases isP g a <;> cases isP g b <;> rfl
def chp:Gr × Int × Int→Prop:=fun t=>match t with | (g,_,_)=>g.np≤1000000∧g.ne≤8192
def ehp:Gr × Int × Int→List PV:=fun t=>match t with | (g,a,b)=>[.a (gP g),.n .i64 a,.n .i64 b]
noncomputable def rhp:Gr × Int × Int→Ret:=fun t=>match t with | (g,a,b)=>.v (.b (wfB g && (isP g a && isP g b)))
def dhp:List PV→Gr × Int × Int:=fun ps=>match ps with
 | [.a [.lf np pt,.lf ne ed],.n _ a,.n _ b]=>(⟨np,pt,ne,unFE ed⟩,a,b)
 | _=>(⟨0,fun _=>[],0,fun _=>unE []⟩,0,0)
noncomputable def o_hp:List PV→Option (Bool × Ret):=o_fm dhp chp ehp rhp
theorem ok_hp:jH Tryz.prog 43 o_hp:=qQD fun t h=>by
 obtain ⟨g,a,b⟩:=t;exact snd_hp g a b h.1 h.2
end Go.Proofs.YtklmegnpfhiibaaGreat.Xd
namespace Go.Proofs.YtklmegnpfhiibaaGreat.Xn
open Go.Rx Rt Go.Sx Go.RowKit Od Nb Nc Xb Xc Bb Xe Xf Xg Xh Xi Xk Xm
def cu (js:Nat→J) (ms:Nat→Ms) (n m:Nat):(Nat→Int) × (Nat→Int) × (Nat→Int) × Nat × Nat × Nat × Int→Prop:=fun t=>match t with | (_,_,_,_,_,_,_)=>True
def eu (js:Nat→J) (ms:Nat→Ms) (n m:Nat):(Nat→Int) × (Nat→Int) × (Nat→Int) × Nat × Nat × Nat × Int→List PV:=fun t=>match t with | (qa,qb,qc,ka,kb,kc,best)=>[.a [.lf n (fJ js),.lf m (fM ms)],.lf ka (fQ qa),.lf kb (fQ qb),.lf kc (fQ qc),.n .i64 best]
noncomputable def ru (js:Nat→J) (ms:Nat→Ms) (n m:Nat):(Nat→Int) × (Nat→Int) × (Nat→Int) × Nat × Nat × Nat × Int→Ret:=fun t=>match t with | (qa,qb,qc,ka,kb,kc,best)=>.v (.b (uB js ms qa qb qc n m ka kb kc best))
def du:List PV→(Nat→Int) × (Nat→Int) × (Nat→Int) × Nat × Nat × Nat × Int:=fun ps=>match ps with
 | [_,.lf ka f,.lf kb g,.lf kc h,.n _ b]=>(unFQ f,unFQ g,unFQ h,ka,kb,kc,b)
 | _=>(fun _=>0,fun _=>0,fun _=>0,0,0,0,0)
noncomputable def o_u (js:Nat→J) (ms:Nat→Ms) (n m:Nat):List PV→Option (Bool × Ret):=o_fm du (cu js ms n m) (eu js ms n m) (ru js ms n m)
theorem ok_u (js:Nat→J) (ms:Nat→Ms) (n m:Nat):jH Tryz.prog 13 (o_u js ms n m):=qQD fun t h=>by
 obtain ⟨qa,qb,qc,ka,kb,kc,best⟩:=t;exact snd_use js ms qa qb qc n m ka kb kc best
def cur (js:Nat→J) (ms:Nat→Ms) (n m:Nat):(Nat→Int) × (Nat→Int) × (Nat→Int) × Nat × Nat × Nat × Int→Prop:=fun t=>match t with | (_,_,_,_,_,_,_)=>True
def chp:Gr × Int × Int→Prop:=fun t=>match t with | (g,_,_)=>g.np≤1000000∧g.ne≤8192
def ehp:Gr × Int × Int→List PV:=fun t=>match t with | (g,a,b)=>[.a (gP g),.n .i64 a,.n .i64 b]
noncomputable def rhp:Gr × Int × Int→Ret:=fun t=>match t with | (g,a,b)=>.v (.b (wfB g && (isP g a && isP g b)))
def dhp:List PV→Gr × Int × Int:=fun ps=>match ps with
 | [.a [.lf np pt,.lf ne ed],.n _ a,.n _ b]=>(⟨np,pt,ne,unFE ed⟩,a,b)
 | _=>(⟨0,fun _=>[],0,fun _=>unE []⟩,0,0)
noncomputable def o_hp:List PV→Option (Bool × Ret):=o_fm dhp chp ehp rhp
theorem ok_hp:jH Tryz.prog 43 o_hp:=qQD fun t h=>by
 obtain ⟨g,a,b⟩:=t;exact Xd.snd_hp g a b h.1 h.2
theorem snd_mk1 (np:Nat) (pn:Nat→Nat) (pv:Nat→Nat→Int) (ne:Nat) (ed:Nat→Ed) (h:np≤1000∧(∀ j,j < np→pn j≤50)∧ne≤8192∧∀ i,i < ne→OkE (ed i)):zY Tryz.prog 44 [.a [.lf np (fP pn pv),.lf ne (fE ed)],.n .i64 (-1),.a [.n .i64 0,.zs,.n .i64 0,.n .i64 0,.zs,.n .i64 0,.zs,.zs]] (.v (.t [.a [.lf np (fP pn pv),.lf ne (fE ed)],.b false])):=snd_mrk np pn pv ne ed h.1 h.2.1 h.2.2.1 h.2.2.2
def rgI (σ:St) (k c:Nat):Nat→Int:=fun v=>match (rgF σ k v)[c]? with
 | some (.n _ i)=>i
 | _=>0
def zP:Nat→List PV:=fun _=>[.zs]
def zE:Nat→List PV:=fun _=>[.n .i64 0,.n .i64 0,.n .i64 0,.n .i64 0,.n .i64 0,.zs,.n .i64 0,.n .i64 0,.zs,.n .i64 0,.zs,.zs]
def z0:Nat→Int:=fun _=>0
def stP (us:Nat→Bool) (pn:Nat→Nat) (pv:Nat→Nat→Int) (i:Nat) (t:(Nat→Int) × Nat × (Nat→Int) × Nat × (Nat→List PV)):(Nat→Int) × Nat × (Nat→Int) × Nat × (Nat→List PV) :=
 bif us i then ((fun v=>bif Nat.beq v i then (t.2.1:Int) else (bif Nat.beq v i then (-1) else t.1 v)),t.2.1 + 1,(fun v=>bif Nat.beq v t.2.1 then (i:Int) else t.2.2.1 v),t.2.2.2.1 + 1,(fun v=>qW (Nat.beq v t.2.2.2.1) [.lf (pn i) (fQ (pv i))] (t.2.2.2.2 v)))
 else ((fun v=>bif Nat.beq v i then (-1) else t.1 v),t.2.1,t.2.2.1,t.2.2.2.1,t.2.2.2.2)
def rnE (nu:Nat→Int) (e:Ed):Ed:={ e with u:=nu e.u.toNat,v:=nu e.v.toNat }
def egE (nu:Nat→Int) (ed:Nat→Ed) (i:Nat) (t:Nat × (Nat→List PV)):Nat × (Nat→List PV) :=
 bif decide (0≤nu (ed i).u.toNat) && decide (0≤nu (ed i).v.toNat) then (t.1 + 1,fun v=>qW (Nat.beq v t.1) (edP (rnE nu (ed i))) (t.2 v)) else t
def usF (js:Nat→J) (ms:Nat→Ms) (n m:Nat) (pn:Nat→Nat) (pv:Nat→Nat→Int) (a b best:Int) (j:Nat):Bool:=uB js ms (pv a.toNat) (pv b.toNat) (pv j) n m (pn a.toNat) (pn b.toNat) (pn j) best
def prT (us:Nat→Bool) (pn:Nat→Nat) (pv:Nat→Nat→Int) (np:Nat):(Nat→Int) × Nat × (Nat→Int) × Nat × (Nat→List PV):=qQL (stP us pn pv) np 0 (z0,0,z0,0,zP)
def prU (nu:Nat→Int) (ed:Nat→Ed) (ne:Nat):Nat × (Nat→List PV):=qQL (egE nu ed) ne 0 (0,zE)
def prB (js:Nat→J) (ms:Nat→Ms) (n m:Nat) (np:Nat) (pn:Nat→Nat) (pv:Nat→Nat→Int) (ne:Nat) (ed:Nat→Ed) (a b best:Int):Bool:=vmB js ms n m np pn pv ne ed && (decide (0≤a∧a < (np:Int)) && (decide (0≤b∧b < (np:Int)) && !decide (best < dE js ms n m pn pv a.toNat b.toNat)))
def prR (t:(Nat→Int) × Nat × (Nat→Int) × Nat × (Nat→List PV)) (y:Nat × (Nat→List PV)):PV:=.t [.a [.lf t.2.2.2.1 t.2.2.2.2,.lf y.1 y.2],.lf t.2.1 (fQ t.2.2.1)]
def prV (js:Nat→J) (ms:Nat→Ms) (n m:Nat) (np:Nat) (pn:Nat→Nat) (pv:Nat→Nat→Int) (ne:Nat) (ed:Nat→Ed) (a b best:Int):PV:=prR (prT (usF js ms n m pn pv a b best) pn pv np) (prU (prT (usF js ms n m pn pv a b best) pn pv np).1 ed ne)
def cntU (us:Nat→Bool):Nat→Nat
 | 0=>0
 | i + 1=>cntU us i + (bif us i then 1 else 0)
theorem qVV (us:Nat→Bool):∀ i,cntU us i≤i
 | 0=>Nat.le_refl _
 | i + 1=>by
  have:=qVV us i
  show cntU us i + (bif us i then 1 else 0)≤i + 1;cases us i <;> simp <;> omega
structure PI (us:Nat→Bool) (pn:Nat→Nat) (pv:Nat→Nat→Int) (i:Nat) (t:(Nat→Int) × Nat × (Nat→Int) × Nat × (Nat→List PV)):Prop where
 r:t.2.1=cntU us i
 q:t.2.2.2.1=cntU us i
 nu:∀ v,v < i→t.1 v=if us v then (cntU us v:Int) else -1
 ol:∀ v,v < cntU us i→∃ j,j < i∧us j=true∧cntU us j=v∧t.2.2.1 v=(j:Int)∧t.2.2.2.2 v=[.lf (pn j) (fQ (pv j))]
theorem qHL {v i:Nat} (h:v ≠ i):Nat.beq v i=false:=by rw [qJH,vYJ h]
theorem PI.step {us:Nat→Bool} {pn:Nat→Nat} {pv:Nat→Nat→Int} {i:Nat} {t:(Nat→Int) × Nat × (Nat→Int) × Nat × (Nat→List PV)} (h:PI us pn pv i t):PI us pn pv (i + 1) (stP us pn pv i t):=by
 have hc:cntU us (i + 1)=cntU us i + (bif us i then 1 else 0):=rfl;unfold stP;cases hu:us i with
 | true =>
  rw [hu] at hc;simp only [vYZ] at hc ⊢;refine ⟨by show t.2.1 + 1=_; rw [hc,h.r],by show t.2.2.2.1 + 1=_; rw [hc,h.q],fun v hv => ?_,fun v hv => ?_⟩
  ·show (bif Nat.beq v i then _ else _)=_;by_cases e:v=i
   ·subst e; rw [Nat.beq_refl,vYZ,if_pos hu,h.r]
   ·rw [qHL e,vYY,vYY,h.nu v (by omega)]
  ·show ∃ j,j < i + 1∧us j=true∧cntU us j=v∧(bif Nat.beq v t.2.1 then (i:Int) else t.2.2.1 v)=(j:Int)∧qW (Nat.beq v t.2.2.2.1) [.lf (pn i) (fQ (pv i))] (t.2.2.2.2 v)=[.lf (pn j) (fQ (pv j))];rw [h.r,h.q];by_cases e:v=cntU us i
   ·subst e;refine ⟨i,Nat.lt_succ_self _,hu,rfl,?_,?_⟩
    ·rw [Nat.beq_refl]; rfl
    ·rw [Nat.beq_refl,qKJ]
   ·obtain ⟨j,h1,h2,h3,h4,h5⟩:=h.ol v (by omega);exact ⟨j,by omega,h2,h3,by rw [qHL e,vYY,h4],by rw [qHL e,qKK,h5]⟩
 | false =>
  rw [hu] at hc;simp only [vYY,Nat.add_zero] at hc ⊢;refine ⟨by rw [hc]; exact h.r,by rw [hc]; exact h.q,fun v hv => ?_,fun v hv => ?_⟩
  ·show (bif Nat.beq v i then _ else _)=_;by_cases e:v=i
   ·subst e; rw [Nat.beq_refl,vYZ,hu]; rfl
   ·rw [qHL e,vYY,h.nu v (by omega)]
  ·obtain ⟨j,h1,h2⟩:=h.ol v (by omega);exact ⟨j,by omega,h2⟩
theorem prT_PI (us:Nat→Bool) (pn:Nat→Nat) (pv:Nat→Nat→Int) (np:Nat):PI us pn pv np (prT us pn pv np) :=
 qZX (Q:=fun i t=>PI us pn pv i t) (c:=np) (fun i t _ h=>h.step) np 0 _ (by omega) ⟨rfl,rfl,fun v hv=>absurd hv (Nat.not_lt_zero v),fun v hv=>absurd hv (Nat.not_lt_zero v)⟩
def kpE (nu:Nat→Int) (ed:Nat→Ed) (j:Nat):Bool:=decide (0≤nu (ed j).u.toNat) && decide (0≤nu (ed j).v.toNat)
structure EI (nu:Nat→Int) (ed:Nat→Ed) (i:Nat) (t:Nat × (Nat→List PV)):Prop where
 s:t.1=cntU (kpE nu ed) i
 e:∀ v,v < cntU (kpE nu ed) i→∃ j,j < i∧kpE nu ed j=true∧cntU (kpE nu ed) j=v∧t.2 v=edP (rnE nu (ed j))
theorem EI.step {nu:Nat→Int} {ed:Nat→Ed} {i:Nat} {t:Nat × (Nat→List PV)} (h:EI nu ed i t):EI nu ed (i + 1) (egE nu ed i t):=by
 have hc:cntU (kpE nu ed) (i + 1)=cntU (kpE nu ed) i + (bif kpE nu ed i then 1 else 0):=rfl;unfold egE;cases hu:kpE nu ed i with
 | true =>
  rw [hu] at hc;rw [show (decide (0≤nu (ed i).u.toNat) && decide (0≤nu (ed i).v.toNat))=true from hu];simp only [vYZ] at hc ⊢;refine ⟨by show t.1 + 1=_; rw [hc,h.s],fun v hv => ?_⟩;show ∃ j,j < i + 1∧kpE nu ed j=true∧cntU (kpE nu ed) j=v∧qW (Nat.beq v t.1) (edP (rnE nu (ed i))) (t.2 v)=_;rw [h.s];by_cases e:v=cntU (kpE nu ed) i
  ·subst e;exact ⟨i,Nat.lt_succ_self _,hu,rfl,by rw [Nat.beq_refl,qKJ]⟩
  ·obtain ⟨j,h1,h2,h3,h4⟩:=h.e v (by omega);exact ⟨j,by omega,h2,h3,by rw [qHL e,qKK,h4]⟩
 | false =>
  rw [hu] at hc;rw [show (decide (0≤nu (ed i).u.toNat) && decide (0≤nu (ed i).v.toNat))=false from hu];simp only [vYY,Nat.add_zero] at hc ⊢;refine ⟨by rw [hc]; exact h.s,fun v hv => ?_⟩;obtain ⟨j,h1,h2⟩:=h.e v (by omega);exact ⟨j,by omega,h2⟩
theorem prU_EI (nu:Nat→Int) (ed:Nat→Ed) (ne:Nat):EI nu ed ne (prU nu ed ne) :=
 qZX (Q:=fun i t=>EI nu ed i t) (c:=ne) (fun i t _ h=>h.step) ne 0 _ (by omega) ⟨rfl,fun v hv=>absurd hv (Nat.not_lt_zero v)⟩
noncomputable def orq1 (N:Nat) (js:Nat→J) (ms:Nat→Ms) (n m:Nat) (np:Nat) (pn:Nat→Nat) (pv:Nat→Nat→Int) (ne:Nat) (ed:Nat→Ed) (a b best:Int):OrS:=orS [(42,o_lk [.a [.lf n (fJ js),.lf m (fM ms)],.a [.lf np (fP pn pv),.lf ne (fE ed)]] (decide (np≤1000)) (.v (.b (vmB js ms n m np pn pv ne ed)))),(43,o_hp),(33,o_ds js ms n m),(44,o_lk [.a [.lf np (fP pn pv),.lf ne (fE ed)],.n .i64 (-1),.a [.n .i64 0,.zs,.n .i64 0,.n .i64 0,.zs,.n .i64 0,.zs,.zs]] (Go.Rx.gP (np≤1000∧(∀ j,j < np→pn j≤50)∧ne≤8192∧∀ i,i < ne→OkE (ed i))) (.v (.t [.a [.lf np (fP pn pv),.lf ne (fE ed)],.b false]))),(13,o_u js ms n m)] []
noncomputable def hq1 (N:Nat) (js:Nat→J) (ms:Nat→Ms) (n m:Nat) (np:Nat) (pn:Nat→Nat) (pv:Nat→Nat→Int) (ne:Nat) (ed:Nat→Ed) (a b best:Int) (i:Int) (nu:Nat→Int) (r:Nat) (ol:Nat→Int) (q:Nat) (f:Nat→List PV):St:=⟨[(4,.v (.n .i64 best)),(5,.p 5 0),(6,.p 6 0),(10,.p 10 0),(11,.p 11 0),(12,.v (.lf (pn (a).toNat) (fun w=>[.n .i64 (pv (a).toNat w)]))),(13,.v (.lf (pn (b).toNat) (fun w=>[.n .i64 (pv (b).toNat w)]))),(14,.o 58),(60,.v (.lf np (fP pn pv))),(61,.v (.n .i64 (np:Int))),(62,.v (.n .i64 i))],[(5,.blk [.v (.lf n (fJ js)),.v (.lf m (fM ms))]),(6,.blk [.v (.lf np (fP pn pv)),.v (.lf ne (fE ed))]),(10,.blk [.o 89,.nl]),(11,.blk [.o 84]),(58,.reg 3 1 (.fo (np:Int).toNat (fun v=>[.n .i64 (nu v)]))),(84,.reg 3 1 (.fo r (fun v=>[.n .i64 (ol v)]))),(89,.reg 30 1 (.fo q f))]⟩
set_option maxRecDepth 100000 in
theorem rdq1 (G:St→Option (Ret × Mem)) (K:Cont) (N:Nat) (js:Nat→J) (ms:Nat→Ms) (n m:Nat) (np:Nat) (pn:Nat→Nat) (pv:Nat→Nat→Int) (ne:Nat) (ed:Nat→Ed) (a b best:Int) (i:Int) (nu:Nat→Int) (r:Nat) (ol:Nat→Int) (q:Nat) (f:Nat→List PV):stpT Tf 17 (orq1 N js ms n m np pn pv ne ed a b best) N [] [0,1,0,1,1,1,1,1,1,1] K G (hq1 N js ms n m np pn pv ne ed a b best i nu r ol q f) =
 (bif (decide (i < (np:Int))) then (bif (inB i np) then (bif (inB i (np:Int).toNat) then (bif (gF1 (cu js ms n m) (eu js ms n m) ((pv (a).toNat),(pv (b).toNat),(pv (i).toNat),(pn (a).toNat),(pn (b).toNat),(pn (i).toNat),best)) then (bif (uB js ms (pv (a).toNat) (pv (b).toNat) (pv (i).toNat) n m (pn (a).toNat) (pn (b).toNat) (pn (i).toNat) best) then (bif (inB i (np:Int).toNat) then (bif (decide (r + 1≤1000000)) then (bif (decide (q + 1≤1000000)) then (G (hq1 N js ms n m np pn pv ne ed a b best (vYW .i64 (i + 1)) (fun v=>(bif (Nat.beq v (i).toNat) then (r:Int) else (bif (Nat.beq v (i).toNat) then (-1) else (nu v)))) (r + 1) (fun v=>(bif (Nat.beq v r) then i else (ol v))) (q + 1) (fun v=>qW (Nat.beq v q) [.lf (pn (i).toNat) (fun w=>[.n .i64 (pv (i).toNat w)])] (f v))))
 else none)
 else none)
 else none)
 else (G (hq1 N js ms n m np pn pv ne ed a b best (vYW .i64 (i + 1)) (fun v=>(bif (Nat.beq v (i).toNat) then (-1) else (nu v))) r (fun v=>(ol v)) q f)))
 else none)
 else none)
 else none)
 else (K (.exit 0) ⟨[(6,.p 6 0),(10,.p 10 0),(11,.p 11 0),(14,.o 58)],[(6,.blk [.v (.lf np (fP pn pv)),.v (.lf ne (fE ed))]),(10,.blk [.o 89,.nl]),(11,.blk [.o 84]),(58,.reg 3 1 (.fo (np:Int).toNat (fun v=>[.n .i64 (nu v)]))),(84,.reg 3 1 (.fo r (fun v=>[.n .i64 (ol v)]))),(89,.reg 30 1 (.fo q f))]⟩)):=by kernel_rfl
noncomputable def dcq1 (js:Nat→J) (ms:Nat→Ms) (n m:Nat) (np:Nat) (pn:Nat→Nat) (pv:Nat→Nat→Int) (ne:Nat) (ed:Nat→Ed) (a b best:Int):(Int × (Nat→Int) × Nat × (Nat→Int) × Nat × (Nat→List PV))→(Int × (Nat→Int) × Nat × (Nat→Int) × Nat × (Nat→List PV)) ⊕ (Nat × Int × (Nat→Int) × Nat × (Nat→Int) × Nat × (Nat→List PV)):=fun t=>match t with | (i,nu,r,ol,q,f)=>(bif (decide (i < (np:Int))) then (bif (inB i np) then (bif (inB i (np:Int).toNat) then (bif (gF1 (cu js ms n m) (eu js ms n m) ((pv (a).toNat),(pv (b).toNat),(pv (i).toNat),(pn (a).toNat),(pn (b).toNat),(pn (i).toNat),best)) then (bif (uB js ms (pv (a).toNat) (pv (b).toNat) (pv (i).toNat) n m (pn (a).toNat) (pn (b).toNat) (pn (i).toNat) best) then (bif (decide (r + 1≤1000000)) then (bif (decide (q + 1≤1000000)) then (.inl ((vYW .i64 (i + 1)),(fun v=>(bif (Nat.beq v (i).toNat) then (r:Int) else (bif (Nat.beq v (i).toNat) then (-1) else (nu v)))),(r + 1),(fun v=>(bif (Nat.beq v r) then i else (ol v))),(q + 1),(fun v=>qW (Nat.beq v q) [.lf (pn (i).toNat) (fun w=>[.n .i64 (pv (i).toNat w)])] (f v)))) else (.inr (1,(i,nu,r,ol,q,f)))) else (.inr (1,(i,nu,r,ol,q,f)))) else (.inl ((vYW .i64 (i + 1)),(fun v=>(bif (Nat.beq v (i).toNat) then (-1) else (nu v))),r,(fun v=>(ol v)),q,f))) else (.inr (1,(i,nu,r,ol,q,f)))) else (.inr (1,(i,nu,r,ol,q,f)))) else (.inr (1,(i,nu,r,ol,q,f)))) else (.inr (0,(i,nu,r,ol,q,f))))
noncomputable def kxq1 (N:Nat) (js:Nat→J) (ms:Nat→Ms) (n m:Nat) (np:Nat) (pn:Nat→Nat) (pv:Nat→Nat→Int) (ne:Nat) (ed:Nat→Ed) (a b best:Int) (K:Cont) (w9:Nat × Int × (Nat→Int) × Nat × (Nat→Int) × Nat × (Nat→List PV)):Option (Ret × Mem):=bif Nat.beq w9.1 0 then (K (.exit 0) ⟨[(6,.p 6 0),(10,.p 10 0),(11,.p 11 0),(14,.o 58)],[(6,.blk [.v (.lf np (fP pn pv)),.v (.lf ne (fE ed))]),(10,.blk [.o 89,.nl]),(11,.blk [.o 84]),(58,.reg 3 1 (.fo (np:Int).toNat (fun v=>[.n .i64 (w9.2.2.1 v)]))),(84,.reg 3 1 (.fo w9.2.2.2.1 (fun v=>[.n .i64 (w9.2.2.2.2.1 v)]))),(89,.reg 30 1 (.fo w9.2.2.2.2.2.1 w9.2.2.2.2.2.2))]⟩) else none
theorem wlq1 (K:Cont) (N:Nat) (js:Nat→J) (ms:Nat→Ms) (n m:Nat) (np:Nat) (pn:Nat→Nat) (pv:Nat→Nat→Int) (ne:Nat) (ed:Nat→Ed) (a b best:Int):∀ n9 (t:(Int × (Nat→Int) × Nat × (Nat→Int) × Nat × (Nat→List PV))),LFT Tf 17 (orq1 N js ms n m np pn pv ne ed a b best) N [] [0,1,0,1,1,1,1,1,1,1] K n9 (hq1 N js ms n m np pn pv ne ed a b best t.1 t.2.1 t.2.2.1 t.2.2.2.1 t.2.2.2.2.1 t.2.2.2.2.2)=(qG (dcq1 js ms n m np pn pv ne ed a b best) n9 t).bind (kxq1 N js ms n m np pn pv ne ed a b best K):=fun n9 t=>by
 refine qYG (L:=LFT Tf 17 (orq1 N js ms n m np pn pv ne ed a b best) N [] [0,1,0,1,1,1,1,1,1,1] K) (stp:=stpT Tf 17 (orq1 N js ms n m np pn pv ne ed a b best) N [] [0,1,0,1,1,1,1,1,1,1] K) (fun _ _=>rfl) (fun _=>rfl) (fun t=>hq1 N js ms n m np pn pv ne ed a b best t.1 t.2.1 t.2.2.1 t.2.2.2.1 t.2.2.2.2.1 t.2.2.2.2.2) (fun _=>True) (dcq1 js ms n m np pn pv ne ed a b best) (kxq1 N js ms n m np pn pv ne ed a b best K) (fun G t _ => ?_) (fun _ _ _ _=>trivial) n9 t trivial;obtain ⟨i,nu,r,ol,q,f⟩:=t;refine (rdq1 G K N js ms n m np pn pv ne ed a b best i nu r ol q f).trans ?_;dsimp only [dcq1];cases (decide (i < (np:Int)))
 ·rfl
 ·cases (inB i np)
  ·rfl
  ·cases (inB i (np:Int).toNat)
   ·rfl
   ·cases (gF1 (cu js ms n m) (eu js ms n m) ((pv (a).toNat),(pv (b).toNat),(pv (i).toNat),(pn (a).toNat),(pn (b).toNat),(pn (i).toNat),best))
    ·rfl
    ·cases (uB js ms (pv (a).toNat) (pv (b).toNat) (pv (i).toNat) n m (pn (a).toNat) (pn (b).toNat) (pn (i).toNat) best)
     ·rfl
     ·cases (decide (r + 1≤1000000))
      ·rfl
      ·cases (decide (q + 1≤1000000))
       ·rfl
       ·rfl
noncomputable def zHZ (N:Nat) (js:Nat→J) (ms:Nat→Ms) (n m:Nat) (np:Nat) (pn:Nat→Nat) (pv:Nat→Nat→Int) (ne:Nat) (ed:Nat→Ed) (a b best:Int) (t:(Int × (Nat→Int) × Nat × (Nat→Int) × Nat × (Nat→List PV))):Bool:=(qG (dcq1 js ms n m np pn pv ne ed a b best) N t).isSome
noncomputable def jW (N:Nat) (js:Nat→J) (ms:Nat→Ms) (n m:Nat) (np:Nat) (pn:Nat→Nat) (pv:Nat→Nat→Int) (ne:Nat) (ed:Nat→Ed) (a b best:Int) (t:(Int × (Nat→Int) × Nat × (Nat→Int) × Nat × (Nat→List PV))):Nat × Int × (Nat→Int) × Nat × (Nat→Int) × Nat × (Nat→List PV):=(qG (dcq1 js ms n m np pn pv ne ed a b best) N t).getD (99,t)
theorem lwq1 (K:Cont) (N:Nat) (js:Nat→J) (ms:Nat→Ms) (n m:Nat) (np:Nat) (pn:Nat→Nat) (pv:Nat→Nat→Int) (ne:Nat) (ed:Nat→Ed) (a b best:Int) (t:(Int × (Nat→Int) × Nat × (Nat→Int) × Nat × (Nat→List PV))) (hg:zHZ N js ms n m np pn pv ne ed a b best t=true):LFT Tf 17 (orq1 N js ms n m np pn pv ne ed a b best) N [] [0,1,0,1,1,1,1,1,1,1] K N (hq1 N js ms n m np pn pv ne ed a b best t.1 t.2.1 t.2.2.1 t.2.2.2.1 t.2.2.2.2.1 t.2.2.2.2.2)=kxq1 N js ms n m np pn pv ne ed a b best K (jW N js ms n m np pn pv ne ed a b best t):=by
 refine (wlq1 K N js ms n m np pn pv ne ed a b best N t).trans ?_;unfold zHZ at hg;unfold jW;cases h:qG (dcq1 js ms n m np pn pv ne ed a b best) N t with
 | none=>rw [h] at hg; cases hg
 | some y=>rfl
noncomputable def hq2 (N:Nat) (js:Nat→J) (ms:Nat→Ms) (n m:Nat) (np:Nat) (pn:Nat→Nat) (pv:Nat→Nat→Int) (ne:Nat) (ed:Nat→Ed) (a b best:Int) (i:Int) (nu:Nat→Int) (r:Nat) (ol:Nat→Int) (q:Nat) (f:Nat→List PV) (s:Nat) (fe:Nat→List PV):St:=⟨[(10,.p 10 0),(11,.p 11 0),(14,.o 58),(93,.v (.lf ne (fE ed))),(94,.v (.n .i64 (ne:Int))),(95,.v (.n .i64 i))],[(10,.blk [.o 89,.o 123]),(11,.blk [.o 84]),(58,.reg 3 1 (.fo (np:Int).toNat (fun v=>[.n .i64 (nu v)]))),(84,.reg 3 1 (.fo r (fun v=>[.n .i64 (ol v)]))),(89,.reg 30 1 (.fo q f)),(123,.reg 61 12 (.fo s fe))]⟩
set_option maxRecDepth 100000 in
theorem rdq2 (G:St→Option (Ret × Mem)) (K:Cont) (N:Nat) (js:Nat→J) (ms:Nat→Ms) (n m:Nat) (np:Nat) (pn:Nat→Nat) (pv:Nat→Nat→Int) (ne:Nat) (ed:Nat→Ed) (a b best:Int) (i:Int) (nu:Nat→Int) (r:Nat) (ol:Nat→Int) (q:Nat) (f:Nat→List PV) (s:Nat) (fe:Nat→List PV):stpT Tf 17 (orq1 N js ms n m np pn pv ne ed a b best) N [] [0,1,0,1,1,1,1,1,1,1,1] K G (hq2 N js ms n m np pn pv ne ed a b best i nu r ol q f s fe) =
 (bif (decide (i < (ne:Int))) then (bif (inB i ne) then (bif (inB (ed (i).toNat).u (np:Int).toNat) then (bif (inB (ed (i).toNat).v (np:Int).toNat) then (bif (decide (0≤(nu (ed (i).toNat).u.toNat))) then (bif (decide (0≤(nu (ed (i).toNat).v.toNat))) then (bif (decide (s + 1≤1000000)) then (G (hq2 N js ms n m np pn pv ne ed a b best (vYW .i64 (i + 1)) (fun v=>(nu v)) r (fun v=>(ol v)) q f (s + 1) (fun v=>qW (Nat.beq v s) [.n .i64 (nu (ed (i).toNat).u.toNat),.n .i64 (nu (ed (i).toNat).v.toNat),.n .i64 (ed (i).toNat).c,.n .i64 (ed (i).toNat).s,.n .i64 (ed (i).toNat).kd,.lf (ed (i).toNat).n1 (ed (i).toNat).f1,.n .i64 (ed (i).toNat).dp,.n .i64 (ed (i).toNat).ix,.lf (ed (i).toNat).n2 (ed (i).toNat).f2,.n .i64 (ed (i).toNat).pr,.lf (ed (i).toNat).n3 (ed (i).toNat).f3,.lf (ed (i).toNat).n4 (ed (i).toNat).f4] (fe v))))
 else none)
 else (G (hq2 N js ms n m np pn pv ne ed a b best (vYW .i64 (i + 1)) (fun v=>(nu v)) r (fun v=>(ol v)) q f s fe)))
 else (G (hq2 N js ms n m np pn pv ne ed a b best (vYW .i64 (i + 1)) (fun v=>(nu v)) r (fun v=>(ol v)) q f s fe)))
 else none)
 else none)
 else none)
 else (K (.exit 2) ⟨[(10,.p 10 0),(11,.p 11 0)],[(10,.blk [.o 89,.o 123]),(11,.blk [.o 84]),(84,.reg 3 1 (.fo r (fun v=>[.n .i64 (ol v)]))),(89,.reg 30 1 (.fo q f)),(123,.reg 61 12 (.fo s fe))]⟩)):=by kernel_rfl
noncomputable def dcq2 (js:Nat→J) (ms:Nat→Ms) (n m:Nat) (np:Nat) (pn:Nat→Nat) (pv:Nat→Nat→Int) (ne:Nat) (ed:Nat→Ed) (a b best:Int):(Int × (Nat→Int) × Nat × (Nat→Int) × Nat × (Nat→List PV) × Nat × (Nat→List PV))→(Int × (Nat→Int) × Nat × (Nat→Int) × Nat × (Nat→List PV) × Nat × (Nat→List PV)) ⊕ (Nat × Int × (Nat→Int) × Nat × (Nat→Int) × Nat × (Nat→List PV) × Nat × (Nat→List PV)):=fun t=>match t with | (i,nu,r,ol,q,f,s,fe)=>(bif (decide (i < (ne:Int))) then (bif (inB i ne) then (bif (inB (ed (i).toNat).u (np:Int).toNat) then (bif (inB (ed (i).toNat).v (np:Int).toNat) then (bif (decide (0≤(nu (ed (i).toNat).u.toNat))) then (bif (decide (0≤(nu (ed (i).toNat).v.toNat))) then (bif (decide (s + 1≤1000000)) then (.inl ((vYW .i64 (i + 1)),(fun v=>(nu v)),r,(fun v=>(ol v)),q,f,(s + 1),(fun v=>qW (Nat.beq v s) [.n .i64 (nu (ed (i).toNat).u.toNat),.n .i64 (nu (ed (i).toNat).v.toNat),.n .i64 (ed (i).toNat).c,.n .i64 (ed (i).toNat).s,.n .i64 (ed (i).toNat).kd,.lf (ed (i).toNat).n1 (ed (i).toNat).f1,.n .i64 (ed (i).toNat).dp,.n .i64 (ed (i).toNat).ix,.lf (ed (i).toNat).n2 (ed (i).toNat).f2,.n .i64 (ed (i).toNat).pr,.lf (ed (i).toNat).n3 (ed (i).toNat).f3,.lf (ed (i).toNat).n4 (ed (i).toNat).f4] (fe v)))) else (.inr (1,(i,nu,r,ol,q,f,s,fe)))) else (.inl ((vYW .i64 (i + 1)),(fun v=>(nu v)),r,(fun v=>(ol v)),q,f,s,fe))) else (.inl ((vYW .i64 (i + 1)),(fun v=>(nu v)),r,(fun v=>(ol v)),q,f,s,fe))) else (.inr (1,(i,nu,r,ol,q,f,s,fe)))) else (.inr (1,(i,nu,r,ol,q,f,s,fe)))) else (.inr (1,(i,nu,r,ol,q,f,s,fe)))) else (.inr (0,(i,nu,r,ol,q,f,s,fe))))
noncomputable def kxq2 (N:Nat) (js:Nat→J) (ms:Nat→Ms) (n m:Nat) (np:Nat) (pn:Nat→Nat) (pv:Nat→Nat→Int) (ne:Nat) (ed:Nat→Ed) (a b best:Int) (K:Cont) (w9:Nat × Int × (Nat→Int) × Nat × (Nat→Int) × Nat × (Nat→List PV) × Nat × (Nat→List PV)):Option (Ret × Mem):=bif Nat.beq w9.1 0 then (K (.exit 2) ⟨[(10,.p 10 0),(11,.p 11 0)],[(10,.blk [.o 89,.o 123]),(11,.blk [.o 84]),(84,.reg 3 1 (.fo w9.2.2.2.1 (fun v=>[.n .i64 (w9.2.2.2.2.1 v)]))),(89,.reg 30 1 (.fo w9.2.2.2.2.2.1 w9.2.2.2.2.2.2.1)),(123,.reg 61 12 (.fo w9.2.2.2.2.2.2.2.1 w9.2.2.2.2.2.2.2.2))]⟩) else none
theorem wlq2 (K:Cont) (N:Nat) (js:Nat→J) (ms:Nat→Ms) (n m:Nat) (np:Nat) (pn:Nat→Nat) (pv:Nat→Nat→Int) (ne:Nat) (ed:Nat→Ed) (a b best:Int):∀ n9 (t:(Int × (Nat→Int) × Nat × (Nat→Int) × Nat × (Nat→List PV) × Nat × (Nat→List PV))),LFT Tf 17 (orq1 N js ms n m np pn pv ne ed a b best) N [] [0,1,0,1,1,1,1,1,1,1,1] K n9 (hq2 N js ms n m np pn pv ne ed a b best t.1 t.2.1 t.2.2.1 t.2.2.2.1 t.2.2.2.2.1 t.2.2.2.2.2.1 t.2.2.2.2.2.2.1 t.2.2.2.2.2.2.2)=(qG (dcq2 js ms n m np pn pv ne ed a b best) n9 t).bind (kxq2 N js ms n m np pn pv ne ed a b best K):=fun n9 t=>by
 refine qYG (L:=LFT Tf 17 (orq1 N js ms n m np pn pv ne ed a b best) N [] [0,1,0,1,1,1,1,1,1,1,1] K) (stp:=stpT Tf 17 (orq1 N js ms n m np pn pv ne ed a b best) N [] [0,1,0,1,1,1,1,1,1,1,1] K) (fun _ _=>rfl) (fun _=>rfl) (fun t=>hq2 N js ms n m np pn pv ne ed a b best t.1 t.2.1 t.2.2.1 t.2.2.2.1 t.2.2.2.2.1 t.2.2.2.2.2.1 t.2.2.2.2.2.2.1 t.2.2.2.2.2.2.2) (fun _=>True) (dcq2 js ms n m np pn pv ne ed a b best) (kxq2 N js ms n m np pn pv ne ed a b best K) (fun G t _ => ?_) (fun _ _ _ _=>trivial) n9 t trivial;obtain ⟨i,nu,r,ol,q,f,s,fe⟩:=t;refine (rdq2 G K N js ms n m np pn pv ne ed a b best i nu r ol q f s fe).trans ?_;dsimp only [dcq2];cases (decide (i < (ne:Int)))
 ·rfl
 ·cases (inB i ne)
  ·rfl
  ·cases (inB (ed (i).toNat).u (np:Int).toNat)
   ·rfl
   ·cases (inB (ed (i).toNat).v (np:Int).toNat)
    ·rfl
    ·cases (decide (0≤(nu (ed (i).toNat).u.toNat)))
     ·rfl
     ·cases (decide (0≤(nu (ed (i).toNat).v.toNat)))
      ·rfl
      ·cases (decide (s + 1≤1000000))
       ·rfl
       ·rfl
noncomputable def zHQ (N:Nat) (js:Nat→J) (ms:Nat→Ms) (n m:Nat) (np:Nat) (pn:Nat→Nat) (pv:Nat→Nat→Int) (ne:Nat) (ed:Nat→Ed) (a b best:Int) (t:(Int × (Nat→Int) × Nat × (Nat→Int) × Nat × (Nat→List PV) × Nat × (Nat→List PV))):Bool:=(qG (dcq2 js ms n m np pn pv ne ed a b best) N t).isSome
noncomputable def zQG (N:Nat) (js:Nat→J) (ms:Nat→Ms) (n m:Nat) (np:Nat) (pn:Nat→Nat) (pv:Nat→Nat→Int) (ne:Nat) (ed:Nat→Ed) (a b best:Int) (t:(Int × (Nat→Int) × Nat × (Nat→Int) × Nat × (Nat→List PV) × Nat × (Nat→List PV))):Nat × Int × (Nat→Int) × Nat × (Nat→Int) × Nat × (Nat→List PV) × Nat × (Nat→List PV):=(qG (dcq2 js ms n m np pn pv ne ed a b best) N t).getD (99,t)
theorem lwq2 (K:Cont) (N:Nat) (js:Nat→J) (ms:Nat→Ms) (n m:Nat) (np:Nat) (pn:Nat→Nat) (pv:Nat→Nat→Int) (ne:Nat) (ed:Nat→Ed) (a b best:Int) (t:(Int × (Nat→Int) × Nat × (Nat→Int) × Nat × (Nat→List PV) × Nat × (Nat→List PV))) (hg:zHQ N js ms n m np pn pv ne ed a b best t=true):LFT Tf 17 (orq1 N js ms n m np pn pv ne ed a b best) N [] [0,1,0,1,1,1,1,1,1,1,1] K N (hq2 N js ms n m np pn pv ne ed a b best t.1 t.2.1 t.2.2.1 t.2.2.2.1 t.2.2.2.2.1 t.2.2.2.2.2.1 t.2.2.2.2.2.2.1 t.2.2.2.2.2.2.2)=kxq2 N js ms n m np pn pv ne ed a b best K (zQG N js ms n m np pn pv ne ed a b best t):=by
 refine (wlq2 K N js ms n m np pn pv ne ed a b best N t).trans ?_;unfold zHQ at hg;unfold zQG;cases h:qG (dcq2 js ms n m np pn pv ne ed a b best) N t with
 | none=>rw [h] at hg; cases hg
 | some y=>rfl
theorem yJA {np:Nat} {js:Nat→J} {ms:Nat→Ms} {n m:Nat} {pn:Nat→Nat} {pv:Nat→Nat→Int} {ne:Nat} {ed:Nat→Ed} {a b best:Int} (hp:np≤1000):∀ (d i N:Nat) (t:(Nat→Int) × Nat × (Nat→Int) × Nat × (Nat→List PV)),i + d=np→d < N→PI (usF js ms n m pn pv a b best) pn pv i t→qG (dcq1 js ms n m np pn pv ne ed a b best) N ((i:Int),t)=some (0,(np:Int),qQL (stP (usF js ms n m pn pv a b best) pn pv) d i t)
 | _,_,0,_,_,h,_=>by omega
 | 0,i,N + 1,t,hd,_,hI=>by
  obtain rfl:i=np:=by omega
  obtain ⟨nu,r,ol,q,f⟩:=t;rw [qG];dsimp only [dcq1];rw [vYJ (show ¬ (i:Int) < (i:Int) by omega)];rfl
 | d + 1,i,N + 1,t,hd,hN,hI=>by
  have hr:=hI.r;have hq:=hI.q;have hc:=qVV (usF js ms n m pn pv a b best) i;have hs:=hI.step;obtain ⟨nu,r,ol,q,f⟩:=t;dsimp only at hr hq;rw [qG,qQL];dsimp only [dcq1];simp only [vYK (show (i:Int) < (np:Int) by omega),zU (show i < np by omega),toN,jV (C:=cu js ms n m) (t:=(pv a.toNat,pv b.toNat,pv i,pn a.toNat,pn b.toNat,pn i,best)) trivial,vYK (show r + 1≤1000000 by omega),vYK (show q + 1≤1000000 by omega),jG (show i < 1000000 by omega),vYZ];have hu:uB js ms (pv a.toNat) (pv b.toNat) (pv i) n m (pn a.toNat) (pn b.toNat) (pn i) best=usF js ms n m pn pv a b best i:=rfl;rw [hu]
  revert hs
  unfold stP;cases usF js ms n m pn pv a b best i with
  | true=>exact fun hs=>yJA hp d (i + 1) N _ (by omega) (by omega) hs
  | false=>exact fun hs=>yJA hp d (i + 1) N _ (by omega) (by omega) hs
theorem yYA {np:Nat} {js:Nat→J} {ms:Nat→Ms} {n m:Nat} {pn:Nat→Nat} {pv:Nat→Nat→Int} {ne:Nat} {ed:Nat→Ed} {a b best:Int} {nu:Nat→Int} {r:Nat} {ol:Nat→Int} {q:Nat} {f:Nat→List PV} (he:ne≤8192) (hrg:∀ i,i < ne→0≤(ed i).u∧(ed i).u < (np:Int)∧0≤(ed i).v∧(ed i).v < (np:Int)):∀ (d i N:Nat) (t:Nat × (Nat→List PV)),i + d=ne→d < N→EI nu ed i t→qG (dcq2 js ms n m np pn pv ne ed a b best) N ((i:Int),nu,r,ol,q,f,t)=some (0,(ne:Int),nu,r,ol,q,f,qQL (egE nu ed) d i t)
 | _,_,0,_,_,h,_=>by omega
 | 0,i,N + 1,t,hd,_,hI=>by
  obtain rfl:i=ne:=by omega
  obtain ⟨s,fe⟩:=t;rw [qG];dsimp only [dcq2];rw [vYJ (show ¬ (i:Int) < (i:Int) by omega)];rfl
 | d + 1,i,N + 1,t,hd,hN,hI=>by
  have hr:=hI.s;have hc:=qVV (kpE nu ed) i;have hs:=hI.step;obtain ⟨r1,r2,r3,r4⟩:=hrg i (by omega);obtain ⟨s,fe⟩:=t;dsimp only at hr;rw [qG,qQL];dsimp only [dcq2];simp only [vYK (show (i:Int) < (ne:Int) by omega),zU (show i < ne by omega),toN,zYJ r1 r2,zYJ r3 r4,vYK (show s + 1≤1000000 by omega),jG (show i < 1000000 by omega),vYZ]
  revert hs
  unfold egE;cases decide (0≤nu (ed i).u.toNat) with
  | false=>exact fun hs=>yYA he hrg d (i + 1) N _ (by omega) (by omega) hs
  | true =>
   cases decide (0≤nu (ed i).v.toNat) with
   | false=>exact fun hs=>yYA he hrg d (i + 1) N _ (by omega) (by omega) hs
   | true=>exact fun hs=>yYA he hrg d (i + 1) N _ (by omega) (by omega) hs
def prZ:PV:=.t [.a [.l [],.l []],.l []]
theorem isP_t {g:Gr} {v:Int} (h:0≤v∧v < (g.np:Int)):isP g v=true:=by unfold isP; rw [vYK h.1,vYK h.2]; rfl
theorem isP_f {g:Gr} {v:Int} (h:¬ (0≤v∧v < (g.np:Int))):isP g v=false:=by
 unfold isP;by_cases h1:0≤v
 ·rw [vYK h1,vYJ (fun h2=>h ⟨h1,h2⟩)]; rfl
 ·rw [vYJ h1]; rfl
theorem vm_rg {js:Nat→J} {ms:Nat→Ms} {n m np:Nat} {pn:Nat→Nat} {pv:Nat→Nat→Int} {ne:Nat} {ed:Nat→Ed} (h:vmB js ms n m np pn pv ne ed=true):∀ i,i < ne→0≤(ed i).u∧(ed i).u < (np:Int)∧0≤(ed i).v∧(ed i).v < (np:Int):=fun i hi=>by
 have hv:=(zZK h i hi).1;unfold veB at hv;simp only [vQJ,decide_eq_true_eq] at hv;exact ⟨hv.1,hv.2.1,hv.2.2.1,hv.2.2.2.1⟩
noncomputable def yZL (N:Nat) (js:Nat→J) (ms:Nat→Ms) (n m:Nat) (np:Nat) (pn:Nat→Nat) (pv:Nat→Nat→Int) (ne:Nat) (ed:Nat→Ed) (a b best:Int):List (List Nat × yV):=[([0,1,0,1,1,1,1,1,1,1],sumF (fun t:(Int × (Nat→Int) × Nat × (Nat→Int) × Nat × (Nat→List PV))=>(hq1 N js ms n m np pn pv ne ed a b best t.1 t.2.1 t.2.2.1 t.2.2.2.1 t.2.2.2.2.1 t.2.2.2.2.2)) (fun σ=>(slI σ 62,rgI σ 58 0,rgN σ 84,rgI σ 84 0,rgN σ 89,rgF σ 89)) (fun t K=>(bif zHZ N js ms n m np pn pv ne ed a b best t then kxq1 N js ms n m np pn pv ne ed a b best K (jW N js ms n m np pn pv ne ed a b best t) else none))),([0,1,0,1,1,1,1,1,1,1,1],sumF (fun t:(Int × (Nat→Int) × Nat × (Nat→Int) × Nat × (Nat→List PV) × Nat × (Nat→List PV))=>(hq2 N js ms n m np pn pv ne ed a b best t.1 t.2.1 t.2.2.1 t.2.2.2.1 t.2.2.2.2.1 t.2.2.2.2.2.1 t.2.2.2.2.2.2.1 t.2.2.2.2.2.2.2)) (fun σ=>(slI σ 95,rgI σ 58 0,rgN σ 84,rgI σ 84 0,rgN σ 89,rgF σ 89,rgN σ 123,rgF σ 123)) (fun t K=>(bif zHQ N js ms n m np pn pv ne ed a b best t then kxq2 N js ms n m np pn pv ne ed a b best K (zQG N js ms n m np pn pv ne ed a b best t) else none)))]
set_option maxRecDepth 100000 in
theorem pxpr0 (N:Nat) (js:Nat→J) (ms:Nat→Ms) (n m:Nat) (np:Nat) (pn:Nat→Nat) (pv:Nat→Nat→Int) (ne:Nat) (ed:Nat→Ed) (a b best:Int):qQI Tf (orq1 N js ms n m np pn pv ne ed a b best) (qY (yZL N js ms n m np pn pv ne ed a b best)) N 17 [.a [.lf n (fJ js),.lf m (fM ms)],.a [.lf np (fP pn pv),.lf ne (fE ed)],.n .i64 a,.n .i64 b,.n .i64 best] =
 (bif (g1 [.a [.lf n (fJ js),.lf m (fM ms)],.a [.lf np (fP pn pv),.lf ne (fE ed)]] && decide (np≤1000)) then (bif (vmB js ms n m np pn pv ne ed) then (bif (gF1 chp ehp ((⟨np,fP pn pv,ne,ed⟩:Gr),a,b)) then (bif (wfB (⟨np,fP pn pv,ne,ed⟩:Gr) && (isP (⟨np,fP pn pv,ne,ed⟩:Gr) a && isP (⟨np,fP pn pv,ne,ed⟩:Gr) b)) then (bif (inB a np) then (bif (inB b np) then (bif (gF1 (cds js ms n m) (eds js ms n m) (pv (a).toNat,pv (b).toNat,pn (a).toNat,pn (b).toNat)) then (bif (decide (best < (dsQ js ms (pv (a).toNat) (pv (b).toNat) n m (pn (a).toNat) (pn (b).toNat)))) then some (.v (.t [.a [.l [],.l []],.l []]),[])
 else (bif (g1 [.a [.lf np (fP pn pv),.lf ne (fE ed)],.n .i64 (-1),.a [.n .i64 0,.zs,.n .i64 0,.n .i64 0,.zs,.n .i64 0,.zs,.zs]] && Go.Rx.gP (np≤1000∧(∀ j,j < np→pn j≤50)∧ne≤8192∧∀ i,i < ne→OkE (ed i))) then (bif (decide (0≤(np:Int))) then (bif (decide ((np:Int)≤(np:Int))) then (bif (decide ((np:Int)≤1000000)) then (bif (gSt (hq1 N js ms n m np pn pv ne ed a b best 0 z0 0 z0 0 zP) (hq1 N js ms n m np pn pv ne ed a b best 0 z0 0 z0 0 zP)) then (bif (zHZ N js ms n m np pn pv ne ed a b best (0,z0,0,z0,0,zP)) then (bif (Nat.beq (jW N js ms n m np pn pv ne ed a b best (0,z0,0,z0,0,zP)).1 0) then (bif (gSt (hq2 N js ms n m np pn pv ne ed a b best 0 (fun v=>((jW N js ms n m np pn pv ne ed a b best (0,z0,0,z0,0,zP)).2.2.1 v)) (jW N js ms n m np pn pv ne ed a b best (0,z0,0,z0,0,zP)).2.2.2.1 (fun v=>((jW N js ms n m np pn pv ne ed a b best (0,z0,0,z0,0,zP)).2.2.2.2.1 v)) (jW N js ms n m np pn pv ne ed a b best (0,z0,0,z0,0,zP)).2.2.2.2.2.1 (jW N js ms n m np pn pv ne ed a b best (0,z0,0,z0,0,zP)).2.2.2.2.2.2 0 zE) (hq2 N js ms n m np pn pv ne ed a b best 0 (fun v=>((jW N js ms n m np pn pv ne ed a b best (0,z0,0,z0,0,zP)).2.2.1 v)) (jW N js ms n m np pn pv ne ed a b best (0,z0,0,z0,0,zP)).2.2.2.1 (fun v=>((jW N js ms n m np pn pv ne ed a b best (0,z0,0,z0,0,zP)).2.2.2.2.1 v)) (jW N js ms n m np pn pv ne ed a b best (0,z0,0,z0,0,zP)).2.2.2.2.2.1 (jW N js ms n m np pn pv ne ed a b best (0,z0,0,z0,0,zP)).2.2.2.2.2.2 0 zE)) then (bif (zHQ N js ms n m np pn pv ne ed a b best (0,(fun v=>((jW N js ms n m np pn pv ne ed a b best (0,z0,0,z0,0,zP)).2.2.1 v)),(jW N js ms n m np pn pv ne ed a b best (0,z0,0,z0,0,zP)).2.2.2.1,(fun v=>((jW N js ms n m np pn pv ne ed a b best (0,z0,0,z0,0,zP)).2.2.2.2.1 v)),(jW N js ms n m np pn pv ne ed a b best (0,z0,0,z0,0,zP)).2.2.2.2.2.1,(jW N js ms n m np pn pv ne ed a b best (0,z0,0,z0,0,zP)).2.2.2.2.2.2,0,zE)) then (bif (Nat.beq (zQG N js ms n m np pn pv ne ed a b best (0,(fun v=>((jW N js ms n m np pn pv ne ed a b best (0,z0,0,z0,0,zP)).2.2.1 v)),(jW N js ms n m np pn pv ne ed a b best (0,z0,0,z0,0,zP)).2.2.2.1,(fun v=>((jW N js ms n m np pn pv ne ed a b best (0,z0,0,z0,0,zP)).2.2.2.2.1 v)),(jW N js ms n m np pn pv ne ed a b best (0,z0,0,z0,0,zP)).2.2.2.2.2.1,(jW N js ms n m np pn pv ne ed a b best (0,z0,0,z0,0,zP)).2.2.2.2.2.2,0,zE)).1 0) then some (.v (.t [.a [.lf (zQG N js ms n m np pn pv ne ed a b best (0,(fun v=>((jW N js ms n m np pn pv ne ed a b best (0,z0,0,z0,0,zP)).2.2.1 v)),(jW N js ms n m np pn pv ne ed a b best (0,z0,0,z0,0,zP)).2.2.2.1,(fun v=>((jW N js ms n m np pn pv ne ed a b best (0,z0,0,z0,0,zP)).2.2.2.2.1 v)),(jW N js ms n m np pn pv ne ed a b best (0,z0,0,z0,0,zP)).2.2.2.2.2.1,(jW N js ms n m np pn pv ne ed a b best (0,z0,0,z0,0,zP)).2.2.2.2.2.2,0,zE)).2.2.2.2.2.1 (zQG N js ms n m np pn pv ne ed a b best (0,(fun v=>((jW N js ms n m np pn pv ne ed a b best (0,z0,0,z0,0,zP)).2.2.1 v)),(jW N js ms n m np pn pv ne ed a b best (0,z0,0,z0,0,zP)).2.2.2.1,(fun v=>((jW N js ms n m np pn pv ne ed a b best (0,z0,0,z0,0,zP)).2.2.2.2.1 v)),(jW N js ms n m np pn pv ne ed a b best (0,z0,0,z0,0,zP)).2.2.2.2.2.1,(jW N js ms n m np pn pv ne ed a b best (0,z0,0,z0,0,zP)).2.2.2.2.2.2,0,zE)).2.2.2.2.2.2.1,.lf (zQG N js ms n m np pn pv ne ed a b best (0,(fun v=>((jW N js ms n m np pn pv ne ed a b best (0,z0,0,z0,0,zP)).2.2.1 v)),(jW N js ms n m np pn pv ne ed a b best (0,z0,0,z0,0,zP)).2.2.2.1,(fun v=>((jW N js ms n m np pn pv ne ed a b best (0,z0,0,z0,0,zP)).2.2.2.2.1 v)),(jW N js ms n m np pn pv ne ed a b best (0,z0,0,z0,0,zP)).2.2.2.2.2.1,(jW N js ms n m np pn pv ne ed a b best (0,z0,0,z0,0,zP)).2.2.2.2.2.2,0,zE)).2.2.2.2.2.2.2.1 (zQG N js ms n m np pn pv ne ed a b best (0,(fun v=>((jW N js ms n m np pn pv ne ed a b best (0,z0,0,z0,0,zP)).2.2.1 v)),(jW N js ms n m np pn pv ne ed a b best (0,z0,0,z0,0,zP)).2.2.2.1,(fun v=>((jW N js ms n m np pn pv ne ed a b best (0,z0,0,z0,0,zP)).2.2.2.2.1 v)),(jW N js ms n m np pn pv ne ed a b best (0,z0,0,z0,0,zP)).2.2.2.2.2.1,(jW N js ms n m np pn pv ne ed a b best (0,z0,0,z0,0,zP)).2.2.2.2.2.2,0,zE)).2.2.2.2.2.2.2.2],.lf (zQG N js ms n m np pn pv ne ed a b best (0,(fun v=>((jW N js ms n m np pn pv ne ed a b best (0,z0,0,z0,0,zP)).2.2.1 v)),(jW N js ms n m np pn pv ne ed a b best (0,z0,0,z0,0,zP)).2.2.2.1,(fun v=>((jW N js ms n m np pn pv ne ed a b best (0,z0,0,z0,0,zP)).2.2.2.2.1 v)),(jW N js ms n m np pn pv ne ed a b best (0,z0,0,z0,0,zP)).2.2.2.2.2.1,(jW N js ms n m np pn pv ne ed a b best (0,z0,0,z0,0,zP)).2.2.2.2.2.2,0,zE)).2.2.2.1 (fun v=>[.n .i64 ((zQG N js ms n m np pn pv ne ed a b best (0,(fun v=>((jW N js ms n m np pn pv ne ed a b best (0,z0,0,z0,0,zP)).2.2.1 v)),(jW N js ms n m np pn pv ne ed a b best (0,z0,0,z0,0,zP)).2.2.2.1,(fun v=>((jW N js ms n m np pn pv ne ed a b best (0,z0,0,z0,0,zP)).2.2.2.2.1 v)),(jW N js ms n m np pn pv ne ed a b best (0,z0,0,z0,0,zP)).2.2.2.2.2.1,(jW N js ms n m np pn pv ne ed a b best (0,z0,0,z0,0,zP)).2.2.2.2.2.2,0,zE)).2.2.2.2.1 v)])]),[])
 else none)
 else none)
 else none)
 else none)
 else none)
 else none)
 else none)
 else none)
 else none)
 else none))
 else none)
 else none)
 else none)
 else some (.v (.t [.a [.l [],.l []],.l []]),[]))
 else none)
 else some (.v (.t [.a [.l [],.l []],.l []]),[]))
 else none):=by kernel_rfl
theorem snd_pr0 (N:Nat) (js:Nat→J) (ms:Nat→Ms) (n m:Nat) (np:Nat) (pn:Nat→Nat) (pv:Nat→Nat→Int) (ne:Nat) (ed:Nat→Ed) (a b best:Int) (hN:np + ne < N) (hp:np≤1000) (he:ne≤8192) (hed:∀ i,i < ne→OkE (ed i)):zY Tryz.prog 17 [.a [.lf n (fJ js),.lf m (fM ms)],.a [.lf np (fP pn pv),.lf ne (fE ed)],.n .i64 a,.n .i64 b,.n .i64 best] (.v (bif prB js ms n m np pn pv ne ed a b best then prV js ms n m np pn pv ne ed a b best else prZ)):=by
 refine qH (N:=N) (LO:=qY (yZL N js ms n m np pn pv ne ed a b best)) jY yH (jK (l:=[(42,o_lk [.a [.lf n (fJ js),.lf m (fM ms)],.a [.lf np (fP pn pv),.lf ne (fE ed)]] (decide (np≤1000)) (.v (.b (vmB js ms n m np pn pv ne ed)))),(43,o_hp),(33,o_ds js ms n m),(44,o_lk [.a [.lf np (fP pn pv),.lf ne (fE ed)],.n .i64 (-1),.a [.n .i64 0,.zs,.n .i64 0,.n .i64 0,.zs,.n .i64 0,.zs,.zs]] (Go.Rx.gP (np≤1000∧(∀ j,j < np→pn j≤50)∧ne≤8192∧∀ i,i < ne→OkE (ed i))) (.v (.t [.a [.lf np (fP pn pv),.lf ne (fE ed)],.b false]))),(13,o_u js ms n m)]) (m:=[]) ⟨zHH (fun h=>snd_val js ms n m np pn pv ne ed (vYU h)),ok_hp,yJW js ms n m,zHH (fun h=>snd_mk1 np pn pv ne ed (Go.Rx.gP_spec h)),ok_u js ms n m,trivial⟩ trivial) (fun p S hp => ?_) ?_
 ·refine qX (L:=qZ Tf 17) (l:=(yZL N js ms n m np pn pv ne ed a b best)) (show AllP _ (yZL N js ms n m np pn pv ne ed a b best) from ⟨?_,?_,trivial⟩) p S hp
  ·dsimp only;refine jQ (T:=Tf) (o:=(orq1 N js ms n m np pn pv ne ed a b best)) (f:=17) (LO:=qY []) (p:=[0,1,0,1,1,1,1,1,1,1]) jU ?_;intro t K r hr;obtain ⟨hg,hr⟩:=qQ hr
   skip
   exact (lwq1 K N js ms n m np pn pv ne ed a b best t hg).trans hr
  ·dsimp only;refine jQ (T:=Tf) (o:=(orq1 N js ms n m np pn pv ne ed a b best)) (f:=17) (LO:=qY []) (p:=[0,1,0,1,1,1,1,1,1,1,1]) jU ?_;intro t K r hr;obtain ⟨hg,hr⟩:=qQ hr
   skip
   exact (lwq2 K N js ms n m np pn pv ne ed a b best t hg).trans hr
 ·refine (pxpr0 N js ms n m np pn pv ne ed a b best).trans ?_;cases hv:vmB js ms n m np pn pv ne ed with
  | false=>rw [g1_t,vYK hp]; unfold prB; rw [hv]; rfl
  | true =>
   have hin:=zJG hv;have hpn:∀ j,j < np→pn j≤50:=fun j hj=>by have:=qUI (hin j hj); omega
   have hrg:=vm_rg hv;rw [g1_t,vYK hp,jV (C:=chp) (t:=((⟨np,fP pn pv,ne,ed⟩:Gr),a,b)) ⟨show np≤1000000 by omega,he⟩,vm_wf hv];by_cases ha:0≤a∧a < (np:Int)
   ·by_cases hb:0≤b∧b < (np:Int)
    ·rw [isP_t (g:=(⟨np,fP pn pv,ne,ed⟩:Gr)) ha,isP_t (g:=(⟨np,fP pn pv,ne,ed⟩:Gr)) hb,zYJ ha.1 ha.2,zYJ hb.1 hb.2,jV (C:=cds js ms n m) (t:=(pv a.toNat,pv b.toNat,pn a.toNat,pn b.toNat)) ⟨hpn _ (by omega),hpn _ (by omega)⟩];by_cases hd:best < dE js ms n m pn pv a.toNat b.toNat
     ·rw [show decide (best < dsQ js ms (pv a.toNat) (pv b.toNat) n m (pn a.toNat) (pn b.toNat))=true from vYK hd];unfold prB;rw [vYK hd];simp only [Bool.not_true,Bool.and_false];rfl
     ·rw [show decide (best < dsQ js ms (pv a.toNat) (pv b.toNat) n m (pn a.toNat) (pn b.toNat))=false from vYJ hd];have i1:=yJA (n:=n) (m:=m) (js:=js) (ms:=ms) (pn:=pn) (pv:=pv) (ne:=ne) (ed:=ed) (a:=a) (b:=b) (best:=best) hp np 0 N (z0,0,z0,0,zP) (by omega) (by omega) ⟨rfl,rfl,fun v hv=>absurd hv (Nat.not_lt_zero v),fun v hv=>absurd hv (Nat.not_lt_zero v)⟩;rw [show ((0:Nat):Int)=0 from rfl] at i1;have o1:zHZ N js ms n m np pn pv ne ed a b best (0,z0,0,z0,0,zP)=true:=by unfold zHZ; rw [i1]; rfl
      have o2:jW N js ms n m np pn pv ne ed a b best (0,z0,0,z0,0,zP)=(0,(np:Int),prT (usF js ms n m pn pv a b best) pn pv np):=by unfold jW; rw [i1]; rfl
      have i2:=yYA (n:=n) (m:=m) (js:=js) (ms:=ms) (pn:=pn) (pv:=pv) (np:=np) (a:=a) (b:=b) (best:=best) (nu:=(prT (usF js ms n m pn pv a b best) pn pv np).1) (r:=(prT (usF js ms n m pn pv a b best) pn pv np).2.1) (ol:=(prT (usF js ms n m pn pv a b best) pn pv np).2.2.1) (q:=(prT (usF js ms n m pn pv a b best) pn pv np).2.2.2.1) (f:=(prT (usF js ms n m pn pv a b best) pn pv np).2.2.2.2) he hrg ne 0 N (0,zE) (by omega) (by omega) ⟨rfl,fun v hv=>absurd hv (Nat.not_lt_zero v)⟩;rw [show ((0:Nat):Int)=0 from rfl] at i2;generalize hT:prT (usF js ms n m pn pv a b best) pn pv np=T at o2 i2;have o3:zHQ N js ms n m np pn pv ne ed a b best (0,T.1,T.2.1,T.2.2.1,T.2.2.2.1,T.2.2.2.2,0,zE)=true:=by unfold zHQ; rw [i2]; rfl
      have o4:zQG N js ms n m np pn pv ne ed a b best (0,T.1,T.2.1,T.2.2.1,T.2.2.2.1,T.2.2.2.2,0,zE)=(0,(ne:Int),T.1,T.2.1,T.2.2.1,T.2.2.2.1,T.2.2.2.2,prU T.1 ed ne):=by unfold zQG; rw [i2]; rfl
      simp only [g1_t,Go.Rx.gP_of (show np≤1000∧(∀ j,j < np→pn j≤50)∧ne≤8192∧∀ i,i < ne→OkE (ed i) from ⟨hp,hpn,he,hed⟩),vYK (show (0:Int)≤(np:Int) by omega),vYK (show (np:Int)≤(np:Int) by omega),vYK (show (np:Int)≤1000000 by omega),zW,o1,o2,o3,o4,vYZ,vYY,vZQ];unfold prB prV;rw [hT,hv,vYK ha,vYK hb,vYJ hd];rfl
    ·rw [isP_f (g:=(⟨np,fP pn pv,ne,ed⟩:Gr)) hb];unfold prB;rw [vYJ hb];simp only [Bool.false_and,Bool.and_false];rfl
   ·rw [isP_f (g:=(⟨np,fP pn pv,ne,ed⟩:Gr)) ha];unfold prB;rw [vYJ ha];simp only [Bool.false_and,Bool.and_false];rfl
end Go.Proofs.YtklmegnpfhiibaaGreat.Xn

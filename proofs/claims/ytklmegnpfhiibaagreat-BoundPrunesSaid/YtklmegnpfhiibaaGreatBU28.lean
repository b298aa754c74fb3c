/- Part 28 of the texts behind the last one: rules and contracts. No condition. -/
import Derived.Test.YtklmegnpfhiibaaGreatBU27
open Bool renaming and_eq_true → vQJ
namespace Go.Proofs.YtklmegnpfhiibaaGreat.Xd
open Go.Rx Rt Go.Sx Go.RowKit Ba Bb Bc Bn
theorem ok_no {f:Nat}:kU Tryz.prog f (fun _=>none):=fun _ _ h=>nomatch h
noncomputable def orshs (np:Nat) (_:Nat→Nat) (_ _:Nat→Nat→Int) (a:Int):OrS:=orS [(115,fun _=>none)] []
def yZY:List (List Nat × yW):=[([0,1,1,1,0,1,0,0,0,1,1,1,1,0,1],fun _ _=>none)]
set_option maxRecDepth 100000 in
theorem pxshs (np:Nat) (ln:Nat→Nat) (lt lc:Nat→Nat→Int) (a:Int):qQU Tf (orshs np ln lt lc a) (qJ yZY) 60 82 [.lf np (fun u=>[.lf (ln u) (fun w=>[.n .i64 (lt u w),.n .i64 (lc u w)])]),.n .i64 a,.n .i64 a] =
 (bif (decide (0≤(np:Int))) then (bif (decide ((np:Int)≤(np:Int))) then (bif (decide ((np:Int)≤1000000)) then (bif (inB a (np:Int).toNat) then (bif (inB a (np:Int).toNat) then (bif (decide (0≤1)) then (bif (decide (a=a)) then (bif (inB a (np:Int).toNat) then (bif (decide (((bif (Nat.beq (a).toNat (a).toNat) then 1 else 0:Int))=0)) then some (.v (.t [.a [.l [],.n .i64 0],.b false]),[])
 else (bif (inB a (np:Int).toNat) then (bif (!decide (a=a)) then (bif (inB a np) then none
 else none)
 else some (.v (.t [.a [.lf 1 (fun _=>[.n .i64 a]),.n .i64 ((bif (Nat.beq (a).toNat (a).toNat) then 0 else 0:Int))],.b true]),[]))
 else none))
 else none)
 else (bif (inB a (np:Int).toNat) then (bif (!((decide (((bif (Nat.beq (a).toNat (a).toNat) then 0 else 0:Int))=((bif (Nat.beq (a).toNat (a).toNat) then 0 else 0:Int)))) && ((decide (((bif (Nat.beq (a).toNat (a).toNat) then 1 else 0:Int))=((bif (Nat.beq (a).toNat (a).toNat) then 1 else 0:Int)))) && true))) then (bif (inB a (np:Int).toNat) then (bif (decide (((bif (Nat.beq (a).toNat (a).toNat) then 1 else 0:Int))=0)) then some (.v (.t [.a [.l [],.n .i64 0],.b false]),[])
 else (bif (inB a (np:Int).toNat) then (bif (!decide (a=a)) then (bif (inB a np) then none
 else none)
 else some (.v (.t [.a [.lf 1 (fun _=>[.n .i64 a]),.n .i64 ((bif (Nat.beq (a).toNat (a).toNat) then 0 else 0:Int))],.b true]),[]))
 else none))
 else none)
 else (bif (inB a np) then none
 else none))
 else none))
 else none)
 else none)
 else none)
 else none)
 else none)
 else none):=by kernel_rfl
theorem snd_shs (np:Nat) (ln:Nat→Nat) (lt lc:Nat→Nat→Int) (a:Int) (hp:np≤1000000) (ha:inB a np=true):zQ Tryz.prog 82 [.lf np (fun u=>[.lf (ln u) (fun w=>[.n .i64 (lt u w),.n .i64 (lc u w)])]),.n .i64 a,.n .i64 a] (.v (.t [.a [.lf 1 (fun _=>[.n .i64 a]),.n .i64 0],.b true])):=by
 refine qV (N:=60) (LO:=qJ yZY) jY jQ (jK (l:=[(115,fun _=>none)]) (m:=[]) ⟨ok_no,trivial⟩ trivial) (fun p S hp => ?_) ?_
 ·refine qW (L:=qY Tf 82) (l:=yZY) (show AllP _ yZY from ⟨(fun _ _ _ _ _ _ h=>nomatch h),trivial⟩) p S hp
 ·refine (pxshs np ln lt lc a).trans ?_;simp only [toN,ha,Nat.beq_refl,vYU (show (0:Int)≤(np:Int) by omega),vYU (show (np:Int)≤(np:Int) by omega),vYU (show (np:Int)≤1000000 by omega),decide_true,vYY,vYJ,Bool.not_true,vYU (show (0:Int)≤1 by omega),vYK (show ¬ (1:Int)=0 by omega)]
  try rfl
def clk:Gr × Int→Prop:=fun t=>match t with | (g,_)=>wfB g=true∧g.np≤1000000∧g.ne≤8192
def elk:Gr × Int→List PV:=fun t=>match t with | (g,m)=>[.a (gP g),.n .i64 m]
noncomputable def rlk:Gr × Int→Ret:=fun t=>match t with | (g,m)=>.ow 159 1 (.fo g.np (fun u=>[.lf ((lkO g m).1 u) (tcP ((lkO g m).2.1 u) ((lkO g m).2.2 u))]))
def dlk:List PV→Gr × Int:=fun ps=>match ps with
 | [.a [.lf np pt,.lf ne ed],.n _ b]=>(⟨np,pt,ne,unFE ed⟩,b)
 | _=>(⟨0,fun _=>[],0,fun _=>unE []⟩,0)
noncomputable def o_lk:List PV→Option (Bool × Ret):=o_fm dlk clk elk rlk
theorem qWI:kU Tryz.prog 83 o_lk:=qZB fun t h=>by
 obtain ⟨g,m⟩:=t;exact snd_lk (g.ne + 1) g m rfl h.1 h.2.1 h.2.2
def unq (k:Nat) (h:Nat→List PV) (w:Nat):Int:=match (h w)[k]? with
 | some (.n _ i)=>i
 | _=>0
def ladP (ln:Nat→Nat) (lt lc:Nat→Nat→Int):Nat→List PV:=fun u=>[.lf (ln u) (tcP (lt u) (lc u))]
def unLn (f:Nat→List PV):Nat→Nat:=fun u=>match f u with
 | [.lf n _]=>n
 | _=>0
def unLc (k:Nat) (f:Nat→List PV):Nat→Nat→Int:=fun u w=>match f u with
 | [.lf _ h]=>unq k h w
 | _=>0
theorem isP_inB {g:Gr} {v:Int} (h:isP g v=true):inB v g.np=true:=by
 unfold isP at h;simp only [vQJ,decide_eq_true_eq] at h;exact zWD (y:=v.toNat) (by omega) (by omega)
def csh:Nat × (Nat→Nat) × (Nat→Nat→Int) × (Nat→Nat→Int) × Int × Int→Prop:=fun t=>match t with | (np,_,_,_,a,b)=>np≤1000000∧inB a np=true∧b=a
def esh:Nat × (Nat→Nat) × (Nat→Nat→Int) × (Nat→Nat→Int) × Int × Int→List PV:=fun t=>match t with | (np,ln,lt,lc,a,b)=>[.lf np (ladP ln lt lc),.n .i64 a,.n .i64 b]
noncomputable def rsh:Nat × (Nat→Nat) × (Nat→Nat→Int) × (Nat→Nat→Int) × Int × Int→Ret:=fun t=>match t with | (_,_,_,_,a,b)=>.v (.t [.a [.lf 1 (fun _=>[.n .i64 a]),.n .i64 0],.b true])
def dsh:List PV→Nat × (Nat→Nat) × (Nat→Nat→Int) × (Nat→Nat→Int) × Int × Int:=fun ps=>match ps with
 | [.lf np f,.n _ a,.n _ b]=>(np,unLn f,unLc 0 f,unLc 1 f,a,b)
 | _=>(0,fun _=>0,fun _ _=>0,fun _ _=>0,0,0)
noncomputable def o_sh:List PV→Option (Bool × Ret):=o_fm dsh csh esh rsh
theorem ok_sh:kU Tryz.prog 82 o_sh:=qZB fun t h=>by
 obtain ⟨np,ln,lt,lc,a,b⟩:=t;exact by
  have h:np≤1000000∧inB a np=true∧b=a:=h;obtain ⟨h1,h2,rfl⟩:=h;exact snd_shs np ln lt lc b h1 h2
noncomputable def orsts (g:Gr) (a m:Int):OrS:=orS [(80,o_wf),(81,o_ip),(83,o_lk),(82,o_sh)] []
noncomputable def yQE (g:Gr) (a m:Int):List (List Nat × yW):=[]
set_option maxRecDepth 100000 in
theorem pxsts (g:Gr) (a m:Int):qQU Tf (orsts g a m) (qJ (yQE g a m)) 60 46 [.a (gP g),.n .i64 a,.n .i64 a,.n .i64 m] =
 (bif (gF1 cwf ewf g) then (bif (wfB g) then (bif (gF1 cip eip (g,a)) then (bif (isP g a) then (bif (gF1 cip eip (g,a)) then (bif (isP g a) then (bif (decide (m < 0)) then some (.v (.t [.a [.l [],.n .i64 0],.b false]),[])
 else (bif (decide (2 < m)) then some (.v (.t [.a [.l [],.n .i64 0],.b false]),[])
 else (bif (gF1 clk elk (g,m)) then (bif (gF1 csh esh (g.np,((lkO g m).1),((lkO g m).2.1),((lkO g m).2.2),a,a)) then some (.v (.t [.a [.lf 1 (fun _=>[.n .i64 a]),.n .i64 0],.b true]),[])
 else none)
 else none)))
 else some (.v (.t [.a [.l [],.n .i64 0],.b false]),[]))
 else none)
 else some (.v (.t [.a [.l [],.n .i64 0],.b false]),[]))
 else none)
 else some (.v (.t [.a [.l [],.n .i64 0],.b false]),[]))
 else none):=by kernel_rfl
theorem snd_sts (g:Gr) (a m:Int) (hp:g.np≤1000000) (hn:g.ne≤8192) (hm:m=2):zQ Tryz.prog 46 [.a (gP g),.n .i64 a,.n .i64 a,.n .i64 m] (bif wfB g && isP g a then .v (.t [.a [.lf 1 (fun _=>[.n .i64 a]),.n .i64 0],.b true]) else .v (.t [.a [.l [],.n .i64 0],.b false])):=by
 refine qV (N:=60) (LO:=qJ (yQE g a m)) jY jQ (jK (l:=[(80,o_wf),(81,o_ip),(83,o_lk),(82,o_sh)]) (m:=[]) ⟨ok_wf,ok_ip,qWI,ok_sh,trivial⟩ trivial) (fun p S hp => ?_) ?_
 ·refine qW (L:=qY Tf 46) (l:=(yQE g a m)) (show AllP _ (yQE g a m) from trivial) p S hp
 ·refine (pxsts g a m).trans ?_;subst hm;simp only [jW (C:=cwf) (t:=g) trivial,jW (C:=cip) (t:=(g,a)) trivial,vYY];cases hw:wfB g with
  | false=>rfl
  | true =>
   cases ha:isP g a with
   | false=>rfl
   | true =>
    rw [jW (C:=clk) (t:=(g,2)) ⟨hw,hp,hn⟩,jW (C:=csh) (t:=(g.np,(lkO g 2).1,(lkO g 2).2.1,(lkO g 2).2.2,a,a)) ⟨hp,isP_inB ha,rfl⟩];rfl
theorem snd_st (g:Gr) (a b m:Int) (h:b=a∧m=2∧g.np≤1000000∧g.ne≤8192):zQ Tryz.prog 46 [.a (gP g),.n .i64 a,.n .i64 b,.n .i64 m] (.v (.t [.a [.lf (bif wfB g && isP g a then 1 else 0) (fun _=>[.n .i64 a]),.n .i64 0],.b (wfB g && isP g a)])):=by
 obtain ⟨rfl,rfl,h3,h4⟩:=h;have h:=snd_sts g b 2 h3 h4 rfl;cases hf:wfB g && isP g b with
 | true=>rw [hf] at h; exact h
 | false=>rw [hf] at h; exact qUC (Same.t (xs:=[_,_]) (ys:=[_,_]) ⟨Same.a (xs:=[_,_]) (ys:=[_,_]) ⟨Same.lf rfl,Same.refl _,trivial⟩,Same.refl _,trivial⟩) h
def cst:Gr × Int × Int × Int→Prop:=fun t=>match t with | (g,a,b,m)=>b=a∧m=2∧g.np≤1000000∧g.ne≤8192
def est:Gr × Int × Int × Int→List PV:=fun t=>match t with | (g,a,b,m)=>[.a (gP g),.n .i64 a,.n .i64 b,.n .i64 m]
noncomputable def rst:Gr × Int × Int × Int→Ret:=fun t=>match t with | (g,a,b,_)=>.v (.t [.a [.lf (bif wfB g && isP g a then 1 else 0) (fun _=>[.n .i64 a]),.n .i64 0],.b (wfB g && isP g a)])
def dst:List PV→Gr × Int × Int × Int:=fun ps=>match ps with
 | [.a [.lf np pt,.lf ne ed],.n _ a,.n _ b,.n _ m]=>(⟨np,pt,ne,unFE ed⟩,a,b,m)
 | _=>(⟨0,fun _=>[],0,fun _=>unE []⟩,0,0,0)
noncomputable def o_st:List PV→Option (Bool × Ret):=o_fm dst cst est rst
theorem ok_st:kU Tryz.prog 46 o_st:=qZB fun t h=>by
 obtain ⟨g,a,b,m⟩:=t;exact snd_st g a b m h
noncomputable def orhp (g:Gr) (a b:Int):OrS:=orS [(46,o_st)] []
noncomputable def lshp (g:Gr) (a b:Int):List (List Nat × yW):=[]
set_option maxRecDepth 100000 in
theorem pxhp (g:Gr) (a b:Int):qQU Tf (orhp g a b) (qJ (lshp g a b)) 60 43 [.a (gP g),.n .i64 a,.n .i64 b] =
 (bif (gF1 cst est (g,a,a,2)) then (bif (wfB g && isP g a) then (bif (gF1 cst est (g,b,b,2)) then (bif (wfB g && isP g b) then some (.v (.b true),[])
 else some (.v (.b false),[]))
 else none)
 else some (.v (.b false),[]))
 else none):=by kernel_rfl
theorem snd_hp (g:Gr) (a b:Int) (hp:g.np≤1000000) (hn:g.ne≤8192):zQ Tryz.prog 43 [.a (gP g),.n .i64 a,.n .i64 b] (.v (.b (wfB g && (isP g a && isP g b)))):=by
 refine qV (N:=60) (LO:=qJ (lshp g a b)) jY jQ (jK (l:=[(46,o_st)]) (m:=[]) ⟨ok_st,trivial⟩ trivial) (fun p S hp => ?_) ?_
 ·refine qW (L:=qY Tf 43) (l:=(lshp g a b)) (show AllP _ (lshp g a b) from trivial) p S hp
 ·refine (pxhp g a b).trans ?_;simp only [jW (C:=cst) (t:=(g,a,a,2)) ⟨rfl,rfl,hp,hn⟩,jW (C:=cst) (t:=(g,b,b,2)) ⟨rfl,rfl,hp,hn⟩,vYY];cases wfB g <;> cases isP g a <;> cases isP g b <;> rfl
def chp:Gr × Int × Int→Prop:=fun t=>match t with | (g,_,_)=>g.np≤1000000∧g.ne≤8192
def ehp:Gr × Int × Int→List PV:=fun t=>match t with | (g,a,b)=>[.a (gP g),.n .i64 a,.n .i64 b]
noncomputable def rhp:Gr × Int × Int→Ret:=fun t=>match t with | (g,a,b)=>.v (.b (wfB g && (isP g a && isP g b)))
def dhp:List PV→Gr × Int × Int:=fun ps=>match ps with
 | [.a [.lf np pt,.lf ne ed],.n _ a,.n _ b]=>(⟨np,pt,ne,unFE ed⟩,a,b)
 | _=>(⟨0,fun _=>[],0,fun _=>unE []⟩,0,0)
noncomputable def o_hp:List PV→Option (Bool × Ret):=o_fm dhp chp ehp rhp
theorem ok_hp:kU Tryz.prog 43 o_hp:=qZB fun t h=>by
 obtain ⟨g,a,b⟩:=t;exact snd_hp g a b h.1 h.2
end Go.Proofs.YtklmegnpfhiibaaGreat.Xd

/- Part 38 of the texts behind the last one: rules and contracts. No condition. -/
import Derived.Test.YtklmegnpfhiibaaGreatBU37
open Bool renaming and_eq_true → vQJ, true_and → vZW
open List renaming mem_of_getElem? → vQW
open Go.IntKind renaming wrap → vYV
namespace Go.Proofs.YtklmegnpfhiibaaGreat.Xw
open Go.Rx Rt Go.Sx Go.RowKit Od Na Nb Nc Sn So Sq Xb Xc Bb Xe Xf Xg Xh Xi Xk Xm Xn Xo Xp Xq Xr Xs Xu Xv
def clK (x:Int):Int:=bif decide (x=1) then 1 else bif decide (x=2) then 2 else 0
def clA (x:Int):Nat:=bif decide (x=1) then 1 else 0
def clB (x:Int):Nat:=bif decide (x=2) then 1 else 0
def clD (x:Int):Int:=bif decide (x=3) then 1 else 0
def clF:Nat→List PV:=fun _=>[.n .i64 0,.n .i64 0,.zs]
def clG:Nat→List PV:=fun _=>[.n .i64 1]
theorem zHU (x:Int) (_:0≤x∧x≤3):zQ Tryz.prog 27 [.n .i64 x] (.v (.a [.n .i64 (clK x),.lf (clA x) clF,.n .i64 (clD x),.n .i64 0,.lf 0 clG,.n .i64 0,.lf (clB x) clG,.lf (clB x) clG])):=by
 have hs:x=0 ∨ x=1 ∨ x=2 ∨ x=3:=by omega
 rcases hs with rfl | rfl | rfl | rfl
 ·exact qUC (x:=.a [.n .i64 0,.l [],.n .i64 0,.n .i64 0,.l [],.n .i64 0,.l [],.l []]) (Same.a (xs:=[_,_,_,_,_,_,_,_]) ⟨Same.refl _,Same.lf rfl,Same.refl _,Same.refl _,Same.lf rfl,Same.refl _,Same.lf rfl,Same.lf rfl,trivial⟩) (qYU (N:=60) qYK jQ zQI (by kernel_rfl))
 ·exact qUC (x:=.a [.n .i64 1,.l [[.n .i64 0,.n .i64 0,.zs]],.n .i64 0,.n .i64 0,.l [],.n .i64 0,.l [],.l []]) (Same.a (xs:=[_,_,_,_,_,_,_,_]) ⟨Same.refl _,Same.lf rfl,Same.refl _,Same.refl _,Same.lf rfl,Same.refl _,Same.lf rfl,Same.lf rfl,trivial⟩) (qYU (N:=60) qYK jQ zQI (by kernel_rfl))
 ·exact qUC (x:=.a [.n .i64 2,.l [],.n .i64 0,.n .i64 0,.l [],.n .i64 0,.l [[.n .i64 1]],.l [[.n .i64 1]]]) (Same.a (xs:=[_,_,_,_,_,_,_,_]) ⟨Same.refl _,Same.lf rfl,Same.refl _,Same.refl _,Same.lf rfl,Same.refl _,Same.lf rfl,Same.lf rfl,trivial⟩) (qYU (N:=60) qYK jQ zQI (by kernel_rfl))
 ·exact qUC (x:=.a [.n .i64 0,.l [],.n .i64 1,.n .i64 0,.l [],.n .i64 0,.l [],.l []]) (Same.a (xs:=[_,_,_,_,_,_,_,_]) ⟨Same.refl _,Same.lf rfl,Same.refl _,Same.refl _,Same.lf rfl,Same.refl _,Same.lf rfl,Same.lf rfl,trivial⟩) (qYU (N:=60) qYK jQ zQI (by kernel_rfl))
def clG3:Nat→List PV:=fun _=>[.n .i64 0,.n .i64 0,.n .i64 0]
def clH:Nat→List PV:=fun _=>[.n .i64 0,.n .i64 0,.lf 0 clG3]
theorem sames_len {xs ys:List PV}:Sames xs ys→xs.length=ys.length:=by
 induction xs generalizing ys with
 | nil=>intro h; cases ys with | nil=>rfl | cons y ys=>exact h.elim
 | cons x xs ih=>intro h; cases ys with | nil=>exact h.elim | cons y ys=>simp [ih h.2]
theorem sames_get {xs ys:List PV}:Sames xs ys→∀ (i:Nat) (q:PV),ys[i]? = some q→∃ p,xs[i]? = some p∧Same p q:=by
 induction xs generalizing ys with
 | nil=>intro h i q hq; cases ys with | nil=>simp at hq | cons y ys=>exact h.elim
 | cons x xs ih =>
  intro h i q hq;cases ys with
  | nil=>exact h.elim
  | cons y ys =>
   cases i with
   | zero=>simp at hq; subst hq; exact ⟨x,rfl,h.1⟩
   | succ i=>simp at hq; obtain ⟨p,h1,h2⟩:=ih h.2 i q hq; exact ⟨p,by simpa using h1,h2⟩
theorem same_lfS {n:Nat} {f g:Nat→List PV} (h:∀ j,j < n→Sames (f j) (g j)):Same (.lf n f) (.lf n g):=fun F w v hv=>by
 cases hv with
 | lf _ _ _ h1 =>
  generalize hL:(List.range n).map f=L at h1;have hlen:L.length=n:=by rw [← hL]; simp
  have hat:∀ j,j < n→L[j]? = some (f j):=fun j hj=>by rw [← hL]; simp [hj]
  cases h1 with
  | l0 ad c =>
   have:n=0:=by simpa using hlen.symm
   subst this;exact .lf _ _ _ (.l0 ad c)
  | l _ b off n2 c sz k hn hcap hs hF hc hh =>
   have e:n2=n:=by omega
   subst e;have hin:∀ r ∈ (List.range n2).map g,∃ j,j < n2∧r=g j:=fun r hr=>by
    obtain ⟨j,hj,rfl⟩:=List.mem_map.1 hr;exact ⟨j,List.mem_range.1 hj,rfl⟩
   refine .lf _ _ _ (.l _ b off n2 c sz k (by simp) hcap (fun r hr => ?_) hF hc (fun j r t q hr hq => ?_))
   ·obtain ⟨j,hj,rfl⟩:=hin r hr;rw [← sames_len (h j hj)];exact hs _ (vQW (hat j hj))
   ·have hj:j < n2:=by have:=(List.getElem?_eq_some_iff.1 hr).1; simpa using this
    have e2:r=g j:=by simp [hj] at hr; exact hr.symm
    subst e2;obtain ⟨p,h3,h4⟩:=sames_get (h j hj) t q hq;exact h4 F w _ (hh j (f j) t p (hat j hj) h3)
theorem same_zl {f:Nat→List PV}:Same .zs (.lf 0 f):=fun F w v h=>by cases h; exact .lf _ _ _ (.l0 _ _)
theorem snd_clh (x:Int) (h:0≤x∧x≤3):zQ Tryz.prog 27 [.n .i64 x] (.v (.a [.n .i64 (clK x),.lf (clA x) clH,.n .i64 (clD x),.n .i64 0,.lf 0 clG,.n .i64 0,.lf (clB x) clG,.lf (clB x) clG])) :=
 qUC (Same.a (xs:=[_,_,_,_,_,_,_,_]) (ys:=[_,_,_,_,_,_,_,_]) ⟨Same.refl _,same_lfS (f:=clF) (g:=clH) (fun _ _=>show Sames [_,_,_] [_,_,_] from ⟨Same.refl _,Same.refl _,same_zl,trivial⟩),Same.refl _,Same.refl _,Same.refl _,Same.refl _,Same.refl _,Same.refl _,trivial⟩) (zHU x h)
def ccl:Int→Prop:=fun t=>match t with | x=>0≤x∧x≤3
def ecl:Int→List PV:=fun t=>match t with | x=>[.n .i64 x]
noncomputable def rcl:Int→Ret:=fun t=>match t with | x=>.v (.a [.n .i64 (clK x),.lf (clA x) clH,.n .i64 (clD x),.n .i64 0,.lf 0 clG,.n .i64 0,.lf (clB x) clG,.lf (clB x) clG])
def dcl:List PV→Int:=fun ps=>match ps with
 | [.n _ x]=>x
 | _=>0
noncomputable def o_cl:List PV→Option (Bool × Ret):=o_fm dcl ccl ecl rcl
theorem yJQ:kU Tryz.prog 27 o_cl:=qZB fun t h=>by
 revert h; revert t; intro x h
 exact snd_clh x h
def rgX (σ:St) (k c:Nat):Nat→PV:=fun v=>match (rgF σ k v)[c]? with
 | some x=>x
 | _=>.ni
noncomputable def orr1 (N:Nat) (js:Nat→J) (ms:Nat→Ms) (n m:Nat) (wl:Nat) (e:Nat→Int) (nc:Nat) (qv:Nat→Nat→Int) (tp:Nat) (tn:Nat→Nat) (tv:Nat→Nat→Int) (te:Nat) (eu ev ec:Nat→Int):OrS:=orS [(26,o_cr [.a [.lf n (fJ js),.lf m (fM ms)],.n .i64 (vYV .i64 (2 + (nxV e wl 0 6))),.lf wl (fQ e)] (.v (.lf nc (fP (fun _=>n) qv)))),(25,o_cr [.a [.lf n (fJ js),.lf m (fM ms)],.lf nc (fP (fun _=>n) qv),.n .i64 (vYV .i64 (1 + (nxV e wl (mA wl 0 1) 3)))] (.oa [.lf tp (fP tn tv)] 61 12 (.fo te (fZ eu ev ec)))),(27,o_cl)] [(24,o_nx)]
noncomputable def hr1 (N:Nat) (js:Nat→J) (ms:Nat→Ms) (n m:Nat) (wl:Nat) (e:Nat→Int) (nc:Nat) (qv:Nat→Nat→Int) (tp:Nat) (tn:Nat→Nat) (tv:Nat→Nat→Int) (te:Nat) (eu ev ec:Nat→Int) (i:Int) (m2:Nat) (cu:Nat→Int) (cv:Nat→Int) (cc:Nat→Int) (cs:Nat→Int) (ck:Nat→Int) (y1:Nat→PV) (cd:Nat→Int) (cx:Nat→Int) (y2:Nat→PV) (cp:Nat→Int) (y3:Nat→PV) (y4:Nat→PV):St:=⟨[(4,.p 4 0),(5,.p 11 0),(8,.p 8 0),(9,.v (.n .i64 i))],[(4,.blk [.nl,.nl]),(8,.blk [.v (.lf tp (fP tn tv)),.o 24]),(11,.blk [.v (.lf wl (fQ e)),.v (.n .i64 (m2:Int))]),(24,.reg 61 12 (.fo te (fun v=>[.n .i64 (cu v),.n .i64 (cv v),.n .i64 (cc v),.n .i64 (cs v),.n .i64 (ck v),(y1 v),.n .i64 (cd v),.n .i64 (cx v),(y2 v),.n .i64 (cp v),(y3 v),(y4 v)])))]⟩
set_option maxRecDepth 100000 in
theorem rdr1 (G:St→Option (Ret × Mem)) (K:Cont) (N:Nat) (js:Nat→J) (ms:Nat→Ms) (n m:Nat) (wl:Nat) (e:Nat→Int) (nc:Nat) (qv:Nat→Nat→Int) (tp:Nat) (tn:Nat→Nat) (tv:Nat→Nat→Int) (te:Nat) (eu ev ec:Nat→Int) (i:Int) (m2:Nat) (cu:Nat→Int) (cv:Nat→Int) (cc:Nat→Int) (cs:Nat→Int) (ck:Nat→Int) (y1:Nat→PV) (cd:Nat→Int) (cx:Nat→Int) (y2:Nat→PV) (cp:Nat→Int) (y3:Nat→PV) (y4:Nat→PV):stpT Tf 8 (orr1 N js ms n m wl e nc qv tp tn tv te eu ev ec) (N + 10) [] [0,1,0,1,1,1,1] K G (hr1 N js ms n m wl e nc qv tp tn tv te eu ev ec i m2 cu cv cc cs ck y1 cd cx y2 cp y3 y4) =
 (bif (decide (i < (te:Int))) then (bif (gB1 cnx hnx enx (wl,m2,e,4)) then (bif (inB i te) then (bif (inB i te) then (bif (gF1 ccl ecl (bif (Nat.beq (i).toNat (i).toNat) then (nxV e wl m2 4) else (cs (i).toNat))) then (bif (inB i te) then (G (hr1 N js ms n m wl e nc qv tp tn tv te eu ev ec (vYV .i64 (i + 1)) (mA wl m2 1) (fun v=>(bif (Nat.beq v (i).toNat) then (bif (Nat.beq (i).toNat (i).toNat) then (cu (i).toNat) else (cu (i).toNat)) else (bif (Nat.beq v (i).toNat) then (cu (i).toNat) else (cu v)))) (fun v=>(bif (Nat.beq v (i).toNat) then (bif (Nat.beq (i).toNat (i).toNat) then (cv (i).toNat) else (cv (i).toNat)) else (bif (Nat.beq v (i).toNat) then (cv (i).toNat) else (cv v)))) (fun v=>(bif (Nat.beq v (i).toNat) then (bif (Nat.beq (i).toNat (i).toNat) then (cc (i).toNat) else (cc (i).toNat)) else (bif (Nat.beq v (i).toNat) then (cc (i).toNat) else (cc v)))) (fun v=>(bif (Nat.beq v (i).toNat) then (bif (Nat.beq (i).toNat (i).toNat) then (nxV e wl m2 4) else (cs (i).toNat)) else (bif (Nat.beq v (i).toNat) then (nxV e wl m2 4) else (cs v)))) (fun v=>(bif (Nat.beq v (i).toNat) then (clK (bif (Nat.beq (i).toNat (i).toNat) then (nxV e wl m2 4) else (cs (i).toNat))) else (bif (Nat.beq v (i).toNat) then (ck (i).toNat) else (ck v)))) (fun v=>(qYX (Nat.beq v (i).toNat) (.lf (clA (bif (Nat.beq (i).toNat (i).toNat) then (nxV e wl m2 4) else (cs (i).toNat))) clH) (qYX (Nat.beq v (i).toNat) ((y1 (i).toNat)) (y1 v)))) (fun v=>(bif (Nat.beq v (i).toNat) then (clD (bif (Nat.beq (i).toNat (i).toNat) then (nxV e wl m2 4) else (cs (i).toNat))) else (bif (Nat.beq v (i).toNat) then (cd (i).toNat) else (cd v)))) (fun v=>(bif (Nat.beq v (i).toNat) then 0 else (bif (Nat.beq v (i).toNat) then (cx (i).toNat) else (cx v)))) (fun v=>(qYX (Nat.beq v (i).toNat) (.lf 0 clG) (qYX (Nat.beq v (i).toNat) ((y2 (i).toNat)) (y2 v)))) (fun v=>(bif (Nat.beq v (i).toNat) then 0 else (bif (Nat.beq v (i).toNat) then (cp (i).toNat) else (cp v)))) (fun v=>(qYX (Nat.beq v (i).toNat) (.lf (clB (bif (Nat.beq (i).toNat (i).toNat) then (nxV e wl m2 4) else (cs (i).toNat))) clG) (qYX (Nat.beq v (i).toNat) ((y3 (i).toNat)) (y3 v)))) (fun v=>(qYX (Nat.beq v (i).toNat) (.lf (clB (bif (Nat.beq (i).toNat (i).toNat) then (nxV e wl m2 4) else (cs (i).toNat))) clG) (qYX (Nat.beq v (i).toNat) ((y4 (i).toNat)) (y4 v))))))
 else none)
 else none)
 else none)
 else none)
 else none)
 else (K (.exit 0) ⟨[(4,.p 4 0),(8,.p 8 0)],[(4,.blk [.nl,.nl]),(8,.blk [.v (.lf tp (fP tn tv)),.o 24]),(24,.reg 61 12 (.fo te (fun v=>[.n .i64 (cu v),.n .i64 (cv v),.n .i64 (cc v),.n .i64 (cs v),.n .i64 (ck v),(y1 v),.n .i64 (cd v),.n .i64 (cx v),(y2 v),.n .i64 (cp v),(y3 v),(y4 v)])))]⟩)):=by kernel_rfl
noncomputable def dcr1 (js:Nat→J) (ms:Nat→Ms) (n m:Nat) (wl:Nat) (e:Nat→Int) (nc:Nat) (qv:Nat→Nat→Int) (tp:Nat) (tn:Nat→Nat) (tv:Nat→Nat→Int) (te:Nat) (eu ev ec:Nat→Int):(Int × Nat × (Nat→Int) × (Nat→Int) × (Nat→Int) × (Nat→Int) × (Nat→Int) × (Nat→PV) × (Nat→Int) × (Nat→Int) × (Nat→PV) × (Nat→Int) × (Nat→PV) × (Nat→PV))→(Int × Nat × (Nat→Int) × (Nat→Int) × (Nat→Int) × (Nat→Int) × (Nat→Int) × (Nat→PV) × (Nat→Int) × (Nat→Int) × (Nat→PV) × (Nat→Int) × (Nat→PV) × (Nat→PV)) ⊕ (Nat × Int × Nat × (Nat→Int) × (Nat→Int) × (Nat→Int) × (Nat→Int) × (Nat→Int) × (Nat→PV) × (Nat→Int) × (Nat→Int) × (Nat→PV) × (Nat→Int) × (Nat→PV) × (Nat→PV)):=fun t=>match t with | (i,m2,cu,cv,cc,cs,ck,y1,cd,cx,y2,cp,y3,y4)=>(bif (decide (i < (te:Int))) then (bif (gB1 cnx hnx enx (wl,m2,e,4)) then (bif (inB i te) then (bif (gF1 ccl ecl (bif (Nat.beq (i).toNat (i).toNat) then (nxV e wl m2 4) else (cs (i).toNat))) then (.inl ((vYV .i64 (i + 1)),(mA wl m2 1),(fun v=>(bif (Nat.beq v (i).toNat) then (bif (Nat.beq (i).toNat (i).toNat) then (cu (i).toNat) else (cu (i).toNat)) else (bif (Nat.beq v (i).toNat) then (cu (i).toNat) else (cu v)))),(fun v=>(bif (Nat.beq v (i).toNat) then (bif (Nat.beq (i).toNat (i).toNat) then (cv (i).toNat) else (cv (i).toNat)) else (bif (Nat.beq v (i).toNat) then (cv (i).toNat) else (cv v)))),(fun v=>(bif (Nat.beq v (i).toNat) then (bif (Nat.beq (i).toNat (i).toNat) then (cc (i).toNat) else (cc (i).toNat)) else (bif (Nat.beq v (i).toNat) then (cc (i).toNat) else (cc v)))),(fun v=>(bif (Nat.beq v (i).toNat) then (bif (Nat.beq (i).toNat (i).toNat) then (nxV e wl m2 4) else (cs (i).toNat)) else (bif (Nat.beq v (i).toNat) then (nxV e wl m2 4) else (cs v)))),(fun v=>(bif (Nat.beq v (i).toNat) then (clK (bif (Nat.beq (i).toNat (i).toNat) then (nxV e wl m2 4) else (cs (i).toNat))) else (bif (Nat.beq v (i).toNat) then (ck (i).toNat) else (ck v)))),(fun v=>(qYX (Nat.beq v (i).toNat) (.lf (clA (bif (Nat.beq (i).toNat (i).toNat) then (nxV e wl m2 4) else (cs (i).toNat))) clH) (qYX (Nat.beq v (i).toNat) ((y1 (i).toNat)) (y1 v)))),(fun v=>(bif (Nat.beq v (i).toNat) then (clD (bif (Nat.beq (i).toNat (i).toNat) then (nxV e wl m2 4) else (cs (i).toNat))) else (bif (Nat.beq v (i).toNat) then (cd (i).toNat) else (cd v)))),(fun v=>(bif (Nat.beq v (i).toNat) then 0 else (bif (Nat.beq v (i).toNat) then (cx (i).toNat) else (cx v)))),(fun v=>(qYX (Nat.beq v (i).toNat) (.lf 0 clG) (qYX (Nat.beq v (i).toNat) ((y2 (i).toNat)) (y2 v)))),(fun v=>(bif (Nat.beq v (i).toNat) then 0 else (bif (Nat.beq v (i).toNat) then (cp (i).toNat) else (cp v)))),(fun v=>(qYX (Nat.beq v (i).toNat) (.lf (clB (bif (Nat.beq (i).toNat (i).toNat) then (nxV e wl m2 4) else (cs (i).toNat))) clG) (qYX (Nat.beq v (i).toNat) ((y3 (i).toNat)) (y3 v)))),(fun v=>(qYX (Nat.beq v (i).toNat) (.lf (clB (bif (Nat.beq (i).toNat (i).toNat) then (nxV e wl m2 4) else (cs (i).toNat))) clG) (qYX (Nat.beq v (i).toNat) ((y4 (i).toNat)) (y4 v)))))) else (.inr (1,(i,m2,cu,cv,cc,cs,ck,y1,cd,cx,y2,cp,y3,y4)))) else (.inr (1,(i,m2,cu,cv,cc,cs,ck,y1,cd,cx,y2,cp,y3,y4)))) else (.inr (1,(i,m2,cu,cv,cc,cs,ck,y1,cd,cx,y2,cp,y3,y4)))) else (.inr (0,(i,m2,cu,cv,cc,cs,ck,y1,cd,cx,y2,cp,y3,y4))))
noncomputable def kxr1 (N:Nat) (js:Nat→J) (ms:Nat→Ms) (n m:Nat) (wl:Nat) (e:Nat→Int) (nc:Nat) (qv:Nat→Nat→Int) (tp:Nat) (tn:Nat→Nat) (tv:Nat→Nat→Int) (te:Nat) (eu ev ec:Nat→Int) (K:Cont) (w9:Nat × Int × Nat × (Nat→Int) × (Nat→Int) × (Nat→Int) × (Nat→Int) × (Nat→Int) × (Nat→PV) × (Nat→Int) × (Nat→Int) × (Nat→PV) × (Nat→Int) × (Nat→PV) × (Nat→PV)):Option (Ret × Mem):=bif Nat.beq w9.1 0 then (K (.exit 0) ⟨[(4,.p 4 0),(8,.p 8 0)],[(4,.blk [.nl,.nl]),(8,.blk [.v (.lf tp (fP tn tv)),.o 24]),(24,.reg 61 12 (.fo te (fun v=>[.n .i64 (w9.2.2.2.1 v),.n .i64 (w9.2.2.2.2.1 v),.n .i64 (w9.2.2.2.2.2.1 v),.n .i64 (w9.2.2.2.2.2.2.1 v),.n .i64 (w9.2.2.2.2.2.2.2.1 v),(w9.2.2.2.2.2.2.2.2.1 v),.n .i64 (w9.2.2.2.2.2.2.2.2.2.1 v),.n .i64 (w9.2.2.2.2.2.2.2.2.2.2.1 v),(w9.2.2.2.2.2.2.2.2.2.2.2.1 v),.n .i64 (w9.2.2.2.2.2.2.2.2.2.2.2.2.1 v),(w9.2.2.2.2.2.2.2.2.2.2.2.2.2.1 v),(w9.2.2.2.2.2.2.2.2.2.2.2.2.2.2 v)])))]⟩) else none
theorem wlr1 (K:Cont) (N:Nat) (js:Nat→J) (ms:Nat→Ms) (n m:Nat) (wl:Nat) (e:Nat→Int) (nc:Nat) (qv:Nat→Nat→Int) (tp:Nat) (tn:Nat→Nat) (tv:Nat→Nat→Int) (te:Nat) (eu ev ec:Nat→Int):∀ n9 (t:(Int × Nat × (Nat→Int) × (Nat→Int) × (Nat→Int) × (Nat→Int) × (Nat→Int) × (Nat→PV) × (Nat→Int) × (Nat→Int) × (Nat→PV) × (Nat→Int) × (Nat→PV) × (Nat→PV))),LFT Tf 8 (orr1 N js ms n m wl e nc qv tp tn tv te eu ev ec) (N + 10) [] [0,1,0,1,1,1,1] K n9 (hr1 N js ms n m wl e nc qv tp tn tv te eu ev ec t.1 t.2.1 t.2.2.1 t.2.2.2.1 t.2.2.2.2.1 t.2.2.2.2.2.1 t.2.2.2.2.2.2.1 t.2.2.2.2.2.2.2.1 t.2.2.2.2.2.2.2.2.1 t.2.2.2.2.2.2.2.2.2.1 t.2.2.2.2.2.2.2.2.2.2.1 t.2.2.2.2.2.2.2.2.2.2.2.1 t.2.2.2.2.2.2.2.2.2.2.2.2.1 t.2.2.2.2.2.2.2.2.2.2.2.2.2)=(zU (dcr1 js ms n m wl e nc qv tp tn tv te eu ev ec) n9 t).bind (kxr1 N js ms n m wl e nc qv tp tn tv te eu ev ec K):=fun n9 t=>by
 refine qJI (L:=LFT Tf 8 (orr1 N js ms n m wl e nc qv tp tn tv te eu ev ec) (N + 10) [] [0,1,0,1,1,1,1] K) (stp:=stpT Tf 8 (orr1 N js ms n m wl e nc qv tp tn tv te eu ev ec) (N + 10) [] [0,1,0,1,1,1,1] K) (fun _ _=>rfl) (fun _=>rfl) (fun t=>hr1 N js ms n m wl e nc qv tp tn tv te eu ev ec t.1 t.2.1 t.2.2.1 t.2.2.2.1 t.2.2.2.2.1 t.2.2.2.2.2.1 t.2.2.2.2.2.2.1 t.2.2.2.2.2.2.2.1 t.2.2.2.2.2.2.2.2.1 t.2.2.2.2.2.2.2.2.2.1 t.2.2.2.2.2.2.2.2.2.2.1 t.2.2.2.2.2.2.2.2.2.2.2.1 t.2.2.2.2.2.2.2.2.2.2.2.2.1 t.2.2.2.2.2.2.2.2.2.2.2.2.2) (fun _=>True) (dcr1 js ms n m wl e nc qv tp tn tv te eu ev ec) (kxr1 N js ms n m wl e nc qv tp tn tv te eu ev ec K) (fun G t _ => ?_) (fun _ _ _ _=>trivial) n9 t trivial;obtain ⟨i,m2,cu,cv,cc,cs,ck,y1,cd,cx,y2,cp,y3,y4⟩:=t;refine (rdr1 G K N js ms n m wl e nc qv tp tn tv te eu ev ec i m2 cu cv cc cs ck y1 cd cx y2 cp y3 y4).trans ?_;dsimp only [dcr1];cases (decide (i < (te:Int)))
 ·rfl
 ·cases (gB1 cnx hnx enx (wl,m2,e,4))
  ·rfl
  ·cases (inB i te)
   ·rfl
   ·cases (gF1 ccl ecl (bif (Nat.beq (i).toNat (i).toNat) then (nxV e wl m2 4) else (cs (i).toNat)))
    ·rfl
    ·rfl
noncomputable def zGX (N:Nat) (js:Nat→J) (ms:Nat→Ms) (n m:Nat) (wl:Nat) (e:Nat→Int) (nc:Nat) (qv:Nat→Nat→Int) (tp:Nat) (tn:Nat→Nat) (tv:Nat→Nat→Int) (te:Nat) (eu ev ec:Nat→Int) (t:(Int × Nat × (Nat→Int) × (Nat→Int) × (Nat→Int) × (Nat→Int) × (Nat→Int) × (Nat→PV) × (Nat→Int) × (Nat→Int) × (Nat→PV) × (Nat→Int) × (Nat→PV) × (Nat→PV))):Bool:=(zU (dcr1 js ms n m wl e nc qv tp tn tv te eu ev ec) (N + 10) t).isSome
noncomputable def qXL (N:Nat) (js:Nat→J) (ms:Nat→Ms) (n m:Nat) (wl:Nat) (e:Nat→Int) (nc:Nat) (qv:Nat→Nat→Int) (tp:Nat) (tn:Nat→Nat) (tv:Nat→Nat→Int) (te:Nat) (eu ev ec:Nat→Int) (t:(Int × Nat × (Nat→Int) × (Nat→Int) × (Nat→Int) × (Nat→Int) × (Nat→Int) × (Nat→PV) × (Nat→Int) × (Nat→Int) × (Nat→PV) × (Nat→Int) × (Nat→PV) × (Nat→PV))):Nat × Int × Nat × (Nat→Int) × (Nat→Int) × (Nat→Int) × (Nat→Int) × (Nat→Int) × (Nat→PV) × (Nat→Int) × (Nat→Int) × (Nat→PV) × (Nat→Int) × (Nat→PV) × (Nat→PV):=(zU (dcr1 js ms n m wl e nc qv tp tn tv te eu ev ec) (N + 10) t).getD (99,t)
theorem lwr1 (K:Cont) (N:Nat) (js:Nat→J) (ms:Nat→Ms) (n m:Nat) (wl:Nat) (e:Nat→Int) (nc:Nat) (qv:Nat→Nat→Int) (tp:Nat) (tn:Nat→Nat) (tv:Nat→Nat→Int) (te:Nat) (eu ev ec:Nat→Int) (t:(Int × Nat × (Nat→Int) × (Nat→Int) × (Nat→Int) × (Nat→Int) × (Nat→Int) × (Nat→PV) × (Nat→Int) × (Nat→Int) × (Nat→PV) × (Nat→Int) × (Nat→PV) × (Nat→PV))) (hg:zGX N js ms n m wl e nc qv tp tn tv te eu ev ec t=true):LFT Tf 8 (orr1 N js ms n m wl e nc qv tp tn tv te eu ev ec) (N + 10) [] [0,1,0,1,1,1,1] K (N + 10) (hr1 N js ms n m wl e nc qv tp tn tv te eu ev ec t.1 t.2.1 t.2.2.1 t.2.2.2.1 t.2.2.2.2.1 t.2.2.2.2.2.1 t.2.2.2.2.2.2.1 t.2.2.2.2.2.2.2.1 t.2.2.2.2.2.2.2.2.1 t.2.2.2.2.2.2.2.2.2.1 t.2.2.2.2.2.2.2.2.2.2.1 t.2.2.2.2.2.2.2.2.2.2.2.1 t.2.2.2.2.2.2.2.2.2.2.2.2.1 t.2.2.2.2.2.2.2.2.2.2.2.2.2)=kxr1 N js ms n m wl e nc qv tp tn tv te eu ev ec K (qXL N js ms n m wl e nc qv tp tn tv te eu ev ec t):=by
 refine (wlr1 K N js ms n m wl e nc qv tp tn tv te eu ev ec (N + 10) t).trans ?_;unfold zGX at hg;unfold qXL;cases h:zU (dcr1 js ms n m wl e nc qv tp tn tv te eu ev ec) (N + 10) t with
 | none=>rw [h] at hg; cases hg
 | some y=>rfl
def edC (u v c s:Int):Ed:=⟨u,v,c,s,clK s,clD s,0,0,clA s,clH,0,clG,clB s,clG,clB s,clG⟩
abbrev RmT:Type:=(Nat→Int) × (Nat→Int) × (Nat→Int) × (Nat→Int) × (Nat→Int) × (Nat→PV) × (Nat→Int) × (Nat→Int) × (Nat→PV) × (Nat→Int) × (Nat→PV) × (Nat→PV)
def zHV (t:RmT) (v:Nat):List PV:=match t with
 | (cu,cv,cc,cs,ck,y1,cd,cx,y2,cp,y3,y4)=>[.n .i64 (cu v),.n .i64 (cv v),.n .i64 (cc v),.n .i64 (cs v),.n .i64 (ck v),y1 v,.n .i64 (cd v),.n .i64 (cx v),y2 v,.n .i64 (cp v),y3 v,y4 v]
structure RI (eu ev ec:Nat→Int) (i:Nat) (t:RmT):Prop where
 u:∀ v,t.1 v=eu v∧t.2.1 v=ev v∧t.2.2.1 v=ec v
 d:∀ v,v < i→∃ s,(0≤s∧s≤3)∧zHV t v=edP (edC (eu v) (ev v) (ec v) s)
section
variable {js:Nat→J} {ms:Nat→Ms} {n m wl:Nat} {e:Nat→Int} {nc:Nat} {qv:Nat→Nat→Int} {tp:Nat} {tn:Nat→Nat} {tv:Nat→Nat→Int} {te:Nat} {eu ev ec:Nat→Int} (hw:wl≤9223372036854775807) (ht:te≤8192)
include hw ht
theorem it_r1:∀ (d i M m2:Nat) (t:RmT),i + d=te→d < M→m2≤wl→RI eu ev ec i t→∃ (m3:Nat) (t':RmT),zU (dcr1 js ms n m wl e nc qv tp tn tv te eu ev ec) M ((i:Int),m2,t)=some (0,(te:Int),m3,t')∧RI eu ev ec te t'
 | _,_,0,_,_,_,h,_,_=>by omega
 | 0,i,M + 1,m2,t,hd,_,_,hI=>by
  obtain rfl:i=te:=by omega
  refine ⟨m2,t,?_,hI⟩;obtain ⟨cu,cv,cc,cs,ck,y1,cd,cx,y2,cp,y3,y4⟩:=t;rw [zU];dsimp only [dcr1];rw [vYK (show ¬ (i:Int) < (i:Int) by omega)];rfl
 | d + 1,i,M + 1,m2,t,hd,hM,hm,hI=>by
  have hb:=qJH (e:=e) (w:=wl) (m:=m2) (k:=4) (by decide);obtain ⟨cu,cv,cc,cs,ck,y1,cd,cx,y2,cp,y3,y4⟩:=t;rw [zU];dsimp only [dcr1];simp only [toN,Nat.beq_refl,vYY];rw [vYU (show (i:Int) < (te:Int) by omega),qYC (C:=cnx) (t:=(wl,m2,e,4)) ⟨hm,hw,by decide,by decide⟩,zX (show i < te by omega),jW (C:=ccl) (t:=nxV e wl m2 4) ⟨hb.1,by omega⟩,kZ (show i < 1000000 by omega)];refine it_r1 d (i + 1) M (mA wl m2 1) _ (by omega) (by omega) (uY hm 1) ⟨fun v => ?_,fun v hv => ?_⟩
  ·obtain ⟨h1,h2,h3⟩:=hI.u v;obtain ⟨g1,g2,g3⟩:=hI.u i;dsimp only at h1 h2 h3 g1 g2 g3 ⊢;by_cases e1:v=i
   ·subst e1; simp only [Nat.beq_refl,vYY]; exact ⟨g1,g2,g3⟩
   ·simp only [zQQ e1,vYJ]; exact ⟨h1,h2,h3⟩
  ·obtain ⟨h1,h2,h3⟩:=hI.u v;by_cases e1:v=i
   ·subst e1;refine ⟨nxV e wl m2 4,⟨hb.1,by omega⟩,?_⟩;dsimp only [zHV] at h1 h2 h3 ⊢;simp only [Nat.beq_refl,vYY,merge2_t,h1,h2,h3];rfl
   ·obtain ⟨s,h4,h5⟩:=hI.d v (by omega);refine ⟨s,h4,?_⟩;dsimp only [zHV] at h5 ⊢;simp only [zQQ e1,vYJ,merge2_f];exact h5
end
noncomputable def yZU (N:Nat) (js:Nat→J) (ms:Nat→Ms) (n m:Nat) (wl:Nat) (e:Nat→Int) (nc:Nat) (qv:Nat→Nat→Int) (tp:Nat) (tn:Nat→Nat) (tv:Nat→Nat→Int) (te:Nat) (eu ev ec:Nat→Int):List (List Nat × yW):=[([0,1,0,1,1,1,1],sumF (fun t:(Int × Nat × (Nat→Int) × (Nat→Int) × (Nat→Int) × (Nat→Int) × (Nat→Int) × (Nat→PV) × (Nat→Int) × (Nat→Int) × (Nat→PV) × (Nat→Int) × (Nat→PV) × (Nat→PV))=>(hr1 N js ms n m wl e nc qv tp tn tv te eu ev ec t.1 t.2.1 t.2.2.1 t.2.2.2.1 t.2.2.2.2.1 t.2.2.2.2.2.1 t.2.2.2.2.2.2.1 t.2.2.2.2.2.2.2.1 t.2.2.2.2.2.2.2.2.1 t.2.2.2.2.2.2.2.2.2.1 t.2.2.2.2.2.2.2.2.2.2.1 t.2.2.2.2.2.2.2.2.2.2.2.1 t.2.2.2.2.2.2.2.2.2.2.2.2.1 t.2.2.2.2.2.2.2.2.2.2.2.2.2)) (fun σ=>(slI σ 9,(bkC σ 11 1).toNat,rgI σ 24 0,rgI σ 24 1,rgI σ 24 2,rgI σ 24 3,rgI σ 24 4,rgX σ 24 5,rgI σ 24 6,rgI σ 24 7,rgX σ 24 8,rgI σ 24 9,rgX σ 24 10,rgX σ 24 11)) (fun t K=>(bif zGX N js ms n m wl e nc qv tp tn tv te eu ev ec t then kxr1 N js ms n m wl e nc qv tp tn tv te eu ev ec K (qXL N js ms n m wl e nc qv tp tn tv te eu ev ec t) else none)))]
set_option maxRecDepth 100000 in
theorem pxrm0 (N:Nat) (js:Nat→J) (ms:Nat→Ms) (n m:Nat) (wl:Nat) (e:Nat→Int) (nc:Nat) (qv:Nat→Nat→Int) (tp:Nat) (tn:Nat→Nat) (tv:Nat→Nat→Int) (te:Nat) (eu ev ec:Nat→Int):qQU Tf (orr1 N js ms n m wl e nc qv tp tn tv te eu ev ec) (qJ (yZU N js ms n m wl e nc qv tp tn tv te eu ev ec)) (N + 10) 8 [.a [.lf n (fJ js),.lf m (fM ms)],.lf wl (fQ e)] =
 (bif (gB1 cnx hnx enx (wl,0,e,6)) then (bif (gB1 cnx hnx enx (wl,(mA wl 0 1),e,3)) then (bif (g1 [.a [.lf n (fJ js),.lf m (fM ms)],.n .i64 (vYV .i64 (2 + (nxV e wl 0 6))),.lf wl (fQ e)]) then (bif (g1 [.a [.lf n (fJ js),.lf m (fM ms)],.lf nc (fP (fun _=>n) qv),.n .i64 (vYV .i64 (1 + (nxV e wl (mA wl 0 1) 3)))]) then (bif (gSt (hr1 N js ms n m wl e nc qv tp tn tv te eu ev ec 0 (mA wl 0 2) eu ev ec z0 z0 (fun _=>.l []) z0 z0 (fun _=>.l []) z0 (fun _=>.l []) (fun _=>.l [])) (hr1 N js ms n m wl e nc qv tp tn tv te eu ev ec 0 (mA wl 0 2) eu ev ec z0 z0 (fun _=>.l []) z0 z0 (fun _=>.l []) z0 (fun _=>.l []) (fun _=>.l []))) then (bif (zGX N js ms n m wl e nc qv tp tn tv te eu ev ec (0,(mA wl 0 2),eu,ev,ec,z0,z0,(fun _=>.l []),z0,z0,(fun _=>.l []),z0,(fun _=>.l []),(fun _=>.l []))) then (bif (Nat.beq (qXL N js ms n m wl e nc qv tp tn tv te eu ev ec (0,(mA wl 0 2),eu,ev,ec,z0,z0,(fun _=>.l []),z0,z0,(fun _=>.l []),z0,(fun _=>.l []),(fun _=>.l []))).1 0) then some (.v (.a [.lf tp (fP tn tv),.lf te (fun v=>[.n .i64 ((qXL N js ms n m wl e nc qv tp tn tv te eu ev ec (0,(mA wl 0 2),eu,ev,ec,z0,z0,(fun _=>.l []),z0,z0,(fun _=>.l []),z0,(fun _=>.l []),(fun _=>.l []))).2.2.2.1 v),.n .i64 ((qXL N js ms n m wl e nc qv tp tn tv te eu ev ec (0,(mA wl 0 2),eu,ev,ec,z0,z0,(fun _=>.l []),z0,z0,(fun _=>.l []),z0,(fun _=>.l []),(fun _=>.l []))).2.2.2.2.1 v),.n .i64 ((qXL N js ms n m wl e nc qv tp tn tv te eu ev ec (0,(mA wl 0 2),eu,ev,ec,z0,z0,(fun _=>.l []),z0,z0,(fun _=>.l []),z0,(fun _=>.l []),(fun _=>.l []))).2.2.2.2.2.1 v),.n .i64 ((qXL N js ms n m wl e nc qv tp tn tv te eu ev ec (0,(mA wl 0 2),eu,ev,ec,z0,z0,(fun _=>.l []),z0,z0,(fun _=>.l []),z0,(fun _=>.l []),(fun _=>.l []))).2.2.2.2.2.2.1 v),.n .i64 ((qXL N js ms n m wl e nc qv tp tn tv te eu ev ec (0,(mA wl 0 2),eu,ev,ec,z0,z0,(fun _=>.l []),z0,z0,(fun _=>.l []),z0,(fun _=>.l []),(fun _=>.l []))).2.2.2.2.2.2.2.1 v),((qXL N js ms n m wl e nc qv tp tn tv te eu ev ec (0,(mA wl 0 2),eu,ev,ec,z0,z0,(fun _=>.l []),z0,z0,(fun _=>.l []),z0,(fun _=>.l []),(fun _=>.l []))).2.2.2.2.2.2.2.2.1 v),.n .i64 ((qXL N js ms n m wl e nc qv tp tn tv te eu ev ec (0,(mA wl 0 2),eu,ev,ec,z0,z0,(fun _=>.l []),z0,z0,(fun _=>.l []),z0,(fun _=>.l []),(fun _=>.l []))).2.2.2.2.2.2.2.2.2.1 v),.n .i64 ((qXL N js ms n m wl e nc qv tp tn tv te eu ev ec (0,(mA wl 0 2),eu,ev,ec,z0,z0,(fun _=>.l []),z0,z0,(fun _=>.l []),z0,(fun _=>.l []),(fun _=>.l []))).2.2.2.2.2.2.2.2.2.2.1 v),((qXL N js ms n m wl e nc qv tp tn tv te eu ev ec (0,(mA wl 0 2),eu,ev,ec,z0,z0,(fun _=>.l []),z0,z0,(fun _=>.l []),z0,(fun _=>.l []),(fun _=>.l []))).2.2.2.2.2.2.2.2.2.2.2.1 v),.n .i64 ((qXL N js ms n m wl e nc qv tp tn tv te eu ev ec (0,(mA wl 0 2),eu,ev,ec,z0,z0,(fun _=>.l []),z0,z0,(fun _=>.l []),z0,(fun _=>.l []),(fun _=>.l []))).2.2.2.2.2.2.2.2.2.2.2.2.1 v),((qXL N js ms n m wl e nc qv tp tn tv te eu ev ec (0,(mA wl 0 2),eu,ev,ec,z0,z0,(fun _=>.l []),z0,z0,(fun _=>.l []),z0,(fun _=>.l []),(fun _=>.l []))).2.2.2.2.2.2.2.2.2.2.2.2.2.1 v),((qXL N js ms n m wl e nc qv tp tn tv te eu ev ec (0,(mA wl 0 2),eu,ev,ec,z0,z0,(fun _=>.l []),z0,z0,(fun _=>.l []),z0,(fun _=>.l []),(fun _=>.l []))).2.2.2.2.2.2.2.2.2.2.2.2.2.2 v)])]),[])
 else none)
 else none)
 else none)
 else none)
 else none)
 else none)
 else none):=by kernel_rfl
theorem snd_rm0 (N:Nat) (js:Nat→J) (ms:Nat→Ms) (n m:Nat) (wl:Nat) (e:Nat→Int) (nc:Nat) (qv:Nat→Nat→Int) (tp:Nat) (tn:Nat→Nat) (tv:Nat→Nat→Int) (te:Nat) (eu ev ec:Nat→Int) (hC:zQ Tryz.prog 26 [.a [.lf n (fJ js),.lf m (fM ms)],.n .i64 (vYV .i64 (2 + (nxV e wl 0 6))),.lf wl (fQ e)] (.v (.lf nc (fP (fun _=>n) qv)))) (hM:zQ Tryz.prog 25 [.a [.lf n (fJ js),.lf m (fM ms)],.lf nc (fP (fun _=>n) qv),.n .i64 (vYV .i64 (1 + (nxV e wl (mA wl 0 1) 3)))] (.oa [.lf tp (fP tn tv)] 61 12 (.fo te (fZ eu ev ec)))) (hw:wl≤9223372036854775807) {m3:Nat} {t:RmT} (h:zU (dcr1 js ms n m wl e nc qv tp tn tv te eu ev ec) (N + 10) (0,mA wl 0 2,eu,ev,ec,z0,z0,(fun _=>.l []),z0,z0,(fun _=>.l []),z0,(fun _=>.l []),(fun _=>.l []))=some (0,(te:Int),m3,t)):zQ Tryz.prog 8 [.a [.lf n (fJ js),.lf m (fM ms)],.lf wl (fQ e)] (.v (.a [.lf tp (fP tn tv),.lf te (zHV t)])):=by
 refine qV (N:=(N + 10)) (LO:=qJ (yZU N js ms n m wl e nc qv tp tn tv te eu ev ec)) jY jQ (jK (l:=[(26,o_cr [.a [.lf n (fJ js),.lf m (fM ms)],.n .i64 (vYV .i64 (2 + (nxV e wl 0 6))),.lf wl (fQ e)] (.v (.lf nc (fP (fun _=>n) qv)))),(25,o_cr [.a [.lf n (fJ js),.lf m (fM ms)],.lf nc (fP (fun _=>n) qv),.n .i64 (vYV .i64 (1 + (nxV e wl (mA wl 0 1) 3)))] (.oa [.lf tp (fP tn tv)] 61 12 (.fo te (fZ eu ev ec)))),(27,o_cl)]) (m:=[(24,o_nx)]) ⟨qXG hC,qXG hM,yJQ,trivial⟩ ⟨zHG,trivial⟩) (fun p S hp => ?_) ?_
 ·refine qW (L:=qY Tf 8) (l:=(yZU N js ms n m wl e nc qv tp tn tv te eu ev ec)) (show AllP _ (yZU N js ms n m wl e nc qv tp tn tv te eu ev ec) from ⟨?_,trivial⟩) p S hp
  ·dsimp only;refine jJ (T:=Tf) (o:=(orr1 N js ms n m wl e nc qv tp tn tv te eu ev ec)) (f:=8) (LO:=qJ []) (p:=[0,1,0,1,1,1,1]) jU ?_;intro t K r hr;obtain ⟨hg,hr⟩:=qZ hr
   skip
   exact (lwr1 K N js ms n m wl e nc qv tp tn tv te eu ev ec t hg).trans hr
 ·refine (pxrm0 N js ms n m wl e nc qv tp tn tv te eu ev ec).trans ?_;have o1:zGX N js ms n m wl e nc qv tp tn tv te eu ev ec (0,mA wl 0 2,eu,ev,ec,z0,z0,(fun _=>.l []),z0,z0,(fun _=>.l []),z0,(fun _=>.l []),(fun _=>.l []))=true:=by unfold zGX; rw [h]; rfl
  have o2:qXL N js ms n m wl e nc qv tp tn tv te eu ev ec (0,mA wl 0 2,eu,ev,ec,z0,z0,(fun _=>.l []),z0,z0,(fun _=>.l []),z0,(fun _=>.l []),(fun _=>.l []))=(0,(te:Int),m3,t):=by unfold qXL; rw [h]; rfl
  simp only [g1_t,qYC (C:=cnx) (t:=(wl,0,e,6)) ⟨Nat.zero_le _,hw,by decide,by decide⟩,qYC (C:=cnx) (t:=(wl,mA wl 0 1,e,3)) ⟨uY (Nat.zero_le _) 1,hw,by decide,by decide⟩,zV,o1,o2,vYY,Nat.beq_refl];obtain ⟨cu,cv,cc,cs,ck,y1,cd,cx,y2,cp,y3,y4⟩:=t;rfl
theorem edC_ok (u v c s:Int) (_:0≤s∧s≤3):OkE (edC u v c s):=by
 have a1:clA s≤1:=by unfold clA; cases decide (s=1) <;> simp
 have b1:clB s≤1:=by unfold clB; cases decide (s=2) <;> simp
 refine ⟨fun j _=>⟨⟨0,0,0,clG3⟩,rfl,by show 0 * _≤_; omega,fun t ht=>absurd ht (Nat.not_lt_zero t)⟩,?_,⟨by show 0 * _≤_; omega,fun j hj=>absurd hj (Nat.not_lt_zero j)⟩,⟨?_,fun _ _=>⟨1,rfl⟩⟩,⟨?_,fun _ _=>⟨1,rfl⟩⟩⟩
 ·show clA s * _≤_; omega
 ·show clB s * _≤_; omega
 ·show clB s * _≤_; omega
theorem edC_st (u v c s:Int) (_:0≤s∧s≤3):Xe.stE (edC u v c s)=true:=by
 have hs:s=0 ∨ s=1 ∨ s=2 ∨ s=3:=by omega
 rcases hs with rfl | rfl | rfl | rfl <;> rfl
theorem cp_lx {a b c d:Int} (h:LX a b c d):¬ 0≤cpI a b c d:=by
 unfold LX at h;unfold cpI;rcases h with h | ⟨h1,h2⟩
 ·rw [vYU h,vYY]; omega
 ·rw [vYK (show ¬ a < c by omega),vYK (show ¬ c < a by omega),vYU h2]; simp only [vYY,vYJ]; omega
theorem vm_made {js:Nat→J} {ms:Nat→Ms} {n m tp te:Nat} {tn:Nat→Nat} {tv:Nat→Nat→Int} {eu ev ec:Nat→Int} {ed:Nat→Ed} (h0:rErr js ms n m=0) (_:tp≤1000) (he:te≤8192) (hT:PT js ms n m tp tn tv) (hS:SE tp (dE js ms n m tn tv) te eu ev ec) (hd:∀ v,v < te→∃ s,(0≤s∧s≤3)∧ed v=edC (eu v) (ev v) (ec v) s):vmB js ms n m tp tn tv te ed=true:=by
 have hc:Xa.cntD (inP js ms n m tn tv) tn tv tp=tp:=cnt_okP.2 (allN_iff.2 fun j _ hj=>by
  have hj:j < tp:=by omega
  unfold okP inP;rw [hT.ins j hj,vZW,Bool.not_eq_true',decide_eq_false_iff_not];rcases zZI (pn:=tn) (pv:=tv) (q:=tv j) (k:=tn j) (d:=j) (j:=0) with ⟨h1,_⟩ | ⟨_,i,_,h2,h3⟩
  ·omega
  ·rw [hT.dif j hj i (by omega)] at h3; cases h3)
 unfold vmB;rw [vYU h0,vYU (show tp≤1024 by omega),vYU he,vYU hc,vZW,vZW,vZW,vZW];refine allN_iff.2 fun i _ hi => ?_
 have hi:i < te:=by omega
 obtain ⟨s,h1,h2⟩:=hd i hi;obtain ⟨k1,k2,k3,k4⟩:=hS.ok i hi;unfold okV veB;simp only [vQJ,Bool.or_eq_true,Bool.not_eq_true',decide_eq_true_eq,decide_eq_false_iff_not];rw [h2];refine ⟨⟨k1,show eu i < (tp:Int) by omega,show 0≤ev i by omega,k3,show ¬ ev i≤eu i by omega,k4,edC_st _ _ _ _ h1⟩,?_⟩;by_cases hz:i=0
 ·exact .inl hz
 ·obtain ⟨s',_,h4⟩:=hd (i - 1) (by omega);rw [h4]
  have:=hS.so (i - 1) (by omega)
  rw [show i - 1 + 1=i by omega] at this;exact .inr (cp_lx this)
theorem rm_ex (js:Nat→J) (ms:Nat→Ms) (n m wl:Nat) (e:Nat→Int) (hw:wl≤9223372036854775807) (h0:rErr js ms n m=0) (hn:n≤50) (hj:qXY js n):∃ (np ne:Nat) (pn:Nat→Nat) (pv:Nat→Nat→Int) (ed:Nat→Ed),(0 < np∧np≤7∧ne≤350∧vmB js ms n m np pn pv ne ed=true∧∀ i,i < ne→OkE (ed i))∧zQ Tryz.prog 8 [.a [.lf n (fJ js),.lf m (fM ms)],.lf wl (fQ e)] (.v (.a [.lf np (fP pn pv),.lf ne (fE ed)])):=by
 have b6:=qJH (e:=e) (w:=wl) (m:=0) (k:=6) (by decide);obtain ⟨nc,hnc,c1,c2⟩:∃ nc:Nat,vYV .i64 (2 + nxV e wl 0 6)=(nc:Int)∧2≤nc∧nc≤7:=⟨(2 + nxV e wl 0 6).toNat,by rw [jZ (by omega)]; omega,by omega,by omega⟩
 obtain ⟨qv,hq,hC⟩:=cs_ex js ms n m nc wl e hw hn hj (by omega);obtain ⟨tp,te,tn,tv,eu,ev,ec,⟨t1,t2,t3,t4,t5⟩,hM⟩:=nm_ex js ms n m nc (fun _=>n) qv (vYV .i64 (1 + nxV e wl (mA wl 0 1) 3)) h0 (by omega) (by omega) fun j hj'=>qIn_of h0 (hq j hj')
 obtain ⟨m3,t,e1,e2⟩:=it_r1 (js:=js) (ms:=ms) (n:=n) (m:=m) (e:=e) (nc:=nc) (qv:=qv) (tp:=tp) (tn:=tn) (tv:=tv) (eu:=eu) (ev:=ev) (ec:=ec) hw (show te≤8192 by omega) te 0 (te + 10) (mA wl 0 2) (eu,ev,ec,z0,z0,(fun _=>.l []),z0,z0,(fun _=>.l []),z0,(fun _=>.l []),(fun _=>.l [])) (by omega) (by omega) (uY (Nat.zero_le _) 2) ⟨fun v=>⟨rfl,rfl,rfl⟩,fun v hv=>absurd hv (Nat.not_lt_zero v)⟩;rw [← hnc] at hC;have hs:=snd_rm0 te js ms n m wl e nc qv tp tn tv te eu ev ec hC hM hw e1;have each:∀ v,∃ s:Int,v < te→(0≤s∧s≤3)∧zHV t v=edP (edC (eu v) (ev v) (ec v) s):=fun v=>by
  by_cases hv:v < te
  ·obtain ⟨s,hs⟩:=e2.d v hv; exact ⟨s,fun _=>hs⟩
  ·exact ⟨0,fun h=>absurd h hv⟩
 obtain ⟨st,hst⟩:=Classical.axiomOfChoice each;refine ⟨tp,te,tn,tv,fun v=>edC (eu v) (ev v) (ec v) (st v),⟨t1,by omega,by omega,vm_made h0 (by omega) (by omega) t4 t5 fun v hv=>⟨st v,(hst v hv).1,rfl⟩,fun i hi=>edC_ok _ _ _ _ (hst i hi).1⟩,?_⟩;exact qUC (Same.a (xs:=[_,_]) (ys:=[_,_]) ⟨Same.refl _,qYB fun v hv=>(hst v hv).2,trivial⟩) hs
end Go.Proofs.YtklmegnpfhiibaaGreat.Xw

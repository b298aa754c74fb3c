/- Part 36 of the texts behind the last one: rules and contracts. No condition. -/
import Derived.Test.YtklmegnpfhiibaaGreatBK35
open Bool renaming and_eq_true → vQJ, true_and → vZW
open List renaming mem_of_getElem? → vQW
open Go.IntKind renaming wrap → vYW
namespace Go.Proofs.YtklmegnpfhiibaaGreat.Xw
open Go.Rx Rt Go.Sx Go.RowKit Od Na Nb Nc Sn So Sq Xb Xc Bb Xe Xf Xg Xh Xi Xk Xm Xn Xo Xp Xq Xr Xs Xu Xv
def clK (x:Int):Int:=bif decide (x=1) then 1 else bif decide (x=2) then 2 else 0
def clA (x:Int):Nat:=bif decide (x=1) then 1 else 0
def clB (x:Int):Nat:=bif decide (x=2) then 1 else 0
def clD (x:Int):Int:=bif decide (x=3) then 1 else 0
def clF:Nat→List PV:=fun _=>[.n .i64 0,.n .i64 0,.zs]
def clG:Nat→List PV:=fun _=>[.n .i64 1]
theorem yQQ (x:Int) (_:0≤x∧x≤3):zY Tryz.prog 27 [.n .i64 x] (.v (.a [.n .i64 (clK x),.lf (clA x) clF,.n .i64 (clD x),.n .i64 0,.lf 0 clG,.n .i64 0,.lf (clB x) clG,.lf (clB x) clG])):=by
 have hs:x=0 ∨ x=1 ∨ x=2 ∨ x=3:=by omega
 rcases hs with rfl | rfl | rfl | rfl
 ·exact qKV (x:=.a [.n .i64 0,.l [],.n .i64 0,.n .i64 0,.l [],.n .i64 0,.l [],.l []]) (Same.a (xs:=[_,_,_,_,_,_,_,_]) ⟨Same.refl _,Same.lf rfl,Same.refl _,Same.refl _,Same.lf rfl,Same.refl _,Same.lf rfl,Same.lf rfl,trivial⟩) (qZI (N:=60) qZF yH zQC (by kernel_rfl))
 ·exact qKV (x:=.a [.n .i64 1,.l [[.n .i64 0,.n .i64 0,.zs]],.n .i64 0,.n .i64 0,.l [],.n .i64 0,.l [],.l []]) (Same.a (xs:=[_,_,_,_,_,_,_,_]) ⟨Same.refl _,Same.lf rfl,Same.refl _,Same.refl _,Same.lf rfl,Same.refl _,Same.lf rfl,Same.lf rfl,trivial⟩) (qZI (N:=60) qZF yH zQC (by kernel_rfl))
 ·exact qKV (x:=.a [.n .i64 2,.l [],.n .i64 0,.n .i64 0,.l [],.n .i64 0,.l [[.n .i64 1]],.l [[.n .i64 1]]]) (Same.a (xs:=[_,_,_,_,_,_,_,_]) ⟨Same.refl _,Same.lf rfl,Same.refl _,Same.refl _,Same.lf rfl,Same.refl _,Same.lf rfl,Same.lf rfl,trivial⟩) (qZI (N:=60) qZF yH zQC (by kernel_rfl))
 ·exact qKV (x:=.a [.n .i64 0,.l [],.n .i64 1,.n .i64 0,.l [],.n .i64 0,.l [],.l []]) (Same.a (xs:=[_,_,_,_,_,_,_,_]) ⟨Same.refl _,Same.lf rfl,Same.refl _,Same.refl _,Same.lf rfl,Same.refl _,Same.lf rfl,Same.lf rfl,trivial⟩) (qZI (N:=60) qZF yH zQC (by kernel_rfl))
def clG3:Nat→List PV:=fun _=>[.n .i64 0,.n .i64 0,.n .i64 0]
def clH:Nat→List PV:=fun _=>[.n .i64 0,.n .i64 0,.lf 0 clG3]
theorem sames_len {xs ys:List PV}:Sames xs ys→xs.length=ys.length:=by
 induction xs generalizing ys with
 | nil=>intro h; cases ys with | nil=>rfl | cons y ys=>exact h.elim
 | cons x xs ih=>intro h; cases ys with | nil=>exact h.elim | cons y ys=>simp [ih h.2]
theorem sames_get {xs ys:List PV}:Sames xs ys→∀ (i:Nat) (q:PV),ys[i]? = some q→∃ p,xs[i]? = some p∧Same p q:=by
 induction xs generalizing ys with
 | nil=>intro h i q hq; cases ys with | nil=>simp at hq | cons y ys=>exact h.elim
 | cons x xs ih =>
  intro h i q hq;cases ys with
  | nil=>exact h.elim
  | cons y ys =>
   cases i with
   | zero=>simp at hq; subst hq; exact ⟨x,rfl,h.1⟩
   | succ i=>simp at hq; obtain ⟨p,h1,h2⟩:=ih h.2 i q hq; exact ⟨p,by simpa using h1,h2⟩
theorem same_lfS {n:Nat} {f g:Nat→List PV} (h:∀ j,j < n→Sames (f j) (g j)):Same (.lf n f) (.lf n g):=fun F w v hv=>by
 cases hv with
 | lf _ _ _ h1 =>
  generalize hL:(List.range n).map f=L at h1;have hlen:L.length=n:=by rw [← hL]; simp
  have hat:∀ j,j < n→L[j]? = some (f j):=fun j hj=>by rw [← hL]; simp [hj]
  cases h1 with
  | l0 ad c =>
   have:n=0:=by simpa using hlen.symm
   subst this;exact .lf _ _ _ (.l0 ad c)
  | l _ b off n2 c sz k hn hcap hs hF hc hh =>
   have e:n2=n:=by omega
   subst e;have hin:∀ r ∈ (List.range n2).map g,∃ j,j < n2∧r=g j:=fun r hr=>by
    obtain ⟨j,hj,rfl⟩:=List.mem_map.1 hr;exact ⟨j,List.mem_range.1 hj,rfl⟩
   refine .lf _ _ _ (.l _ b off n2 c sz k (by simp) hcap (fun r hr => ?_) hF hc (fun j r t q hr hq => ?_))
   ·obtain ⟨j,hj,rfl⟩:=hin r hr;rw [← sames_len (h j hj)];exact hs _ (vQW (hat j hj))
   ·have hj:j < n2:=by have:=(List.getElem?_eq_some_iff.1 hr).1; simpa using this
    have e2:r=g j:=by simp [hj] at hr; exact hr.symm
    subst e2;obtain ⟨p,h3,h4⟩:=sames_get (h j hj) t q hq;exact h4 F w _ (hh j (f j) t p (hat j hj) h3)
theorem same_zl {f:Nat→List PV}:Same .zs (.lf 0 f):=fun F w v h=>by cases h; exact .lf _ _ _ (.l0 _ _)
theorem snd_clh (x:Int) (h:0≤x∧x≤3):zY Tryz.prog 27 [.n .i64 x] (.v (.a [.n .i64 (clK x),.lf (clA x) clH,.n .i64 (clD x),.n .i64 0,.lf 0 clG,.n .i64 0,.lf (clB x) clG,.lf (clB x) clG])) :=
 qKV (Same.a (xs:=[_,_,_,_,_,_,_,_]) (ys:=[_,_,_,_,_,_,_,_]) ⟨Same.refl _,same_lfS (f:=clF) (g:=clH) (fun _ _=>show Sames [_,_,_] [_,_,_] from ⟨Same.refl _,Same.refl _,same_zl,trivial⟩),Same.refl _,Same.refl _,Same.refl _,Same.refl _,Same.refl _,Same.refl _,trivial⟩) (yQQ x h)
def ccl:Int→Prop:=fun t=>match t with | x=>0≤x∧x≤3
def ecl:Int→List PV:=fun t=>match t with | x=>[.n .i64 x]
noncomputable def rcl:Int→Ret:=fun t=>match t with | x=>.v (.a [.n .i64 (clK x),.lf (clA x) clH,.n .i64 (clD x),.n .i64 0,.lf 0 clG,.n .i64 0,.lf (clB x) clG,.lf (clB x) clG])
def dcl:List PV→Int:=fun ps=>match ps with
 | [.n _ x]=>x
 | _=>0
noncomputable def o_cl:List PV→Option (Bool × Ret):=o_fm dcl ccl ecl rcl
theorem yJG:jH Tryz.prog 27 o_cl:=qQD fun t h=>by
 revert h; revert t; intro x h
 exact snd_clh x h
def rgX (σ:St) (k c:Nat):Nat→PV:=fun v=>match (rgF σ k v)[c]? with
 | some x=>x
 | _=>.ni
noncomputable def orr1 (N:Nat) (js:Nat→J) (ms:Nat→Ms) (n m:Nat) (wl:Nat) (e:Nat→Int) (nc:Nat) (qv:Nat→Nat→Int) (tp:Nat) (tn:Nat→Nat) (tv:Nat→Nat→Int) (te:Nat) (eu ev ec:Nat→Int):OrS:=orS [(26,o_cr [.a [.lf n (fJ js),.lf m (fM ms)],.n .i64 (vYW .i64 (2 + (nxV e wl 0 6))),.lf wl (fQ e)] (.v (.lf nc (fP (fun _=>n) qv)))),(25,o_cr [.a [.lf n (fJ js),.lf m (fM ms)],.lf nc (fP (fun _=>n) qv),.n .i64 (vYW .i64 (1 + (nxV e wl (mA wl 0 1) 3)))] (.oa [.lf tp (fP tn tv)] 61 12 (.fo te (fZ eu ev ec)))),(27,o_cl)] [(24,o_nx)]
noncomputable def hr1 (N:Nat) (js:Nat→J) (ms:Nat→Ms) (n m:Nat) (wl:Nat) (e:Nat→Int) (nc:Nat) (qv:Nat→Nat→Int) (tp:Nat) (tn:Nat→Nat) (tv:Nat→Nat→Int) (te:Nat) (eu ev ec:Nat→Int) (i:Int) (m2:Nat) (cu:Nat→Int) (cv:Nat→Int) (cc:Nat→Int) (cs:Nat→Int) (ck:Nat→Int) (y1:Nat→PV) (cd:Nat→Int) (cx:Nat→Int) (y2:Nat→PV) (cp:Nat→Int) (y3:Nat→PV) (y4:Nat→PV):St:=⟨[(4,.p 4 0),(5,.p 11 0),(8,.p 8 0),(9,.v (.n .i64 i))],[(4,.blk [.nl,.nl]),(8,.blk [.v (.lf tp (fP tn tv)),.o 24]),(11,.blk [.v (.lf wl (fQ e)),.v (.n .i64 (m2:Int))]),(24,.reg 61 12 (.fo te (fun v=>[.n .i64 (cu v),.n .i64 (cv v),.n .i64 (cc v),.n .i64 (cs v),.n .i64 (ck v),(y1 v),.n .i64 (cd v),.n .i64 (cx v),(y2 v),.n .i64 (cp v),(y3 v),(y4 v)])))]⟩
set_option maxRecDepth 100000 in
theorem rdr1 (G:St→Option (Ret × Mem)) (K:Cont) (N:Nat) (js:Nat→J) (ms:Nat→Ms) (n m:Nat) (wl:Nat) (e:Nat→Int) (nc:Nat) (qv:Nat→Nat→Int) (tp:Nat) (tn:Nat→Nat) (tv:Nat→Nat→Int) (te:Nat) (eu ev ec:Nat→Int) (i:Int) (m2:Nat) (cu:Nat→Int) (cv:Nat→Int) (cc:Nat→Int) (cs:Nat→Int) (ck:Nat→Int) (y1:Nat→PV) (cd:Nat→Int) (cx:Nat→Int) (y2:Nat→PV) (cp:Nat→Int) (y3:Nat→PV) (y4:Nat→PV):stpT Tf 8 (orr1 N js ms n m wl e nc qv tp tn tv te eu ev ec) (N + 10) [] [0,1,0,1,1,1,1] K G (hr1 N js ms n m wl e nc qv tp tn tv te eu ev ec i m2 cu cv cc cs ck y1 cd cx y2 cp y3 y4) =
 (bif (decide (i < (te:Int))) then (bif (gB1 cnx hnx enx (wl,m2,e,4)) then (bif (inB i te) then (bif (inB i te) then (bif (gF1 ccl ecl (bif (Nat.beq (i).toNat (i).toNat) then (nxV e wl m2 4) else (cs (i).toNat))) then (bif (inB i te) then (G (hr1 N js ms n m wl e nc qv tp tn tv te eu ev ec (vYW .i64 (i + 1)) (mA wl m2 1) (fun v=>(bif (Nat.beq v (i).toNat) then (bif (Nat.beq (i).toNat (i).toNat) then (cu (i).toNat) else (cu (i).toNat)) else (bif (Nat.beq v (i).toNat) then (cu (i).toNat) else (cu v)))) (fun v=>(bif (Nat.beq v (i).toNat) then (bif (Nat.beq (i).toNat (i).toNat) then (cv (i).toNat) else (cv (i).toNat)) else (bif (Nat.beq v (i).toNat) then (cv (i).toNat) else (cv v)))) (fun v=>(bif (Nat.beq v (i).toNat) then (bif (Nat.beq (i).toNat (i).toNat) then (cc (i).toNat) else (cc (i).toNat)) else (bif (Nat.beq v (i).toNat) then (cc (i).toNat) else (cc v)))) (fun v=>(bif (Nat.beq v (i).toNat) then (bif (Nat.beq (i).toNat (i).toNat) then (nxV e wl m2 4) else (cs (i).toNat)) else (bif (Nat.beq v (i).toNat) then (nxV e wl m2 4) else (cs v)))) (fun v=>(bif (Nat.beq v (i).toNat) then (clK (bif (Nat.beq (i).toNat (i).toNat) then (nxV e wl m2 4) else (cs (i).toNat))) else (bif (Nat.beq v (i).toNat) then (ck (i).toNat) else (ck v)))) (fun v=>(qZL (Nat.beq v (i).toNat) (.lf (clA (bif (Nat.beq (i).toNat (i).toNat) then (nxV e wl m2 4) else (cs (i).toNat))) clH) (qZL (Nat.beq v (i).toNat) ((y1 (i).toNat)) (y1 v)))) (fun v=>(bif (Nat.beq v (i).toNat) then (clD (bif (Nat.beq (i).toNat (i).toNat) then (nxV e wl m2 4) else (cs (i).toNat))) else (bif (Nat.beq v (i).toNat) then (cd (i).toNat) else (cd v)))) (fun v=>(bif (Nat.beq v (i).toNat) then 0 else (bif (Nat.beq v (i).toNat) then (cx (i).toNat) else (cx v)))) (fun v=>(qZL (Nat.beq v (i).toNat) (.lf 0 clG) (qZL (Nat.beq v (i).toNat) ((y2 (i).toNat)) (y2 v)))) (fun v=>(bif (Nat.beq v (i).toNat) then 0 else (bif (Nat.beq v (i).toNat) then (cp (i).toNat) else (cp v)))) (fun v=>(qZL (Nat.beq v (i).toNat) (.lf (clB (bif (Nat.beq (i).toNat (i).toNat) then (nxV e wl m2 4) else (cs (i).toNat))) clG) (qZL (Nat.beq v (i).toNat) ((y3 (i).toNat)) (y3 v)))) (fun v=>(qZL (Nat.beq v (i).toNat) (.lf (clB (bif (Nat.beq (i).toNat (i).toNat) then (nxV e wl m2 4) else (cs (i).toNat))) clG) (qZL (Nat.beq v (i).toNat) ((y4 (i).toNat)) (y4 v))))))
 else none)
 else none)
 else none)
 else none)
 else none)
 else (K (.exit 0) ⟨[(4,.p 4 0),(8,.p 8 0)],[(4,.blk [.nl,.nl]),(8,.blk [.v (.lf tp (fP tn tv)),.o 24]),(24,.reg 61 12 (.fo te (fun v=>[.n .i64 (cu v),.n .i64 (cv v),.n .i64 (cc v),.n .i64 (cs v),.n .i64 (ck v),(y1 v),.n .i64 (cd v),.n .i64 (cx v),(y2 v),.n .i64 (cp v),(y3 v),(y4 v)])))]⟩)):=by kernel_rfl
noncomputable def dcr1 (js:Nat→J) (ms:Nat→Ms) (n m:Nat) (wl:Nat) (e:Nat→Int) (nc:Nat) (qv:Nat→Nat→Int) (tp:Nat) (tn:Nat→Nat) (tv:Nat→Nat→Int) (te:Nat) (eu ev ec:Nat→Int):(Int × Nat × (Nat→Int) × (Nat→Int) × (Nat→Int) × (Nat→Int) × (Nat→Int) × (Nat→PV) × (Nat→Int) × (Nat→Int) × (Nat→PV) × (Nat→Int) × (Nat→PV) × (Nat→PV))→(Int × Nat × (Nat→Int) × (Nat→Int) × (Nat→Int) × (Nat→Int) × (Nat→Int) × (Nat→PV) × (Nat→Int) × (Nat→Int) × (Nat→PV) × (Nat→Int) × (Nat→PV) × (Nat→PV)) ⊕ (Nat × Int × Nat × (Nat→Int) × (Nat→Int) × (Nat→Int) × (Nat→Int) × (Nat→Int) × (Nat→PV) × (Nat→Int) × (Nat→Int) × (Nat→PV) × (Nat→Int) × (Nat→PV) × (Nat→PV)):=fun t=>match t with | (i,m2,cu,cv,cc,cs,ck,y1,cd,cx,y2,cp,y3,y4)=>(bif (decide (i < (te:Int))) then (bif (gB1 cnx hnx enx (wl,m2,e,4)) then (bif (inB i te) then (bif (gF1 ccl ecl (bif (Nat.beq (i).toNat (i).toNat) then (nxV e wl m2 4) else (cs (i).toNat))) then (.inl ((vYW .i64 (i + 1)),(mA wl m2 1),(fun v=>(bif (Nat.beq v (i).toNat) then (bif (Nat.beq (i).toNat (i).toNat) then (cu (i).toNat) else (cu (i).toNat)) else (bif (Nat.beq v (i).toNat) then (cu (i).toNat) else (cu v)))),(fun v=>(bif (Nat.beq v (i).toNat) then (bif (Nat.beq (i).toNat (i).toNat) then (cv (i).toNat) else (cv (i).toNat)) else (bif (Nat.beq v (i).toNat) then (cv (i).toNat) else (cv v)))),(fun v=>(bif (Nat.beq v (i).toNat) then (bif (Nat.beq (i).toNat (i).toNat) then (cc (i).toNat) else (cc (i).toNat)) else (bif (Nat.beq v (i).toNat) then (cc (i).toNat) else (cc v)))),(fun v=>(bif (Nat.beq v (i).toNat) then (bif (Nat.beq (i).toNat (i).toNat) then (nxV e wl m2 4) else (cs (i).toNat)) else (bif (Nat.beq v (i).toNat) then (nxV e wl m2 4) else (cs v)))),(fun v=>(bif (Nat.beq v (i).toNat) then (clK (bif (Nat.beq (i).toNat (i).toNat) then (nxV e wl m2 4) else (cs (i).toNat))) else (bif (Nat.beq v (i).toNat) then (ck (i).toNat) else (ck v)))),(fun v=>(qZL (Nat.beq v (i).toNat) (.lf (clA (bif (Nat.beq (i).toNat (i).toNat) then (nxV e wl m2 4) else (cs (i).toNat))) clH) (qZL (Nat.beq v (i).toNat) ((y1 (i).toNat)) (y1 v)))),(fun v=>(bif (Nat.beq v (i).toNat) then (clD (bif (Nat.beq (i).toNat (i).toNat) then (nxV e wl m2 4) else (cs (i).toNat))) else (bif (Nat.beq v (i).toNat) then (cd (i).toNat) else (cd v)))),(fun v=>(bif (Nat.beq v (i).toNat) then 0 else (bif (Nat.beq v (i).toNat) then (cx (i).toNat) else (cx v)))),(fun v=>(qZL (Nat.beq v (i).toNat) (.lf 0 clG) (qZL (Nat.beq v (i).toNat) ((y2 (i).toNat)) (y2 v)))),(fun v=>(bif (Nat.beq v (i).toNat) then 0 else (bif (Nat.beq v (i).toNat) then (cp (i).toNat) else (cp v)))),(fun v=>(qZL (Nat.beq v (i).toNat) (.lf (clB (bif (Nat.beq (i).toNat (i).toNat) then (nxV e wl m2 4) else (cs (i).toNat))) clG) (qZL (Nat.beq v (i).toNat) ((y3 (i).toNat)) (y3 v)))),(fun v=>(qZL (Nat.beq v (i).toNat) (.lf (clB (bif (Nat.beq (i).toNat (i).toNat) then (nxV e wl m2 4) else (cs (i).toNat))) clG) (qZL (Nat.beq v (i).toNat) ((y4 (i).toNat)) (y4 v)))))) else (.inr (1,(i,m2,cu,cv,cc,cs,ck,y1,cd,cx,y2,cp,y3,y4)))) else (.inr (1,(i,m2,cu,cv,cc,cs,ck,y1,cd,cx,y2,cp,y3,y4)))) else (.inr (1,(i,m2,cu,cv,cc,cs,ck,y1,cd,cx,y2,cp,y3,y4)))) else (.inr (0,(i,m2,cu,cv,cc,cs,ck,y1,cd,cx,y2,cp,y3,y4))))
noncomputable def kxr1 (N:Nat) (js:Nat→J) (ms:Nat→Ms) (n m:Nat) (wl:Nat) (e:Nat→Int) (nc:Nat) (qv:Nat→Nat→Int) (tp:Nat) (tn:Nat→Nat) (tv:Nat→Nat→Int) (te:Nat) (eu ev ec:Nat→Int) (K:Cont) (w9:Nat × Int × Nat × (Nat→Int) × (Nat→Int) × (Nat→Int) × (Nat→Int) × (Nat→Int) × (Nat→PV) × (Nat→Int) × (Nat→Int) × (Nat→PV) × (Nat→Int) × (Nat→PV) × (Nat→PV)):Option (Ret × Mem):=bif Nat.beq w9.1 0 then (K (.exit 0) ⟨[(4,.p 4 0),(8,.p 8 0)],[(4,.blk [.nl,.nl]),(8,.blk [.v (.lf tp (fP tn tv)),.o 24]),(24,.reg 61 12 (.fo te (fun v=>[.n .i64 (w9.2.2.2.1 v),.n .i64 (w9.2.2.2.2.1 v),.n .i64 (w9.2.2.2.2.2.1 v),.n .i64 (w9.2.2.2.2.2.2.1 v),.n .i64 (w9.2.2.2.2.2.2.2.1 v),(w9.2.2.2.2.2.2.2.2.1 v),.n .i64 (w9.2.2.2.2.2.2.2.2.2.1 v),.n .i64 (w9.2.2.2.2.2.2.2.2.2.2.1 v),(w9.2.2.2.2.2.2.2.2.2.2.2.1 v),.n .i64 (w9.2.2.2.2.2.2.2.2.2.2.2.2.1 v),(w9.2.2.2.2.2.2.2.2.2.2.2.2.2.1 v),(w9.2.2.2.2.2.2.2.2.2.2.2.2.2.2 v)])))]⟩) else none
theorem wlr1 (K:Cont) (N:Nat) (js:Nat→J) (ms:Nat→Ms) (n m:Nat) (wl:Nat) (e:Nat→Int) (nc:Nat) (qv:Nat→Nat→Int) (tp:Nat) (tn:Nat→Nat) (tv:Nat→Nat→Int) (te:Nat) (eu ev ec:Nat→Int):∀ n9 (t:(Int × Nat × (Nat→Int) × (Nat→Int) × (Nat→Int) × (Nat→Int) × (Nat→Int) × (Nat→PV) × (Nat→Int) × (Nat→Int) × (Nat→PV) × (Nat→Int) × (Nat→PV) × (Nat→PV))),LFT Tf 8 (orr1 N js ms n m wl e nc qv tp tn tv te eu ev ec) (N + 10) [] [0,1,0,1,1,1,1] K n9 (hr1 N js ms n m wl e nc qv tp tn tv te eu ev ec t.1 t.2.1 t.2.2.1 t.2.2.2.1 t.2.2.2.2.1 t.2.2.2.2.2.1 t.2.2.2.2.2.2.1 t.2.2.2.2.2.2.2.1 t.2.2.2.2.2.2.2.2.1 t.2.2.2.2.2.2.2.2.2.1 t.2.2.2.2.2.2.2.2.2.2.1 t.2.2.2.2.2.2.2.2.2.2.2.1 t.2.2.2.2.2.2.2.2.2.2.2.2.1 t.2.2.2.2.2.2.2.2.2.2.2.2.2)=(qG (dcr1 js ms n m wl e nc qv tp tn tv te eu ev ec) n9 t).bind (kxr1 N js ms n m wl e nc qv tp tn tv te eu ev ec K):=fun n9 t=>by
 refine qYG (L:=LFT Tf 8 (orr1 N js ms n m wl e nc qv tp tn tv te eu ev ec) (N + 10) [] [0,1,0,1,1,1,1] K) (stp:=stpT Tf 8 (orr1 N js ms n m wl e nc qv tp tn tv te eu ev ec) (N + 10) [] [0,1,0,1,1,1,1] K) (fun _ _=>rfl) (fun _=>rfl) (fun t=>hr1 N js ms n m wl e nc qv tp tn tv te eu ev ec t.1 t.2.1 t.2.2.1 t.2.2.2.1 t.2.2.2.2.1 t.2.2.2.2.2.1 t.2.2.2.2.2.2.1 t.2.2.2.2.2.2.2.1 t.2.2.2.2.2.2.2.2.1 t.2.2.2.2.2.2.2.2.2.1 t.2.2.2.2.2.2.2.2.2.2.1 t.2.2.2.2.2.2.2.2.2.2.2.1 t.2.2.2.2.2.2.2.2.2.2.2.2.1 t.2.2.2.2.2.2.2.2.2.2.2.2.2) (fun _=>True) (dcr1 js ms n m wl e nc qv tp tn tv te eu ev ec) (kxr1 N js ms n m wl e nc qv tp tn tv te eu ev ec K) (fun G t _ => ?_) (fun _ _ _ _=>trivial) n9 t trivial;obtain ⟨i,m2,cu,cv,cc,cs,ck,y1,cd,cx,y2,cp,y3,y4⟩:=t;refine (rdr1 G K N js ms n m wl e nc qv tp tn tv te eu ev ec i m2 cu cv cc cs ck y1 cd cx y2 cp y3 y4).trans ?_;dsimp only [dcr1];cases (decide (i < (te:Int)))
 ·rfl
 ·cases (gB1 cnx hnx enx (wl,m2,e,4))
  ·rfl
  ·cases (inB i te)
   ·rfl
   ·cases (gF1 ccl ecl (bif (Nat.beq (i).toNat (i).toNat) then (nxV e wl m2 4) else (cs (i).toNat)))
    ·rfl
    ·rfl
noncomputable def zGL (N:Nat) (js:Nat→J) (ms:Nat→Ms) (n m:Nat) (wl:Nat) (e:Nat→Int) (nc:Nat) (qv:Nat→Nat→Int) (tp:Nat) (tn:Nat→Nat) (tv:Nat→Nat→Int) (te:Nat) (eu ev ec:Nat→Int) (t:(Int × Nat × (Nat→Int) × (Nat→Int) × (Nat→Int) × (Nat→Int) × (Nat→Int) × (Nat→PV) × (Nat→Int) × (Nat→Int) × (Nat→PV) × (Nat→Int) × (Nat→PV) × (Nat→PV))):Bool:=(qG (dcr1 js ms n m wl e nc qv tp tn tv te eu ev ec) (N + 10) t).isSome
noncomputable def qXI (N:Nat) (js:Nat→J) (ms:Nat→Ms) (n m:Nat) (wl:Nat) (e:Nat→Int) (nc:Nat) (qv:Nat→Nat→Int) (tp:Nat) (tn:Nat→Nat) (tv:Nat→Nat→Int) (te:Nat) (eu ev ec:Nat→Int) (t:(Int × Nat × (Nat→Int) × (Nat→Int) × (Nat→Int) × (Nat→Int) × (Nat→Int) × (Nat→PV) × (Nat→Int) × (Nat→Int) × (Nat→PV) × (Nat→Int) × (Nat→PV) × (Nat→PV))):Nat × Int × Nat × (Nat→Int) × (Nat→Int) × (Nat→Int) × (Nat→Int) × (Nat→Int) × (Nat→PV) × (Nat→Int) × (Nat→Int) × (Nat→PV) × (Nat→Int) × (Nat→PV) × (Nat→PV):=(qG (dcr1 js ms n m wl e nc qv tp tn tv te eu ev ec) (N + 10) t).getD (99,t)
theorem lwr1 (K:Cont) (N:Nat) (js:Nat→J) (ms:Nat→Ms) (n m:Nat) (wl:Nat) (e:Nat→Int) (nc:Nat) (qv:Nat→Nat→Int) (tp:Nat) (tn:Nat→Nat) (tv:Nat→Nat→Int) (te:Nat) (eu ev ec:Nat→Int) (t:(Int × Nat × (Nat→Int) × (Nat→Int) × (Nat→Int) × (Nat→Int) × (Nat→Int) × (Nat→PV) × (Nat→Int) × (Nat→Int) × (Nat→PV) × (Nat→Int) × (Nat→PV) × (Nat→PV))) (hg:zGL N js ms n m wl e nc qv tp tn tv te eu ev ec t=true):LFT Tf 8 (orr1 N js ms n m wl e nc qv tp tn tv te eu ev ec) (N + 10) [] [0,1,0,1,1,1,1] K (N + 10) (hr1 N js ms n m wl e nc qv tp tn tv te eu ev ec t.1 t.2.1 t.2.2.1 t.2.2.2.1 t.2.2.2.2.1 t.2.2.2.2.2.1 t.2.2.2.2.2.2.1 t.2.2.2.2.2.2.2.1 t.2.2.2.2.2.2.2.2.1 t.2.2.2.2.2.2.2.2.2.1 t.2.2.2.2.2.2.2.2.2.2.1 t.2.2.2.2.2.2.2.2.2.2.2.1 t.2.2.2.2.2.2.2.2.2.2.2.2.1 t.2.2.2.2.2.2.2.2.2.2.2.2.2)=kxr1 N js ms n m wl e nc qv tp tn tv te eu ev ec K (qXI N js ms n m wl e nc qv tp tn tv te eu ev ec t):=by
 refine (wlr1 K N js ms n m wl e nc qv tp tn tv te eu ev ec (N + 10) t).trans ?_;unfold zGL at hg;unfold qXI;cases h:qG (dcr1 js ms n m wl e nc qv tp tn tv te eu ev ec) (N + 10) t with
 | none=>rw [h] at hg; cases hg
 | some y=>rfl
def edC (u v c s:Int):Ed:=⟨u,v,c,s,clK s,clD s,0,0,clA s,clH,0,clG,clB s,clG,clB s,clG⟩
abbrev RmT:Type:=(Nat→Int) × (Nat→Int) × (Nat→Int) × (Nat→Int) × (Nat→Int) × (Nat→PV) × (Nat→Int) × (Nat→Int) × (Nat→PV) × (Nat→Int) × (Nat→PV) × (Nat→PV)
def yQJ (t:RmT) (v:Nat):List PV:=match t with
 | (cu,cv,cc,cs,ck,y1,cd,cx,y2,cp,y3,y4)=>[.n .i64 (cu v),.n .i64 (cv v),.n .i64 (cc v),.n .i64 (cs v),.n .i64 (ck v),y1 v,.n .i64 (cd v),.n .i64 (cx v),y2 v,.n .i64 (cp v),y3 v,y4 v]
structure RI (eu ev ec:Nat→Int) (i:Nat) (t:RmT):Prop where
 u:∀ v,t.1 v=eu v∧t.2.1 v=ev v∧t.2.2.1 v=ec v
 d:∀ v,v < i→∃ s,(0≤s∧s≤3)∧yQJ t v=edP (edC (eu v) (ev v) (ec v) s)
section
variable {js:Nat→J} {ms:Nat→Ms} {n m wl:Nat} {e:Nat→Int} {nc:Nat} {qv:Nat→Nat→Int} {tp:Nat} {tn:Nat→Nat} {tv:Nat→Nat→Int} {te:Nat} {eu ev ec:Nat→Int} (hw:wl≤9223372036854775807) (ht:te≤8192)
include hw ht
theorem it_r1:∀ (d i M m2:Nat) (t:RmT),i + d=te→d < M→m2≤wl→RI eu ev ec i t→∃ (m3:Nat) (t':RmT),qG (dcr1 js ms n m wl e nc qv tp tn tv te eu ev ec) M ((i:Int),m2,t)=some (0,(te:Int),m3,t')∧RI eu ev ec te t'
 | _,_,0,_,_,_,h,_,_=>by omega
 | 0,i,M + 1,m2,t,hd,_,_,hI=>by
  obtain rfl:i=te:=by omega
  refine ⟨m2,t,?_,hI⟩;obtain ⟨cu,cv,cc,cs,ck,y1,cd,cx,y2,cp,y3,y4⟩:=t;rw [qG];dsimp only [dcr1];rw [vYJ (show ¬ (i:Int) < (i:Int) by omega)];rfl
 | d + 1,i,M + 1,m2,t,hd,hM,hm,hI=>by
  have hb:=qJX (e:=e) (w:=wl) (m:=m2) (k:=4) (by decide);obtain ⟨cu,cv,cc,cs,ck,y1,cd,cx,y2,cp,y3,y4⟩:=t;rw [qG];dsimp only [dcr1];simp only [toN,Nat.beq_refl,vYZ];rw [vYK (show (i:Int) < (te:Int) by omega),qYW (C:=cnx) (t:=(wl,m2,e,4)) ⟨hm,hw,by decide,by decide⟩,zU (show i < te by omega),jV (C:=ccl) (t:=nxV e wl m2 4) ⟨hb.1,by omega⟩,jG (show i < 1000000 by omega)];refine it_r1 d (i + 1) M (mA wl m2 1) _ (by omega) (by omega) (kG hm 1) ⟨fun v => ?_,fun v hv => ?_⟩
  ·obtain ⟨h1,h2,h3⟩:=hI.u v;obtain ⟨g1,g2,g3⟩:=hI.u i;dsimp only at h1 h2 h3 g1 g2 g3 ⊢;by_cases e1:v=i
   ·subst e1; simp only [Nat.beq_refl,vYZ]; exact ⟨g1,g2,g3⟩
   ·simp only [qHL e1,vYY]; exact ⟨h1,h2,h3⟩
  ·obtain ⟨h1,h2,h3⟩:=hI.u v;by_cases e1:v=i
   ·subst e1;refine ⟨nxV e wl m2 4,⟨hb.1,by omega⟩,?_⟩;dsimp only [yQJ] at h1 h2 h3 ⊢;simp only [Nat.beq_refl,vYZ,merge2_t,h1,h2,h3];rfl
   ·obtain ⟨s,h4,h5⟩:=hI.d v (by omega);refine ⟨s,h4,?_⟩;dsimp only [yQJ] at h5 ⊢;simp only [qHL e1,vYY,merge2_f];exact h5
end
noncomputable def yZF (N:Nat) (js:Nat→J) (ms:Nat→Ms) (n m:Nat) (wl:Nat) (e:Nat→Int) (nc:Nat) (qv:Nat→Nat→Int) (tp:Nat) (tn:Nat→Nat) (tv:Nat→Nat→Int) (te:Nat) (eu ev ec:Nat→Int):List (List Nat × yV):=[([0,1,0,1,1,1,1],sumF (fun t:(Int × Nat × (Nat→Int) × (Nat→Int) × (Nat→Int) × (Nat→Int) × (Nat→Int) × (Nat→PV) × (Nat→Int) × (Nat→Int) × (Nat→PV) × (Nat→Int) × (Nat→PV) × (Nat→PV))=>(hr1 N js ms n m wl e nc qv tp tn tv te eu ev ec t.1 t.2.1 t.2.2.1 t.2.2.2.1 t.2.2.2.2.1 t.2.2.2.2.2.1 t.2.2.2.2.2.2.1 t.2.2.2.2.2.2.2.1 t.2.2.2.2.2.2.2.2.1 t.2.2.2.2.2.2.2.2.2.1 t.2.2.2.2.2.2.2.2.2.2.1 t.2.2.2.2.2.2.2.2.2.2.2.1 t.2.2.2.2.2.2.2.2.2.2.2.2.1 t.2.2.2.2.2.2.2.2.2.2.2.2.2)) (fun σ=>(slI σ 9,(bkC σ 11 1).toNat,rgI σ 24 0,rgI σ 24 1,rgI σ 24 2,rgI σ 24 3,rgI σ 24 4,rgX σ 24 5,rgI σ 24 6,rgI σ 24 7,rgX σ 24 8,rgI σ 24 9,rgX σ 24 10,rgX σ 24 11)) (fun t K=>(bif zGL N js ms n m wl e nc qv tp tn tv te eu ev ec t then kxr1 N js ms n m wl e nc qv tp tn tv te eu ev ec K (qXI N js ms n m wl e nc qv tp tn tv te eu ev ec t) else none)))]
set_option maxRecDepth 100000 in
theorem pxrm0 (N:Nat) (js:Nat→J) (ms:Nat→Ms) (n m:Nat) (wl:Nat) (e:Nat→Int) (nc:Nat) (qv:Nat→Nat→Int) (tp:Nat) (tn:Nat→Nat) (tv:Nat→Nat→Int) (te:Nat) (eu ev ec:Nat→Int):qQI Tf (orr1 N js ms n m wl e nc qv tp tn tv te eu ev ec) (qY (yZF N js ms n m wl e nc qv tp tn tv te eu ev ec)) (N + 10) 8 [.a [.lf n (fJ js),.lf m (fM ms)],.lf wl (fQ e)] =
 (bif (gB1 cnx hnx enx (wl,0,e,6)) then (bif (gB1 cnx hnx enx (wl,(mA wl 0 1),e,3)) then (bif (g1 [.a [.lf n (fJ js),.lf m (fM ms)],.n .i64 (vYW .i64 (2 + (nxV e wl 0 6))),.lf wl (fQ e)]) then (bif (g1 [.a [.lf n (fJ js),.lf m (fM ms)],.lf nc (fP (fun _=>n) qv),.n .i64 (vYW .i64 (1 + (nxV e wl (mA wl 0 1) 3)))]) then (bif (gSt (hr1 N js ms n m wl e nc qv tp tn tv te eu ev ec 0 (mA wl 0 2) eu ev ec z0 z0 (fun _=>.l []) z0 z0 (fun _=>.l []) z0 (fun _=>.l []) (fun _=>.l [])) (hr1 N js ms n m wl e nc qv tp tn tv te eu ev ec 0 (mA wl 0 2) eu ev ec z0 z0 (fun _=>.l []) z0 z0 (fun _=>.l []) z0 (fun _=>.l []) (fun _=>.l []))) then (bif (zGL N js ms n m wl e nc qv tp tn tv te eu ev ec (0,(mA wl 0 2),eu,ev,ec,z0,z0,(fun _=>.l []),z0,z0,(fun _=>.l []),z0,(fun _=>.l []),(fun _=>.l []))) then (bif (Nat.beq (qXI N js ms n m wl e nc qv tp tn tv te eu ev ec (0,(mA wl 0 2),eu,ev,ec,z0,z0,(fun _=>.l []),z0,z0,(fun _=>.l []),z0,(fun _=>.l []),(fun _=>.l []))).1 0) then some (.v (.a [.lf tp (fP tn tv),.lf te (fun v=>[.n .i64 ((qXI N js ms n m wl e nc qv tp tn tv te eu ev ec (0,(mA wl 0 2),eu,ev,ec,z0,z0,(fun _=>.l []),z0,z0,(fun _=>.l []),z0,(fun _=>.l []),(fun _=>.l []))).2.2.2.1 v),.n .i64 ((qXI N js ms n m wl e nc qv tp tn tv te eu ev ec (0,(mA wl 0 2),eu,ev,ec,z0,z0,(fun _=>.l []),z0,z0,(fun _=>.l []),z0,(fun _=>.l []),(fun _=>.l []))).2.2.2.2.1 v),.n .i64 ((qXI N js ms n m wl e nc qv tp tn tv te eu ev ec (0,(mA wl 0 2),eu,ev,ec,z0,z0,(fun _=>.l []),z0,z0,(fun _=>.l []),z0,(fun _=>.l []),(fun _=>.l []))).2.2.2.2.2.1 v),.n .i64 ((qXI N js ms n m wl e nc qv tp tn tv te eu ev ec (0,(mA wl 0 2),eu,ev,ec,z0,z0,(fun _=>.l []),z0,z0,(fun _=>.l []),z0,(fun _=>.l []),(fun _=>.l []))).2.2.2.2.2.2.1 v),.n .i64 ((qXI N js ms n m wl e nc qv tp tn tv te eu ev ec (0,(mA wl 0 2),eu,ev,ec,z0,z0,(fun _=>.l []),z0,z0,(fun _=>.l []),z0,(fun _=>.l []),(fun _=>.l []))).2.2.2.2.2.2.2.1 v),((qXI N js ms n m wl e nc qv tp tn tv te eu ev ec (0,(mA wl 0 2),eu,ev,ec,z0,z0,(fun _=>.l []),z0,z0,(fun _=>.l []),z0,(fun _=>.l []),(fun _=>.l []))).2.2.2.2.2.2.2.2.1 v),.n .i64 ((qXI N js ms n m wl e nc qv tp tn tv te eu ev ec (0,(mA wl 0 2),eu,ev,ec,z0,z0,(fun _=>.l []),z0,z0,(fun _=>.l []),z0,(fun _=>.l []),(fun _=>.l []))).2.2.2.2.2.2.2.2.2.1 v),.n .i64 ((qXI N js ms n m wl e nc qv tp tn tv te eu ev ec (0,(mA wl 0 2),eu,ev,ec,z0,z0,(fun _=>.l []),z0,z0,(fun _=>.l []),z0,(fun _=>.l []),(fun _=>.l []))).2.2.2.2.2.2.2.2.2.2.1 v),((qXI N js ms n m wl e nc qv tp tn tv te eu ev ec (0,(mA wl 0 2),eu,ev,ec,z0,z0,(fun _=>.l []),z0,z0,(fun _=>.l []),z0,(fun _=>.l []),(fun _=>.l []))).2.2.2.2.2.2.2.2.2.2.2.1 v),.n .i64 ((qXI N js ms n m wl e nc qv tp tn tv te eu ev ec (0,(mA wl 0 2),eu,ev,ec,z0,z0,(fun _=>.l []),z0,z0,(fun _=>.l []),z0,(fun _=>.l []),(fun _=>.l []))).2.2.2.2.2.2.2.2.2.2.2.2.1 v),((qXI N js ms n m wl e nc qv tp tn tv te eu ev ec (0,(mA wl 0 2),eu,ev,ec,z0,z0,(fun _=>.l []),z0,z0,(fun _=>.l []),z0,(fun _=>.l []),(fun _=>.l []))).2.2.2.2.2.2.2.2.2.2.2.2.2.1 v),((qXI N js ms n m wl e nc qv tp tn tv te eu ev ec (0,(mA wl 0 2),eu,ev,ec,z0,z0,(fun _=>.l []),z0,z0,(fun _=>.l []),z0,(fun _=>.l []),(fun _=>.l []))).2.2.2.2.2.2.2.2.2.2.2.2.2.2 v)])]),[])
 else none)
 else none)
 else none)
 else none)
 else none)
 else none)
 else none):=by kernel_rfl
theorem snd_rm0 (N:Nat) (js:Nat→J) (ms:Nat→Ms) (n m:Nat) (wl:Nat) (e:Nat→Int) (nc:Nat) (qv:Nat→Nat→Int) (tp:Nat) (tn:Nat→Nat) (tv:Nat→Nat→Int) (te:Nat) (eu ev ec:Nat→Int) (hC:zY Tryz.prog 26 [.a [.lf n (fJ js),.lf m (fM ms)],.n .i64 (vYW .i64 (2 + (nxV e wl 0 6))),.lf wl (fQ e)] (.v (.lf nc (fP (fun _=>n) qv)))) (hM:zY Tryz.prog 25 [.a [.lf n (fJ js),.lf m (fM ms)],.lf nc (fP (fun _=>n) qv),.n .i64 (vYW .i64 (1 + (nxV e wl (mA wl 0 1) 3)))] (.oa [.lf tp (fP tn tv)] 61 12 (.fo te (fZ eu ev ec)))) (hw:wl≤9223372036854775807) {m3:Nat} {t:RmT} (h:qG (dcr1 js ms n m wl e nc qv tp tn tv te eu ev ec) (N + 10) (0,mA wl 0 2,eu,ev,ec,z0,z0,(fun _=>.l []),z0,z0,(fun _=>.l []),z0,(fun _=>.l []),(fun _=>.l []))=some (0,(te:Int),m3,t)):zY Tryz.prog 8 [.a [.lf n (fJ js),.lf m (fM ms)],.lf wl (fQ e)] (.v (.a [.lf tp (fP tn tv),.lf te (yQJ t)])):=by
 refine qH (N:=(N + 10)) (LO:=qY (yZF N js ms n m wl e nc qv tp tn tv te eu ev ec)) jY yH (jK (l:=[(26,o_cr [.a [.lf n (fJ js),.lf m (fM ms)],.n .i64 (vYW .i64 (2 + (nxV e wl 0 6))),.lf wl (fQ e)] (.v (.lf nc (fP (fun _=>n) qv)))),(25,o_cr [.a [.lf n (fJ js),.lf m (fM ms)],.lf nc (fP (fun _=>n) qv),.n .i64 (vYW .i64 (1 + (nxV e wl (mA wl 0 1) 3)))] (.oa [.lf tp (fP tn tv)] 61 12 (.fo te (fZ eu ev ec)))),(27,o_cl)]) (m:=[(24,o_nx)]) ⟨qWW hC,qWW hM,yJG,trivial⟩ ⟨yQK,trivial⟩) (fun p S hp => ?_) ?_
 ·refine qX (L:=qZ Tf 8) (l:=(yZF N js ms n m wl e nc qv tp tn tv te eu ev ec)) (show AllP _ (yZF N js ms n m wl e nc qv tp tn tv te eu ev ec) from ⟨?_,trivial⟩) p S hp
  ·dsimp only;refine jQ (T:=Tf) (o:=(orr1 N js ms n m wl e nc qv tp tn tv te eu ev ec)) (f:=8) (LO:=qY []) (p:=[0,1,0,1,1,1,1]) jU ?_;intro t K r hr;obtain ⟨hg,hr⟩:=qQ hr
   skip
   exact (lwr1 K N js ms n m wl e nc qv tp tn tv te eu ev ec t hg).trans hr
 ·refine (pxrm0 N js ms n m wl e nc qv tp tn tv te eu ev ec).trans ?_;have o1:zGL N js ms n m wl e nc qv tp tn tv te eu ev ec (0,mA wl 0 2,eu,ev,ec,z0,z0,(fun _=>.l []),z0,z0,(fun _=>.l []),z0,(fun _=>.l []),(fun _=>.l []))=true:=by unfold zGL; rw [h]; rfl
  have o2:qXI N js ms n m wl e nc qv tp tn tv te eu ev ec (0,mA wl 0 2,eu,ev,ec,z0,z0,(fun _=>.l []),z0,z0,(fun _=>.l []),z0,(fun _=>.l []),(fun _=>.l []))=(0,(te:Int),m3,t):=by unfold qXI; rw [h]; rfl
  simp only [g1_t,qYW (C:=cnx) (t:=(wl,0,e,6)) ⟨Nat.zero_le _,hw,by decide,by decide⟩,qYW (C:=cnx) (t:=(wl,mA wl 0 1,e,3)) ⟨kG (Nat.zero_le _) 1,hw,by decide,by decide⟩,zW,o1,o2,vYZ,Nat.beq_refl];obtain ⟨cu,cv,cc,cs,ck,y1,cd,cx,y2,cp,y3,y4⟩:=t;rfl
theorem edC_ok (u v c s:Int) (_:0≤s∧s≤3):OkE (edC u v c s):=by
 have a1:clA s≤1:=by unfold clA; cases decide (s=1) <;> simp
 have b1:clB s≤1:=by unfold clB; cases decide (s=2) <;> simp
 refine ⟨fun j _=>⟨⟨0,0,0,clG3⟩,rfl,by show 0 * _≤_; omega,fun t ht=>absurd ht (Nat.not_lt_zero t)⟩,?_,⟨by show 0 * _≤_; omega,fun j hj=>absurd hj (Nat.not_lt_zero j)⟩,⟨?_,fun _ _=>⟨1,rfl⟩⟩,⟨?_,fun _ _=>⟨1,rfl⟩⟩⟩
 ·show clA s * _≤_; omega
 ·show clB s * _≤_; omega
 ·show clB s * _≤_; omega
theorem edC_st (u v c s:Int) (_:0≤s∧s≤3):Xe.stE (edC u v c s)=true:=by
 have hs:s=0 ∨ s=1 ∨ s=2 ∨ s=3:=by omega
 rcases hs with rfl | rfl | rfl | rfl <;> rfl
theorem cp_lx {a b c d:Int} (h:LX a b c d):¬ 0≤cpI a b c d:=by
 unfold LX at h;unfold cpI;rcases h with h | ⟨h1,h2⟩
 ·rw [vYK h,vYZ]; omega
 ·rw [vYJ (show ¬ a < c by omega),vYJ (show ¬ c < a by omega),vYK h2]; simp only [vYZ,vYY]; omega
theorem vm_made {js:Nat→J} {ms:Nat→Ms} {n m tp te:Nat} {tn:Nat→Nat} {tv:Nat→Nat→Int} {eu ev ec:Nat→Int} {ed:Nat→Ed} (h0:rErr js ms n m=0) (_:tp≤1000) (he:te≤8192) (hT:PT js ms n m tp tn tv) (hS:SE tp (dE js ms n m tn tv) te eu ev ec) (hd:∀ v,v < te→∃ s,(0≤s∧s≤3)∧ed v=edC (eu v) (ev v) (ec v) s):vmB js ms n m tp tn tv te ed=true:=by
 have hc:Xa.cntD (inP js ms n m tn tv) tn tv tp=tp:=cnt_okP.2 (allN_iff.2 fun j _ hj=>by
  have hj:j < tp:=by omega
  unfold okP inP;rw [hT.ins j hj,vZW,Bool.not_eq_true',decide_eq_false_iff_not];rcases zZC (pn:=tn) (pv:=tv) (q:=tv j) (k:=tn j) (d:=j) (j:=0) with ⟨h1,_⟩ | ⟨_,i,_,h2,h3⟩
  ·omega
  ·rw [hT.dif j hj i (by omega)] at h3; cases h3)
 unfold vmB;rw [vYK h0,vYK (show tp≤1024 by omega),vYK he,vYK hc,vZW,vZW,vZW,vZW];refine allN_iff.2 fun i _ hi => ?_
 have hi:i < te:=by omega
 obtain ⟨s,h1,h2⟩:=hd i hi;obtain ⟨k1,k2,k3,k4⟩:=hS.ok i hi;unfold okV veB;simp only [vQJ,Bool.or_eq_true,Bool.not_eq_true',decide_eq_true_eq,decide_eq_false_iff_not];rw [h2];refine ⟨⟨k1,show eu i < (tp:Int) by omega,show 0≤ev i by omega,k3,show ¬ ev i≤eu i by omega,k4,edC_st _ _ _ _ h1⟩,?_⟩;by_cases hz:i=0
 ·exact .inl hz
 ·obtain ⟨s',_,h4⟩:=hd (i - 1) (by omega);rw [h4]
  have:=hS.so (i - 1) (by omega)
  rw [show i - 1 + 1=i by omega] at this;exact .inr (cp_lx this)
theorem rm_ex (js:Nat→J) (ms:Nat→Ms) (n m wl:Nat) (e:Nat→Int) (hw:wl≤9223372036854775807) (h0:rErr js ms n m=0) (hn:n≤50) (hj:qXZ js n):∃ (np ne:Nat) (pn:Nat→Nat) (pv:Nat→Nat→Int) (ed:Nat→Ed),(0 < np∧np≤7∧ne≤350∧vmB js ms n m np pn pv ne ed=true∧∀ i,i < ne→OkE (ed i))∧zY Tryz.prog 8 [.a [.lf n (fJ js),.lf m (fM ms)],.lf wl (fQ e)] (.v (.a [.lf np (fP pn pv),.lf ne (fE ed)])):=by
 have b6:=qJX (e:=e) (w:=wl) (m:=0) (k:=6) (by decide);obtain ⟨nc,hnc,c1,c2⟩:∃ nc:Nat,vYW .i64 (2 + nxV e wl 0 6)=(nc:Int)∧2≤nc∧nc≤7:=⟨(2 + nxV e wl 0 6).toNat,by rw [zV (by omega)]; omega,by omega,by omega⟩
 obtain ⟨qv,hq,hC⟩:=cs_ex js ms n m nc wl e hw hn hj (by omega);obtain ⟨tp,te,tn,tv,eu,ev,ec,⟨t1,t2,t3,t4,t5⟩,hM⟩:=nm_ex js ms n m nc (fun _=>n) qv (vYW .i64 (1 + nxV e wl (mA wl 0 1) 3)) h0 (by omega) (by omega) fun j hj'=>qIn_of h0 (hq j hj')
 obtain ⟨m3,t,e1,e2⟩:=it_r1 (js:=js) (ms:=ms) (n:=n) (m:=m) (e:=e) (nc:=nc) (qv:=qv) (tp:=tp) (tn:=tn) (tv:=tv) (eu:=eu) (ev:=ev) (ec:=ec) hw (show te≤8192 by omega) te 0 (te + 10) (mA wl 0 2) (eu,ev,ec,z0,z0,(fun _=>.l []),z0,z0,(fun _=>.l []),z0,(fun _=>.l []),(fun _=>.l [])) (by omega) (by omega) (kG (Nat.zero_le _) 2) ⟨fun v=>⟨rfl,rfl,rfl⟩,fun v hv=>absurd hv (Nat.not_lt_zero v)⟩;rw [← hnc] at hC;have hs:=snd_rm0 te js ms n m wl e nc qv tp tn tv te eu ev ec hC hM hw e1;have each:∀ v,∃ s:Int,v < te→(0≤s∧s≤3)∧yQJ t v=edP (edC (eu v) (ev v) (ec v) s):=fun v=>by
  by_cases hv:v < te
  ·obtain ⟨s,hs⟩:=e2.d v hv; exact ⟨s,fun _=>hs⟩
  ·exact ⟨0,fun h=>absurd h hv⟩
 obtain ⟨st,hst⟩:=Classical.axiomOfChoice each;refine ⟨tp,te,tn,tv,fun v=>edC (eu v) (ev v) (ec v) (st v),⟨t1,by omega,by omega,vm_made h0 (by omega) (by omega) t4 t5 fun v hv=>⟨st v,(hst v hv).1,rfl⟩,fun i hi=>edC_ok _ _ _ _ (hst i hi).1⟩,?_⟩;exact qKV (Same.a (xs:=[_,_]) (ys:=[_,_]) ⟨Same.refl _,qXV fun v hv=>(hst v hv).2,trivial⟩) hs
end Go.Proofs.YtklmegnpfhiibaaGreat.Xw
namespace Go.Proofs.YtklmegnpfhiibaaGreat.Yf
open Go.Rx Rt Go.Sx Go.RowKit Od Nb Nc Xb Xc Ba Bb Bc Bn Xe Xf Xg Xh Xi Xk Xn Xs Xw Ya Yc
def stD (js:Nat→J) (q u:Nat→Int) (i:Nat) (s:Int):Int:=vYW .i64 (s + vYW .i64 ((js i).weight * max (vYW .i64 (u i - q i)) (vYW .i64 (q i - u i))))
theorem zJU (js:Nat→J) (q u:Nat→Int) (n:Nat):dsS js q u n=qQL (stD js q u) n 0 0:=rfl
def Bd (js:Nat→J) (n:Nat) (q:Nat→Int):Prop:=∀ i,i < n→(1≤(js i).weight∧(js i).weight≤1024) ∧ -4194304≤q i∧q i≤4194304
theorem zJD {js:Nat→J} {n:Nat} {q u:Nat→Int} (hq:Bd js n q) (hu:Bd js n u) {i:Nat} (hi:i < n) {s:Int} (_:0≤s∧s≤1099511627776):stD js q u i s=s + (js i).weight * max (u i - q i) (q i - u i)∧0≤(js i).weight * max (u i - q i) (q i - u i)∧(js i).weight * max (u i - q i) (q i - u i)≤8589934592:=by
 obtain ⟨w1,q1⟩:=hq i hi;have u1:=(hu i hi).2;unfold stD;rw [zV (x:=u i - q i) (by omega),zV (x:=q i - u i) (by omega)];have h0:0≤max (u i - q i) (q i - u i):=by omega
 have h1:max (u i - q i) (q i - u i)≤8388608:=by omega
 generalize max (u i - q i) (q i - u i)=z at h0 h1;generalize (js i).weight=w at w1;have h2:0≤w * z:=Int.mul_nonneg (by omega) h0;have h3:w * z≤1024 * 8388608:=Int.mul_le_mul w1.2 h1 h0 (by omega);rw [zV (x:=w * z) (by omega),zV (x:=s + w * z) (by omega)];exact ⟨rfl,h2,by omega⟩
theorem tri_it {js:Nat→J} {n:Nat} (hn:n≤10) {x y z:Nat→Int} (hx:Bd js n x) (hy:Bd js n y) (hz:Bd js n z):∀ (d i:Nat) (s1 s2 s3:Int),i + d=n→(0≤s1∧s1≤(i:Int) * 8589934592)→(0≤s2∧s2≤(i:Int) * 8589934592)→(0≤s3∧s3≤(i:Int) * 8589934592)→s1≤s2 + s3→qQL (stD js x z) d i s1≤qQL (stD js x y) d i s2 + qQL (stD js y z) d i s3
 | 0,_,_,_,_,_,_,_,_,h=>h
 | d + 1,i,s1,s2,s3,hi,b1,b2,b3,h=>by
  obtain ⟨e1,p1,r1⟩:=zJD hx hz (show i < n by omega) (s:=s1) (by omega);obtain ⟨e2,p2,r2⟩:=zJD hx hy (show i < n by omega) (s:=s2) (by omega);obtain ⟨e3,p3,r3⟩:=zJD hy hz (show i < n by omega) (s:=s3) (by omega);have hm:max (z i - x i) (x i - z i)≤max (y i - x i) (x i - y i) + max (z i - y i) (y i - z i):=by omega
  have hw:=(hx i (by omega)).1;have h4:=Int.mul_le_mul_of_nonneg_left hm (show 0≤(js i).weight by omega);rw [Int.mul_add] at h4;rw [qQL,qQL,qQL];exact tri_it hn hx hy hz d (i + 1) _ _ _ (by omega) (by rw [e1]; omega) (by rw [e2]; omega) (by rw [e3]; omega) (by rw [e1,e2,e3]; omega)
theorem dsS_tri {js:Nat→J} {n:Nat} (hn:n≤10) {x y z:Nat→Int} (hx:Bd js n x) (hy:Bd js n y) (hz:Bd js n z):dsS js x z n≤dsS js x y n + dsS js y z n:=by
 rw [zJU,zJU,zJU];exact tri_it hn hx hy hz n 0 0 0 0 (by omega) (by omega) (by omega) (by omega) (by omega)
theorem dsS_sym (js:Nat→J) (n:Nat) (x y:Nat→Int):dsS js x y n=dsS js y x n:=by
 rw [zJU,zJU];rw [show stD js x y=stD js y x from funext fun i=>funext fun s=>by unfold stD; rw [Int.max_comm]]
theorem zero_it {js:Nat→J} {n:Nat} {x:Nat→Int} (hx:Bd js n x):∀ (d i:Nat),i + d=n→qQL (stD js x x) d i 0=0
 | 0,_,_=>rfl
 | d + 1,i,hi=>by
  have e1:=(zJD hx hx (show i < n by omega) (s:=0) (by omega)).1;rw [show max (x i - x i) (x i - x i)=0 by omega,Int.mul_zero] at e1;rw [qQL,e1];exact zero_it hx d (i + 1) (by omega)
theorem dsS_zero {js:Nat→J} {n:Nat} {x:Nat→Int} (hx:Bd js n x):dsS js x x n=0:=by
 rw [zJU];exact zero_it hx n 0 (by omega)
section
variable {js:Nat→J} {ms:Nat→Ms} {n m:Nat}
theorem zVF {q:Nat→Int} {k:Nat} (h:qIn js ms q n m k=true):Bd js n q:=fun i hi=>by
 obtain ⟨h1,h2,h3,h4⟩:=qUI h;exact ⟨(Xl.rerr_lim h1 i hi).2.2.2,Xl.qIn_b h i (by omega)⟩
theorem smQ_in {q:Nat→Int} {k:Nat} (h:qIn js ms q n m k=true):smQ q k=true:=by
 unfold smQ;refine allN_iff.2 fun i _ hi => ?_
 have:=Xl.qIn_b h i (by omega)
 rw [vYJ (show ¬ q i < -2147483648 by omega),vYJ (show ¬ 2147483648 < q i by omega)]; rfl
theorem zHD {q u:Nat→Int} {k l:Nat} (hq:qIn js ms q n m k=true) (hu:qIn js ms u n m l=true):dsQ js ms q u n m k l=dsS js q u n:=by
 obtain ⟨h1,h2,_⟩:=qUI hq;obtain ⟨_,g2,_⟩:=qUI hu;unfold dsQ;rw [vYK h1,vYK h2.symm,vYK g2.symm,smQ_in hq,smQ_in hu]; rfl
variable {np:Nat} {pn:Nat→Nat} {pv:Nat→Nat→Int} {ne:Nat} {ed:Nat→Ed}
local notation "D" => dE js ms n m pn pv
theorem D_tri (hv:vmB js ms n m np pn pv ne ed=true) {x y z:Nat} (hx:x < np) (hy:y < np) (hz:z < np):D x z≤D x y + D y z:=by
 have hin:=zJG hv;have hx:=hin x hx; have hy:=hin y hy; have hz:=hin z hz;unfold dE;rw [zHD hx hz,zHD hx hy,zHD hy hz];exact dsS_tri (by have:=qUI hx; omega) (zVF hx) (zVF hy) (zVF hz)
theorem zVA (hv:vmB js ms n m np pn pv ne ed=true) {x y:Nat} (hx:x < np) (hy:y < np):D x y=D y x:=by
 have hin:=zJG hv;have hx:=hin x hx; have hy:=hin y hy;unfold dE;rw [zHD hx hy,zHD hy hx];exact dsS_sym _ _ _ _
theorem zGV (hv:vmB js ms n m np pn pv ne ed=true) {x:Nat} (hx:x < np):D x x=0:=by
 have hx:=zJG hv x hx;unfold dE;rw [zHD hx hx];exact dsS_zero (zVF hx)
theorem D_b (hv:vmB js ms n m np pn pv ne ed=true) {x y:Nat} (hx:x < np) (hy:y < np):0≤D x y∧D x y≤1099511627776:=ds_b (zJG hv x hx) (zJG hv y hy)
theorem ed_D (hv:vmB js ms n m np pn pv ne ed=true) {e:Nat} (he:e < ne):0≤(ed e).u∧(ed e).u < (ed e).v∧(ed e).v < (np:Int)∧(ed e).c=D (ed e).u.toNat (ed e).v.toNat:=by
 have h:=(zZK hv e he).1;unfold veB at h;simp only [vQJ,Bool.not_eq_true',decide_eq_true_eq,decide_eq_false_iff_not] at h;obtain ⟨v1,v2,v3,v4,v5,v6,_⟩:=h;exact ⟨v1,by omega,v4,v6⟩
theorem cp_of {a b c d:Int} (h:¬ 0≤cpI a b c d):LX a b c d:=by
 unfold cpI at h;unfold LX;by_cases h1:a < c
 ·exact .inl h1
 ·rw [vYJ h1,vYY] at h;by_cases h2:c < a
  ·rw [vYK h2,vYZ] at h; omega
  ·rw [vYJ h2,vYY] at h;by_cases h3:b < d
   ·exact .inr ⟨by omega,h3⟩
   ·rw [vYJ h3,vYY] at h;exfalso;cases h4:decide (d < b) with
    | true=>rw [h4,vYZ] at h; omega
    | false=>rw [h4,vYY] at h; omega
theorem ed_lt (hv:vmB js ms n m np pn pv ne ed=true):∀ (k i:Nat),i + k + 1 < ne→LX (ed i).u (ed i).v (ed (i + k + 1)).u (ed (i + k + 1)).v
 | 0,i,h=>by
  rcases (zZK hv (i + 1) h).2 with h1 | h1
  ·omega
  ·exact cp_of h1
 | k + 1,i,h=>by
  refine (ed_lt hv k i (by omega)).tr ?_;rcases (zZK hv (i + k + 1 + 1) h).2 with h1 | h1
  ·omega
  ·exact cp_of h1
abbrev g0 (np:Nat) (pn:Nat→Nat) (pv:Nat→Nat→Int) (ne:Nat) (ed:Nat→Ed):Gr:=⟨np,fP pn pv,ne,ed⟩
theorem wk_D (hv:vmB js ms n m np pn pv ne ed=true) {q:Int} {b x:Nat} {c p:Int} (hb:b < np) (h:WkG (g0 np pn pv ne ed) q b x c p):x < np∧D b x≤c:=by
 induction h with
 | nil=>exact ⟨hb,by rw [zGV hv hb]; omega⟩
 | @cons x y w c p h hx hw hy ih =>
  obtain ⟨e,h1,h2,h3,h4⟩:=zHC hw hy;obtain ⟨d1,d2,d3,d4⟩:=ed_D hv h1;have h4:((ed e).u.toNat=x∧(ed e).v=(y:Int)) ∨ ((ed e).v.toNat=x∧(ed e).u=(y:Int)):=h4;have h3:(ed e).c=(lkO (g0 np pn pv ne ed) q).2.2 x w:=h3;have hyn:y < np:=by omega
  refine ⟨hyn,?_⟩;have ht:=D_tri hv hb ih.1 hyn
  have:D x y=(ed e).c:=by
   rcases h4 with ⟨a1,a2⟩ | ⟨a1,a2⟩
   ·rw [d4,a1,a2,toN]
   ·rw [d4,a1,a2,toN,zVA hv ih.1 hyn]
  rw [← h3]
  have:=ih.2
  omega
theorem us_iff (hv:vmB js ms n m np pn pv ne ed=true) {a b j:Nat} {best:Int} (ha:a < np) (hb:b < np) (hj:j < np):usF js ms n m pn pv (a:Int) (b:Int) best j=true ↔ D a j + D j b≤best:=by
 have hin:=zJG hv;have b1:=D_b hv ha hj;have b2:=D_b hv hj hb;unfold usF uB;rw [toN,toN,hin a ha,hin b hb,hin j hj,vZW,vZW,vZW,decide_eq_true_eq];unfold dE at *;rw [zV (by omega)]
end
theorem zYW (us:Nat→Bool) (i:Nat):∀ k,cntU us i≤cntU us (i + k)
 | 0=>Nat.le_refl _
 | k + 1=>by
  have:=zYW us i k
  show cntU us i≤cntU us (i + k) + (bif us (i + k) then 1 else 0);omega
theorem qUZ {us:Nat→Bool} {i j:Nat} (hu:us i=true) (_:i < j):cntU us i < cntU us j:=by
 have h1:cntU us (i + 1)=cntU us i + (bif us i then 1 else 0):=rfl;rw [hu,vYZ] at h1
 have:=zYW us (i + 1) (j - (i + 1))
 rw [show i + 1 + (j - (i + 1))=j by omega] at this;omega
theorem qGE {us:Nat→Bool} {i j:Nat} (hi:us i=true) (hj:us j=true) (_:cntU us i=cntU us j):i=j:=by
 rcases Nat.lt_trichotomy i j with h1 | h1 | h1
 ·have:=qUZ hi h1; omega
 ·exact h1
 ·have:=qUZ hj h1; omega
theorem cntU_rev {us:Nat→Bool} {i j:Nat} (_:cntU us i < cntU us j):i < j:=by
 rcases Nat.lt_or_ge i j with h1 | h1
 ·exact h1
 ·have:=zYW us j (i - j)
  rw [show j + (i - j)=i by omega] at this;omega
section
variable {js:Nat→J} {ms:Nat→Ms} {n m:Nat} {np:Nat} {pn:Nat→Nat} {pv:Nat→Nat→Int} {ne:Nat} {ed:Nat→Ed}
structure PG (np ne:Nat) (ed:Nat→Ed) (us:Nat→Bool) (nu:Nat→Int) (ed':Nat→Ed):Prop where
 nn:∀ v,v < np→nu v=if us v then (cntU us v:Int) else -1
 ee:∀ v,v < cntU (kpE nu ed) ne→∃ j,j < ne∧kpE nu ed j=true∧cntU (kpE nu ed) j=v∧ed' v=rnE nu (ed j)
abbrev g1 (np ne:Nat) (ed:Nat→Ed) (us:Nat→Bool) (nu:Nat→Int) (pt:Nat→List PV) (ed':Nat→Ed):Gr:=⟨cntU us np,pt,cntU (kpE nu ed) ne,ed'⟩
variable {us:Nat→Bool} {nu:Nat→Int} {pt:Nat→List PV} {ed':Nat→Ed}
theorem PG.num (h:PG np ne ed us nu ed') {v:Nat} (hv:v < np) (hu:us v=true):nu v=(cntU us v:Int):=by rw [h.nn v hv,if_pos hu]
theorem PG.pos (h:PG np ne ed us nu ed') {v:Nat} (hv:v < np) (h0:0≤nu v):us v=true:=by
 rw [h.nn v hv] at h0;by_cases e:us v=true
 ·exact e
 ·rw [if_neg e] at h0; omega
theorem PG.kp (h:PG np ne ed us nu ed') (hv:vmB js ms n m np pn pv ne ed=true) {e:Nat} (he:e < ne):kpE nu ed e=true ↔ us (ed e).u.toNat=true∧us (ed e).v.toNat=true:=by
 obtain ⟨d1,d2,d3,_⟩:=ed_D hv he;unfold kpE;rw [vQJ,decide_eq_true_eq,decide_eq_true_eq];refine ⟨fun ⟨a,b⟩=>⟨h.pos (by omega) a,h.pos (by omega) b⟩,fun ⟨a,b⟩=>⟨?_,?_⟩⟩
 ·rw [h.num (by omega) a]; omega
 ·rw [h.num (by omega) b]; omega
theorem PG.get (h:PG np ne ed us nu ed') (hv:vmB js ms n m np pn pv ne ed=true) {v:Nat} (hn:v < cntU (kpE nu ed) ne):∃ j,j < ne∧cntU (kpE nu ed) j=v∧(ed' v).s=(ed j).s∧(ed' v).c=(ed j).c∧us (ed j).u.toNat=true∧us (ed j).v.toNat=true∧(ed' v).u=(cntU us (ed j).u.toNat:Int)∧(ed' v).v=(cntU us (ed j).v.toNat:Int):=by
 obtain ⟨j,h1,h2,h3,h4⟩:=h.ee v hn;obtain ⟨u1,u2⟩:=(h.kp hv h1).1 h2;obtain ⟨d1,d2,d3,_⟩:=ed_D hv h1;exact ⟨j,h1,h3,by rw [h4]; rfl,by rw [h4]; rfl,u1,u2,by rw [h4]; exact h.num (by omega) u1,by rw [h4]; exact h.num (by omega) u2⟩
theorem PG.wf (h:PG np ne ed us nu ed') (hv:vmB js ms n m np pn pv ne ed=true) (_:np≤1024) (_:ne≤8192):wfB (g1 np ne ed us nu pt ed')=true:=by
 have l1:=qVV us np;have l2:=qVV (kpE nu ed) ne;unfold wfB;rw [vQJ,vQJ,decide_eq_true_eq,decide_eq_true_eq];refine ⟨by show cntU us np≤1024; omega,by show cntU (kpE nu ed) ne≤8192; omega,allN_iff.2 fun i _ hi => ?_⟩;have hi:i < cntU (kpE nu ed) ne:=by
  have:i < (g1 np ne ed us nu pt ed').ne + 0:=by omega
  exact this
 obtain ⟨j,j1,j2,j3,j4,j5,j6,j7,j8⟩:=h.get hv hi;obtain ⟨d1,d2,d3,d4⟩:=ed_D hv j1;have c1:=qUZ j5 (show (ed j).u.toNat < np by omega);have c2:=qUZ j6 (show (ed j).v.toNat < np by omega);have c3:=qUZ j5 (show (ed j).u.toNat < (ed j).v.toNat by omega);have c4:=D_b hv (show (ed j).u.toNat < np by omega) (show (ed j).v.toNat < np by omega);rw [← d4,← j4] at c4;unfold okE isP;simp only [vQJ,Bool.or_eq_true,Bool.not_eq_true',decide_eq_true_eq,decide_eq_false_iff_not];refine ⟨⟨by rw [j7]; omega,by rw [j7]; omega⟩,⟨by rw [j8]; omega,by rw [j8]; omega⟩,by rw [j7,j8]; omega,by omega,by omega,?_⟩;by_cases e:i=0
 ·exact .inl e
 ·refine .inr (cp_lx ?_);obtain ⟨k,k1,k2,k3,k4,k5,k6,k7,k8⟩:=h.get hv (show i - 1 < cntU (kpE nu ed) ne by omega);obtain ⟨b1,b2,b3,_⟩:=ed_D hv k1;have hk:k < j:=cntU_rev (us:=kpE nu ed) (by omega);have hl:=ed_lt hv (j - k - 1) k (by omega);rw [show k + (j - k - 1) + 1=j by omega] at hl;rw [k7,k8,j7,j8];unfold LX at hl ⊢;rcases hl with hl | ⟨hl,hl2⟩
  ·have:=qUZ k5 (show (ed k).u.toNat < (ed j).u.toNat by omega)
   exact .inl (by omega)
  ·have:=qUZ k6 (show (ed k).v.toNat < (ed j).v.toNat by omega)
   exact .inr ⟨by rw [hl],by omega⟩
theorem jn_g (g:Gr) {q:Int} {x:Nat} {y k:Int}:Jn g q g.ne x y k→∃ w,w < (lkO g q).1 x∧(lkO g q).2.1 x w=y∧(lkO g q).2.2 x w=k:=fun h=>((zKD g q).2 x y k).2 h
theorem PG.fwd (h:PG np ne ed us nu ed') (hv:vmB js ms n m np pn pv ne ed=true) {a b:Nat} {best:Int} (ha:a < np) (hb:b < np) (hus:∀ j,j < np→(us j=true ↔ dE js ms n m pn pv a j + dE js ms n m pn pv j b≤best)) {q:Int} {x:Nat} {c p:Int} (hw:WkG (g0 np pn pv ne ed) q b x c p):c + dE js ms n m pn pv x a≤best→us x=true∧WkG (g1 np ne ed us nu pt ed') q (cntU us b) (cntU us x) c p:=by
 induction hw with
 | nil =>
  intro hc
  have:=zVA hv ha hb
  have:=zGV hv hb
  exact ⟨(hus b hb).2 (by omega),.nil⟩
 | @cons x y w c p hw hx hwl hy ih =>
  intro hc;obtain ⟨x1,x2⟩:=wk_D hv hb hw;obtain ⟨y1,y2⟩:=wk_D hv hb (Wk.cons hw hx hwl hy);obtain ⟨e,h1,h2,h3,h4⟩:=zHC hwl hy;obtain ⟨d1,d2,d3,d4⟩:=ed_D hv h1;have h4:((ed e).u.toNat=x∧(ed e).v=(y:Int)) ∨ ((ed e).v.toNat=x∧(ed e).u=(y:Int)):=h4;have h3:(ed e).c=(lkO (g0 np pn pv ne ed) q).2.2 x w:=h3;have h2:usB (ed e).s q=true:=h2;have ht:=D_tri hv x1 y1 ha;have hxy:dE js ms n m pn pv x y=(ed e).c:=by
   rcases h4 with ⟨a1,a2⟩ | ⟨a1,a2⟩
   ·rw [d4,a1,a2,toN]
   ·rw [d4,a1,a2,toN,zVA hv x1 y1]
  rw [← h3] at hc y2 ⊢;obtain ⟨i1,i2⟩:=ih (by omega);have s1:=zVA hv ha y1;have s2:=zVA hv y1 hb;have hy1:us y=true:=(hus y y1).2 (by omega);refine ⟨hy1,?_⟩;have hk:kpE nu ed e=true:=(h.kp hv h1).2 (by
   rcases h4 with ⟨a1,a2⟩ | ⟨a1,a2⟩
   ·rw [a1,a2,toN]; exact ⟨i1,hy1⟩
   ·rw [a1,a2,toN]; exact ⟨hy1,i1⟩)
  have hv2:=qUZ hk h1;obtain ⟨j,j1,j2,j3,j4,j5,j6,j7,j8⟩:=h.get hv hv2;have hj:kpE nu ed j=true:=(h.kp hv j1).2 ⟨j5,j6⟩;obtain rfl:=qGE hj hk j2;obtain ⟨w',g1',g2',g3'⟩:=jn_g (g1 np ne ed us nu pt ed') (q:=q) (x:=cntU us x) (y:=(cntU us y:Int)) (k:=(ed j).c) ⟨cntU (kpE nu ed) j,hv2,by show usB (ed' _).s q=true; rw [j3]; exact h2,j4,by
   show ((ed' _).u.toNat=cntU us x∧(ed' _).v=(cntU us y:Int)) ∨ ((ed' _).v.toNat=cntU us x∧(ed' _).u=(cntU us y:Int));rw [j7,j8,toN,toN];rcases h4 with ⟨a1,a2⟩ | ⟨a1,a2⟩
   ·rw [a1,a2,toN]; exact .inl ⟨rfl,rfl⟩
   ·rw [a1,a2,toN]; exact .inr ⟨rfl,rfl⟩⟩
  rw [← g3'];exact .cons i2 (qUZ i1 x1) g1' g2'
theorem PG.bwd (h:PG np ne ed us nu ed') (hv:vmB js ms n m np pn pv ne ed=true) {b:Nat} (hb:b < np) (hub:us b=true) {q:Int} {z:Nat} {c p:Int} (hw:WkG (g1 np ne ed us nu pt ed') q (cntU us b) z c p):∃ x,x < np∧us x=true∧cntU us x=z∧WkG (g0 np pn pv ne ed) q b x c p:=by
 induction hw with
 | nil=>exact ⟨b,hb,hub,rfl,.nil⟩
 | @cons z y w c p hw hz hwl hy ih =>
  obtain ⟨x,x1,x2,x3,x4⟩:=ih;obtain ⟨e,h1,h2,h3,h4⟩:=zHC hwl hy;obtain ⟨j,j1,j2,j3,j4,j5,j6,j7,j8⟩:=h.get hv h1;obtain ⟨d1,d2,d3,d4⟩:=ed_D hv j1;have h4:((ed' e).u.toNat=z∧(ed' e).v=(y:Int)) ∨ ((ed' e).v.toNat=z∧(ed' e).u=(y:Int)):=h4;have h3:(ed' e).c=(lkO (g1 np ne ed us nu pt ed') q).2.2 z w:=h3;have h2:usB (ed' e).s q=true:=h2;rw [← h3,j4];rw [j3] at h2;rw [j7,j8,toN,toN] at h4;rcases h4 with ⟨a1,a2⟩ | ⟨a1,a2⟩
  ·have e1:(ed j).u.toNat=x:=qGE j5 x2 (by omega);obtain ⟨w',g1',g2',g3'⟩:=jn_g (g0 np pn pv ne ed) (q:=q) (x:=x) (y:=((ed j).v.toNat:Int)) (k:=(ed j).c) ⟨j,j1,h2,rfl,.inl ⟨e1,by show (ed j).v=_; omega⟩⟩;refine ⟨(ed j).v.toNat,by omega,j6,by omega,?_⟩;rw [← g3'];exact .cons x4 x1 g1' g2'
  ·have e1:(ed j).v.toNat=x:=qGE j6 x2 (by omega);obtain ⟨w',g1',g2',g3'⟩:=jn_g (g0 np pn pv ne ed) (q:=q) (x:=x) (y:=((ed j).u.toNat:Int)) (k:=(ed j).c) ⟨j,j1,h2,rfl,.inr ⟨e1,by show (ed j).u=_; omega⟩⟩;refine ⟨(ed j).u.toNat,by omega,j5,by omega,?_⟩;rw [← g3'];exact .cons x4 x1 g1' g2'
theorem PG.least (h:PG np ne ed us nu ed') (hv:vmB js ms n m np pn pv ne ed=true) {a b:Nat} {best:Int} (ha:a < np) (hb:b < np) (hus:∀ j,j < np→(us j=true ↔ dE js ms n m pn pv a j + dE js ms n m pn pv j b≤best)) {c:Int} (hl:Least (g0 np pn pv ne ed) 2 b a c) (_:c≤best):us a=true∧us b=true∧Least (g1 np ne ed us nu pt ed') 2 (cntU us b) (cntU us a) c:=by
 obtain ⟨⟨p,h1⟩,h2⟩:=hl;have hz:=zGV hv ha;have hzb:=zGV hv hb;have hd:=(wk_D hv hb h1).2;have hs:=zVA hv ha hb;have hub:us b=true:=(hus b hb).2 (by omega);obtain ⟨h3,h4⟩:=h.fwd (pt:=pt) hv ha hb hus h1 (by omega);refine ⟨h3,hub,⟨p,h4⟩,fun c' p' h5 => ?_⟩;obtain ⟨x,x1,x2,x3,x4⟩:=h.bwd hv hb hub h5;obtain rfl:=qGE x2 h3 x3;exact h2 _ _ x4
end
end Go.Proofs.YtklmegnpfhiibaaGreat.Yf

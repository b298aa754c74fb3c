/- Part 29 of the texts behind the last one: rules and contracts. No condition. -/
import Derived.Test.YtklmegnpfhiibaaGreatBU28
open Bool renaming and_eq_true → vQJ, and_self → vZQ
open Go.IntKind renaming wrap → vYV
namespace Go.Proofs.YtklmegnpfhiibaaGreat.Xn
open Go.Rx Rt Go.Sx Go.RowKit Od Nb Nc Xb Xc Bb Xe Xf Xg Xh Xi Xk Xm
def cu (js:Nat→J) (ms:Nat→Ms) (n m:Nat):(Nat→Int) × (Nat→Int) × (Nat→Int) × Nat × Nat × Nat × Int→Prop:=fun t=>match t with | (_,_,_,_,_,_,_)=>True
def eu (js:Nat→J) (ms:Nat→Ms) (n m:Nat):(Nat→Int) × (Nat→Int) × (Nat→Int) × Nat × Nat × Nat × Int→List PV:=fun t=>match t with | (qa,qb,qc,ka,kb,kc,best)=>[.a [.lf n (fJ js),.lf m (fM ms)],.lf ka (fQ qa),.lf kb (fQ qb),.lf kc (fQ qc),.n .i64 best]
noncomputable def ru (js:Nat→J) (ms:Nat→Ms) (n m:Nat):(Nat→Int) × (Nat→Int) × (Nat→Int) × Nat × Nat × Nat × Int→Ret:=fun t=>match t with | (qa,qb,qc,ka,kb,kc,best)=>.v (.b (uB js ms qa qb qc n m ka kb kc best))
def du:List PV→(Nat→Int) × (Nat→Int) × (Nat→Int) × Nat × Nat × Nat × Int:=fun ps=>match ps with
 | [_,.lf ka f,.lf kb g,.lf kc h,.n _ b]=>(unFQ f,unFQ g,unFQ h,ka,kb,kc,b)
 | _=>(fun _=>0,fun _=>0,fun _=>0,0,0,0,0)
noncomputable def o_u (js:Nat→J) (ms:Nat→Ms) (n m:Nat):List PV→Option (Bool × Ret):=o_fm du (cu js ms n m) (eu js ms n m) (ru js ms n m)
theorem ok_u (js:Nat→J) (ms:Nat→Ms) (n m:Nat):kU Tryz.prog 13 (o_u js ms n m):=qZB fun t h=>by
 obtain ⟨qa,qb,qc,ka,kb,kc,best⟩:=t;exact zJD js ms qa qb qc n m ka kb kc best
def cur (js:Nat→J) (ms:Nat→Ms) (n m:Nat):(Nat→Int) × (Nat→Int) × (Nat→Int) × Nat × Nat × Nat × Int→Prop:=fun t=>match t with | (_,_,_,_,_,_,_)=>True
def eur (js:Nat→J) (ms:Nat→Ms) (n m:Nat):(Nat→Int) × (Nat→Int) × (Nat→Int) × Nat × Nat × Nat × Int→List PV:=fun t=>match t with | (qa,qb,qc,ka,kb,kc,best)=>[.a [.lf n (fJ js),.lf m (fM ms)],.lf ka (fQ qa),.lf kb (fQ qb),.lf kc (fQ qc),.n .i64 best]
noncomputable def rur (js:Nat→J) (ms:Nat→Ms) (n m:Nat):(Nat→Int) × (Nat→Int) × (Nat→Int) × Nat × Nat × Nat × Int→Ret:=fun t=>match t with | (qa,qb,qc,ka,kb,kc,best)=>.v (.b (uB js ms qa qb qc n m ka kb kc best))
def dur:List PV→(Nat→Int) × (Nat→Int) × (Nat→Int) × Nat × Nat × Nat × Int:=fun ps=>match ps with
 | [_,.lf ka f,.lf kb g,.lf kc h,.n _ b]=>(unFQ f,unFQ g,unFQ h,ka,kb,kc,b)
 | _=>(fun _=>0,fun _=>0,fun _=>0,0,0,0,0)
noncomputable def o_ur (js:Nat→J) (ms:Nat→Ms) (n m:Nat):List PV→Option (Bool × Ret):=o_fm dur (cur js ms n m) (eur js ms n m) (rur js ms n m)
theorem ok_ur (js:Nat→J) (ms:Nat→Ms) (n m:Nat):kU Tryz.prog 14 (o_ur js ms n m):=qZB fun t h=>by
 obtain ⟨qa,qb,qc,ka,kb,kc,best⟩:=t;exact zQC js ms qa qb qc n m ka kb kc best
def chp:Gr × Int × Int→Prop:=fun t=>match t with | (g,_,_)=>g.np≤1000000∧g.ne≤8192
def ehp:Gr × Int × Int→List PV:=fun t=>match t with | (g,a,b)=>[.a (gP g),.n .i64 a,.n .i64 b]
noncomputable def rhp:Gr × Int × Int→Ret:=fun t=>match t with | (g,a,b)=>.v (.b (wfB g && (isP g a && isP g b)))
def dhp:List PV→Gr × Int × Int:=fun ps=>match ps with
 | [.a [.lf np pt,.lf ne ed],.n _ a,.n _ b]=>(⟨np,pt,ne,unFE ed⟩,a,b)
 | _=>(⟨0,fun _=>[],0,fun _=>unE []⟩,0,0)
noncomputable def o_hp:List PV→Option (Bool × Ret):=o_fm dhp chp ehp rhp
theorem ok_hp:kU Tryz.prog 43 o_hp:=qZB fun t h=>by
 obtain ⟨g,a,b⟩:=t;exact Xd.snd_hp g a b h.1 h.2
theorem snd_mk1 (np:Nat) (pn:Nat→Nat) (pv:Nat→Nat→Int) (ne:Nat) (ed:Nat→Ed) (h:np≤1000∧(∀ j,j < np→pn j≤50)∧ne≤8192∧∀ i,i < ne→OkE (ed i)):zQ Tryz.prog 44 [.a [.lf np (fP pn pv),.lf ne (fE ed)],.n .i64 (-1),.a [.n .i64 0,.zs,.n .i64 0,.n .i64 0,.zs,.n .i64 0,.zs,.zs]] (.v (.t [.a [.lf np (fP pn pv),.lf ne (fE ed)],.b false])):=snd_mrk np pn pv ne ed h.1 h.2.1 h.2.2.1 h.2.2.2
def rgI (σ:St) (k c:Nat):Nat→Int:=fun v=>match (rgF σ k v)[c]? with
 | some (.n _ i)=>i
 | _=>0
def zP:Nat→List PV:=fun _=>[.zs]
def zE:Nat→List PV:=fun _=>[.n .i64 0,.n .i64 0,.n .i64 0,.n .i64 0,.n .i64 0,.zs,.n .i64 0,.n .i64 0,.zs,.n .i64 0,.zs,.zs]
def z0:Nat→Int:=fun _=>0
def stP (us:Nat→Bool) (pn:Nat→Nat) (pv:Nat→Nat→Int) (i:Nat) (t:(Nat→Int) × Nat × (Nat→Int) × Nat × (Nat→List PV)):(Nat→Int) × Nat × (Nat→Int) × Nat × (Nat→List PV) :=
 bif us i then ((fun v=>bif Nat.beq v i then (t.2.1:Int) else (bif Nat.beq v i then (-1) else t.1 v)),t.2.1 + 1,(fun v=>bif Nat.beq v t.2.1 then (i:Int) else t.2.2.1 v),t.2.2.2.1 + 1,(fun v=>qH (Nat.beq v t.2.2.2.1) [.lf (pn i) (fQ (pv i))] (t.2.2.2.2 v)))
 else ((fun v=>bif Nat.beq v i then (-1) else t.1 v),t.2.1,t.2.2.1,t.2.2.2.1,t.2.2.2.2)
def rnE (nu:Nat→Int) (e:Ed):Ed:={ e with u:=nu e.u.toNat,v:=nu e.v.toNat }
def egE (nu:Nat→Int) (ed:Nat→Ed) (i:Nat) (t:Nat × (Nat→List PV)):Nat × (Nat→List PV) :=
 bif decide (0≤nu (ed i).u.toNat) && decide (0≤nu (ed i).v.toNat) then (t.1 + 1,fun v=>qH (Nat.beq v t.1) (edP (rnE nu (ed i))) (t.2 v)) else t
def usF (js:Nat→J) (ms:Nat→Ms) (n m:Nat) (pn:Nat→Nat) (pv:Nat→Nat→Int) (a b best:Int) (j:Nat):Bool:=uB js ms (pv a.toNat) (pv b.toNat) (pv j) n m (pn a.toNat) (pn b.toNat) (pn j) best
def prT (us:Nat→Bool) (pn:Nat→Nat) (pv:Nat→Nat→Int) (np:Nat):(Nat→Int) × Nat × (Nat→Int) × Nat × (Nat→List PV):=qJA (stP us pn pv) np 0 (z0,0,z0,0,zP)
def prU (nu:Nat→Int) (ed:Nat→Ed) (ne:Nat):Nat × (Nat→List PV):=qJA (egE nu ed) ne 0 (0,zE)
def prB (js:Nat→J) (ms:Nat→Ms) (n m:Nat) (np:Nat) (pn:Nat→Nat) (pv:Nat→Nat→Int) (ne:Nat) (ed:Nat→Ed) (a b best:Int):Bool:=vmB js ms n m np pn pv ne ed && (decide (0≤a∧a < (np:Int)) && (decide (0≤b∧b < (np:Int)) && !decide (best < dE js ms n m pn pv a.toNat b.toNat)))
def prR (t:(Nat→Int) × Nat × (Nat→Int) × Nat × (Nat→List PV)) (y:Nat × (Nat→List PV)):PV:=.t [.a [.lf t.2.2.2.1 t.2.2.2.2,.lf y.1 y.2],.lf t.2.1 (fQ t.2.2.1)]
def prV (js:Nat→J) (ms:Nat→Ms) (n m:Nat) (np:Nat) (pn:Nat→Nat) (pv:Nat→Nat→Int) (ne:Nat) (ed:Nat→Ed) (a b best:Int):PV:=prR (prT (usF js ms n m pn pv a b best) pn pv np) (prU (prT (usF js ms n m pn pv a b best) pn pv np).1 ed ne)
def cntU (us:Nat→Bool):Nat→Nat
 | 0=>0
 | i + 1=>cntU us i + (bif us i then 1 else 0)
theorem qWG (us:Nat→Bool):∀ i,cntU us i≤i
 | 0=>Nat.le_refl _
 | i + 1=>by
  have:=qWG us i
  show cntU us i + (bif us i then 1 else 0)≤i + 1;cases us i <;> simp <;> omega
structure PI (us:Nat→Bool) (pn:Nat→Nat) (pv:Nat→Nat→Int) (i:Nat) (t:(Nat→Int) × Nat × (Nat→Int) × Nat × (Nat→List PV)):Prop where
 r:t.2.1=cntU us i
 q:t.2.2.2.1=cntU us i
 nu:∀ v,v < i→t.1 v=if us v then (cntU us v:Int) else -1
 ol:∀ v,v < cntU us i→∃ j,j < i∧us j=true∧cntU us j=v∧t.2.2.1 v=(j:Int)∧t.2.2.2.2 v=[.lf (pn j) (fQ (pv j))]
theorem zQQ {v i:Nat} (h:v ≠ i):Nat.beq v i=false:=by rw [qXF,vYK h]
theorem PI.step {us:Nat→Bool} {pn:Nat→Nat} {pv:Nat→Nat→Int} {i:Nat} {t:(Nat→Int) × Nat × (Nat→Int) × Nat × (Nat→List PV)} (h:PI us pn pv i t):PI us pn pv (i + 1) (stP us pn pv i t):=by
 have hc:cntU us (i + 1)=cntU us i + (bif us i then 1 else 0):=rfl;unfold stP;cases hu:us i with
 | true =>
  rw [hu] at hc;simp only [vYY] at hc ⊢;refine ⟨by show t.2.1 + 1=_; rw [hc,h.r],by show t.2.2.2.1 + 1=_; rw [hc,h.q],fun v hv => ?_,fun v hv => ?_⟩
  ·show (bif Nat.beq v i then _ else _)=_;by_cases e:v=i
   ·subst e; rw [Nat.beq_refl,vYY,if_pos hu,h.r]
   ·rw [zQQ e,vYJ,vYJ,h.nu v (by omega)]
  ·show ∃ j,j < i + 1∧us j=true∧cntU us j=v∧(bif Nat.beq v t.2.1 then (i:Int) else t.2.2.1 v)=(j:Int)∧qH (Nat.beq v t.2.2.2.1) [.lf (pn i) (fQ (pv i))] (t.2.2.2.2 v)=[.lf (pn j) (fQ (pv j))];rw [h.r,h.q];by_cases e:v=cntU us i
   ·subst e;refine ⟨i,Nat.lt_succ_self _,hu,rfl,?_,?_⟩
    ·rw [Nat.beq_refl]; rfl
    ·rw [Nat.beq_refl,qKV]
   ·obtain ⟨j,h1,h2,h3,h4,h5⟩:=h.ol v (by omega);exact ⟨j,by omega,h2,h3,by rw [zQQ e,vYJ,h4],by rw [zQQ e,qKG,h5]⟩
 | false =>
  rw [hu] at hc;simp only [vYJ,Nat.add_zero] at hc ⊢;refine ⟨by rw [hc]; exact h.r,by rw [hc]; exact h.q,fun v hv => ?_,fun v hv => ?_⟩
  ·show (bif Nat.beq v i then _ else _)=_;by_cases e:v=i
   ·subst e; rw [Nat.beq_refl,vYY,hu]; rfl
   ·rw [zQQ e,vYJ,h.nu v (by omega)]
  ·obtain ⟨j,h1,h2⟩:=h.ol v (by omega);exact ⟨j,by omega,h2⟩
theorem prT_PI (us:Nat→Bool) (pn:Nat→Nat) (pv:Nat→Nat→Int) (np:Nat):PI us pn pv np (prT us pn pv np) :=
 qUJ (Q:=fun i t=>PI us pn pv i t) (c:=np) (fun i t _ h=>h.step) np 0 _ (by omega) ⟨rfl,rfl,fun v hv=>absurd hv (Nat.not_lt_zero v),fun v hv=>absurd hv (Nat.not_lt_zero v)⟩
def kpE (nu:Nat→Int) (ed:Nat→Ed) (j:Nat):Bool:=decide (0≤nu (ed j).u.toNat) && decide (0≤nu (ed j).v.toNat)
structure EI (nu:Nat→Int) (ed:Nat→Ed) (i:Nat) (t:Nat × (Nat→List PV)):Prop where
 s:t.1=cntU (kpE nu ed) i
 e:∀ v,v < cntU (kpE nu ed) i→∃ j,j < i∧kpE nu ed j=true∧cntU (kpE nu ed) j=v∧t.2 v=edP (rnE nu (ed j))
theorem EI.step {nu:Nat→Int} {ed:Nat→Ed} {i:Nat} {t:Nat × (Nat→List PV)} (h:EI nu ed i t):EI nu ed (i + 1) (egE nu ed i t):=by
 have hc:cntU (kpE nu ed) (i + 1)=cntU (kpE nu ed) i + (bif kpE nu ed i then 1 else 0):=rfl;unfold egE;cases hu:kpE nu ed i with
 | true =>
  rw [hu] at hc;rw [show (decide (0≤nu (ed i).u.toNat) && decide (0≤nu (ed i).v.toNat))=true from hu];simp only [vYY] at hc ⊢;refine ⟨by show t.1 + 1=_; rw [hc,h.s],fun v hv => ?_⟩;show ∃ j,j < i + 1∧kpE nu ed j=true∧cntU (kpE nu ed) j=v∧qH (Nat.beq v t.1) (edP (rnE nu (ed i))) (t.2 v)=_;rw [h.s];by_cases e:v=cntU (kpE nu ed) i
  ·subst e;exact ⟨i,Nat.lt_succ_self _,hu,rfl,by rw [Nat.beq_refl,qKV]⟩
  ·obtain ⟨j,h1,h2,h3,h4⟩:=h.e v (by omega);exact ⟨j,by omega,h2,h3,by rw [zQQ e,qKG,h4]⟩
 | false =>
  rw [hu] at hc;rw [show (decide (0≤nu (ed i).u.toNat) && decide (0≤nu (ed i).v.toNat))=false from hu];simp only [vYJ,Nat.add_zero] at hc ⊢;refine ⟨by rw [hc]; exact h.s,fun v hv => ?_⟩;obtain ⟨j,h1,h2⟩:=h.e v (by omega);exact ⟨j,by omega,h2⟩
theorem prU_EI (nu:Nat→Int) (ed:Nat→Ed) (ne:Nat):EI nu ed ne (prU nu ed ne) :=
 qUJ (Q:=fun i t=>EI nu ed i t) (c:=ne) (fun i t _ h=>h.step) ne 0 _ (by omega) ⟨rfl,fun v hv=>absurd hv (Nat.not_lt_zero v)⟩
noncomputable def orq1 (N:Nat) (js:Nat→J) (ms:Nat→Ms) (n m:Nat) (np:Nat) (pn:Nat→Nat) (pv:Nat→Nat→Int) (ne:Nat) (ed:Nat→Ed) (a b best:Int):OrS:=orS [(42,o_lk [.a [.lf n (fJ js),.lf m (fM ms)],.a [.lf np (fP pn pv),.lf ne (fE ed)]] (decide (np≤1000)) (.v (.b (vmB js ms n m np pn pv ne ed)))),(43,o_hp),(33,o_ds js ms n m),(44,o_lk [.a [.lf np (fP pn pv),.lf ne (fE ed)],.n .i64 (-1),.a [.n .i64 0,.zs,.n .i64 0,.n .i64 0,.zs,.n .i64 0,.zs,.zs]] (Go.Rx.gP (np≤1000∧(∀ j,j < np→pn j≤50)∧ne≤8192∧∀ i,i < ne→OkE (ed i))) (.v (.t [.a [.lf np (fP pn pv),.lf ne (fE ed)],.b false]))),(13,o_u js ms n m)] []
noncomputable def hq1 (N:Nat) (js:Nat→J) (ms:Nat→Ms) (n m:Nat) (np:Nat) (pn:Nat→Nat) (pv:Nat→Nat→Int) (ne:Nat) (ed:Nat→Ed) (a b best:Int) (i:Int) (nu:Nat→Int) (r:Nat) (ol:Nat→Int) (q:Nat) (f:Nat→List PV):St:=⟨[(4,.v (.n .i64 best)),(5,.p 5 0),(6,.p 6 0),(10,.p 10 0),(11,.p 11 0),(12,.v (.lf (pn (a).toNat) (fun w=>[.n .i64 (pv (a).toNat w)]))),(13,.v (.lf (pn (b).toNat) (fun w=>[.n .i64 (pv (b).toNat w)]))),(14,.o 58),(60,.v (.lf np (fP pn pv))),(61,.v (.n .i64 (np:Int))),(62,.v (.n .i64 i))],[(5,.blk [.v (.lf n (fJ js)),.v (.lf m (fM ms))]),(6,.blk [.v (.lf np (fP pn pv)),.v (.lf ne (fE ed))]),(10,.blk [.o 89,.nl]),(11,.blk [.o 84]),(58,.reg 3 1 (.fo (np:Int).toNat (fun v=>[.n .i64 (nu v)]))),(84,.reg 3 1 (.fo r (fun v=>[.n .i64 (ol v)]))),(89,.reg 30 1 (.fo q f))]⟩
set_option maxRecDepth 100000 in
theorem rdq1 (G:St→Option (Ret × Mem)) (K:Cont) (N:Nat) (js:Nat→J) (ms:Nat→Ms) (n m:Nat) (np:Nat) (pn:Nat→Nat) (pv:Nat→Nat→Int) (ne:Nat) (ed:Nat→Ed) (a b best:Int) (i:Int) (nu:Nat→Int) (r:Nat) (ol:Nat→Int) (q:Nat) (f:Nat→List PV):stpT Tf 17 (orq1 N js ms n m np pn pv ne ed a b best) N [] [0,1,0,1,1,1,1,1,1,1] K G (hq1 N js ms n m np pn pv ne ed a b best i nu r ol q f) =
 (bif (decide (i < (np:Int))) then (bif (inB i np) then (bif (inB i (np:Int).toNat) then (bif (gF1 (cu js ms n m) (eu js ms n m) ((pv (a).toNat),(pv (b).toNat),(pv (i).toNat),(pn (a).toNat),(pn (b).toNat),(pn (i).toNat),best)) then (bif (uB js ms (pv (a).toNat) (pv (b).toNat) (pv (i).toNat) n m (pn (a).toNat) (pn (b).toNat) (pn (i).toNat) best) then (bif (inB i (np:Int).toNat) then (bif (decide (r + 1≤1000000)) then (bif (decide (q + 1≤1000000)) then (G (hq1 N js ms n m np pn pv ne ed a b best (vYV .i64 (i + 1)) (fun v=>(bif (Nat.beq v (i).toNat) then (r:Int) else (bif (Nat.beq v (i).toNat) then (-1) else (nu v)))) (r + 1) (fun v=>(bif (Nat.beq v r) then i else (ol v))) (q + 1) (fun v=>qH (Nat.beq v q) [.lf (pn (i).toNat) (fun w=>[.n .i64 (pv (i).toNat w)])] (f v))))
 else none)
 else none)
 else none)
 else (G (hq1 N js ms n m np pn pv ne ed a b best (vYV .i64 (i + 1)) (fun v=>(bif (Nat.beq v (i).toNat) then (-1) else (nu v))) r (fun v=>(ol v)) q f)))
 else none)
 else none)
 else none)
 else (K (.exit 0) ⟨[(6,.p 6 0),(10,.p 10 0),(11,.p 11 0),(14,.o 58)],[(6,.blk [.v (.lf np (fP pn pv)),.v (.lf ne (fE ed))]),(10,.blk [.o 89,.nl]),(11,.blk [.o 84]),(58,.reg 3 1 (.fo (np:Int).toNat (fun v=>[.n .i64 (nu v)]))),(84,.reg 3 1 (.fo r (fun v=>[.n .i64 (ol v)]))),(89,.reg 30 1 (.fo q f))]⟩)):=by kernel_rfl
noncomputable def dcq1 (js:Nat→J) (ms:Nat→Ms) (n m:Nat) (np:Nat) (pn:Nat→Nat) (pv:Nat→Nat→Int) (ne:Nat) (ed:Nat→Ed) (a b best:Int):(Int × (Nat→Int) × Nat × (Nat→Int) × Nat × (Nat→List PV))→(Int × (Nat→Int) × Nat × (Nat→Int) × Nat × (Nat→List PV)) ⊕ (Nat × Int × (Nat→Int) × Nat × (Nat→Int) × Nat × (Nat→List PV)):=fun t=>match t with | (i,nu,r,ol,q,f)=>(bif (decide (i < (np:Int))) then (bif (inB i np) then (bif (inB i (np:Int).toNat) then (bif (gF1 (cu js ms n m) (eu js ms n m) ((pv (a).toNat),(pv (b).toNat),(pv (i).toNat),(pn (a).toNat),(pn (b).toNat),(pn (i).toNat),best)) then (bif (uB js ms (pv (a).toNat) (pv (b).toNat) (pv (i).toNat) n m (pn (a).toNat) (pn (b).toNat) (pn (i).toNat) best) then (bif (decide (r + 1≤1000000)) then (bif (decide (q + 1≤1000000)) then (.inl ((vYV .i64 (i + 1)),(fun v=>(bif (Nat.beq v (i).toNat) then (r:Int) else (bif (Nat.beq v (i).toNat) then (-1) else (nu v)))),(r + 1),(fun v=>(bif (Nat.beq v r) then i else (ol v))),(q + 1),(fun v=>qH (Nat.beq v q) [.lf (pn (i).toNat) (fun w=>[.n .i64 (pv (i).toNat w)])] (f v)))) else (.inr (1,(i,nu,r,ol,q,f)))) else (.inr (1,(i,nu,r,ol,q,f)))) else (.inl ((vYV .i64 (i + 1)),(fun v=>(bif (Nat.beq v (i).toNat) then (-1) else (nu v))),r,(fun v=>(ol v)),q,f))) else (.inr (1,(i,nu,r,ol,q,f)))) else (.inr (1,(i,nu,r,ol,q,f)))) else (.inr (1,(i,nu,r,ol,q,f)))) else (.inr (0,(i,nu,r,ol,q,f))))
noncomputable def kxq1 (N:Nat) (js:Nat→J) (ms:Nat→Ms) (n m:Nat) (np:Nat) (pn:Nat→Nat) (pv:Nat→Nat→Int) (ne:Nat) (ed:Nat→Ed) (a b best:Int) (K:Cont) (w9:Nat × Int × (Nat→Int) × Nat × (Nat→Int) × Nat × (Nat→List PV)):Option (Ret × Mem):=bif Nat.beq w9.1 0 then (K (.exit 0) ⟨[(6,.p 6 0),(10,.p 10 0),(11,.p 11 0),(14,.o 58)],[(6,.blk [.v (.lf np (fP pn pv)),.v (.lf ne (fE ed))]),(10,.blk [.o 89,.nl]),(11,.blk [.o 84]),(58,.reg 3 1 (.fo (np:Int).toNat (fun v=>[.n .i64 (w9.2.2.1 v)]))),(84,.reg 3 1 (.fo w9.2.2.2.1 (fun v=>[.n .i64 (w9.2.2.2.2.1 v)]))),(89,.reg 30 1 (.fo w9.2.2.2.2.2.1 w9.2.2.2.2.2.2))]⟩) else none
theorem wlq1 (K:Cont) (N:Nat) (js:Nat→J) (ms:Nat→Ms) (n m:Nat) (np:Nat) (pn:Nat→Nat) (pv:Nat→Nat→Int) (ne:Nat) (ed:Nat→Ed) (a b best:Int):∀ n9 (t:(Int × (Nat→Int) × Nat × (Nat→Int) × Nat × (Nat→List PV))),LFT Tf 17 (orq1 N js ms n m np pn pv ne ed a b best) N [] [0,1,0,1,1,1,1,1,1,1] K n9 (hq1 N js ms n m np pn pv ne ed a b best t.1 t.2.1 t.2.2.1 t.2.2.2.1 t.2.2.2.2.1 t.2.2.2.2.2)=(zU (dcq1 js ms n m np pn pv ne ed a b best) n9 t).bind (kxq1 N js ms n m np pn pv ne ed a b best K):=fun n9 t=>by
 refine qJI (L:=LFT Tf 17 (orq1 N js ms n m np pn pv ne ed a b best) N [] [0,1,0,1,1,1,1,1,1,1] K) (stp:=stpT Tf 17 (orq1 N js ms n m np pn pv ne ed a b best) N [] [0,1,0,1,1,1,1,1,1,1] K) (fun _ _=>rfl) (fun _=>rfl) (fun t=>hq1 N js ms n m np pn pv ne ed a b best t.1 t.2.1 t.2.2.1 t.2.2.2.1 t.2.2.2.2.1 t.2.2.2.2.2) (fun _=>True) (dcq1 js ms n m np pn pv ne ed a b best) (kxq1 N js ms n m np pn pv ne ed a b best K) (fun G t _ => ?_) (fun _ _ _ _=>trivial) n9 t trivial;obtain ⟨i,nu,r,ol,q,f⟩:=t;refine (rdq1 G K N js ms n m np pn pv ne ed a b best i nu r ol q f).trans ?_;dsimp only [dcq1];cases (decide (i < (np:Int)))
 ·rfl
 ·cases (inB i np)
  ·rfl
  ·cases (inB i (np:Int).toNat)
   ·rfl
   ·cases (gF1 (cu js ms n m) (eu js ms n m) ((pv (a).toNat),(pv (b).toNat),(pv (i).toNat),(pn (a).toNat),(pn (b).toNat),(pn (i).toNat),best))
    ·rfl
    ·cases (uB js ms (pv (a).toNat) (pv (b).toNat) (pv (i).toNat) n m (pn (a).toNat) (pn (b).toNat) (pn (i).toNat) best)
     ·rfl
     ·cases (decide (r + 1≤1000000))
      ·rfl
      ·cases (decide (q + 1≤1000000))
       ·rfl
       ·rfl
noncomputable def zGV (N:Nat) (js:Nat→J) (ms:Nat→Ms) (n m:Nat) (np:Nat) (pn:Nat→Nat) (pv:Nat→Nat→Int) (ne:Nat) (ed:Nat→Ed) (a b best:Int) (t:(Int × (Nat→Int) × Nat × (Nat→Int) × Nat × (Nat→List PV))):Bool:=(zU (dcq1 js ms n m np pn pv ne ed a b best) N t).isSome
noncomputable def jH (N:Nat) (js:Nat→J) (ms:Nat→Ms) (n m:Nat) (np:Nat) (pn:Nat→Nat) (pv:Nat→Nat→Int) (ne:Nat) (ed:Nat→Ed) (a b best:Int) (t:(Int × (Nat→Int) × Nat × (Nat→Int) × Nat × (Nat→List PV))):Nat × Int × (Nat→Int) × Nat × (Nat→Int) × Nat × (Nat→List PV):=(zU (dcq1 js ms n m np pn pv ne ed a b best) N t).getD (99,t)
theorem lwq1 (K:Cont) (N:Nat) (js:Nat→J) (ms:Nat→Ms) (n m:Nat) (np:Nat) (pn:Nat→Nat) (pv:Nat→Nat→Int) (ne:Nat) (ed:Nat→Ed) (a b best:Int) (t:(Int × (Nat→Int) × Nat × (Nat→Int) × Nat × (Nat→List PV))) (hg:zGV N js ms n m np pn pv ne ed a b best t=true):LFT Tf 17 (orq1 N js ms n m np pn pv ne ed a b best) N [] [0,1,0,1,1,1,1,1,1,1] K N (hq1 N js ms n m np pn pv ne ed a b best t.1 t.2.1 t.2.2.1 t.2.2.2.1 t.2.2.2.2.1 t.2.2.2.2.2)=kxq1 N js ms n m np pn pv ne ed a b best K (jH N js ms n m np pn pv ne ed a b best t):=by
 refine (wlq1 K N js ms n m np pn pv ne ed a b best N t).trans ?_;unfold zGV at hg;unfold jH;cases h:zU (dcq1 js ms n m np pn pv ne ed a b best) N t with
 | none=>rw [h] at hg; cases hg
 | some y=>rfl
noncomputable def hq2 (N:Nat) (js:Nat→J) (ms:Nat→Ms) (n m:Nat) (np:Nat) (pn:Nat→Nat) (pv:Nat→Nat→Int) (ne:Nat) (ed:Nat→Ed) (a b best:Int) (i:Int) (nu:Nat→Int) (r:Nat) (ol:Nat→Int) (q:Nat) (f:Nat→List PV) (s:Nat) (fe:Nat→List PV):St:=⟨[(10,.p 10 0),(11,.p 11 0),(14,.o 58),(93,.v (.lf ne (fE ed))),(94,.v (.n .i64 (ne:Int))),(95,.v (.n .i64 i))],[(10,.blk [.o 89,.o 123]),(11,.blk [.o 84]),(58,.reg 3 1 (.fo (np:Int).toNat (fun v=>[.n .i64 (nu v)]))),(84,.reg 3 1 (.fo r (fun v=>[.n .i64 (ol v)]))),(89,.reg 30 1 (.fo q f)),(123,.reg 61 12 (.fo s fe))]⟩
set_option maxRecDepth 100000 in
theorem rdq2 (G:St→Option (Ret × Mem)) (K:Cont) (N:Nat) (js:Nat→J) (ms:Nat→Ms) (n m:Nat) (np:Nat) (pn:Nat→Nat) (pv:Nat→Nat→Int) (ne:Nat) (ed:Nat→Ed) (a b best:Int) (i:Int) (nu:Nat→Int) (r:Nat) (ol:Nat→Int) (q:Nat) (f:Nat→List PV) (s:Nat) (fe:Nat→List PV):stpT Tf 17 (orq1 N js ms n m np pn pv ne ed a b best) N [] [0,1,0,1,1,1,1,1,1,1,1] K G (hq2 N js ms n m np pn pv ne ed a b best i nu r ol q f s fe) =
 (bif (decide (i < (ne:Int))) then (bif (inB i ne) then (bif (inB (ed (i).toNat).u (np:Int).toNat) then (bif (inB (ed (i).toNat).v (np:Int).toNat) then (bif (decide (0≤(nu (ed (i).toNat).u.toNat))) then (bif (decide (0≤(nu (ed (i).toNat).v.toNat))) then (bif (decide (s + 1≤1000000)) then (G (hq2 N js ms n m np pn pv ne ed a b best (vYV .i64 (i + 1)) (fun v=>(nu v)) r (fun v=>(ol v)) q f (s + 1) (fun v=>qH (Nat.beq v s) [.n .i64 (nu (ed (i).toNat).u.toNat),.n .i64 (nu (ed (i).toNat).v.toNat),.n .i64 (ed (i).toNat).c,.n .i64 (ed (i).toNat).s,.n .i64 (ed (i).toNat).kd,.lf (ed (i).toNat).n1 (ed (i).toNat).f1,.n .i64 (ed (i).toNat).dp,.n .i64 (ed (i).toNat).ix,.lf (ed (i).toNat).n2 (ed (i).toNat).f2,.n .i64 (ed (i).toNat).pr,.lf (ed (i).toNat).n3 (ed (i).toNat).f3,.lf (ed (i).toNat).n4 (ed (i).toNat).f4] (fe v))))
 else none)
 else (G (hq2 N js ms n m np pn pv ne ed a b best (vYV .i64 (i + 1)) (fun v=>(nu v)) r (fun v=>(ol v)) q f s fe)))
 else (G (hq2 N js ms n m np pn pv ne ed a b best (vYV .i64 (i + 1)) (fun v=>(nu v)) r (fun v=>(ol v)) q f s fe)))
 else none)
 else none)
 else none)
 else (K (.exit 2) ⟨[(10,.p 10 0),(11,.p 11 0)],[(10,.blk [.o 89,.o 123]),(11,.blk [.o 84]),(84,.reg 3 1 (.fo r (fun v=>[.n .i64 (ol v)]))),(89,.reg 30 1 (.fo q f)),(123,.reg 61 12 (.fo s fe))]⟩)):=by kernel_rfl
noncomputable def dcq2 (js:Nat→J) (ms:Nat→Ms) (n m:Nat) (np:Nat) (pn:Nat→Nat) (pv:Nat→Nat→Int) (ne:Nat) (ed:Nat→Ed) (a b best:Int):(Int × (Nat→Int) × Nat × (Nat→Int) × Nat × (Nat→List PV) × Nat × (Nat→List PV))→(Int × (Nat→Int) × Nat × (Nat→Int) × Nat × (Nat→List PV) × Nat × (Nat→List PV)) ⊕ (Nat × Int × (Nat→Int) × Nat × (Nat→Int) × Nat × (Nat→List PV) × Nat × (Nat→List PV)):=fun t=>match t with | (i,nu,r,ol,q,f,s,fe)=>(bif (decide (i < (ne:Int))) then (bif (inB i ne) then (bif (inB (ed (i).toNat).u (np:Int).toNat) then (bif (inB (ed (i).toNat).v (np:Int).toNat) then (bif (decide (0≤(nu (ed (i).toNat).u.toNat))) then (bif (decide (0≤(nu (ed (i).toNat).v.toNat))) then (bif (decide (s + 1≤1000000)) then (.inl ((vYV .i64 (i + 1)),(fun v=>(nu v)),r,(fun v=>(ol v)),q,f,(s + 1),(fun v=>qH (Nat.beq v s) [.n .i64 (nu (ed (i).toNat).u.toNat),.n .i64 (nu (ed (i).toNat).v.toNat),.n .i64 (ed (i).toNat).c,.n .i64 (ed (i).toNat).s,.n .i64 (ed (i).toNat).kd,.lf (ed (i).toNat).n1 (ed (i).toNat).f1,.n .i64 (ed (i).toNat).dp,.n .i64 (ed (i).toNat).ix,.lf (ed (i).toNat).n2 (ed (i).toNat).f2,.n .i64 (ed (i).toNat).pr,.lf (ed (i).toNat).n3 (ed (i).toNat).f3,.lf (ed (i).toNat).n4 (ed (i).toNat).f4] (fe v)))) else (.inr (1,(i,nu,r,ol,q,f,s,fe)))) else (.inl ((vYV .i64 (i + 1)),(fun v=>(nu v)),r,(fun v=>(ol v)),q,f,s,fe))) else (.inl ((vYV .i64 (i + 1)),(fun v=>(nu v)),r,(fun v=>(ol v)),q,f,s,fe))) else (.inr (1,(i,nu,r,ol,q,f,s,fe)))) else (.inr (1,(i,nu,r,ol,q,f,s,fe)))) else (.inr (1,(i,nu,r,ol,q,f,s,fe)))) else (.inr (0,(i,nu,r,ol,q,f,s,fe))))
noncomputable def kxq2 (N:Nat) (js:Nat→J) (ms:Nat→Ms) (n m:Nat) (np:Nat) (pn:Nat→Nat) (pv:Nat→Nat→Int) (ne:Nat) (ed:Nat→Ed) (a b best:Int) (K:Cont) (w9:Nat × Int × (Nat→Int) × Nat × (Nat→Int) × Nat × (Nat→List PV) × Nat × (Nat→List PV)):Option (Ret × Mem):=bif Nat.beq w9.1 0 then (K (.exit 2) ⟨[(10,.p 10 0),(11,.p 11 0)],[(10,.blk [.o 89,.o 123]),(11,.blk [.o 84]),(84,.reg 3 1 (.fo w9.2.2.2.1 (fun v=>[.n .i64 (w9.2.2.2.2.1 v)]))),(89,.reg 30 1 (.fo w9.2.2.2.2.2.1 w9.2.2.2.2.2.2.1)),(123,.reg 61 12 (.fo w9.2.2.2.2.2.2.2.1 w9.2.2.2.2.2.2.2.2))]⟩) else none
theorem wlq2 (K:Cont) (N:Nat) (js:Nat→J) (ms:Nat→Ms) (n m:Nat) (np:Nat) (pn:Nat→Nat) (pv:Nat→Nat→Int) (ne:Nat) (ed:Nat→Ed) (a b best:Int):∀ n9 (t:(Int × (Nat→Int) × Nat × (Nat→Int) × Nat × (Nat→List PV) × Nat × (Nat→List PV))),LFT Tf 17 (orq1 N js ms n m np pn pv ne ed a b best) N [] [0,1,0,1,1,1,1,1,1,1,1] K n9 (hq2 N js ms n m np pn pv ne ed a b best t.1 t.2.1 t.2.2.1 t.2.2.2.1 t.2.2.2.2.1 t.2.2.2.2.2.1 t.2.2.2.2.2.2.1 t.2.2.2.2.2.2.2)=(zU (dcq2 js ms n m np pn pv ne ed a b best) n9 t).bind (kxq2 N js ms n m np pn pv ne ed a b best K):=fun n9 t=>by
 refine qJI (L:=LFT Tf 17 (orq1 N js ms n m np pn pv ne ed a b best) N [] [0,1,0,1,1,1,1,1,1,1,1] K) (stp:=stpT Tf 17 (orq1 N js ms n m np pn pv ne ed a b best) N [] [0,1,0,1,1,1,1,1,1,1,1] K) (fun _ _=>rfl) (fun _=>rfl) (fun t=>hq2 N js ms n m np pn pv ne ed a b best t.1 t.2.1 t.2.2.1 t.2.2.2.1 t.2.2.2.2.1 t.2.2.2.2.2.1 t.2.2.2.2.2.2.1 t.2.2.2.2.2.2.2) (fun _=>True) (dcq2 js ms n m np pn pv ne ed a b best) (kxq2 N js ms n m np pn pv ne ed a b best K) (fun G t _ => ?_) (fun _ _ _ _=>trivial) n9 t trivial;obtain ⟨i,nu,r,ol,q,f,s,fe⟩:=t;refine (rdq2 G K N js ms n m np pn pv ne ed a b best i nu r ol q f s fe).trans ?_;dsimp only [dcq2];cases (decide (i < (ne:Int)))
 ·rfl
 ·cases (inB i ne)
  ·rfl
  ·cases (inB (ed (i).toNat).u (np:Int).toNat)
   ·rfl
   ·cases (inB (ed (i).toNat).v (np:Int).toNat)
    ·rfl
    ·cases (decide (0≤(nu (ed (i).toNat).u.toNat)))
     ·rfl
     ·cases (decide (0≤(nu (ed (i).toNat).v.toNat)))
      ·rfl
      ·cases (decide (s + 1≤1000000))
       ·rfl
       ·rfl
noncomputable def zGW (N:Nat) (js:Nat→J) (ms:Nat→Ms) (n m:Nat) (np:Nat) (pn:Nat→Nat) (pv:Nat→Nat→Int) (ne:Nat) (ed:Nat→Ed) (a b best:Int) (t:(Int × (Nat→Int) × Nat × (Nat→Int) × Nat × (Nat→List PV) × Nat × (Nat→List PV))):Bool:=(zU (dcq2 js ms n m np pn pv ne ed a b best) N t).isSome
noncomputable def zQH (N:Nat) (js:Nat→J) (ms:Nat→Ms) (n m:Nat) (np:Nat) (pn:Nat→Nat) (pv:Nat→Nat→Int) (ne:Nat) (ed:Nat→Ed) (a b best:Int) (t:(Int × (Nat→Int) × Nat × (Nat→Int) × Nat × (Nat→List PV) × Nat × (Nat→List PV))):Nat × Int × (Nat→Int) × Nat × (Nat→Int) × Nat × (Nat→List PV) × Nat × (Nat→List PV):=(zU (dcq2 js ms n m np pn pv ne ed a b best) N t).getD (99,t)
theorem lwq2 (K:Cont) (N:Nat) (js:Nat→J) (ms:Nat→Ms) (n m:Nat) (np:Nat) (pn:Nat→Nat) (pv:Nat→Nat→Int) (ne:Nat) (ed:Nat→Ed) (a b best:Int) (t:(Int × (Nat→Int) × Nat × (Nat→Int) × Nat × (Nat→List PV) × Nat × (Nat→List PV))) (hg:zGW N js ms n m np pn pv ne ed a b best t=true):LFT Tf 17 (orq1 N js ms n m np pn pv ne ed a b best) N [] [0,1,0,1,1,1,1,1,1,1,1] K N (hq2 N js ms n m np pn pv ne ed a b best t.1 t.2.1 t.2.2.1 t.2.2.2.1 t.2.2.2.2.1 t.2.2.2.2.2.1 t.2.2.2.2.2.2.1 t.2.2.2.2.2.2.2)=kxq2 N js ms n m np pn pv ne ed a b best K (zQH N js ms n m np pn pv ne ed a b best t):=by
 refine (wlq2 K N js ms n m np pn pv ne ed a b best N t).trans ?_;unfold zGW at hg;unfold zQH;cases h:zU (dcq2 js ms n m np pn pv ne ed a b best) N t with
 | none=>rw [h] at hg; cases hg
 | some y=>rfl
theorem yJU {np:Nat} {js:Nat→J} {ms:Nat→Ms} {n m:Nat} {pn:Nat→Nat} {pv:Nat→Nat→Int} {ne:Nat} {ed:Nat→Ed} {a b best:Int} (hp:np≤1000):∀ (d i N:Nat) (t:(Nat→Int) × Nat × (Nat→Int) × Nat × (Nat→List PV)),i + d=np→d < N→PI (usF js ms n m pn pv a b best) pn pv i t→zU (dcq1 js ms n m np pn pv ne ed a b best) N ((i:Int),t)=some (0,(np:Int),qJA (stP (usF js ms n m pn pv a b best) pn pv) d i t)
 | _,_,0,_,_,h,_=>by omega
 | 0,i,N + 1,t,hd,_,hI=>by
  obtain rfl:i=np:=by omega
  obtain ⟨nu,r,ol,q,f⟩:=t;rw [zU];dsimp only [dcq1];rw [vYK (show ¬ (i:Int) < (i:Int) by omega)];rfl
 | d + 1,i,N + 1,t,hd,hN,hI=>by
  have hr:=hI.r;have hq:=hI.q;have hc:=qWG (usF js ms n m pn pv a b best) i;have hs:=hI.step;obtain ⟨nu,r,ol,q,f⟩:=t;dsimp only at hr hq;rw [zU,qJA];dsimp only [dcq1];simp only [vYU (show (i:Int) < (np:Int) by omega),zX (show i < np by omega),toN,jW (C:=cu js ms n m) (t:=(pv a.toNat,pv b.toNat,pv i,pn a.toNat,pn b.toNat,pn i,best)) trivial,vYU (show r + 1≤1000000 by omega),vYU (show q + 1≤1000000 by omega),kZ (show i < 1000000 by omega),vYY];have hu:uB js ms (pv a.toNat) (pv b.toNat) (pv i) n m (pn a.toNat) (pn b.toNat) (pn i) best=usF js ms n m pn pv a b best i:=rfl;rw [hu]
  revert hs
  unfold stP;cases usF js ms n m pn pv a b best i with
  | true=>exact fun hs=>yJU hp d (i + 1) N _ (by omega) (by omega) hs
  | false=>exact fun hs=>yJU hp d (i + 1) N _ (by omega) (by omega) hs
theorem yYQ {np:Nat} {js:Nat→J} {ms:Nat→Ms} {n m:Nat} {pn:Nat→Nat} {pv:Nat→Nat→Int} {ne:Nat} {ed:Nat→Ed} {a b best:Int} {nu:Nat→Int} {r:Nat} {ol:Nat→Int} {q:Nat} {f:Nat→List PV} (he:ne≤8192) (hrg:∀ i,i < ne→0≤(ed i).u∧(ed i).u < (np:Int)∧0≤(ed i).v∧(ed i).v < (np:Int)):∀ (d i N:Nat) (t:Nat × (Nat→List PV)),i + d=ne→d < N→EI nu ed i t→zU (dcq2 js ms n m np pn pv ne ed a b best) N ((i:Int),nu,r,ol,q,f,t)=some (0,(ne:Int),nu,r,ol,q,f,qJA (egE nu ed) d i t)
 | _,_,0,_,_,h,_=>by omega
 | 0,i,N + 1,t,hd,_,hI=>by
  obtain rfl:i=ne:=by omega
  obtain ⟨s,fe⟩:=t;rw [zU];dsimp only [dcq2];rw [vYK (show ¬ (i:Int) < (i:Int) by omega)];rfl
 | d + 1,i,N + 1,t,hd,hN,hI=>by
  have hr:=hI.s;have hc:=qWG (kpE nu ed) i;have hs:=hI.step;obtain ⟨r1,r2,r3,r4⟩:=hrg i (by omega);obtain ⟨s,fe⟩:=t;dsimp only at hr;rw [zU,qJA];dsimp only [dcq2];simp only [vYU (show (i:Int) < (ne:Int) by omega),zX (show i < ne by omega),toN,qUL r1 r2,qUL r3 r4,vYU (show s + 1≤1000000 by omega),kZ (show i < 1000000 by omega),vYY]
  revert hs
  unfold egE;cases decide (0≤nu (ed i).u.toNat) with
  | false=>exact fun hs=>yYQ he hrg d (i + 1) N _ (by omega) (by omega) hs
  | true =>
   cases decide (0≤nu (ed i).v.toNat) with
   | false=>exact fun hs=>yYQ he hrg d (i + 1) N _ (by omega) (by omega) hs
   | true=>exact fun hs=>yYQ he hrg d (i + 1) N _ (by omega) (by omega) hs
def prZ:PV:=.t [.a [.l [],.l []],.l []]
theorem isP_t {g:Gr} {v:Int} (h:0≤v∧v < (g.np:Int)):isP g v=true:=by unfold isP; rw [vYU h.1,vYU h.2]; rfl
theorem isP_f {g:Gr} {v:Int} (h:¬ (0≤v∧v < (g.np:Int))):isP g v=false:=by
 unfold isP;by_cases h1:0≤v
 ·rw [vYU h1,vYK (fun h2=>h ⟨h1,h2⟩)]; rfl
 ·rw [vYK h1]; rfl
theorem vm_rg {js:Nat→J} {ms:Nat→Ms} {n m np:Nat} {pn:Nat→Nat} {pv:Nat→Nat→Int} {ne:Nat} {ed:Nat→Ed} (h:vmB js ms n m np pn pv ne ed=true):∀ i,i < ne→0≤(ed i).u∧(ed i).u < (np:Int)∧0≤(ed i).v∧(ed i).v < (np:Int):=fun i hi=>by
 have hv:=(vm_edge h i hi).1;unfold veB at hv;simp only [vQJ,decide_eq_true_eq] at hv;exact ⟨hv.1,hv.2.1,hv.2.2.1,hv.2.2.2.1⟩
noncomputable def yZW (N:Nat) (js:Nat→J) (ms:Nat→Ms) (n m:Nat) (np:Nat) (pn:Nat→Nat) (pv:Nat→Nat→Int) (ne:Nat) (ed:Nat→Ed) (a b best:Int):List (List Nat × yW):=[([0,1,0,1,1,1,1,1,1,1],sumF (fun t:(Int × (Nat→Int) × Nat × (Nat→Int) × Nat × (Nat→List PV))=>(hq1 N js ms n m np pn pv ne ed a b best t.1 t.2.1 t.2.2.1 t.2.2.2.1 t.2.2.2.2.1 t.2.2.2.2.2)) (fun σ=>(slI σ 62,rgI σ 58 0,rgN σ 84,rgI σ 84 0,rgN σ 89,rgF σ 89)) (fun t K=>(bif zGV N js ms n m np pn pv ne ed a b best t then kxq1 N js ms n m np pn pv ne ed a b best K (jH N js ms n m np pn pv ne ed a b best t) else none))),([0,1,0,1,1,1,1,1,1,1,1],sumF (fun t:(Int × (Nat→Int) × Nat × (Nat→Int) × Nat × (Nat→List PV) × Nat × (Nat→List PV))=>(hq2 N js ms n m np pn pv ne ed a b best t.1 t.2.1 t.2.2.1 t.2.2.2.1 t.2.2.2.2.1 t.2.2.2.2.2.1 t.2.2.2.2.2.2.1 t.2.2.2.2.2.2.2)) (fun σ=>(slI σ 95,rgI σ 58 0,rgN σ 84,rgI σ 84 0,rgN σ 89,rgF σ 89,rgN σ 123,rgF σ 123)) (fun t K=>(bif zGW N js ms n m np pn pv ne ed a b best t then kxq2 N js ms n m np pn pv ne ed a b best K (zQH N js ms n m np pn pv ne ed a b best t) else none)))]
set_option maxRecDepth 100000 in
theorem pxpr0 (N:Nat) (js:Nat→J) (ms:Nat→Ms) (n m:Nat) (np:Nat) (pn:Nat→Nat) (pv:Nat→Nat→Int) (ne:Nat) (ed:Nat→Ed) (a b best:Int):qQU Tf (orq1 N js ms n m np pn pv ne ed a b best) (qJ (yZW N js ms n m np pn pv ne ed a b best)) N 17 [.a [.lf n (fJ js),.lf m (fM ms)],.a [.lf np (fP pn pv),.lf ne (fE ed)],.n .i64 a,.n .i64 b,.n .i64 best] =
 (bif (g1 [.a [.lf n (fJ js),.lf m (fM ms)],.a [.lf np (fP pn pv),.lf ne (fE ed)]] && decide (np≤1000)) then (bif (vmB js ms n m np pn pv ne ed) then (bif (gF1 chp ehp ((⟨np,fP pn pv,ne,ed⟩:Gr),a,b)) then (bif (wfB (⟨np,fP pn pv,ne,ed⟩:Gr) && (isP (⟨np,fP pn pv,ne,ed⟩:Gr) a && isP (⟨np,fP pn pv,ne,ed⟩:Gr) b)) then (bif (inB a np) then (bif (inB b np) then (bif (gF1 (cds js ms n m) (eds js ms n m) (pv (a).toNat,pv (b).toNat,pn (a).toNat,pn (b).toNat)) then (bif (decide (best < (dsQ js ms (pv (a).toNat) (pv (b).toNat) n m (pn (a).toNat) (pn (b).toNat)))) then some (.v (.t [.a [.l [],.l []],.l []]),[])
 else (bif (g1 [.a [.lf np (fP pn pv),.lf ne (fE ed)],.n .i64 (-1),.a [.n .i64 0,.zs,.n .i64 0,.n .i64 0,.zs,.n .i64 0,.zs,.zs]] && Go.Rx.gP (np≤1000∧(∀ j,j < np→pn j≤50)∧ne≤8192∧∀ i,i < ne→OkE (ed i))) then (bif (decide (0≤(np:Int))) then (bif (decide ((np:Int)≤(np:Int))) then (bif (decide ((np:Int)≤1000000)) then (bif (gSt (hq1 N js ms n m np pn pv ne ed a b best 0 z0 0 z0 0 zP) (hq1 N js ms n m np pn pv ne ed a b best 0 z0 0 z0 0 zP)) then (bif (zGV N js ms n m np pn pv ne ed a b best (0,z0,0,z0,0,zP)) then (bif (Nat.beq (jH N js ms n m np pn pv ne ed a b best (0,z0,0,z0,0,zP)).1 0) then (bif (gSt (hq2 N js ms n m np pn pv ne ed a b best 0 (fun v=>((jH N js ms n m np pn pv ne ed a b best (0,z0,0,z0,0,zP)).2.2.1 v)) (jH N js ms n m np pn pv ne ed a b best (0,z0,0,z0,0,zP)).2.2.2.1 (fun v=>((jH N js ms n m np pn pv ne ed a b best (0,z0,0,z0,0,zP)).2.2.2.2.1 v)) (jH N js ms n m np pn pv ne ed a b best (0,z0,0,z0,0,zP)).2.2.2.2.2.1 (jH N js ms n m np pn pv ne ed a b best (0,z0,0,z0,0,zP)).2.2.2.2.2.2 0 zE) (hq2 N js ms n m np pn pv ne ed a b best 0 (fun v=>((jH N js ms n m np pn pv ne ed a b best (0,z0,0,z0,0,zP)).2.2.1 v)) (jH N js ms n m np pn pv ne ed a b best (0,z0,0,z0,0,zP)).2.2.2.1 (fun v=>((jH N js ms n m np pn pv ne ed a b best (0,z0,0,z0,0,zP)).2.2.2.2.1 v)) (jH N js ms n m np pn pv ne ed a b best (0,z0,0,z0,0,zP)).2.2.2.2.2.1 (jH N js ms n m np pn pv ne ed a b best (0,z0,0,z0,0,zP)).2.2.2.2.2.2 0 zE)) then (bif (zGW N js ms n m np pn pv ne ed a b best (0,(fun v=>((jH N js ms n m np pn pv ne ed a b best (0,z0,0,z0,0,zP)).2.2.1 v)),(jH N js ms n m np pn pv ne ed a b best (0,z0,0,z0,0,zP)).2.2.2.1,(fun v=>((jH N js ms n m np pn pv ne ed a b best (0,z0,0,z0,0,zP)).2.2.2.2.1 v)),(jH N js ms n m np pn pv ne ed a b best (0,z0,0,z0,0,zP)).2.2.2.2.2.1,(jH N js ms n m np pn pv ne ed a b best (0,z0,0,z0,0,zP)).2.2.2.2.2.2,0,zE)) then (bif (Nat.beq (zQH N js ms n m np pn pv ne ed a b best (0,(fun v=>((jH N js ms n m np pn pv ne ed a b best (0,z0,0,z0,0,zP)).2.2.1 v)),(jH N js ms n m np pn pv ne ed a b best (0,z0,0,z0,0,zP)).2.2.2.1,(fun v=>((jH N js ms n m np pn pv ne ed a b best (0,z0,0,z0,0,zP)).2.2.2.2.1 v)),(jH N js ms n m np pn pv ne ed a b best (0,z0,0,z0,0,zP)).2.2.2.2.2.1,(jH N js ms n m np pn pv ne ed a b best (0,z0,0,z0,0,zP)).2.2.2.2.2.2,0,zE)).1 0) then some (.v (.t [.a [.lf (zQH N js ms n m np pn pv ne ed a b best (0,(fun v=>((jH N js ms n m np pn pv ne ed a b best (0,z0,0,z0,0,zP)).2.2.1 v)),(jH N js ms n m np pn pv ne ed a b best (0,z0,0,z0,0,zP)).2.2.2.1,(fun v=>((jH N js ms n m np pn pv ne ed a b best (0,z0,0,z0,0,zP)).2.2.2.2.1 v)),(jH N js ms n m np pn pv ne ed a b best (0,z0,0,z0,0,zP)).2.2.2.2.2.1,(jH N js ms n m np pn pv ne ed a b best (0,z0,0,z0,0,zP)).2.2.2.2.2.2,0,zE)).2.2.2.2.2.1 (zQH N js ms n m np pn pv ne ed a b best (0,(fun v=>((jH N js ms n m np pn pv ne ed a b best (0,z0,0,z0,0,zP)).2.2.1 v)),(jH N js ms n m np pn pv ne ed a b best (0,z0,0,z0,0,zP)).2.2.2.1,(fun v=>((jH N js ms n m np pn pv ne ed a b best (0,z0,0,z0,0,zP)).2.2.2.2.1 v)),(jH N js ms n m np pn pv ne ed a b best (0,z0,0,z0,0,zP)).2.2.2.2.2.1,(jH N js ms n m np pn pv ne ed a b best (0,z0,0,z0,0,zP)).2.2.2.2.2.2,0,zE)).2.2.2.2.2.2.1,.lf (zQH N js ms n m np pn pv ne ed a b best (0,(fun v=>((jH N js ms n m np pn pv ne ed a b best (0,z0,0,z0,0,zP)).2.2.1 v)),(jH N js ms n m np pn pv ne ed a b best (0,z0,0,z0,0,zP)).2.2.2.1,(fun v=>((jH N js ms n m np pn pv ne ed a b best (0,z0,0,z0,0,zP)).2.2.2.2.1 v)),(jH N js ms n m np pn pv ne ed a b best (0,z0,0,z0,0,zP)).2.2.2.2.2.1,(jH N js ms n m np pn pv ne ed a b best (0,z0,0,z0,0,zP)).2.2.2.2.2.2,0,zE)).2.2.2.2.2.2.2.1 (zQH N js ms n m np pn pv ne ed a b best (0,(fun v=>((jH N js ms n m np pn pv ne ed a b best (0,z0,0,z0,0,zP)).2.2.1 v)),(jH N js ms n m np pn pv ne ed a b best (0,z0,0,z0,0,zP)).2.2.2.1,(fun v=>((jH N js ms n m np pn pv ne ed a b best (0,z0,0,z0,0,zP)).2.2.2.2.1 v)),(jH N js ms n m np pn pv ne ed a b best (0,z0,0,z0,0,zP)).2.2.2.2.2.1,(jH N js ms n m np pn pv ne ed a b best (0,z0,0,z0,0,zP)).2.2.2.2.2.2,0,zE)).2.2.2.2.2.2.2.2],.lf (zQH N js ms n m np pn pv ne ed a b best (0,(fun v=>((jH N js ms n m np pn pv ne ed a b best (0,z0,0,z0,0,zP)).2.2.1 v)),(jH N js ms n m np pn pv ne ed a b best (0,z0,0,z0,0,zP)).2.2.2.1,(fun v=>((jH N js ms n m np pn pv ne ed a b best (0,z0,0,z0,0,zP)).2.2.2.2.1 v)),(jH N js ms n m np pn pv ne ed a b best (0,z0,0,z0,0,zP)).2.2.2.2.2.1,(jH N js ms n m np pn pv ne ed a b best (0,z0,0,z0,0,zP)).2.2.2.2.2.2,0,zE)).2.2.2.1 (fun v=>[.n .i64 ((zQH N js ms n m np pn pv ne ed a b best (0,(fun v=>((jH N js ms n m np pn pv ne ed a b best (0,z0,0,z0,0,zP)).2.2.1 v)),(jH N js ms n m np pn pv ne ed a b best (0,z0,0,z0,0,zP)).2.2.2.1,(fun v=>((jH N js ms n m np pn pv ne ed a b best (0,z0,0,z0,0,zP)).2.2.2.2.1 v)),(jH N js ms n m np pn pv ne ed a b best (0,z0,0,z0,0,zP)).2.2.2.2.2.1,(jH N js ms n m np pn pv ne ed a b best (0,z0,0,z0,0,zP)).2.2.2.2.2.2,0,zE)).2.2.2.2.1 v)])]),[])
 else none)
 else none)
 else none)
 else none)
 else none)
 else none)
 else none)
 else none)
 else none)
 else none))
 else none)
 else none)
 else none)
 else some (.v (.t [.a [.l [],.l []],.l []]),[]))
 else none)
 else some (.v (.t [.a [.l [],.l []],.l []]),[]))
 else none):=by kernel_rfl
theorem snd_pr0 (N:Nat) (js:Nat→J) (ms:Nat→Ms) (n m:Nat) (np:Nat) (pn:Nat→Nat) (pv:Nat→Nat→Int) (ne:Nat) (ed:Nat→Ed) (a b best:Int) (hN:np + ne < N) (hp:np≤1000) (he:ne≤8192) (hed:∀ i,i < ne→OkE (ed i)):zQ Tryz.prog 17 [.a [.lf n (fJ js),.lf m (fM ms)],.a [.lf np (fP pn pv),.lf ne (fE ed)],.n .i64 a,.n .i64 b,.n .i64 best] (.v (bif prB js ms n m np pn pv ne ed a b best then prV js ms n m np pn pv ne ed a b best else prZ)):=by
 refine qV (N:=N) (LO:=qJ (yZW N js ms n m np pn pv ne ed a b best)) jY jQ (jK (l:=[(42,o_lk [.a [.lf n (fJ js),.lf m (fM ms)],.a [.lf np (fP pn pv),.lf ne (fE ed)]] (decide (np≤1000)) (.v (.b (vmB js ms n m np pn pv ne ed)))),(43,o_hp),(33,o_ds js ms n m),(44,o_lk [.a [.lf np (fP pn pv),.lf ne (fE ed)],.n .i64 (-1),.a [.n .i64 0,.zs,.n .i64 0,.n .i64 0,.zs,.n .i64 0,.zs,.zs]] (Go.Rx.gP (np≤1000∧(∀ j,j < np→pn j≤50)∧ne≤8192∧∀ i,i < ne→OkE (ed i))) (.v (.t [.a [.lf np (fP pn pv),.lf ne (fE ed)],.b false]))),(13,o_u js ms n m)]) (m:=[]) ⟨qWI (fun h=>snd_val js ms n m np pn pv ne ed (vYX h)),ok_hp,yYI js ms n m,qWI (fun h=>snd_mk1 np pn pv ne ed (Go.Rx.gP_spec h)),ok_u js ms n m,trivial⟩ trivial) (fun p S hp => ?_) ?_
 ·refine qW (L:=qY Tf 17) (l:=(yZW N js ms n m np pn pv ne ed a b best)) (show AllP _ (yZW N js ms n m np pn pv ne ed a b best) from ⟨?_,?_,trivial⟩) p S hp
  ·dsimp only;refine jJ (T:=Tf) (o:=(orq1 N js ms n m np pn pv ne ed a b best)) (f:=17) (LO:=qJ []) (p:=[0,1,0,1,1,1,1,1,1,1]) jU ?_;intro t K r hr;obtain ⟨hg,hr⟩:=qZ hr
   skip
   exact (lwq1 K N js ms n m np pn pv ne ed a b best t hg).trans hr
  ·dsimp only;refine jJ (T:=Tf) (o:=(orq1 N js ms n m np pn pv ne ed a b best)) (f:=17) (LO:=qJ []) (p:=[0,1,0,1,1,1,1,1,1,1,1]) jU ?_;intro t K r hr;obtain ⟨hg,hr⟩:=qZ hr
   skip
   exact (lwq2 K N js ms n m np pn pv ne ed a b best t hg).trans hr
 ·refine (pxpr0 N js ms n m np pn pv ne ed a b best).trans ?_;cases hv:vmB js ms n m np pn pv ne ed with
  | false=>rw [g1_t,vYU hp]; unfold prB; rw [hv]; rfl
  | true =>
   have hin:=zHY hv;have hpn:∀ j,j < np→pn j≤50:=fun j hj=>by have:=qKF (hin j hj); omega
   have hrg:=vm_rg hv;rw [g1_t,vYU hp,jW (C:=chp) (t:=((⟨np,fP pn pv,ne,ed⟩:Gr),a,b)) ⟨show np≤1000000 by omega,he⟩,vm_wf hv];by_cases ha:0≤a∧a < (np:Int)
   ·by_cases hb:0≤b∧b < (np:Int)
    ·rw [isP_t (g:=(⟨np,fP pn pv,ne,ed⟩:Gr)) ha,isP_t (g:=(⟨np,fP pn pv,ne,ed⟩:Gr)) hb,qUL ha.1 ha.2,qUL hb.1 hb.2,jW (C:=cds js ms n m) (t:=(pv a.toNat,pv b.toNat,pn a.toNat,pn b.toNat)) ⟨hpn _ (by omega),hpn _ (by omega)⟩];by_cases hd:best < dE js ms n m pn pv a.toNat b.toNat
     ·rw [show decide (best < dsQ js ms (pv a.toNat) (pv b.toNat) n m (pn a.toNat) (pn b.toNat))=true from vYU hd];unfold prB;rw [vYU hd];simp only [Bool.not_true,Bool.and_false];rfl
     ·rw [show decide (best < dsQ js ms (pv a.toNat) (pv b.toNat) n m (pn a.toNat) (pn b.toNat))=false from vYK hd];have i1:=yJU (n:=n) (m:=m) (js:=js) (ms:=ms) (pn:=pn) (pv:=pv) (ne:=ne) (ed:=ed) (a:=a) (b:=b) (best:=best) hp np 0 N (z0,0,z0,0,zP) (by omega) (by omega) ⟨rfl,rfl,fun v hv=>absurd hv (Nat.not_lt_zero v),fun v hv=>absurd hv (Nat.not_lt_zero v)⟩;rw [show ((0:Nat):Int)=0 from rfl] at i1;have o1:zGV N js ms n m np pn pv ne ed a b best (0,z0,0,z0,0,zP)=true:=by unfold zGV; rw [i1]; rfl
      have o2:jH N js ms n m np pn pv ne ed a b best (0,z0,0,z0,0,zP)=(0,(np:Int),prT (usF js ms n m pn pv a b best) pn pv np):=by unfold jH; rw [i1]; rfl
      have i2:=yYQ (n:=n) (m:=m) (js:=js) (ms:=ms) (pn:=pn) (pv:=pv) (np:=np) (a:=a) (b:=b) (best:=best) (nu:=(prT (usF js ms n m pn pv a b best) pn pv np).1) (r:=(prT (usF js ms n m pn pv a b best) pn pv np).2.1) (ol:=(prT (usF js ms n m pn pv a b best) pn pv np).2.2.1) (q:=(prT (usF js ms n m pn pv a b best) pn pv np).2.2.2.1) (f:=(prT (usF js ms n m pn pv a b best) pn pv np).2.2.2.2) he hrg ne 0 N (0,zE) (by omega) (by omega) ⟨rfl,fun v hv=>absurd hv (Nat.not_lt_zero v)⟩;rw [show ((0:Nat):Int)=0 from rfl] at i2;generalize hT:prT (usF js ms n m pn pv a b best) pn pv np=T at o2 i2;have o3:zGW N js ms n m np pn pv ne ed a b best (0,T.1,T.2.1,T.2.2.1,T.2.2.2.1,T.2.2.2.2,0,zE)=true:=by unfold zGW; rw [i2]; rfl
      have o4:zQH N js ms n m np pn pv ne ed a b best (0,T.1,T.2.1,T.2.2.1,T.2.2.2.1,T.2.2.2.2,0,zE)=(0,(ne:Int),T.1,T.2.1,T.2.2.1,T.2.2.2.1,T.2.2.2.2,prU T.1 ed ne):=by unfold zQH; rw [i2]; rfl
      simp only [g1_t,Go.Rx.gP_of (show np≤1000∧(∀ j,j < np→pn j≤50)∧ne≤8192∧∀ i,i < ne→OkE (ed i) from ⟨hp,hpn,he,hed⟩),vYU (show (0:Int)≤(np:Int) by omega),vYU (show (np:Int)≤(np:Int) by omega),vYU (show (np:Int)≤1000000 by omega),zV,o1,o2,o3,o4,vYY,vYJ,vZQ];unfold prB prV;rw [hT,hv,vYU ha,vYU hb,vYK hd];rfl
    ·rw [isP_f (g:=(⟨np,fP pn pv,ne,ed⟩:Gr)) hb];unfold prB;rw [vYK hb];simp only [Bool.false_and,Bool.and_false];rfl
   ·rw [isP_f (g:=(⟨np,fP pn pv,ne,ed⟩:Gr)) ha];unfold prB;rw [vYK ha];simp only [Bool.false_and,Bool.and_false];rfl
end Go.Proofs.YtklmegnpfhiibaaGreat.Xn

/- Part 11 of the texts behind the last one: rules and contracts. No condition. -/
import Derived.Test.YtglkkhpdbfacfaaBV10
open Bool renaming and_eq_true → vQJ, true_and → vZW
open Go.IntKind renaming wrap → vYX
namespace Go.Proofs.Ytglkkhpdbfacfaa.Bq
open Go.Rx Rt Go.Sx Go.RowKit Ba Bb Bc Bd Be Bf Bi Bj Bm Bn Bo Bp
abbrev Lbl:=Bool × (Nat→Int) × (Nat→Int)
def rlx (s:Lbl) (x y:Nat) (c:Int):Lbl:=bif decide (s.2.1 x < 0) then s else bif lsB (s.2.1 x + c) (s.2.2 x + 1) (s.2.1 y) (s.2.2 y) then (true,setF s.2.1 y (s.2.1 x + c),setF s.2.2 y (s.2.2 x + 1)) else s
def nxB (g:Gr) (m:Int) (i:Nat) (s:Lbl):Lbl:=bif usB (g.ed i).s m then rlx (rlx s (g.ed i).u.toNat (g.ed i).v.toNat (g.ed i).c) (g.ed i).v.toNat (g.ed i).u.toNat (g.ed i).c else s
def LbS (np:Nat) (oc oe:Nat→Int) (k:Int):Prop:=∀ v,v < np → -1≤oc v∧oc v≤k * 1099511627776∧0≤oe v∧oe v≤k
end Go.Proofs.Ytglkkhpdbfacfaa.Bq
namespace Go.Proofs.Ytglkkhpdbfacfaa.Br
open Go.Rx Rt Go.Sx Go.RowKit Ba Bb Bc Bd Be Bf Bi Bj Bm Bn Bo Bp Bq
abbrev WkG (g:Gr) (m:Int) (b:Nat):Nat→Int→Int→Prop:=Wk g.np (lkO g m).1 (lkO g m).2.1 (lkO g m).2.2 b
def leL (a b c d:Int):Prop:=c < 0 ∨ (0≤a∧leR a b c d)
theorem leL.refl (a b:Int):leL a b a b:=by unfold leL leR; omega
theorem leL.trans {a b c d e f:Int} (_:leL a b c d) (_:leL c d e f):leL a b e f:=by unfold leL leR at *; omega
theorem leL.add {a b c d k:Int} (_:0≤k) (_:0≤c) (_:leL a b c d):leL (a + k) (b + 1) (c + k) (d + 1):=by unfold leL leR at *; omega
theorem ls_t {a b c d:Int} (_:0≤a) (h:lsB a b c d=true):leL a b c d∧¬ leL c d a b:=by
 unfold lsB at h;by_cases hc:c < 0
 ·exact ⟨.inl hc,by unfold leL; omega⟩
 ·rw [vYY hc,vYY (show ¬ a < 0 by omega)] at h;simp only [Bool.or_self,vYZ,Bool.or_eq_true,vQJ,decide_eq_true_eq] at h;unfold leL leR; omega
theorem ls_f {a b c d:Int} (ha:0≤a) (h:lsB a b c d=false):leL c d a b:=by
 unfold lsB at h;by_cases hc:c < 0
 ·rw [vYJ hc,vYJ ha] at h; simp at h
 ·rw [vYY hc,vYY (show ¬ a < 0 by omega)] at h;simp only [Bool.or_self,vYZ,Bool.or_eq_false_iff,Bool.and_eq_false_imp,decide_eq_true_eq,decide_eq_false_iff_not] at h;unfold leL leR; omega
section
variable {g:Gr} {m:Int} {b:Nat}
theorem WkG.edge {x y:Nat} {c p k:Int} (h:WkG g m b x c p) (hx:x < g.np) (hj:Jn g m g.ne x (y:Int) k):WkG g m b y (c + k) (p + 1):=by
 obtain ⟨w,h1,h2,h3⟩:=((zQI g m).2 x (y:Int) k).2 hj;rw [← h3];exact .cons h hx h1 h2
structure LbW (g:Gr) (m:Int) (b:Nat) (oc oe:Nat→Int):Prop where
 wk:∀ v,v < g.np→oc v < 0 ∨ WkG g m b v (oc v) (oe v + 1)
 src:oc b=0∧oe b=0
theorem LbW.bd (hw:wfB g=true) (hp:g.np≤100) (hn:g.ne≤500) {oc oe:Nat→Int} (h:LbW g m b oc oe) {v:Nat} (hv:v < g.np) (_:0≤oc v):0≤oe v:=by
 rcases h.wk v hv with h1 | h1
 ·omega
 ·have:=h1.bd (qKE hw hp hn).1; omega
theorem zWC (hw:wfB g=true) (hp:g.np≤100) (hn:g.ne≤500) {s:Lbl} {x y:Nat} {c:Int} (hx:x < g.np) (_:0≤c) (hj:Jn g m g.ne x (y:Int) c) (h:LbW g m b s.2.1 s.2.2) :
  LbW g m b (rlx s x y c).2.1 (rlx s x y c).2.2∧(∀ v,leL ((rlx s x y c).2.1 v) ((rlx s x y c).2.2 v) (s.2.1 v) (s.2.2 v))∧(0≤s.2.1 x→leL ((rlx s x y c).2.1 y) ((rlx s x y c).2.2 y) (s.2.1 x + c) (s.2.2 x + 1))∧(rlx s x y c=s ∨ ((rlx s x y c).1=true∧0≤s.2.1 x∧¬ leL (s.2.1 y) (s.2.2 y) (s.2.1 x + c) (s.2.2 x + 1))):=by
 unfold rlx;cases h0:decide (s.2.1 x < 0) with
 | true =>
  have h0:=vYK h0;simp only [vYQ];exact ⟨h,fun v=>leL.refl _ _,fun h1=>by omega,.inl trivial⟩
 | false =>
  have h0:=vYU h0;have ho:=h.bd hw hp hn hx (by omega);simp only [vYZ];cases hb:lsB (s.2.1 x + c) (s.2.2 x + 1) (s.2.1 y) (s.2.2 y) with
  | false =>
   simp only [vYZ];exact ⟨h,fun v=>leL.refl _ _,fun h1=>ls_f (by omega) hb,.inl trivial⟩
  | true =>
   simp only [vYQ];obtain ⟨q1,q2⟩:=ls_t (by omega) hb;refine ⟨⟨fun v hv => ?_,?_⟩,fun v => ?_,fun _ => ?_,.inr ⟨trivial,by omega,q2⟩⟩
   ·by_cases e:v=y
    ·subst e;rw [jG,jG];rcases h.wk x hx with h1 | h1
     ·omega
     ·exact .inr (h1.edge hx hj)
    ·rw [zG e,zG e]; exact h.wk v hv
   ·have e:b ≠ y:=fun e=>by
     subst e;rw [h.src.1,h.src.2] at q2;exact q2 (.inr ⟨by omega,by unfold leR; omega⟩)
    rw [zG e,zG e]; exact h.src
   ·by_cases e:v=y
    ·subst e; rw [jG,jG]; exact q1
    ·rw [zG e,zG e]; exact leL.refl _ _
   ·rw [jG,jG]; exact leL.refl _ _
theorem zYH {np:Nat} {s:Lbl} {x y:Nat} {c k:Int} (hx:x < np) (_:0≤c) (_:c≤1099511627776) (_:0≤k) (h:LbS np s.2.1 s.2.2 k):LbS np (rlx s x y c).2.1 (rlx s x y c).2.2 (k + 1):=by
 have up:LbS np s.2.1 s.2.2 (k + 1):=fun v hv=>by have:=h v hv; omega
 have hxs:=h x hx;unfold rlx;cases h0:decide (s.2.1 x < 0) with
 | true=>exact up
 | false =>
  simp only [vYZ];cases hb:lsB (s.2.1 x + c) (s.2.2 x + 1) (s.2.1 y) (s.2.2 y) with
  | false=>exact up
  | true =>
   simp only [vYQ];intro v hv;by_cases e:v=y
   ·subst e; rw [jG,jG]; omega
   ·rw [zG e,zG e]; exact up v hv
structure RI (g:Gr) (m:Int) (b i:Nat) (k0:Int) (c0 e0:Nat→Int) (s:Lbl):Prop where
 w:LbW g m b s.2.1 s.2.2
 le:∀ v,leL (s.2.1 v) (s.2.2 v) (c0 v) (e0 v)
 ed:∀ x y c,Jn g m i x ((y:Nat):Int) c→0≤c0 x→leL (s.2.1 y) (s.2.2 y) (c0 x + c) (e0 x + 1)
 ag:s.1=false→s=(false,c0,e0)
 sm:LbS g.np s.2.1 s.2.2 (k0 + 2 * i)
theorem RI.next (hw:wfB g=true) (hp:g.np≤100) (hn:g.ne≤500) {i:Nat} {k0:Int} (_:0≤k0) {c0 e0:Nat→Int} {s:Lbl} (hi:i < g.ne) (h:RI g m b i k0 c0 e0 s):RI g m b (i + 1) k0 c0 e0 (nxB g m i s):=by
 obtain ⟨e1,e2,e3,e4,e5⟩:=uG hw hi;unfold nxB;cases hu:usB (g.ed i).s m with
 | false =>
  simp only [vYZ];refine ⟨h.w,h.le,fun x y c ⟨e,q1,q2,q3⟩=>h.ed x y c ⟨e,?_,q2,q3⟩,h.ag,fun v hv=>by have:=h.sm v hv; omega⟩;by_cases ei:e=i
  ·subst ei; rw [hu] at q2; cases q2
  ·omega
 | true =>
  simp only [vYQ];have hU:(g.ed i).u.toNat < g.np:=by omega
  have hV:(g.ed i).v.toNat < g.np:=by omega
  have j1:Jn g m g.ne (g.ed i).u.toNat ((g.ed i).v.toNat:Int) (g.ed i).c:=⟨i,hi,hu,rfl,.inl ⟨rfl,by omega⟩⟩
  have j2:Jn g m g.ne (g.ed i).v.toNat ((g.ed i).u.toNat:Int) (g.ed i).c:=⟨i,hi,hu,rfl,.inr ⟨rfl,by omega⟩⟩
  obtain ⟨a1,a2,a3,a4⟩:=zWC hw hp hn (s:=s) hU e4 j1 h.w;obtain ⟨b1,b2,b3,b4⟩:=zWC hw hp hn (s:=rlx s (g.ed i).u.toNat (g.ed i).v.toNat (g.ed i).c) hV e4 j2 a1;have s1:=zYH (y:=(g.ed i).v.toNat) hU e4 e5 (show (0:Int)≤k0 + 2 * i by omega) h.sm;have s2:=zYH (y:=(g.ed i).u.toNat) hV e4 e5 (show (0:Int)≤k0 + 2 * i + 1 by omega) s1;refine ⟨b1,fun v=>(b2 v).trans ((a2 v).trans (h.le v)),fun x y c ⟨e,q1,q2,q3,q4⟩ h0 => ?_,fun hf => ?_,fun v hv=>by have:=s2 v hv; omega⟩
  ·by_cases ei:e=i
   ·subst ei;rcases q4 with ⟨r1,r2⟩ | ⟨r1,r2⟩
    ·obtain rfl:y=(g.ed e).v.toNat:=by omega
     subst r1;rw [← q3];have hx:=h.le (g.ed e).u.toNat;have h1:0≤s.2.1 (g.ed e).u.toNat:=by unfold leL at hx; omega
     exact (b2 _).trans ((a3 h1).trans (hx.add e4 h0))
    ·obtain rfl:y=(g.ed e).u.toNat:=by omega
     subst r1;rw [← q3];have hx:=(a2 (g.ed e).v.toNat).trans (h.le (g.ed e).v.toNat);have h1:0≤(rlx s (g.ed e).u.toNat (g.ed e).v.toNat (g.ed e).c).2.1 (g.ed e).v.toNat:=by unfold leL at hx; omega
     exact (b3 h1).trans (hx.add e4 h0)
   ·exact ((b2 _).trans (a2 _)).trans (h.ed x y c ⟨e,by omega,q2,q3,q4⟩ h0)
  ·rcases b4 with e | e
   ·rw [e] at hf ⊢;rcases a4 with e' | e'
    ·rw [e'] at hf ⊢; exact h.ag hf
    ·rw [e'.1] at hf; cases hf
   ·rw [e.1] at hf; cases hf
end
end Go.Proofs.Ytglkkhpdbfacfaa.Br
namespace Go.Proofs.Ytglkkhpdbfacfaa.Bs
open Go.Rx Rt Go.Sx Go.RowKit Ba Bb Bc Bd Be Bf Bi Bj Bk Bm Bn Bo Bp Bq Br
section
variable {g:Gr} {m:Int} {b:Nat}
theorem yVA (hw:wfB g=true) (hp:g.np≤100) (hn:g.ne≤500) {a:Nat} (ha:a < g.np) (hb:b < g.np):(∀ c p,¬ WkG g m b a c p) ∨ ∃ c p,WkG g m b a c p∧p≤101∧∀ c' p',WkG g m b a c' p'→leR c p c' p':=by
 have hl:=(qKE (m:=m) hw hp hn).1;have hm:(g.np - cntS (fun _=>false) g.np) * 1001 + 1 < NN:=by
  have:(g.np - cntS (fun _=>false) g.np) * 1001≤100 * 1001:=Nat.mul_le_mul_right _ (by omega)
  rw [qGB]; omega
 obtain ⟨S,rc,rp,qn,qc,qp,qx,_,g2,g3⟩:=jKI hl (N:=NN) (by rw [qGB]; omega) (a:Int) (b:Int) _ NN _ _ _ _ _ _ _ rfl hm (DI.init hb);rcases g2.rk a ha with ⟨h1,_⟩ | h1
 ·exact .inl (DI.none hl g2 ha h1 g3)
 ·obtain ⟨_,b2⟩:=DI.best hl hb g2 ha h1.1 g3;have hcn:=qHB S g.np;have hra:=g2.rb a ha;exact .inr ⟨rc a,rp a,h1.2,by omega,fun c' p' h=>by rcases b2 a c' p' h with h | ⟨_,h⟩ <;> exact h⟩
def KLb (g:Gr) (m:Int) (b:Nat) (oc oe:Nat→Int) (k:Int):Prop:=∀ v c p,WkG g m b v c p→p≤k + 1→leL (oc v) (oe v) c (p - 1)
def BLb (g:Gr) (m:Int) (b:Nat) (oc oe:Nat→Int):Prop:=∀ v c p,WkG g m b v c p→leL (oc v) (oe v) c (p - 1)
theorem yWV {x w:Nat} (hw:w < (lkO g m).1 x) {y:Nat} (hy:(lkO g m).2.1 x w=(y:Int)):Jn g m g.ne x (y:Int) ((lkO g m).2.2 x w):=((zQI g m).2 x (y:Int) _).1 ⟨w,hw,hy,rfl⟩
theorem KLb.best (hw:wfB g=true) (hp:g.np≤100) (hn:g.ne≤500) (hb:b < g.np) {oc oe:Nat→Int} {k:Int} (_:100≤k) (h:KLb g m b oc oe k):BLb g m b oc oe:=fun v c p hv=>by
 have hl:=(qKE (m:=m) hw hp hn).1;have hvn:=Wk.ltn hl hb hv;rcases yVA (m:=m) hw hp hn hvn hb with h1 | ⟨c0,p0,h1,h2,h3⟩
 ·exact absurd hv (h1 c p)
 ·have:=h v c0 p0 h1 (by omega)
  have h4:=h3 c p hv;have hbd:=hv.bd hl;have hbd0:=h1.bd hl;exact this.trans (by unfold leL leR at *; omega)
theorem RI.step (hw:wfB g=true) (hp:g.np≤100) (hn:g.ne≤500) {k0:Int} {c0 e0:Nat→Int} {s:Lbl} {k:Int} (h:RI g m b g.ne k0 c0 e0 s) (hk:KLb g m b c0 e0 k):KLb g m b s.2.1 s.2.2 (k + 1):=fun v c p hv hpk=>by
 have hl:=(qKE (m:=m) hw hp hn).1;cases hv with
 | nil=>rw [h.w.src.1,h.w.src.2]; exact leL.refl _ _
 | @cons x y w c p hv hx hwl hy =>
  have hc:=hl.hco _ _ hx hwl;have hbd:=hv.bd hl;have h1:=hk x c p hv (by omega);have h2:=h.ed x v _ (yWV hwl hy) (by unfold leL at h1; omega);have h3:=leL.add hc.1 hbd.1 h1;rw [show p - 1 + 1=p + 1 - 1 by omega] at h3;exact h2.trans h3
theorem RI.stable (hw:wfB g=true) (hp:g.np≤100) (hn:g.ne≤500) {k0:Int} {c0 e0:Nat→Int} (h:RI g m b g.ne k0 c0 e0 (false,c0,e0)):BLb g m b c0 e0:=fun v c p hv=>by
 have hl:=(qKE (m:=m) hw hp hn).1;induction hv with
 | nil=>rw [show c0 b=0 from h.w.src.1,show e0 b=0 from h.w.src.2]; exact leL.refl _ _
 | @cons x y w c p hv hx hwl hy ih =>
  have hc:=hl.hco _ _ hx hwl;have hbd:=hv.bd hl;have h2:=h.ed x y _ (yWV hwl hy) (by unfold leL at ih; omega);have h3:=leL.add hc.1 hbd.1 ih;rw [show p - 1 + 1=p + 1 - 1 by omega] at h3;exact h2.trans h3
end
end Go.Proofs.Ytglkkhpdbfacfaa.Bs
namespace Go.Proofs.Ytglkkhpdbfacfaa.Bt
end Go.Proofs.Ytglkkhpdbfacfaa.Bt
namespace Go.Proofs.Ytglkkhpdbfacfaa.Bu
open Go.Rx Rt Go.Sx Go.RowKit Ba Bb Bp Bt
noncomputable def orc0 (N:Nat) (g:Gr) (b:Int):OrS:=orS [] []
noncomputable def hc0 (N:Nat) (g:Gr) (b:Int) (i:Int) (oc:Nat→Int):St:=⟨[(1,.v (.n .i64 b)),(2,.p 2 0),(5,.o 15),(17,.v (.n .i64 ((g.np:Int).toNat:Int))),(18,.v (.n .i64 i))],[(2,.blk [.v (.lf g.np g.pt),.v (.lf g.ne (fE g.ed))]),(15,.reg 2 1 (.fo (g.np:Int).toNat (fun v=>[.n .i64 (oc v)])))]⟩
set_option maxRecDepth 100000 in
theorem rdc0 (G:St→Option (Ret × Mem)) (K:Cont) (N:Nat) (g:Gr) (b:Int) (i:Int) (oc:Nat→Int):yX (N + 10) (cxS Tf (orc0 N g b) (N + 10) 38 (ntmF Tf 38)) (evX Tf (orc0 N g b) (N + 10) 38 (ntmF Tf 38)) (qY []) (qZ Tf 38 [0,1,0,1,1]) [0,1,0,1,1] (Tf.hint 38 (qJ (qZ Tf 38 [0,1,0,1,1]))) K G (hc0 N g b i oc) =
 (bif (decide (i < ((g.np:Int).toNat:Int))) then (bif (inB i (g.np:Int).toNat) then (G (hc0 N g b (vYX .i64 (i + 1)) (fun v=>(bif (Nat.beq v (i).toNat) then 1152921504606846976 else (oc v)))))
 else none)
 else (K (.exit 0) ⟨[(1,.v (.n .i64 b)),(2,.p 2 0),(5,.o 15)],[(2,.blk [.v (.lf g.np g.pt),.v (.lf g.ne (fE g.ed))]),(15,.reg 2 1 (.fo (g.np:Int).toNat (fun v=>[.n .i64 (oc v)])))]⟩)):=by kernel_rfl
noncomputable def dcc0 (g:Gr):(Int × (Nat→Int))→(Int × (Nat→Int)) ⊕ (Nat × Int × (Nat→Int)):=fun t=>match t with | (i,oc)=>(bif (decide (i < ((g.np:Int).toNat:Int))) then (bif (inB i (g.np:Int).toNat) then (.inl ((vYX .i64 (i + 1)),(fun v=>(bif (Nat.beq v (i).toNat) then 1152921504606846976 else (oc v))))) else (.inr (1,(i,oc)))) else (.inr (0,(i,oc))))
noncomputable def kxc0 (N:Nat) (g:Gr) (b:Int) (K:Cont) (w9:Nat × Int × (Nat→Int)):Option (Ret × Mem):=bif Nat.beq w9.1 0 then (K (.exit 0) ⟨[(1,.v (.n .i64 b)),(2,.p 2 0),(5,.o 15)],[(2,.blk [.v (.lf g.np g.pt),.v (.lf g.ne (fE g.ed))]),(15,.reg 2 1 (.fo (g.np:Int).toNat (fun v=>[.n .i64 (w9.2.2 v)])))]⟩) else none
theorem wlc0 (K:Cont) (N:Nat) (g:Gr) (b:Int):∀ n9 (t:(Int × (Nat→Int))),LFX (N + 10) (cxS Tf (orc0 N g b) (N + 10) 38 (ntmF Tf 38)) (evX Tf (orc0 N g b) (N + 10) 38 (ntmF Tf 38)) (qY []) (qZ Tf 38 [0,1,0,1,1]) [0,1,0,1,1] (Tf.hint 38 (qJ (qZ Tf 38 [0,1,0,1,1]))) K n9 (hc0 N g b t.1 t.2)=(qX (dcc0 g) n9 t).bind (kxc0 N g b K):=fun n9 t=>by
 refine qQY (L:=LFX (N + 10) (cxS Tf (orc0 N g b) (N + 10) 38 (ntmF Tf 38)) (evX Tf (orc0 N g b) (N + 10) 38 (ntmF Tf 38)) (qY []) (qZ Tf 38 [0,1,0,1,1]) [0,1,0,1,1] (Tf.hint 38 (qJ (qZ Tf 38 [0,1,0,1,1]))) K) (stp:=yX (N + 10) (cxS Tf (orc0 N g b) (N + 10) 38 (ntmF Tf 38)) (evX Tf (orc0 N g b) (N + 10) 38 (ntmF Tf 38)) (qY []) (qZ Tf 38 [0,1,0,1,1]) [0,1,0,1,1] (Tf.hint 38 (qJ (qZ Tf 38 [0,1,0,1,1]))) K) (fun _ _=>rfl) (fun _=>rfl) (fun t=>hc0 N g b t.1 t.2) (fun _=>True) (dcc0 g) (kxc0 N g b K) (fun G t _ => ?_) (fun _ _ _ _=>trivial) n9 t trivial;obtain ⟨i,oc⟩:=t;refine (rdc0 G K N g b i oc).trans ?_;dsimp only [dcc0];cases (decide (i < ((g.np:Int).toNat:Int)))
 ·rfl
 ·cases (inB i (g.np:Int).toNat)
  ·rfl
  ·rfl
noncomputable def zXQ (N:Nat) (g:Gr) (t:(Int × (Nat→Int))):Bool:=(qX (dcc0 g) (N + 10) t).isSome
noncomputable def qYI (N:Nat) (g:Gr) (t:(Int × (Nat→Int))):Nat × Int × (Nat→Int):=(qX (dcc0 g) (N + 10) t).getD (99,t)
theorem lwc0 (K:Cont) (N:Nat) (g:Gr) (b:Int) (t:(Int × (Nat→Int))) (hg:zXQ N g t=true):LFX (N + 10) (cxS Tf (orc0 N g b) (N + 10) 38 (ntmF Tf 38)) (evX Tf (orc0 N g b) (N + 10) 38 (ntmF Tf 38)) (qY []) (qZ Tf 38 [0,1,0,1,1]) [0,1,0,1,1] (Tf.hint 38 (qJ (qZ Tf 38 [0,1,0,1,1]))) K (N + 10) (hc0 N g b t.1 t.2)=kxc0 N g b K (qYI N g t):=by
 refine (wlc0 K N g b (N + 10) t).trans ?_;unfold zXQ at hg;unfold qYI;cases h:qX (dcc0 g) (N + 10) t with
 | none=>rw [h] at hg; cases hg
 | some y=>rfl
noncomputable def hc2 (N:Nat) (g:Gr) (b:Int) (i:Int) (ch:Bool) (oc:Nat→Int):St:=⟨[(2,.p 2 0),(5,.o 15),(7,.v (.b (ch))),(31,.v (.n .i64 (g.ne:Int))),(32,.v (.n .i64 i))],[(2,.blk [.v (.lf g.np g.pt),.v (.lf g.ne (fE g.ed))]),(15,.reg 2 1 (.fo (g.np:Int).toNat (fun v=>[.n .i64 (oc v)])))]⟩
set_option maxRecDepth 100000 in
theorem rdc2 (G:St→Option (Ret × Mem)) (K:Cont) (N:Nat) (g:Gr) (b:Int) (i:Int) (ch:Bool) (oc:Nat→Int):yX (N + 10) (cxS Tf (orc0 N g b) (N + 10) 38 (ntmF Tf 38)) (evX Tf (orc0 N g b) (N + 10) 38 (ntmF Tf 38)) (qY []) (qZ Tf 38 [0,1,1,0,1,0,0,1,0,1,1,1,1]) [0,1,1,0,1,0,0,1,0,1,1,1,1] (Tf.hint 38 (qJ (qZ Tf 38 [0,1,1,0,1,0,0,1,0,1,1,1,1]))) K G (hc2 N g b i ch oc) =
 (bif (decide (i < (g.ne:Int))) then (bif (inB i g.ne) then (bif (decide ((g.ed (i).toNat).s=2)) then (G (hc2 N g b (vYX .i64 (i + 1)) ch (fun v=>(oc v))))
 else (bif (inB (g.ed (i).toNat).u (g.np:Int).toNat) then (bif (inB (g.ed (i).toNat).v (g.np:Int).toNat) then (bif (inB (g.ed (i).toNat).v (g.np:Int).toNat) then (bif (inB (g.ed (i).toNat).u (g.np:Int).toNat) then (bif (inB (g.ed (i).toNat).u (g.np:Int).toNat) then (bif (decide ((min (oc (g.ed (i).toNat).u.toNat) (vYX .i64 ((oc (g.ed (i).toNat).v.toNat) + (g.ed (i).toNat).c))) < (oc (g.ed (i).toNat).u.toNat))) then (bif (inB (g.ed (i).toNat).u (g.np:Int).toNat) then (bif (inB (g.ed (i).toNat).v (g.np:Int).toNat) then (G (hc2 N g b (vYX .i64 (i + 1)) true (fun v=>(bif (Nat.beq v (g.ed (i).toNat).v.toNat) then (min (oc (g.ed (i).toNat).v.toNat) (vYX .i64 ((oc (g.ed (i).toNat).u.toNat) + (g.ed (i).toNat).c))) else (bif (Nat.beq v (g.ed (i).toNat).u.toNat) then (min (oc (g.ed (i).toNat).u.toNat) (vYX .i64 ((oc (g.ed (i).toNat).v.toNat) + (g.ed (i).toNat).c))) else (oc v))))))
 else none)
 else none)
 else (bif (inB (g.ed (i).toNat).v (g.np:Int).toNat) then (bif (decide ((min (oc (g.ed (i).toNat).v.toNat) (vYX .i64 ((oc (g.ed (i).toNat).u.toNat) + (g.ed (i).toNat).c))) < (oc (g.ed (i).toNat).v.toNat))) then (bif (inB (g.ed (i).toNat).u (g.np:Int).toNat) then (bif (inB (g.ed (i).toNat).v (g.np:Int).toNat) then (G (hc2 N g b (vYX .i64 (i + 1)) true (fun v=>(bif (Nat.beq v (g.ed (i).toNat).v.toNat) then (min (oc (g.ed (i).toNat).v.toNat) (vYX .i64 ((oc (g.ed (i).toNat).u.toNat) + (g.ed (i).toNat).c))) else (bif (Nat.beq v (g.ed (i).toNat).u.toNat) then (min (oc (g.ed (i).toNat).u.toNat) (vYX .i64 ((oc (g.ed (i).toNat).v.toNat) + (g.ed (i).toNat).c))) else (oc v))))))
 else none)
 else none)
 else (G (hc2 N g b (vYX .i64 (i + 1)) ch (fun v=>(oc v)))))
 else none))
 else none)
 else none)
 else none)
 else none)
 else none))
 else none)
 else (K (.exit 4) ⟨[(2,.p 2 0),(5,.o 15),(7,.v (.b (ch)))],[(2,.blk [.v (.lf g.np g.pt),.v (.lf g.ne (fE g.ed))]),(15,.reg 2 1 (.fo (g.np:Int).toNat (fun v=>[.n .i64 (oc v)])))]⟩)):=by kernel_rfl
noncomputable def dcc2 (g:Gr):(Int × Bool × (Nat→Int))→(Int × Bool × (Nat→Int)) ⊕ (Nat × Int × Bool × (Nat→Int)):=fun t=>match t with | (i,ch,oc)=>(bif (decide (i < (g.ne:Int))) then (bif (inB i g.ne) then (bif (decide ((g.ed (i).toNat).s=2)) then (.inl ((vYX .i64 (i + 1)),ch,(fun v=>(oc v)))) else (bif (inB (g.ed (i).toNat).u (g.np:Int).toNat) then (bif (inB (g.ed (i).toNat).v (g.np:Int).toNat) then (bif (decide ((min (oc (g.ed (i).toNat).u.toNat) (vYX .i64 ((oc (g.ed (i).toNat).v.toNat) + (g.ed (i).toNat).c))) < (oc (g.ed (i).toNat).u.toNat))) then (.inl ((vYX .i64 (i + 1)),true,(fun v=>(bif (Nat.beq v (g.ed (i).toNat).v.toNat) then (min (oc (g.ed (i).toNat).v.toNat) (vYX .i64 ((oc (g.ed (i).toNat).u.toNat) + (g.ed (i).toNat).c))) else (bif (Nat.beq v (g.ed (i).toNat).u.toNat) then (min (oc (g.ed (i).toNat).u.toNat) (vYX .i64 ((oc (g.ed (i).toNat).v.toNat) + (g.ed (i).toNat).c))) else (oc v)))))) else (bif (decide ((min (oc (g.ed (i).toNat).v.toNat) (vYX .i64 ((oc (g.ed (i).toNat).u.toNat) + (g.ed (i).toNat).c))) < (oc (g.ed (i).toNat).v.toNat))) then (.inl ((vYX .i64 (i + 1)),true,(fun v=>(bif (Nat.beq v (g.ed (i).toNat).v.toNat) then (min (oc (g.ed (i).toNat).v.toNat) (vYX .i64 ((oc (g.ed (i).toNat).u.toNat) + (g.ed (i).toNat).c))) else (bif (Nat.beq v (g.ed (i).toNat).u.toNat) then (min (oc (g.ed (i).toNat).u.toNat) (vYX .i64 ((oc (g.ed (i).toNat).v.toNat) + (g.ed (i).toNat).c))) else (oc v)))))) else (.inl ((vYX .i64 (i + 1)),ch,(fun v=>(oc v)))))) else (.inr (1,(i,ch,oc)))) else (.inr (1,(i,ch,oc))))) else (.inr (1,(i,ch,oc)))) else (.inr (0,(i,ch,oc))))
noncomputable def kxc2 (N:Nat) (g:Gr) (b:Int) (K:Cont) (w9:Nat × Int × Bool × (Nat→Int)):Option (Ret × Mem):=bif Nat.beq w9.1 0 then (K (.exit 4) ⟨[(2,.p 2 0),(5,.o 15),(7,.v (.b (w9.2.2.1)))],[(2,.blk [.v (.lf g.np g.pt),.v (.lf g.ne (fE g.ed))]),(15,.reg 2 1 (.fo (g.np:Int).toNat (fun v=>[.n .i64 (w9.2.2.2 v)])))]⟩) else none
theorem wlc2 (K:Cont) (N:Nat) (g:Gr) (b:Int):∀ n9 (t:(Int × Bool × (Nat→Int))),LFX (N + 10) (cxS Tf (orc0 N g b) (N + 10) 38 (ntmF Tf 38)) (evX Tf (orc0 N g b) (N + 10) 38 (ntmF Tf 38)) (qY []) (qZ Tf 38 [0,1,1,0,1,0,0,1,0,1,1,1,1]) [0,1,1,0,1,0,0,1,0,1,1,1,1] (Tf.hint 38 (qJ (qZ Tf 38 [0,1,1,0,1,0,0,1,0,1,1,1,1]))) K n9 (hc2 N g b t.1 t.2.1 t.2.2)=(qX (dcc2 g) n9 t).bind (kxc2 N g b K):=fun n9 t=>by
 refine qQY (L:=LFX (N + 10) (cxS Tf (orc0 N g b) (N + 10) 38 (ntmF Tf 38)) (evX Tf (orc0 N g b) (N + 10) 38 (ntmF Tf 38)) (qY []) (qZ Tf 38 [0,1,1,0,1,0,0,1,0,1,1,1,1]) [0,1,1,0,1,0,0,1,0,1,1,1,1] (Tf.hint 38 (qJ (qZ Tf 38 [0,1,1,0,1,0,0,1,0,1,1,1,1]))) K) (stp:=yX (N + 10) (cxS Tf (orc0 N g b) (N + 10) 38 (ntmF Tf 38)) (evX Tf (orc0 N g b) (N + 10) 38 (ntmF Tf 38)) (qY []) (qZ Tf 38 [0,1,1,0,1,0,0,1,0,1,1,1,1]) [0,1,1,0,1,0,0,1,0,1,1,1,1] (Tf.hint 38 (qJ (qZ Tf 38 [0,1,1,0,1,0,0,1,0,1,1,1,1]))) K) (fun _ _=>rfl) (fun _=>rfl) (fun t=>hc2 N g b t.1 t.2.1 t.2.2) (fun _=>True) (dcc2 g) (kxc2 N g b K) (fun G t _ => ?_) (fun _ _ _ _=>trivial) n9 t trivial;obtain ⟨i,ch,oc⟩:=t;refine (rdc2 G K N g b i ch oc).trans ?_;dsimp only [dcc2];cases (decide (i < (g.ne:Int)))
 ·rfl
 ·cases (inB i g.ne)
  ·rfl
  ·cases (decide ((g.ed (i).toNat).s=2))
   ·cases (inB (g.ed (i).toNat).u (g.np:Int).toNat)
    ·rfl
    ·cases (inB (g.ed (i).toNat).v (g.np:Int).toNat)
     ·rfl
     ·cases (decide ((min (oc (g.ed (i).toNat).u.toNat) (vYX .i64 ((oc (g.ed (i).toNat).v.toNat) + (g.ed (i).toNat).c))) < (oc (g.ed (i).toNat).u.toNat)))
      ·cases (decide ((min (oc (g.ed (i).toNat).v.toNat) (vYX .i64 ((oc (g.ed (i).toNat).u.toNat) + (g.ed (i).toNat).c))) < (oc (g.ed (i).toNat).v.toNat)))
       ·rfl
       ·rfl
      ·rfl
   ·rfl
noncomputable def qJC (N:Nat) (g:Gr) (t:(Int × Bool × (Nat→Int))):Bool:=(qX (dcc2 g) (N + 10) t).isSome
noncomputable def qYY (N:Nat) (g:Gr) (t:(Int × Bool × (Nat→Int))):Nat × Int × Bool × (Nat→Int):=(qX (dcc2 g) (N + 10) t).getD (99,t)
theorem lwc2 (K:Cont) (N:Nat) (g:Gr) (b:Int) (t:(Int × Bool × (Nat→Int))) (hg:qJC N g t=true):LFX (N + 10) (cxS Tf (orc0 N g b) (N + 10) 38 (ntmF Tf 38)) (evX Tf (orc0 N g b) (N + 10) 38 (ntmF Tf 38)) (qY []) (qZ Tf 38 [0,1,1,0,1,0,0,1,0,1,1,1,1]) [0,1,1,0,1,0,0,1,0,1,1,1,1] (Tf.hint 38 (qJ (qZ Tf 38 [0,1,1,0,1,0,0,1,0,1,1,1,1]))) K (N + 10) (hc2 N g b t.1 t.2.1 t.2.2)=kxc2 N g b K (qYY N g t):=by
 refine (wlc2 K N g b (N + 10) t).trans ?_;unfold qJC at hg;unfold qYY;cases h:qX (dcc2 g) (N + 10) t with
 | none=>rw [h] at hg; cases hg
 | some y=>rfl
theorem okc2 (N:Nat) (g:Gr) (b:Int):∀ p S,qY [([0,1,1,0,1,0,0,1,0,1,1,1,1],sumF (fun t:(Int × Bool × (Nat→Int))=>(hc2 N g b t.1 t.2.1 t.2.2)) (fun σ=>(slI σ 32,slB σ 7,rgI σ 15 0)) (fun t K=>(bif qJC N g t then kxc2 N g b K (qYY N g t) else none)))] p=some S→kV (N + 10) (cxS Tf (orc0 N g b) (N + 10) 38 (ntmF Tf 38)) (qZ Tf 38 p) S:=fun p S hp=>by
 refine qV (L:=qZ Tf 38) (l:=[([0,1,1,0,1,0,0,1,0,1,1,1,1],sumF (fun t:(Int × Bool × (Nat→Int))=>(hc2 N g b t.1 t.2.1 t.2.2)) (fun σ=>(slI σ 32,slB σ 7,rgI σ 15 0)) (fun t K=>(bif qJC N g t then kxc2 N g b K (qYY N g t) else none)))]) ⟨?_,trivial⟩ p S hp;dsimp only;refine yV (T:=Tf) (o:=(orc0 N g b)) (f:=38) (LO:=qY []) (p:=[0,1,1,0,1,0,0,1,0,1,1,1,1]) kZ ?_;intro t K r hr;obtain ⟨hg,hr⟩:=qQ hr
 skip
 exact (lwc2 K N g b t hg).trans hr
noncomputable def hc1 (N:Nat) (g:Gr) (b:Int) (ch:Bool) (oc:Nat→Int):St:=⟨[(2,.p 2 0),(5,.o 15),(7,.v (.b (ch)))],[(2,.blk [.v (.lf g.np g.pt),.v (.lf g.ne (fE g.ed))]),(15,.reg 2 1 (.fo (g.np:Int).toNat (fun v=>[.n .i64 (oc v)])))]⟩
set_option maxRecDepth 100000 in
theorem rdc1 (G:St→Option (Ret × Mem)) (K:Cont) (N:Nat) (g:Gr) (b:Int) (ch:Bool) (oc:Nat→Int):yX (N + 10) (cxS Tf (orc0 N g b) (N + 10) 38 (ntmF Tf 38)) (evX Tf (orc0 N g b) (N + 10) 38 (ntmF Tf 38)) (qY [([0,1,1,0,1,0,0,1,0,1,1,1,1],sumF (fun t:(Int × Bool × (Nat→Int))=>(hc2 N g b t.1 t.2.1 t.2.2)) (fun σ=>(slI σ 32,slB σ 7,rgI σ 15 0)) (fun t K=>(bif qJC N g t then kxc2 N g b K (qYY N g t) else none)))]) (qZ Tf 38 [0,1,0,1,1,1,1]) [0,1,0,1,1,1,1] (Tf.hint 38 (qJ (qZ Tf 38 [0,1,0,1,1,1,1]))) K G (hc1 N g b ch oc) =
 (bif ch then (bif (gSt (hc2 N g b 0 false (fun v=>(oc v))) (hc2 N g b 0 false (fun v=>(oc v)))) then (bif (qJC N g (0,false,(fun v=>(oc v)))) then (bif (Nat.beq (qYY N g (0,false,(fun v=>(oc v)))).1 0) then (G (hc1 N g b (qYY N g (0,false,(fun v=>(oc v)))).2.2.1 (fun v=>((qYY N g (0,false,(fun v=>(oc v)))).2.2.2 v))))
 else none)
 else none)
 else none)
 else (K (.exit 2) ⟨[(5,.o 15)],[(15,.reg 2 1 (.fo (g.np:Int).toNat (fun v=>[.n .i64 (oc v)])))]⟩)):=by kernel_rfl
noncomputable def dcc1 (N:Nat) (g:Gr) (b:Int):(Bool × (Nat→Int))→(Bool × (Nat→Int)) ⊕ (Nat × Bool × (Nat→Int)):=fun t=>match t with | (ch,oc)=>(bif ch then (bif (gSt (hc2 N g b 0 false (fun v=>(oc v))) (hc2 N g b 0 false (fun v=>(oc v)))) then (bif (qJC N g (0,false,(fun v=>(oc v)))) then (bif (Nat.beq (qYY N g (0,false,(fun v=>(oc v)))).1 0) then (.inl ((qYY N g (0,false,(fun v=>(oc v)))).2.2.1,(fun v=>((qYY N g (0,false,(fun v=>(oc v)))).2.2.2 v)))) else (.inr (1,(ch,oc)))) else (.inr (1,(ch,oc)))) else (.inr (1,(ch,oc)))) else (.inr (0,(ch,oc))))
noncomputable def kxc1 (N:Nat) (g:Gr) (b:Int) (K:Cont) (w9:Nat × Bool × (Nat→Int)):Option (Ret × Mem):=bif Nat.beq w9.1 0 then (K (.exit 2) ⟨[(5,.o 15)],[(15,.reg 2 1 (.fo (g.np:Int).toNat (fun v=>[.n .i64 (w9.2.2 v)])))]⟩) else none
theorem wlc1 (K:Cont) (N:Nat) (g:Gr) (b:Int):∀ n9 (t:(Bool × (Nat→Int))),LFX (N + 10) (cxS Tf (orc0 N g b) (N + 10) 38 (ntmF Tf 38)) (evX Tf (orc0 N g b) (N + 10) 38 (ntmF Tf 38)) (qY [([0,1,1,0,1,0,0,1,0,1,1,1,1],sumF (fun t:(Int × Bool × (Nat→Int))=>(hc2 N g b t.1 t.2.1 t.2.2)) (fun σ=>(slI σ 32,slB σ 7,rgI σ 15 0)) (fun t K=>(bif qJC N g t then kxc2 N g b K (qYY N g t) else none)))]) (qZ Tf 38 [0,1,0,1,1,1,1]) [0,1,0,1,1,1,1] (Tf.hint 38 (qJ (qZ Tf 38 [0,1,0,1,1,1,1]))) K n9 (hc1 N g b t.1 t.2)=(qX (dcc1 N g b) n9 t).bind (kxc1 N g b K):=fun n9 t=>by
 refine qQY (L:=LFX (N + 10) (cxS Tf (orc0 N g b) (N + 10) 38 (ntmF Tf 38)) (evX Tf (orc0 N g b) (N + 10) 38 (ntmF Tf 38)) (qY [([0,1,1,0,1,0,0,1,0,1,1,1,1],sumF (fun t:(Int × Bool × (Nat→Int))=>(hc2 N g b t.1 t.2.1 t.2.2)) (fun σ=>(slI σ 32,slB σ 7,rgI σ 15 0)) (fun t K=>(bif qJC N g t then kxc2 N g b K (qYY N g t) else none)))]) (qZ Tf 38 [0,1,0,1,1,1,1]) [0,1,0,1,1,1,1] (Tf.hint 38 (qJ (qZ Tf 38 [0,1,0,1,1,1,1]))) K) (stp:=yX (N + 10) (cxS Tf (orc0 N g b) (N + 10) 38 (ntmF Tf 38)) (evX Tf (orc0 N g b) (N + 10) 38 (ntmF Tf 38)) (qY [([0,1,1,0,1,0,0,1,0,1,1,1,1],sumF (fun t:(Int × Bool × (Nat→Int))=>(hc2 N g b t.1 t.2.1 t.2.2)) (fun σ=>(slI σ 32,slB σ 7,rgI σ 15 0)) (fun t K=>(bif qJC N g t then kxc2 N g b K (qYY N g t) else none)))]) (qZ Tf 38 [0,1,0,1,1,1,1]) [0,1,0,1,1,1,1] (Tf.hint 38 (qJ (qZ Tf 38 [0,1,0,1,1,1,1]))) K) (fun _ _=>rfl) (fun _=>rfl) (fun t=>hc1 N g b t.1 t.2) (fun _=>True) (dcc1 N g b) (kxc1 N g b K) (fun G t _ => ?_) (fun _ _ _ _=>trivial) n9 t trivial;obtain ⟨ch,oc⟩:=t;refine (rdc1 G K N g b ch oc).trans ?_;dsimp only [dcc1];cases ch
 ·rfl
 ·cases (gSt (hc2 N g b 0 false (fun v=>(oc v))) (hc2 N g b 0 false (fun v=>(oc v))))
  ·rfl
  ·cases (qJC N g (0,false,(fun v=>(oc v))))
   ·rfl
   ·cases (Nat.beq (qYY N g (0,false,(fun v=>(oc v)))).1 0)
    ·rfl
    ·rfl
noncomputable def zUL (N:Nat) (g:Gr) (b:Int) (t:(Bool × (Nat→Int))):Bool:=(qX (dcc1 N g b) (N + 10) t).isSome
noncomputable def zQX (N:Nat) (g:Gr) (b:Int) (t:(Bool × (Nat→Int))):Nat × Bool × (Nat→Int):=(qX (dcc1 N g b) (N + 10) t).getD (99,t)
theorem lwc1 (K:Cont) (N:Nat) (g:Gr) (b:Int) (t:(Bool × (Nat→Int))) (hg:zUL N g b t=true):LFX (N + 10) (cxS Tf (orc0 N g b) (N + 10) 38 (ntmF Tf 38)) (evX Tf (orc0 N g b) (N + 10) 38 (ntmF Tf 38)) (qY [([0,1,1,0,1,0,0,1,0,1,1,1,1],sumF (fun t:(Int × Bool × (Nat→Int))=>(hc2 N g b t.1 t.2.1 t.2.2)) (fun σ=>(slI σ 32,slB σ 7,rgI σ 15 0)) (fun t K=>(bif qJC N g t then kxc2 N g b K (qYY N g t) else none)))]) (qZ Tf 38 [0,1,0,1,1,1,1]) [0,1,0,1,1,1,1] (Tf.hint 38 (qJ (qZ Tf 38 [0,1,0,1,1,1,1]))) K (N + 10) (hc1 N g b t.1 t.2)=kxc1 N g b K (zQX N g b t):=by
 refine (wlc1 K N g b (N + 10) t).trans ?_;unfold zUL at hg;unfold zQX;cases h:qX (dcc1 N g b) (N + 10) t with
 | none=>rw [h] at hg; cases hg
 | some y=>rfl
end Go.Proofs.Ytglkkhpdbfacfaa.Bu
namespace Go.Proofs.Ytglkkhpdbfacfaa.Bv
open Go.Rx Rt Go.Sx Go.RowKit Ba Bb Bc Bd Be Bf Bi Bj Bk Bm Bn Bo Bp Bq Br Bs Bu
abbrev Cst:=Bool × (Nat→Int)
def nxC (g:Gr) (i:Nat) (s:Cst):Cst:=bif decide ((g.ed i).s=2) then s else
 bif decide (min (s.2 (g.ed i).u.toNat) (s.2 (g.ed i).v.toNat + (g.ed i).c) < s.2 (g.ed i).u.toNat) || decide (min (s.2 (g.ed i).v.toNat) (s.2 (g.ed i).u.toNat + (g.ed i).c) < s.2 (g.ed i).v.toNat) then
  (true,setF (setF s.2 (g.ed i).u.toNat (min (s.2 (g.ed i).u.toNat) (s.2 (g.ed i).v.toNat + (g.ed i).c))) (g.ed i).v.toNat (min (s.2 (g.ed i).v.toNat) (s.2 (g.ed i).u.toNat + (g.ed i).c))) else s
def CsS (np:Nat) (oc:Nat→Int):Prop:=∀ v,v < np→0≤oc v∧oc v≤1152921504606846976
theorem yKQ {g:Gr} (h:wfB g=true) {i:Nat} (hi:i < g.ne) (_:g.ne≤8192) {s:Cst} (hs:CsS g.np s.2):dcc2 g ((i:Int),s)=.inl (((i + 1:Nat):Int),nxC g i s):=by
 obtain ⟨e1,e2,e3,e4,e5⟩:=uG h hi;obtain ⟨ch,oc⟩:=s;have hU:inB (g.ed i).u g.np=true:=qYL (y:=(g.ed i).u.toNat) (by omega) (by omega);have hV:inB (g.ed i).v g.np=true:=qYL (y:=(g.ed i).v.toNat) (by omega) (by omega);have u1:=hs (g.ed i).u.toNat (by omega);have v1:=hs (g.ed i).v.toNat (by omega);dsimp only at u1 v1;have w1:vYX .i64 (oc (g.ed i).u.toNat + (g.ed i).c)=oc (g.ed i).u.toNat + (g.ed i).c:=yG (by omega);have w3:vYX .i64 (oc (g.ed i).v.toNat + (g.ed i).c)=oc (g.ed i).v.toNat + (g.ed i).c:=yG (by omega);dsimp only [dcc2];unfold nxC;simp only [toN,vYJ (show (i:Int) < (g.ne:Int) by omega),zV hi,qQB (show i < 1000000 by omega),hU,hV,w1,w3,vYQ];cases decide ((g.ed i).s=2)
 ·simp only [vYZ];cases decide (min (oc (g.ed i).u.toNat) (oc (g.ed i).v.toNat + (g.ed i).c) < oc (g.ed i).u.toNat)
  ·simp only [vYZ,Bool.false_or];cases decide (min (oc (g.ed i).v.toNat) (oc (g.ed i).u.toNat + (g.ed i).c) < oc (g.ed i).v.toNat) <;> rfl
  ·rfl
 ·rfl
theorem yVJ {g:Gr} {s:Cst}:dcc2 g ((g.ne:Int),s)=.inr (0,(g.ne:Int),s):=by
 obtain ⟨ch,oc⟩:=s;dsimp only [dcc2];rw [vYY (by omega)]; rfl
section
variable {g:Gr} {b:Nat}
structure CsW (g:Gr) (b:Nat) (oc:Nat→Int):Prop where
 wk:∀ v,v < g.np→oc v=1152921504606846976 ∨ ∃ p,WkG g 2 b v (oc v) p
 src:oc b=0
 sm:CsS g.np oc
structure CI (g:Gr) (b i:Nat) (c0:Nat→Int) (s:Cst):Prop where
 w:CsW g b s.2
 le:∀ v,v < g.np→s.2 v≤c0 v
 ed:∀ x y c,Jn g 2 i x ((y:Nat):Int) c→s.2 y≤c0 x + c
 ch:s.1=false→s=(false,c0)
theorem CI.next (hw:wfB g=true) (_:g.np≤100) (_:g.ne≤500) {i:Nat} {c0:Nat→Int} {s:Cst} (hi:i < g.ne) (h:CI g b i c0 s):CI g b (i + 1) c0 (nxC g i s):=by
 obtain ⟨e1,e2,e3,e4,e5⟩:=uG hw hi;have hU:(g.ed i).u.toNat < g.np:=by omega
 have hV:(g.ed i).v.toNat < g.np:=by omega
 have hne:(g.ed i).u.toNat ≠ (g.ed i).v.toNat:=by omega
 unfold nxC;cases hu:decide ((g.ed i).s=2) with
 | true =>
  simp only [vYQ];refine ⟨h.w,h.le,fun x y c ⟨e,q1,q2,q3⟩=>h.ed x y c ⟨e,?_,q2,q3⟩,h.ch⟩;by_cases ei:e=i
  ·subst ei
   have:=vYK hu
   rw [this] at q2;cases q2
  ·omega
 | false =>
  have hus:usB (g.ed i).s 2=true:=by unfold usB; rw [hu]; rfl
  have j1:Jn g 2 g.ne (g.ed i).u.toNat ((g.ed i).v.toNat:Int) (g.ed i).c:=⟨i,hi,hus,rfl,.inl ⟨rfl,by omega⟩⟩
  have j2:Jn g 2 g.ne (g.ed i).v.toNat ((g.ed i).u.toNat:Int) (g.ed i).c:=⟨i,hi,hus,rfl,.inr ⟨rfl,by omega⟩⟩
  have hle1:=h.le _ hU;have hle2:=h.le _ hV;have hs1:=h.w.sm _ hU;have hs2:=h.w.sm _ hV;simp only [vYZ];have edge:∀ (x y:Nat) (c:Int) (f:Nat→Int),(∀ v,v < g.np→f v≤s.2 v)→f (g.ed i).v.toNat≤s.2 (g.ed i).u.toNat + (g.ed i).c→f (g.ed i).u.toNat≤s.2 (g.ed i).v.toNat + (g.ed i).c→Jn g 2 (i + 1) x ((y:Nat):Int) c→f y≤c0 x + c:=fun x y c f hf h1 h2 ⟨e,q1,q2,q3,q4⟩=>by
   by_cases ei:e=i
   ·subst ei;rcases q4 with ⟨r1,r2⟩ | ⟨r1,r2⟩
    ·obtain rfl:y=(g.ed e).v.toNat:=by omega
     subst r1; omega
    ·obtain rfl:y=(g.ed e).u.toNat:=by omega
     subst r1; omega
   ·have he:=uG hw (show e < g.ne by omega)
    have:=h.ed x y c ⟨e,by omega,q2,q3,q4⟩
    have:=hf y (by rcases q4 with q4 | q4 <;> omega)
    omega
  cases hc:decide (min (s.2 (g.ed i).u.toNat) (s.2 (g.ed i).v.toNat + (g.ed i).c) < s.2 (g.ed i).u.toNat) || decide (min (s.2 (g.ed i).v.toNat) (s.2 (g.ed i).u.toNat + (g.ed i).c) < s.2 (g.ed i).v.toNat) with
  | false =>
   simp only [Bool.or_eq_false_iff,decide_eq_false_iff_not] at hc;simp only [vYZ];exact ⟨h.w,h.le,fun x y c hj=>edge x y c s.2 (fun _ _=>Int.le_refl _) (by omega) (by omega) hj,h.ch⟩
  | true =>
   simp only [vYQ];have eU:setF (setF s.2 (g.ed i).u.toNat (min (s.2 (g.ed i).u.toNat) (s.2 (g.ed i).v.toNat + (g.ed i).c))) (g.ed i).v.toNat (min (s.2 (g.ed i).v.toNat) (s.2 (g.ed i).u.toNat + (g.ed i).c)) (g.ed i).u.toNat=min (s.2 (g.ed i).u.toNat) (s.2 (g.ed i).v.toNat + (g.ed i).c):=by rw [zG hne,jG]
   have eV:setF (setF s.2 (g.ed i).u.toNat (min (s.2 (g.ed i).u.toNat) (s.2 (g.ed i).v.toNat + (g.ed i).c))) (g.ed i).v.toNat (min (s.2 (g.ed i).v.toNat) (s.2 (g.ed i).u.toNat + (g.ed i).c)) (g.ed i).v.toNat=min (s.2 (g.ed i).v.toNat) (s.2 (g.ed i).u.toNat + (g.ed i).c):=by rw [jG]
   have eN:∀ v,v ≠ (g.ed i).u.toNat→v ≠ (g.ed i).v.toNat→setF (setF s.2 (g.ed i).u.toNat (min (s.2 (g.ed i).u.toNat) (s.2 (g.ed i).v.toNat + (g.ed i).c))) (g.ed i).v.toNat (min (s.2 (g.ed i).v.toNat) (s.2 (g.ed i).u.toNat + (g.ed i).c)) v=s.2 v:=fun v h1 h2=>by rw [zG h2,zG h1]
   generalize setF (setF s.2 (g.ed i).u.toNat (min (s.2 (g.ed i).u.toNat) (s.2 (g.ed i).v.toNat + (g.ed i).c))) (g.ed i).v.toNat (min (s.2 (g.ed i).v.toNat) (s.2 (g.ed i).u.toNat + (g.ed i).c))=f at eU eV eN;have hf:∀ v,v < g.np→f v≤s.2 v:=fun v hv=>by
    by_cases h1:v=(g.ed i).u.toNat
    ·rw [h1,eU]; omega
    ·by_cases h2:v=(g.ed i).v.toNat
     ·rw [h2,eV]; omega
     ·rw [eN v h1 h2]; exact Int.le_refl _
   refine ⟨⟨fun v hv => ?_,?_,fun v hv => ?_⟩,fun v hv=>by have:=hf v hv; have:=h.le v hv; dsimp only; omega,fun x y c hj=>edge x y c f hf (by omega) (by omega) hj,fun hf=>by cases hf⟩
   ·dsimp only;by_cases h1:v=(g.ed i).u.toNat
    ·subst h1;rw [eU];rcases Int.le_total (s.2 (g.ed i).u.toNat) (s.2 (g.ed i).v.toNat + (g.ed i).c) with hm | hm
     ·rw [Int.min_eq_left hm]; exact h.w.wk _ hU
     ·rw [Int.min_eq_right hm];rcases h.w.wk _ hV with q | ⟨p,q⟩
      ·exact .inl (by omega)
      ·exact .inr ⟨_,q.edge hV j2⟩
    ·by_cases h2:v=(g.ed i).v.toNat
     ·subst h2;rw [eV];rcases Int.le_total (s.2 (g.ed i).v.toNat) (s.2 (g.ed i).u.toNat + (g.ed i).c) with hm | hm
      ·rw [Int.min_eq_left hm]; exact h.w.wk _ hV
      ·rw [Int.min_eq_right hm];rcases h.w.wk _ hU with q | ⟨p,q⟩
       ·exact .inl (by omega)
       ·exact .inr ⟨_,q.edge hU j1⟩
     ·rw [eN v h1 h2]; exact h.w.wk v hv
   ·dsimp only;have hb:=h.w.src;by_cases h1:b=(g.ed i).u.toNat
    ·rw [h1,eU]; rw [h1] at hb; omega
    ·by_cases h2:b=(g.ed i).v.toNat
     ·rw [h2,eV]; rw [h2] at hb; omega
     ·rw [eN b h1 h2]; exact hb
   ·dsimp only
    have:=h.w.sm v hv
    by_cases h1:v=(g.ed i).u.toNat
    ·rw [h1,eU]; omega
    ·by_cases h2:v=(g.ed i).v.toNat
     ·rw [h2,eV]; omega
     ·rw [eN v h1 h2]; exact this
end
end Go.Proofs.Ytglkkhpdbfacfaa.Bv
namespace Go.Proofs.Ytglkkhpdbfacfaa.Bw
open Go.Rx Rt Go.Sx Go.RowKit Ba Bb Bc Bd Be Bf Bi Bj Bk Bm Bn Bo Bp Bq Br Bs Bu Bv
section
variable {g:Gr} {b:Nat}
def KCs (g:Gr) (b:Nat) (oc:Nat→Int) (k:Int):Prop:=∀ v c p,WkG g 2 b v c p→p≤k + 1→oc v≤c
def BCs (g:Gr) (b:Nat) (oc:Nat→Int):Prop:=∀ v c p,WkG g 2 b v c p→oc v≤c
theorem KCs.best (hw:wfB g=true) (hp:g.np≤100) (hn:g.ne≤500) (hb:b < g.np) {oc:Nat→Int} {k:Int} (_:100≤k) (h:KCs g b oc k):BCs g b oc:=fun v c p hv=>by
 have hl:=(qKE (m:=2) hw hp hn).1;have hvn:=Wk.ltn hl hb hv;rcases yVA (m:=2) hw hp hn hvn hb with h1 | ⟨c0,p0,h1,h2,h3⟩
 ·exact absurd hv (h1 c p)
 ·have:=h v c0 p0 h1 (by omega)
  have h4:=h3 c p hv;unfold leR at h4; omega
theorem CI.step (_:wfB g=true) (_:g.np≤100) (_:g.ne≤500) {c0:Nat→Int} {s:Cst} {k:Int} (h:CI g b g.ne c0 s) (hk:KCs g b c0 k):KCs g b s.2 (k + 1):=fun v c p hv hpk=>by
 cases hv with
 | nil=>rw [h.w.src]; exact Int.le_refl _
 | @cons x y w c p hv hx hwl hy =>
  have h1:=hk x c p hv (by omega);have h2:=h.ed x v _ (yWV hwl hy);omega
theorem CI.stable {c0:Nat→Int} (h:CI g b g.ne c0 (false,c0)):BCs g b c0:=fun v c p hv=>by
 induction hv with
 | nil=>rw [show c0 b=0 from h.w.src]; exact Int.le_refl _
 | @cons x y w c p hv hx hwl hy ih =>
  have h2:c0 y≤c0 x + _:=h.ed x y _ (yWV hwl hy);omega
theorem yXH (hw:wfB g=true) {oc:Nat→Int} (h:CsW g b oc) (hb:BCs g b oc) {i:Nat} (hi:i < g.ne):nxC g i (false,oc)=(false,oc):=by
 obtain ⟨e1,e2,e3,e4,e5⟩:=uG hw hi;have hU:(g.ed i).u.toNat < g.np:=by omega
 have hV:(g.ed i).v.toNat < g.np:=by omega
 unfold nxC;cases hu:decide ((g.ed i).s=2) with
 | true=>rfl
 | false =>
  have hus:usB (g.ed i).s 2=true:=by unfold usB; rw [hu]; rfl
  have s1:=h.sm _ hU;have s2:=h.sm _ hV;have q1:oc (g.ed i).v.toNat≤oc (g.ed i).u.toNat + (g.ed i).c:=by
   rcases h.wk _ hU with q | ⟨p,q⟩
   ·omega
   ·exact hb _ _ _ (q.edge hU ⟨i,hi,hus,rfl,.inl ⟨rfl,by omega⟩⟩)
  have q2:oc (g.ed i).u.toNat≤oc (g.ed i).v.toNat + (g.ed i).c:=by
   rcases h.wk _ hV with q | ⟨p,q⟩
   ·omega
   ·exact hb _ _ _ (q.edge hV ⟨i,hi,hus,rfl,.inr ⟨rfl,by omega⟩⟩)
  simp only [vYZ];rw [vYY (show ¬ min (oc (g.ed i).u.toNat) (oc (g.ed i).v.toNat + (g.ed i).c) < oc (g.ed i).u.toNat by omega),vYY (show ¬ min (oc (g.ed i).v.toNat) (oc (g.ed i).u.toNat + (g.ed i).c) < oc (g.ed i).v.toNat by omega)];rfl
theorem jVH (hw:wfB g=true) (hp:g.np≤100) (hn:g.ne≤500) {c0:Nat→Int} (h:CsW g b c0) {N:Nat} (hN:g.ne < N) :
  qX (dcc2 g) N (0,false,c0)=some (0,(g.ne:Int),zQL (nxC g) g.ne 0 (false,c0))∧CI g b g.ne c0 (zQL (nxC g) g.ne 0 (false,c0)):=by
 have hR:CI g b 0 c0 (false,c0):=⟨h,fun v _=>Int.le_refl _,fun x y c ⟨e,h,_⟩=>absurd h (Nat.not_lt_zero e),fun _=>rfl⟩
 refine ⟨qQX (dec:=dcc2 g) (nx:=nxC g) (Q:=fun (i:Nat) (s:Cst)=>CI g b i c0 s) (out:=fun s=>((g.ne:Int),s)) (c:=g.ne) (fun i s hi hq=>yKQ hw hi (by omega) hq.w.sm) (fun i s hi hq=>hq.next hw hp hn hi) (fun s _=>yVJ) g.ne 0 N _ (by omega) hN hR,?_⟩;exact qZY (Q:=fun (i:Nat) (s:Cst)=>CI g b i c0 s) (c:=g.ne) (nx:=nxC g) (fun i s hi hq=>hq.next hw hp hn hi) g.ne 0 _ (by omega) hR
theorem jZF {N:Nat} {B:Int} {oc:Nat→Int} {j:Int} {s:Cst} (h:qX (dcc2 g) (N + 10) (0,false,oc)=some (0,j,s)):dcc1 N g B (true,oc)=.inl s:=by
 have ho:qYY N g (0,false,(fun v=>(oc v)))=(0,j,s):=by
  unfold qYY;show (qX (dcc2 g) (N + 10) (0,false,oc)).getD _=_;rw [h]; rfl
 have hk:qJC N g (0,false,(fun v=>(oc v)))=true:=by
  unfold qJC;show (qX (dcc2 g) (N + 10) (0,false,oc)).isSome=_;rw [h]; rfl
 dsimp only [dcc1];rw [yY,ho,hk]; rfl
theorem yVK {N:Nat} {B:Int} {oc:Nat→Int}:dcc1 N g B (false,oc)=.inr (0,false,oc):=rfl
theorem jUY (hw:wfB g=true) (hp:g.np≤100) (hn:g.ne≤500) (hb:b < g.np) {N:Nat} (hN:g.ne < N + 10) (B:Int):∀ (j k M:Nat) (oc:Nat→Int),j + k=101→j + 2 < M→CsW g b oc→KCs g b oc (k:Int) →
  ∃ oc',qX (dcc1 N g B) M (true,oc)=some (0,false,oc')∧CsW g b oc'∧BCs g b oc'
 | j,k,0,oc,hj,hM,h,hk=>by omega
 | j,k,M + 1,oc,hj,hM,h,hk=>by
  obtain ⟨h1,h2⟩:=jVH hw hp hn h hN;rw [qX,jZF h1];cases hs1:(zQL (nxC g) g.ne 0 (false,oc)).1 with
  | false =>
   have e:=h2.ch hs1;rw [e] at h2 ⊢;obtain ⟨M,rfl⟩:∃ K,M=K + 1:=⟨M - 1,by omega⟩
   exact ⟨oc,by simp only [qX,yVK],h,CI.stable h2⟩
  | true =>
   by_cases h101:100≤k
   ·exfalso;have hbst:=KCs.best hw hp hn hb (show (100:Int)≤(k:Int) by omega) hk
    have:zQL (nxC g) g.ne 0 (false,oc)=(false,oc):=qZY (Q:=fun (_:Nat) (s:Cst)=>s=(false,oc)) (c:=g.ne) (nx:=nxC g) (fun i s hi hq=>by rw [hq]; exact yXH hw h hbst hi) g.ne 0 _ (by omega) rfl
    rw [this] at hs1; cases hs1
   ·generalize zQL (nxC g) g.ne 0 (false,oc)=s at *;obtain ⟨ag,oc'⟩:=s;dsimp only at hs1;subst hs1;exact jUY hw hp hn hb hN B (j - 1) (k + 1) M oc' (by omega) (by omega) h2.w (by
     have:=CI.step hw hp hn h2 hk
     rw [show ((k + 1:Nat):Int)=(k:Int) + 1 by omega];exact this)
end
end Go.Proofs.Ytglkkhpdbfacfaa.Bw
namespace Go.Proofs.Ytglkkhpdbfacfaa.Bx
open Go.Rx Rt Go.Sx Go.RowKit Ba Bb Bc Bd Be Bf Bi Bj Bk Bh Bm Bn Bo Bp Bq Br Bs Bt Bu Bv Bw
theorem yKZ {g:Gr} (_:g.np≤100) {i:Nat} (hi:i < g.np) {s:Nat→Int}:dcc0 g ((i:Int),s)=.inl (((i + 1:Nat):Int),setF s i 1152921504606846976):=by
 dsimp only [dcc0];simp only [toN,vYJ (show (i:Int) < (g.np:Int) by omega),zV hi,qQB (show i < 1000000 by omega),vYQ];rfl
theorem yVU {g:Gr} {s:Nat→Int}:dcc0 g ((g.np:Int),s)=.inr (0,(g.np:Int),s):=by
 dsimp only [dcc0];rw [toN,vYY (by omega)]; rfl
theorem jVA {g:Gr} (hp:g.np≤100) {N:Nat} (hN:g.np < N):∃ oc:Nat→Int,qX (dcc0 g) N (0,zN)=some (0,(g.np:Int),oc)∧∀ v,v < g.np→oc v=1152921504606846976:=by
 have h1:=qQX (dec:=dcc0 g) (nx:=fun (i:Nat) (s:Nat→Int)=>setF s i 1152921504606846976) (Q:=fun _ _=>True) (out:=fun s=>((g.np:Int),s)) (c:=g.np) (fun i s hi _=>yKZ hp hi) (fun _ _ _ _=>trivial) (fun s _=>yVU) g.np 0 N zN (by omega) hN trivial;have h2:=qZY (Q:=fun (i:Nat) (s:Nat→Int)=>∀ v,v < i→s v=1152921504606846976) (c:=g.np) (nx:=fun (i:Nat) (s:Nat→Int)=>setF s i 1152921504606846976) (fun i s hi hq v hv=>by
  by_cases e:v=i
  ·subst e; exact jG _ _ _
  ·rw [zG e]; exact hq v (by omega)) g.np 0 zN (by omega) (fun v hv=>absurd hv (Nat.not_lt_zero v))
 exact ⟨_,h1,h2⟩
noncomputable def csT (g:Gr) (b:Int):Nat→Int:=(zQX NN g b (true,(fun v=>(bif (Nat.beq v (b).toNat) then 0 else ((qYI NN g (0,zN)).2.2 v))))).2.2
theorem yKU {g:Gr} {b:Nat} (hw:wfB g=true) (hp:g.np≤100) (hn:g.ne≤500) (hb:b < g.np):zXQ NN g (0,zN)=true∧(qYI NN g (0,zN)).1=0∧zUL NN g (b:Int) (true,(fun v=>(bif (Nat.beq v (b:Int).toNat) then 0 else ((qYI NN g (0,zN)).2.2 v))))=true∧(zQX NN g (b:Int) (true,(fun v=>(bif (Nat.beq v (b:Int).toNat) then 0 else ((qYI NN g (0,zN)).2.2 v))))).1=0∧CsW g b (csT g b)∧BCs g b (csT g b):=by
 have hl:=(qKE (m:=2) hw hp hn).1;obtain ⟨oc,h1,h2⟩:=jVA hp (show g.np < NN + 10 by rw [qGB]; omega);have o0:qYI NN g (0,zN)=(0,(g.np:Int),oc):=by unfold qYI; rw [h1]; rfl
 have k0:zXQ NN g (0,zN)=true:=by unfold zXQ; rw [h1]; rfl
 have z:∀ (f:Nat→Int) (v:Nat),(bif Nat.beq v (b:Int).toNat then (0:Int) else f v)=if v=b then 0 else f v:=fun f v=>by
  rw [toN,qQW];by_cases e:v=b
  ·rw [vYJ e,if_pos e]; rfl
  ·rw [vYY e,if_neg e]; rfl
 have hW:CsW g b (fun v=>(bif (Nat.beq v (b:Int).toNat) then 0 else (oc v))):=by
  refine ⟨fun v hv => ?_,?_,fun v hv => ?_⟩
  ·simp only [z];by_cases e:v=b
   ·subst e; rw [if_pos rfl]; exact .inr ⟨1,.nil⟩
   ·rw [if_neg e]; exact .inl (h2 v hv)
  ·simp only [z,if_true]
  ·simp only [z];by_cases e:v=b
   ·rw [if_pos e]; omega
   ·rw [if_neg e,h2 v hv]; omega
 have hK:KCs g b (fun v=>(bif (Nat.beq v (b:Int).toNat) then 0 else (oc v))) ((0:Nat):Int):=fun v c p hv hpk=>by
  have hbd:=hv.bd hl;obtain ⟨rfl,rfl⟩:=hv.one hl (by omega);simp only [z,if_true];omega
 obtain ⟨oc',q1,q2,q3⟩:=jUY hw hp hn hb (N:=NN) (show g.ne < NN + 10 by rw [qGB]; omega) (b:Int) 101 0 (NN + 10) _ (by omega) (by rw [qGB]; omega) hW hK;have o1:zQX NN g (b:Int) (true,(fun v=>(bif (Nat.beq v (b:Int).toNat) then 0 else ((qYI NN g (0,zN)).2.2 v))))=(0,false,oc'):=by rw [o0]; unfold zQX; rw [q1]; rfl
 have k1:zUL NN g (b:Int) (true,(fun v=>(bif (Nat.beq v (b:Int).toNat) then 0 else ((qYI NN g (0,zN)).2.2 v))))=true:=by rw [o0]; unfold zUL; rw [q1]; rfl
 have hT:csT g b=oc':=by unfold csT; rw [o1]
 rw [hT];exact ⟨k0,by rw [o0],k1,by rw [o1],q2,q3⟩
noncomputable def lscs (N:Nat) (g:Gr) (b:Int):List (List Nat × yK):=[([0,1,0,1,1],sumF (fun t:(Int × (Nat→Int))=>(hc0 N g b t.1 t.2)) (fun σ=>(slI σ 18,rgI σ 15 0)) (fun t K=>(bif zXQ N g t then kxc0 N g b K (qYI N g t) else none))),([0,1,0,1,1,1,1],sumF (fun t:(Bool × (Nat→Int))=>(hc1 N g b t.1 t.2)) (fun σ=>(slB σ 7,rgI σ 15 0)) (fun t K=>(bif zUL N g b t then kxc1 N g b K (zQX N g b t) else none)))]
set_option maxRecDepth 100000 in
theorem pxcs (N:Nat) (g:Gr) (b:Int):qZV Tf (orc0 N g b) (qY (lscs N g b)) (N + 10) 38 [.a (gP g),.n .i64 b] =
 (bif (decide (0≤(g.np:Int))) then (bif (decide ((g.np:Int)≤(g.np:Int))) then (bif (decide ((g.np:Int)≤1000000)) then (bif (gSt (hc0 N g b 0 zN) (hc0 N g b 0 zN)) then (bif (zXQ N g (0,zN)) then (bif (Nat.beq (qYI N g (0,zN)).1 0) then (bif (inB b (g.np:Int).toNat) then (bif (gSt (hc1 N g b true (fun v=>(bif (Nat.beq v (b).toNat) then 0 else ((qYI N g (0,zN)).2.2 v)))) (hc1 N g b true (fun v=>(bif (Nat.beq v (b).toNat) then 0 else ((qYI N g (0,zN)).2.2 v))))) then (bif (zUL N g b (true,(fun v=>(bif (Nat.beq v (b).toNat) then 0 else ((qYI N g (0,zN)).2.2 v))))) then (bif (Nat.beq (zQX N g b (true,(fun v=>(bif (Nat.beq v (b).toNat) then 0 else ((qYI N g (0,zN)).2.2 v))))).1 0) then some (.ow 2 1 (.fo (g.np:Int).toNat (fun v=>[.n .i64 ((zQX N g b (true,(fun v=>(bif (Nat.beq v (b).toNat) then 0 else ((qYI N g (0,zN)).2.2 v))))).2.2 v)])),[])
 else none)
 else none)
 else none)
 else none)
 else none)
 else none)
 else none)
 else none)
 else none)
 else none):=by kernel_rfl
theorem jYL (N:Nat) (g:Gr) (b:Int) (b0:Nat) (eb:b=(b0:Int)) (hN:N=NN) (hw:wfB g=true) (hp:g.np≤100) (hn:g.ne≤500) (hb:b0 < g.np):zH Try.prog 38 [.a (gP g),.n .i64 b] (.ow 2 1 (.fo g.np (fQ (csT g b)))):=by
 refine zJ (N:=(N + 10)) (LO:=qY (lscs N g b)) kJ jJ (kX (l:=[]) (m:=[]) trivial trivial) (fun p S hp => ?_) ?_
 ·refine qV (L:=qZ Tf 38) (l:=(lscs N g b)) (show AllP _ (lscs N g b) from ⟨?_,?_,trivial⟩) p S hp
  ·dsimp only;refine yV (T:=Tf) (o:=(orc0 N g b)) (f:=38) (LO:=qY []) (p:=[0,1,0,1,1]) kZ ?_;intro t K r hr;obtain ⟨hg,hr⟩:=qQ hr
   skip
   exact (lwc0 K N g b t hg).trans hr
  ·dsimp only;refine yV (T:=Tf) (o:=(orc0 N g b)) (f:=38) (LO:=(qY [([0,1,1,0,1,0,0,1,0,1,1,1,1],sumF (fun t:(Int × Bool × (Nat→Int))=>(hc2 N g b t.1 t.2.1 t.2.2)) (fun σ=>(slI σ 32,slB σ 7,rgI σ 15 0)) (fun t K=>(bif qJC N g t then kxc2 N g b K (qYY N g t) else none)))])) (p:=[0,1,0,1,1,1,1]) (okc2 N g b) ?_;intro t K r hr;obtain ⟨hg,hr⟩:=qQ hr
   skip
   exact (lwc1 K N g b t hg).trans hr
 ·refine (pxcs N g b).trans ?_;subst eb hN;obtain ⟨s1,s2,s3,s4,_,_⟩:=yKU hw hp hn hb;simp only [vYJ (show (0:Int)≤(g.np:Int) by omega),vYJ (show (g.np:Int)≤(g.np:Int) by omega),vYJ (show (g.np:Int)≤1000000 by omega),yY,s1,s2,qYL (n:=(g.np:Int).toNat) rfl (by rw [toN]; exact hb),vYQ,Nat.beq_refl];rw [s3,s4];rfl
end Go.Proofs.Ytglkkhpdbfacfaa.Bx
namespace Go.Proofs.Ytglkkhpdbfacfaa.By
open Go.Rx Rt Go.Sx Go.RowKit Ba Bb Bc Bd Be Bf Bi Bj Bk Bl Bm Bn Bo Bp Bq Br Bs Bt Bu Bv Bw Bx
section
variable {np:Nat} {ln:Nat→Nat} {lt lc:Nat→Nat→Int}
theorem Wk.front {x y w:Nat} (hy:y < np) (hw:w < ln y) (hx:lt y w=(x:Int)) {z:Nat} {c p:Int} (h:Wk np ln lt lc x z c p):Wk np ln lt lc y z (c + lc y w) (p + 1):=by
 induction h with
 | nil=>exact .cons .nil hy hw hx
 | @cons u z w2 c p h hu hw2 hz ih =>
  rw [show c + lc u w2 + lc y w=c + lc y w + lc u w2 by omega];exact .cons ih hu hw2 hz
theorem Wk.rev (hl:LOk np ln lt lc) (hs:LSym np ln lt lc) {b x:Nat} {c p:Int} (h:Wk np ln lt lc b x c p):Wk np ln lt lc x b c p:=by
 induction h with
 | nil=>exact .nil
 | @cons x y w c p h hx hw hy ih =>
  obtain ⟨w',g1,g2,g3⟩:=hs x w y hx hw hy;have ht:=hl.hto x w hx hw;rw [← g3];exact Wk.front (by omega) g1 g2 ih
end
section
variable {g:Gr} {m:Int} {b:Nat}
theorem WkG.rev (hw:wfB g=true) (hp:g.np≤100) (hn:g.ne≤500) {x:Nat} {c p:Int} (h:WkG g m b x c p):WkG g m x b c p:=Wk.rev (qKE hw hp hn).1 (qKE hw hp hn).2 h
def Least (g:Gr) (m:Int) (b v:Nat) (c:Int):Prop:=(∃ p,WkG g m b v c p)∧∀ c' p',WkG g m b v c' p'→c≤c'
theorem Least.uniq {v:Nat} {c c':Int} (h:Least g m b v c) (h':Least g m b v c'):c=c':=by
 obtain ⟨⟨p,h1⟩,h2⟩:=h;obtain ⟨⟨p',h3⟩,h4⟩:=h'
 have:=h2 _ _ h3
 have:=h4 _ _ h1
 omega
theorem qUJ (hw:wfB g=true) (hp:g.np≤100) (hn:g.ne≤500) (hb:b < g.np) {v:Nat} (hv:v < g.np):(csT g b v=1152921504606846976∧∀ c p,¬ WkG g 2 b v c p) ∨ (0≤csT g b v∧csT g b v < 1152921504606846976∧Least g 2 b v (csT g b v)):=by
 have hl:=(qKE (m:=2) hw hp hn).1;obtain ⟨_,_,_,_,h1,h2⟩:=yKU hw hp hn hb;rcases yVA (m:=2) hw hp hn hv hb with h3 | ⟨c0,p0,h3,h4,h5⟩
 ·rcases h1.wk v hv with h6 | ⟨p,h6⟩
  ·exact .inl ⟨h6,h3⟩
  ·exact absurd h6 (h3 _ _)
 ·have hbd:=h3.bd hl;have h6:=h2 v c0 p0 h3;have h7:=h1.sm v hv;refine .inr ⟨h7.1,by omega,?_,fun c p h=>h2 v c p h⟩;rcases h1.wk v hv with h8 | h8
  ·omega
  ·exact h8
theorem zWA (hw:wfB g=true) (hp:g.np≤100) (hn:g.ne≤500) {a:Nat} (ha:a < g.np) (hb:b < g.np):(shF g.np (lkO g m).1 (lkO g m).2.1 (lkO g m).2.2 a b=false∧∀ c p,¬ WkG g m a b c p) ∨ (shF g.np (lkO g m).1 (lkO g m).2.1 (lkO g m).2.2 a b=true∧Least g m a b (shC g.np (lkO g m).1 (lkO g m).2.1 (lkO g m).2.2 a b)):=by
 obtain ⟨h1,h2⟩:=qKE (m:=m) hw hp hn;obtain ⟨_,_,h3⟩:=qVU h1 h2 ha hb;rcases h3 with ⟨h3,h4⟩ | ⟨h3,_,_,_,⟨p,h5⟩,h6⟩
 ·exact .inl ⟨h3,fun c p h=>h4 c p (Wk.rev h1 h2 h)⟩
 ·exact .inr ⟨h3,⟨p,Wk.rev h1 h2 h5⟩,fun c p h=>h6 c p (Wk.rev h1 h2 h)⟩
theorem yHU (hw:wfB g=true) (hp:g.np≤100) (hn:g.ne≤500) (hb:b < g.np):shF g.np (lkO g m).1 (lkO g m).2.1 (lkO g m).2.2 b b=true:=by
 rcases zWA (m:=m) hw hp hn hb hb with ⟨_,h⟩ | ⟨h,_⟩
 ·exact absurd Wk.nil (h 0 1)
 ·exact h
end
end Go.Proofs.Ytglkkhpdbfacfaa.By
namespace Go.Proofs.Ytglkkhpdbfacfaa.Bz
open Go.Rx Rt Go.Sx Go.RowKit Ba Bb Bc Bd Be Bf Bi Bj Bk Bl Bh Bm Bn Bo Bp Bq Br Bs Bt Bu Bv Bw Bx By
def ccs:Gr × Int→Prop:=fun t=>match t with | (g,b)=>wfB g=true∧g.np≤100∧g.ne≤500∧0≤b∧b < (g.np:Int)
def ecs:Gr × Int→List PV:=fun t=>match t with | (g,b)=>[.a (gP g),.n .i64 b]
noncomputable def rcs:Gr × Int→Ret:=fun t=>match t with | (g,b)=>.ow 2 1 (.fo g.np (fQ (csT g b)))
def dcs:List PV→Gr × Int:=fun ps=>match ps with
 | [.a [.lf np pt,.lf ne ed],.n _ b]=>(⟨np,pt,ne,unFE ed⟩,b)
 | _=>(⟨0,fun _=>[],0,fun _=>unE []⟩,0)
noncomputable def o_cs:List PV→Option (Bool × Ret):=o_fm dcs ccs ecs rcs
theorem jWI:qZC Try.prog 38 o_cs:=qJJ fun t h=>by
 obtain ⟨g,b⟩:=t;exact by
  have h:wfB g=true∧g.np≤100∧g.ne≤500∧0≤b∧b < (g.np:Int):=h;exact jYL NN g b b.toNat (by omega) rfl h.1 h.2.1 h.2.2.1 (by omega)
theorem yUY {g:Gr} (hp:g.np≤100) (hn:g.ne≤500) (v:Int):stF g v v 2=(wfB g && isP g v):=by
 unfold stF stQ;cases hw:wfB g with
 | false=>rfl
 | true =>
  cases hv:isP g v with
  | false=>rfl
  | true =>
   have h:=qGQ hv;obtain ⟨n,rfl⟩:∃ n:Nat,v=(n:Int):=⟨v.toNat,by omega⟩
   exact yHU hw hp hn (by omega)
noncomputable def orhp (g:Gr) (a b:Int):OrS:=orS [(37,o_st)] []
noncomputable def lshp (g:Gr) (a b:Int):List (List Nat × yK):=[]
set_option maxRecDepth 100000 in
theorem pxhp (g:Gr) (a b:Int):qZV Tf (orhp g a b) (qY (lshp g a b)) 60 41 [.a (gP g),.n .i64 a,.n .i64 b] =
 (bif (gF1 cst est (g,a,a,2)) then (bif (stF g a a 2) then (bif (gF1 cst est (g,b,b,2)) then (bif (stF g b b 2) then some (.v (.b true),[])
 else some (.v (.b false),[]))
 else none)
 else some (.v (.b false),[]))
 else none):=by kernel_rfl
theorem jYF (g:Gr) (a b:Int) (hp:g.np≤100) (hn:g.ne≤500):zH Try.prog 41 [.a (gP g),.n .i64 a,.n .i64 b] (.v (.b (wfB g && (isP g a && isP g b)))):=by
 refine zJ (N:=60) (LO:=qY (lshp g a b)) kJ jJ (kX (l:=[(37,o_st)]) (m:=[]) ⟨jJA,trivial⟩ trivial) (fun p S hp => ?_) ?_
 ·refine qV (L:=qZ Tf 41) (l:=(lshp g a b)) (show AllP _ (lshp g a b) from trivial) p S hp
 ·refine (pxhp g a b).trans ?_;simp only [uX (C:=cst) (t:=(g,a,a,2)) ⟨hp,hn⟩,uX (C:=cst) (t:=(g,b,b,2)) ⟨hp,hn⟩,yUY hp hn,vYQ];cases wfB g <;> cases isP g a <;> cases isP g b <;> rfl
def chp:Gr × Int × Int→Prop:=fun t=>match t with | (g,_,_)=>g.np≤100∧g.ne≤500
def ehp:Gr × Int × Int→List PV:=fun t=>match t with | (g,a,b)=>[.a (gP g),.n .i64 a,.n .i64 b]
noncomputable def rhp:Gr × Int × Int→Ret:=fun t=>match t with | (g,a,b)=>.v (.b (wfB g && (isP g a && isP g b)))
def dhp:List PV→Gr × Int × Int:=fun ps=>match ps with
 | [.a [.lf np pt,.lf ne ed],.n _ a,.n _ b]=>(⟨np,pt,ne,unFE ed⟩,a,b)
 | _=>(⟨0,fun _=>[],0,fun _=>unE []⟩,0,0)
noncomputable def o_hp:List PV→Option (Bool × Ret):=o_fm dhp chp ehp rhp
theorem jWE:qZC Try.prog 41 o_hp:=qJJ fun t h=>by
 obtain ⟨g,a,b⟩:=t;exact jYF g a b h.1 h.2
end Go.Proofs.Ytglkkhpdbfacfaa.Bz
namespace Go.Proofs.Ytglkkhpdbfacfaa.Ca
open Go.Rx Rt Go.Sx Go.RowKit Ba Bb Bc Bd Be Bf Bi Bj Bk Bl Bh Bm Bn Bo Bp Bq Br Bs Bt Bu Bv Bw Bx By Bz
noncomputable def orpt (N:Nat) (g:Gr) (a b:Int):OrS:=orS [(37,o_st),(38,o_cs)] []
noncomputable def hpt (N:Nat) (g:Gr) (a b:Int) (i:Int) (f:Nat→Int):St:=⟨[(6,.p 6 0),(7,.p 7 0),(8,.p 8 0),(9,.p 9 0),(26,.v (.n .i64 (g.np:Int))),(27,.v (.n .i64 i))],[(6,.blk [.o 24]),(7,.blk [.v (.n .i64 0)]),(8,.blk [.v (.b false)]),(9,.blk [.v (.lf (stN g a b 2) (fQ (stV g a b 2))),.v (.n .i64 (stC g a b 2))]),(24,.reg 2 1 (.fo g.np (fun v=>[.n .i64 (f v)])))]⟩
set_option maxRecDepth 100000 in
theorem rdpt (G:St→Option (Ret × Mem)) (K:Cont) (N:Nat) (g:Gr) (a b:Int) (i:Int) (f:Nat→Int):yX (N + 10) (cxS Tf (orpt N g a b) (N + 10) 18 (ntmF Tf 18)) (evX Tf (orpt N g a b) (N + 10) 18 (ntmF Tf 18)) (qY []) (qZ Tf 18 [0,1,0,1,1,1,1,1]) [0,1,0,1,1,1,1,1] (Tf.hint 18 (qJ (qZ Tf 18 [0,1,0,1,1,1,1,1]))) K G (hpt N g a b i f) =
 (bif (decide (i < (g.np:Int))) then (bif (inB i g.np) then (bif (inB i g.np) then (G (hpt N g a b (vYX .i64 (i + 1)) (fun v=>(bif (Nat.beq v (i).toNat) then (min (f (i).toNat) (stC g a b 2)) else (f v)))))
 else none)
 else none)
 else (K (.exit 0) ⟨[(6,.p 6 0),(7,.p 7 0),(8,.p 8 0),(9,.p 9 0)],[(6,.blk [.o 24]),(7,.blk [.v (.n .i64 0)]),(8,.blk [.v (.b false)]),(9,.blk [.v (.lf (stN g a b 2) (fQ (stV g a b 2))),.v (.n .i64 (stC g a b 2))]),(24,.reg 2 1 (.fo g.np (fun v=>[.n .i64 (f v)])))]⟩)):=by kernel_rfl
noncomputable def dcpt (g:Gr) (a b:Int):(Int × (Nat→Int))→(Int × (Nat→Int)) ⊕ (Nat × Int × (Nat→Int)):=fun t=>match t with | (i,f)=>(bif (decide (i < (g.np:Int))) then (bif (inB i g.np) then (.inl ((vYX .i64 (i + 1)),(fun v=>(bif (Nat.beq v (i).toNat) then (min (f (i).toNat) (stC g a b 2)) else (f v))))) else (.inr (1,(i,f)))) else (.inr (0,(i,f))))
noncomputable def kxpt (N:Nat) (g:Gr) (a b:Int) (K:Cont) (w9:Nat × Int × (Nat→Int)):Option (Ret × Mem):=bif Nat.beq w9.1 0 then (K (.exit 0) ⟨[(6,.p 6 0),(7,.p 7 0),(8,.p 8 0),(9,.p 9 0)],[(6,.blk [.o 24]),(7,.blk [.v (.n .i64 0)]),(8,.blk [.v (.b false)]),(9,.blk [.v (.lf (stN g a b 2) (fQ (stV g a b 2))),.v (.n .i64 (stC g a b 2))]),(24,.reg 2 1 (.fo g.np (fun v=>[.n .i64 (w9.2.2 v)])))]⟩) else none
theorem wlpt (K:Cont) (N:Nat) (g:Gr) (a b:Int):∀ n9 (t:(Int × (Nat→Int))),LFX (N + 10) (cxS Tf (orpt N g a b) (N + 10) 18 (ntmF Tf 18)) (evX Tf (orpt N g a b) (N + 10) 18 (ntmF Tf 18)) (qY []) (qZ Tf 18 [0,1,0,1,1,1,1,1]) [0,1,0,1,1,1,1,1] (Tf.hint 18 (qJ (qZ Tf 18 [0,1,0,1,1,1,1,1]))) K n9 (hpt N g a b t.1 t.2)=(qX (dcpt g a b) n9 t).bind (kxpt N g a b K):=fun n9 t=>by
 refine qQY (L:=LFX (N + 10) (cxS Tf (orpt N g a b) (N + 10) 18 (ntmF Tf 18)) (evX Tf (orpt N g a b) (N + 10) 18 (ntmF Tf 18)) (qY []) (qZ Tf 18 [0,1,0,1,1,1,1,1]) [0,1,0,1,1,1,1,1] (Tf.hint 18 (qJ (qZ Tf 18 [0,1,0,1,1,1,1,1]))) K) (stp:=yX (N + 10) (cxS Tf (orpt N g a b) (N + 10) 18 (ntmF Tf 18)) (evX Tf (orpt N g a b) (N + 10) 18 (ntmF Tf 18)) (qY []) (qZ Tf 18 [0,1,0,1,1,1,1,1]) [0,1,0,1,1,1,1,1] (Tf.hint 18 (qJ (qZ Tf 18 [0,1,0,1,1,1,1,1]))) K) (fun _ _=>rfl) (fun _=>rfl) (fun t=>hpt N g a b t.1 t.2) (fun _=>True) (dcpt g a b) (kxpt N g a b K) (fun G t _ => ?_) (fun _ _ _ _=>trivial) n9 t trivial;obtain ⟨i,f⟩:=t;refine (rdpt G K N g a b i f).trans ?_;dsimp only [dcpt];cases (decide (i < (g.np:Int)))
 ·rfl
 ·cases (inB i g.np)
  ·rfl
  ·rfl
noncomputable def zUF (N:Nat) (g:Gr) (a b:Int) (t:(Int × (Nat→Int))):Bool:=(qX (dcpt g a b) (N + 10) t).isSome
noncomputable def qGG (N:Nat) (g:Gr) (a b:Int) (t:(Int × (Nat→Int))):Nat × Int × (Nat→Int):=(qX (dcpt g a b) (N + 10) t).getD (99,t)
theorem lwpt (K:Cont) (N:Nat) (g:Gr) (a b:Int) (t:(Int × (Nat→Int))) (hg:zUF N g a b t=true):LFX (N + 10) (cxS Tf (orpt N g a b) (N + 10) 18 (ntmF Tf 18)) (evX Tf (orpt N g a b) (N + 10) 18 (ntmF Tf 18)) (qY []) (qZ Tf 18 [0,1,0,1,1,1,1,1]) [0,1,0,1,1,1,1,1] (Tf.hint 18 (qJ (qZ Tf 18 [0,1,0,1,1,1,1,1]))) K (N + 10) (hpt N g a b t.1 t.2)=kxpt N g a b K (qGG N g a b t):=by
 refine (wlpt K N g a b (N + 10) t).trans ?_;unfold zUF at hg;unfold qGG;cases h:qX (dcpt g a b) (N + 10) t with
 | none=>rw [h] at hg; cases hg
 | some y=>rfl
theorem yJD {g:Gr} {a b:Int} (_:g.np≤100) {i:Nat} (hi:i < g.np) {s:Nat→Int}:dcpt g a b ((i:Int),s)=.inl (((i + 1:Nat):Int),setF s i (min (s i) (stC g a b 2))):=by
 dsimp only [dcpt];simp only [toN,vYJ (show (i:Int) < (g.np:Int) by omega),zV hi,qQB (show i < 1000000 by omega),vYQ];rfl
theorem yWL {g:Gr} {a b:Int} {s:Nat→Int}:dcpt g a b ((g.np:Int),s)=.inr (0,(g.np:Int),s):=by
 dsimp only [dcpt];rw [vYY (by omega)]; rfl
theorem jVX {g:Gr} {a b:Int} (hp:g.np≤100) {N:Nat} (hN:g.np < N) (f0:Nat→Int):∃ f:Nat→Int,qX (dcpt g a b) N (0,f0)=some (0,(g.np:Int),f)∧∀ v,v < g.np→f v=min (f0 v) (stC g a b 2):=by
 have h1:=qQX (dec:=dcpt g a b) (nx:=fun (i:Nat) (s:Nat→Int)=>setF s i (min (s i) (stC g a b 2))) (Q:=fun _ _=>True) (out:=fun s=>((g.np:Int),s)) (c:=g.np) (fun i s hi _=>yJD hp hi) (fun _ _ _ _=>trivial) (fun s _=>yWL) g.np 0 N f0 (by omega) hN trivial;have h2:=qZY (Q:=fun (i:Nat) (s:Nat→Int)=>(∀ v,v < i→s v=min (f0 v) (stC g a b 2))∧∀ v,i≤v→s v=f0 v) (c:=g.np) (nx:=fun (i:Nat) (s:Nat→Int)=>setF s i (min (s i) (stC g a b 2))) (fun i s hi hq=>⟨fun v hv=>by
  by_cases e:v=i
  ·subst e; rw [jG,hq.2 v (Nat.le_refl _)]
  ·rw [zG e]; exact hq.1 v (by omega),fun v hv=>by
  rw [zG (show v ≠ i by omega)]; exact hq.2 v (by omega)⟩) g.np 0 f0 (by omega) ⟨fun v hv=>absurd hv (Nat.not_lt_zero v),fun v _=>rfl⟩
 exact ⟨_,h1,h2.1⟩
noncomputable def ptV (g:Gr) (a b:Int):Nat→Int:=(qGG NN g a b (0,(csT g a))).2.2
theorem yZG {g:Gr} (a b:Int) (hp:g.np≤100):zUF NN g a b (0,(csT g a))=true∧(qGG NN g a b (0,(csT g a))).1=0∧∀ v,v < g.np→ptV g a b v=min (csT g a v) (stC g a b 2):=by
 obtain ⟨f,h1,h2⟩:=jVX (g:=g) (a:=a) (b:=b) hp (show g.np < NN + 10 by rw [qGB]; omega) (csT g a);have ho:qGG NN g a b (0,(csT g a))=(0,(g.np:Int),f):=by unfold qGG; rw [h1]; rfl
 refine ⟨by unfold zUF; rw [h1]; rfl,by rw [ho],fun v hv => ?_⟩;unfold ptV;rw [ho];exact h2 v hv
noncomputable def yXL (N:Nat) (g:Gr) (a b:Int):List (List Nat × yK):=[([0,1,0,1,1,1,1,1],sumF (fun t:(Int × (Nat→Int))=>(hpt N g a b t.1 t.2)) (fun σ=>(slI σ 27,rgI σ 24 0)) (fun t K=>(bif zUF N g a b t then kxpt N g a b K (qGG N g a b t) else none)))]
set_option maxRecDepth 100000 in
theorem jXI (N:Nat) (g:Gr) (a b:Int):qZV Tf (orpt N g a b) (qY (yXL N g a b)) (N + 10) 18 [.a (gP g),.n .i64 a,.n .i64 b] =
 (bif (gF1 cst est (g,a,b,2)) then (bif (stF g a b 2) then (bif (gF1 ccs ecs (g,a)) then (bif (gSt (hpt N g a b 0 (fun v=>((csT g a) v))) (hpt N g a b 0 (fun v=>((csT g a) v)))) then (bif (zUF N g a b (0,(fun v=>((csT g a) v)))) then (bif (Nat.beq (qGG N g a b (0,(fun v=>((csT g a) v)))).1 0) then some (.v (.t [.lf g.np (fun v=>[.n .i64 ((qGG N g a b (0,(fun v=>((csT g a) v)))).2.2 v)]),.n .i64 (stC g a b 2),.b true]),[])
 else none)
 else none)
 else none)
 else none)
 else some (.v (.t [.l [],.n .i64 0,.b false]),[]))
 else none):=by kernel_rfl
theorem yGL (N:Nat) (g:Gr) (a b:Int) (hN:N=NN) (hp:g.np≤100) (hn:g.ne≤500):zH Try.prog 18 [.a (gP g),.n .i64 a,.n .i64 b] (bif stF g a b 2 then .v (.t [.lf g.np (fQ (ptV g a b)),.n .i64 (stC g a b 2),.b true]) else .v (.t [.l [],.n .i64 0,.b false])):=by
 refine zJ (N:=(N + 10)) (LO:=qY (yXL N g a b)) kJ jJ (kX (l:=[(37,o_st),(38,o_cs)]) (m:=[]) ⟨jJA,jWI,trivial⟩ trivial) (fun p S hp => ?_) ?_
 ·refine qV (L:=qZ Tf 18) (l:=(yXL N g a b)) (show AllP _ (yXL N g a b) from ⟨?_,trivial⟩) p S hp
  ·dsimp only;refine yV (T:=Tf) (o:=(orpt N g a b)) (f:=18) (LO:=qY []) (p:=[0,1,0,1,1,1,1,1]) kZ ?_;intro t K r hr;obtain ⟨hg,hr⟩:=qQ hr
   skip
   exact (lwpt K N g a b t hg).trans hr
 ·refine (jXI N g a b).trans ?_;subst hN;obtain ⟨s1,s2,_⟩:=yZG (g:=g) a b hp;simp only [uX (C:=cst) (t:=(g,a,b,2)) ⟨hp,hn⟩,vYQ];cases hf:stF g a b 2 with
  | false=>rfl
  | true =>
   have hq:stQ g a b 2=true:=by
    cases hq:stQ g a b 2 with
    | true=>rfl
    | false=>unfold stF at hf; rw [hq] at hf; cases hf
   unfold stQ at hq;simp only [vQJ] at hq;have ha:=qGQ hq.2.1;simp only [uX (C:=ccs) (t:=(g,a)) ⟨hq.1,hp,hn,ha.1,ha.2⟩,yY,vYQ];rw [show zUF NN g a b (0,(fun v=>((csT g a) v)))=true from s1,show (qGG NN g a b (0,(fun v=>((csT g a) v)))).1=0 from s2];rfl
theorem jYH (g:Gr) (a b:Int) (hp:g.np≤100) (hn:g.ne≤500):zH Try.prog 18 [.a (gP g),.n .i64 a,.n .i64 b] (.v (.t [.lf (bif stF g a b 2 then g.np else 0) (fQ (ptV g a b)),.n .i64 (bif stF g a b 2 then stC g a b 2 else 0),.b (stF g a b 2)])):=by
 have h:=yGL NN g a b rfl hp hn;cases hf:stF g a b 2 with
 | true=>rw [hf] at h; exact h
 | false=>rw [hf] at h; exact qYC (Same.t (xs:=[_,_,_]) (ys:=[_,_,_]) ⟨Same.lf rfl,Same.refl _,Same.refl _,trivial⟩) h
end Go.Proofs.Ytglkkhpdbfacfaa.Ca
namespace Go.Proofs.Ytglkkhpdbfacfaa.Cb
open Go.Rx Rt Go.Sx Go.RowKit Ba Bb Bc Bd Be Bf Bi Bj Bk Bl Bh Bm Bn Bo Bp Bq Br Bs Bt Bu Bv Bw Bx By Bz
noncomputable def orc1 (g:Gr) (a b _:Int) (n:Nat) (_:Nat→Int):OrS:=orS [(41,o_hp)] []
def nqB (q:Nat→Int) (i:Nat):Bool:=!decide (q i < -1125899906842624) && !decide (1125899906842624 < q i)
theorem jUC (c d:Int):vYX .i64 (0 - vYX .i64 (c - d))=vYX .i64 (d - c):=by
 unfold IntKind.wrap;have hb:IntKind.i64.bits=64:=rfl;have hs:IntKind.i64.signed=true:=rfl;simp only [hb,hs,vZW,decide_eq_true_eq];have h2:(2:Int) ^ 64=18446744073709551616:=rfl;have h3:(2:Int) ^ (64 - 1)=9223372036854775808:=rfl;simp only [h2,h3]
 split <;> split <;> split <;> omega
theorem jVC {g:Gr} (hw:wfB g=true) {i:Nat} (hi:i < g.ne):inB (g.ed i).u g.np=true∧inB (g.ed i).v g.np=true:=by
 obtain ⟨h1,h2,h3,_,_⟩:=uG hw hi;exact ⟨by unfold inB; rw [vYJ h1,vYJ (by omega)]; rfl,by unfold inB; rw [vYJ (by omega),vYJ (by omega)]; rfl⟩
def okC (g:Gr) (n:Nat):Bool:=wfB g && (decide (n=g.np) && decide (g.ne≤500))
theorem jKD {g:Gr} {n:Nat} (h:okC g n=true):wfB g=true∧n=g.np∧g.ne≤500:=by
 unfold okC at h;simp only [vQJ,decide_eq_true_eq] at h;exact h
def gdE (g:Gr) (q:Nat→Int) (i:Nat):Bool:=decide ((g.ed i).s=2) || !decide ((g.ed i).c < max (vYX .i64 (q (g.ed i).u.toNat - q (g.ed i).v.toNat)) (vYX .i64 (q (g.ed i).v.toNat - q (g.ed i).u.toNat)))
noncomputable def hc1 (g:Gr) (a b low:Int) (n:Nat) (q:Nat→Int) (i:Int):St:=⟨[(1,.v (.n .i64 a)),(2,.v (.n .i64 b)),(3,.v (.n .i64 low)),(4,.v (.lf n (fQ q))),(5,.p 5 0),(10,.p 10 0),(30,.v (.lf n (fQ q))),(31,.v (.n .i64 (n:Int))),(32,.v (.n .i64 i))],[(5,.blk [.v (.lf g.np g.pt),.v (.lf g.ne (fE g.ed))]),(10,.blk [.v (.b false)])]⟩
set_option maxRecDepth 100000 in
theorem rdc1 (G:St→Option (Ret × Mem)) (K:Cont) (g:Gr) (a b low:Int) (n:Nat) (q:Nat→Int) (i:Int):yX (g.ne + n + 10) (cxS Tf (orc1 g a b low n q) (g.ne + n + 10) 19 (ntmF Tf 19)) (evX Tf (orc1 g a b low n q) (g.ne + n + 10) 19 (ntmF Tf 19)) (qY []) (qZ Tf 19 [0,1,0,1,1,1]) [0,1,0,1,1,1] (Tf.hint 19 (qJ (qZ Tf 19 [0,1,0,1,1,1]))) K G (hc1 g a b low n q i) =
 (bif (decide (i < (n:Int))) then (bif (inB i n) then (bif (decide ((q (i).toNat) < (-1125899906842624))) then (K .ret ⟨[(1,.v (.n .i64 a)),(2,.v (.n .i64 b)),(3,.v (.n .i64 low)),(4,.v (.lf n (fQ q))),(5,.p 5 0),(10,.p 10 0)],[(5,.blk [.v (.lf g.np g.pt),.v (.lf g.ne (fE g.ed))]),(10,.blk [.v (.b false)])]⟩)
 else (bif (decide (1125899906842624 < (q (i).toNat))) then (K .ret ⟨[(1,.v (.n .i64 a)),(2,.v (.n .i64 b)),(3,.v (.n .i64 low)),(4,.v (.lf n (fQ q))),(5,.p 5 0),(10,.p 10 0)],[(5,.blk [.v (.lf g.np g.pt),.v (.lf g.ne (fE g.ed))]),(10,.blk [.v (.b false)])]⟩)
 else (G (hc1 g a b low n q (vYX .i64 (i + 1))))))
 else none)
 else (K (.exit 0) ⟨[(1,.v (.n .i64 a)),(2,.v (.n .i64 b)),(3,.v (.n .i64 low)),(4,.v (.lf n (fQ q))),(5,.p 5 0),(10,.p 10 0)],[(5,.blk [.v (.lf g.np g.pt),.v (.lf g.ne (fE g.ed))]),(10,.blk [.v (.b false)])]⟩)):=by kernel_rfl
theorem lpc1 (K:Cont) (g:Gr) (a b low:Int) (n:Nat) (q:Nat→Int) (_:n≤1000):LFX (g.ne + n + 10) (cxS Tf (orc1 g a b low n q) (g.ne + n + 10) 19 (ntmF Tf 19)) (evX Tf (orc1 g a b low n q) (g.ne + n + 10) 19 (ntmF Tf 19)) (qY []) (qZ Tf 19 [0,1,0,1,1,1]) [0,1,0,1,1,1] (Tf.hint 19 (qJ (qZ Tf 19 [0,1,0,1,1,1]))) K (g.ne + n + 10) (hc1 g a b low n q 0)=bif (allN (fun i:Nat=>nqB q i) n 0) then (K (.exit 0) ⟨[(1,.v (.n .i64 a)),(2,.v (.n .i64 b)),(3,.v (.n .i64 low)),(4,.v (.lf n (fQ q))),(5,.p 5 0),(10,.p 10 0)],[(5,.blk [.v (.lf g.np g.pt),.v (.lf g.ne (fE g.ed))]),(10,.blk [.v (.b false)])]⟩) else (K .ret ⟨[(1,.v (.n .i64 a)),(2,.v (.n .i64 b)),(3,.v (.n .i64 low)),(4,.v (.lf n (fQ q))),(5,.p 5 0),(10,.p 10 0)],[(5,.blk [.v (.lf g.np g.pt),.v (.lf g.ne (fE g.ed))]),(10,.blk [.v (.b false)])]⟩):=by
 refine (zKQ (L:=LFX (g.ne + n + 10) (cxS Tf (orc1 g a b low n q) (g.ne + n + 10) 19 (ntmF Tf 19)) (evX Tf (orc1 g a b low n q) (g.ne + n + 10) 19 (ntmF Tf 19)) (qY []) (qZ Tf 19 [0,1,0,1,1,1]) [0,1,0,1,1,1] (Tf.hint 19 (qJ (qZ Tf 19 [0,1,0,1,1,1]))) K) (stp:=yX (g.ne + n + 10) (cxS Tf (orc1 g a b low n q) (g.ne + n + 10) 19 (ntmF Tf 19)) (evX Tf (orc1 g a b low n q) (g.ne + n + 10) 19 (ntmF Tf 19)) (qY []) (qZ Tf 19 [0,1,0,1,1,1]) [0,1,0,1,1,1] (Tf.hint 19 (qJ (qZ Tf 19 [0,1,0,1,1,1]))) K) (fun _ _=>rfl) (fun (i:Nat) (_:Unit)=>hc1 g a b low n q (i:Int)) (fun _ _=>True) (fun (i:Nat) _=>nqB q i) (fun _ _=>()) (c:=n) (fun _=>(K (.exit 0) ⟨[(1,.v (.n .i64 a)),(2,.v (.n .i64 b)),(3,.v (.n .i64 low)),(4,.v (.lf n (fQ q))),(5,.p 5 0),(10,.p 10 0)],[(5,.blk [.v (.lf g.np g.pt),.v (.lf g.ne (fE g.ed))]),(10,.blk [.v (.b false)])]⟩)) (fun i _=>(K .ret ⟨[(1,.v (.n .i64 a)),(2,.v (.n .i64 b)),(3,.v (.n .i64 low)),(4,.v (.lf n (fQ q))),(5,.p 5 0),(10,.p 10 0)],[(5,.blk [.v (.lf g.np g.pt),.v (.lf g.ne (fE g.ed))]),(10,.blk [.v (.b false)])]⟩)) (fun G i f hi _ => ?_) (fun _ _ _ _ _=>trivial) (fun G f _ => ?_) n 0 (g.ne + n + 10) () (by omega) (by omega) trivial).trans ((qYE _ _ _ _ _).trans (qJQ _ _ _ _ _))
 ·refine (rdc1 G K g a b low n q i).trans ?_;rw [vYJ (show (i:Int) < (n:Int) by omega),qQB (by omega),zV (show i < n by omega)];simp only [toN,vYQ,nqB];cases decide (q i < -1125899906842624) <;> cases decide (1125899906842624 < q i) <;> rfl
 ·refine (rdc1 G K g a b low n q n).trans ?_;rw [vYY (show ¬ (n:Int) < (n:Int) by omega)];rfl
noncomputable def hb1 (g:Gr) (a b _:Int) (n:Nat) (q:Nat→Int) (i:Int):St:=⟨[(4,.v (.lf n (fQ q))),(5,.p 5 0),(11,.v (.n .i64 i))],[(5,.blk [.v (.lf g.np g.pt),.v (.lf g.ne (fE g.ed))])]⟩
noncomputable def hc2 (g:Gr) (a b _:Int) (n:Nat) (q:Nat→Int) (i:Int):St:=⟨[(4,.v (.lf n (fQ q))),(10,.p 10 0),(57,.v (.lf g.ne (fE g.ed))),(58,.v (.n .i64 (g.ne:Int))),(59,.v (.n .i64 i))],[(10,.blk [.v (.b false)])]⟩
set_option maxRecDepth 100000 in
theorem rdc2 (G:St→Option (Ret × Mem)) (K:Cont) (g:Gr) (a b low:Int) (n:Nat) (q:Nat→Int) (i:Int):yX (g.ne + n + 10) (cxS Tf (orc1 g a b low n q) (g.ne + n + 10) 19 (ntmF Tf 19)) (evX Tf (orc1 g a b low n q) (g.ne + n + 10) 19 (ntmF Tf 19)) (qY []) (qZ Tf 19 [0,1,0,1,1,1,1,1]) [0,1,0,1,1,1,1,1] (Tf.hint 19 (qJ (qZ Tf 19 [0,1,0,1,1,1,1,1]))) K G (hc2 g a b low n q i) =
 (bif (decide (i < (g.ne:Int))) then (bif (inB i g.ne) then (bif (inB (g.ed (i).toNat).u n) then (bif (inB (g.ed (i).toNat).v n) then (bif (!decide ((g.ed (i).toNat).s=2)) then (bif (decide ((g.ed (i).toNat).c < (max (vYX .i64 ((q ((g.ed (i).toNat).u).toNat) - (q ((g.ed (i).toNat).v).toNat))) (vYX .i64 (0 - (vYX .i64 ((q ((g.ed (i).toNat).u).toNat) - (q ((g.ed (i).toNat).v).toNat)))))))) then (K .ret ⟨[(10,.p 10 0)],[(10,.blk [.v (.b false)])]⟩)
 else (G (hc2 g a b low n q (vYX .i64 (i + 1)))))
 else (G (hc2 g a b low n q (vYX .i64 (i + 1)))))
 else none)
 else none)
 else none)
 else (K (.exit 2) ⟨[(10,.p 10 0)],[(10,.blk [.v (.b false)])]⟩)):=by kernel_rfl
noncomputable def hb2 (g:Gr) (a b _:Int) (n:Nat) (q:Nat→Int) (i:Int):St:=⟨[(4,.v (.lf n (fQ q))),(5,.p 5 0),(12,.v (.n .i64 i))],[(5,.blk [.v (.lf g.np g.pt),.v (.lf g.ne (fE g.ed))])]⟩
theorem lpc2 (K:Cont) (g:Gr) (a b low:Int) (n:Nat) (q:Nat→Int) (hw:wfB g=true) (hN:n=g.np) (_:g.ne≤500):LFX (g.ne + n + 10) (cxS Tf (orc1 g a b low n q) (g.ne + n + 10) 19 (ntmF Tf 19)) (evX Tf (orc1 g a b low n q) (g.ne + n + 10) 19 (ntmF Tf 19)) (qY []) (qZ Tf 19 [0,1,0,1,1,1,1,1]) [0,1,0,1,1,1,1,1] (Tf.hint 19 (qJ (qZ Tf 19 [0,1,0,1,1,1,1,1]))) K (g.ne + n + 10) (hc2 g a b low n q 0)=bif (allN (fun i:Nat=>gdE g q i) g.ne 0) then (K (.exit 2) ⟨[(10,.p 10 0)],[(10,.blk [.v (.b false)])]⟩) else (K .ret ⟨[(10,.p 10 0)],[(10,.blk [.v (.b false)])]⟩):=by
 refine (zKQ (L:=LFX (g.ne + n + 10) (cxS Tf (orc1 g a b low n q) (g.ne + n + 10) 19 (ntmF Tf 19)) (evX Tf (orc1 g a b low n q) (g.ne + n + 10) 19 (ntmF Tf 19)) (qY []) (qZ Tf 19 [0,1,0,1,1,1,1,1]) [0,1,0,1,1,1,1,1] (Tf.hint 19 (qJ (qZ Tf 19 [0,1,0,1,1,1,1,1]))) K) (stp:=yX (g.ne + n + 10) (cxS Tf (orc1 g a b low n q) (g.ne + n + 10) 19 (ntmF Tf 19)) (evX Tf (orc1 g a b low n q) (g.ne + n + 10) 19 (ntmF Tf 19)) (qY []) (qZ Tf 19 [0,1,0,1,1,1,1,1]) [0,1,0,1,1,1,1,1] (Tf.hint 19 (qJ (qZ Tf 19 [0,1,0,1,1,1,1,1]))) K) (fun _ _=>rfl) (fun (i:Nat) (_:Unit)=>hc2 g a b low n q (i:Int)) (fun _ _=>True) (fun (i:Nat) _=>gdE g q i) (fun _ _=>()) (c:=g.ne) (fun _=>(K (.exit 2) ⟨[(10,.p 10 0)],[(10,.blk [.v (.b false)])]⟩)) (fun i _=>(K .ret ⟨[(10,.p 10 0)],[(10,.blk [.v (.b false)])]⟩)) (fun G i f hi _ => ?_) (fun _ _ _ _ _=>trivial) (fun G f _ => ?_) g.ne 0 (g.ne + n + 10) () (by omega) (by omega) trivial).trans ((qYE _ _ _ _ _).trans (qJQ _ _ _ _ _))
 ·refine (rdc2 G K g a b low n q i).trans ?_;rw [vYJ (show (i:Int) < (g.ne:Int) by omega),qQB (by omega),zV (show i < g.ne by omega)];subst hN;simp only [toN,vYQ,vYZ,gdE,jVC hw hi]
  try rw [jUC]
  cases decide ((g.ed i).s=2) <;> cases decide ((g.ed i).c < max (vYX .i64 (q (g.ed i).u.toNat - q (g.ed i).v.toNat)) (vYX .i64 (q (g.ed i).v.toNat - q (g.ed i).u.toNat))) <;> rfl
 ·refine (rdc2 G K g a b low n q g.ne).trans ?_;rw [vYY (show ¬ (g.ne:Int) < (g.ne:Int) by omega)];rfl
def cbB (g:Gr) (a b low:Int) (n:Nat) (q:Nat→Int):Bool:=(wfB g && (isP g a && isP g b)) && (decide ((n:Int)=(g.np:Int)) && (allN (fun i:Nat=>nqB q i) n 0 && (decide (q a.toNat=0) && (decide (q b.toNat=low) && allN (fun i:Nat=>gdE g q i) g.ne 0))))
theorem yYA {g:Gr} {a:Int} (h:isP g a=true):inB a g.np=true:=by
 have:=qGQ h
 unfold inB;rw [vYJ (show 0≤a by omega),vYJ (by omega)]; rfl
theorem jVZ {g:Gr} (hw:wfB g=true) (hn:g.ne≤500):okC g g.np=true:=by
 unfold okC;rw [hw,vYJ rfl,vYJ hn]; rfl
noncomputable def lsck (g:Gr) (a b low:Int) (n:Nat) (q:Nat→Int):List (List Nat × yK):=[([0,1,0,1,1,1],sumF (fun _:Unit=>(hc1 g a b low n q 0)) (fun _=>()) (fun _ K=>(bif (decide (n≤1000)) then (bif (allN (fun i:Nat=>nqB q i) n 0) then (K (.exit 0) ⟨[(1,.v (.n .i64 a)),(2,.v (.n .i64 b)),(3,.v (.n .i64 low)),(4,.v (.lf n (fQ q))),(5,.p 5 0),(10,.p 10 0)],[(5,.blk [.v (.lf g.np g.pt),.v (.lf g.ne (fE g.ed))]),(10,.blk [.v (.b false)])]⟩) else (K .ret ⟨[(1,.v (.n .i64 a)),(2,.v (.n .i64 b)),(3,.v (.n .i64 low)),(4,.v (.lf n (fQ q))),(5,.p 5 0),(10,.p 10 0)],[(5,.blk [.v (.lf g.np g.pt),.v (.lf g.ne (fE g.ed))]),(10,.blk [.v (.b false)])]⟩)) else none))),([0,1,0,1,1,1,1,1],sumF (fun _:Unit=>(hc2 g a b low n q 0)) (fun _=>()) (fun _ K=>(bif (okC g n) then (bif (allN (fun i:Nat=>gdE g q i) g.ne 0) then (K (.exit 2) ⟨[(10,.p 10 0)],[(10,.blk [.v (.b false)])]⟩) else (K .ret ⟨[(10,.p 10 0)],[(10,.blk [.v (.b false)])]⟩)) else none)))]
set_option maxRecDepth 100000 in
theorem pxck (g:Gr) (a b low:Int) (n:Nat) (q:Nat→Int):qZV Tf (orc1 g a b low n q) (qY (lsck g a b low n q)) (g.ne + n + 10) 19 [.a (gP g),.n .i64 a,.n .i64 b,.n .i64 low,.lf n (fQ q)] =
 (bif (gF1 chp ehp (g,a,b)) then (bif (wfB g && (isP g a && isP g b)) then (bif (!decide ((n:Int)=(g.np:Int))) then some (.v (.b false),[])
 else (bif (gSt (hc1 g a b low n q 0) (hc1 g a b low n q 0)) then (bif (decide (n≤1000)) then (bif (allN (fun i:Nat=>nqB q i) n 0) then (bif (inB a n) then (bif (!decide ((q (a).toNat)=0)) then some (.v (.b false),[])
 else (bif (inB b n) then (bif (!decide ((q (b).toNat)=low)) then some (.v (.b false),[])
 else (bif (gSt (hc2 g a b low n q 0) (hc2 g a b low n q 0)) then (bif (okC g n) then (bif (allN (fun i:Nat=>gdE g q i) g.ne 0) then some (.v (.b true),[])
 else some (.v (.b false),[]))
 else none)
 else none))
 else none))
 else none)
 else some (.v (.b false),[]))
 else none)
 else none))
 else some (.v (.b false),[]))
 else none):=by kernel_rfl
theorem jJY (g:Gr) (a b low:Int) (n:Nat) (q:Nat→Int) (hp:g.np≤100) (hn:g.ne≤500):zH Try.prog 19 [.a (gP g),.n .i64 a,.n .i64 b,.n .i64 low,.lf n (fQ q)] (.v (.b (cbB g a b low n q))):=by
 refine zJ (N:=(g.ne + n + 10)) (LO:=qY (lsck g a b low n q)) kJ jJ (kX (l:=[(41,o_hp)]) (m:=[]) ⟨jWE,trivial⟩ trivial) (fun p S hp => ?_) ?_
 ·refine qV (L:=qZ Tf 19) (l:=(lsck g a b low n q)) (show AllP _ (lsck g a b low n q) from ⟨?_,?_,trivial⟩) p S hp
  ·dsimp only;refine yV (T:=Tf) (o:=(orc1 g a b low n q)) (f:=19) (LO:=qY []) (p:=[0,1,0,1,1,1]) kZ ?_;intro t K r hr;obtain ⟨hg,hr⟩:=qQ hr;have hn:=vYK hg;exact (lpc1 K g a b low n q hn).trans hr
  ·dsimp only;refine yV (T:=Tf) (o:=(orc1 g a b low n q)) (f:=19) (LO:=qY []) (p:=[0,1,0,1,1,1,1,1]) kZ ?_;intro t K r hr;obtain ⟨hg,hr⟩:=qQ hr;obtain ⟨hw,hN,hn⟩:=jKD hg;exact (lpc2 K g a b low n q hw hN hn).trans hr
 ·refine (pxck g a b low n q).trans ?_;unfold cbB;simp only [uX (C:=chp) (t:=(g,a,b)) ⟨hp,hn⟩,vYQ];cases hq:wfB g && (isP g a && isP g b) with
  | false=>rfl
  | true =>
   simp only [vQJ] at hq;obtain ⟨hw,ha,hb⟩:=hq;by_cases h1:(n:Int)=(g.np:Int)
   ·obtain rfl:n=g.np:=by omega
    simp only [decide_true,Bool.not_true,vYQ,vYZ,vZW,yY,vYJ (show g.np≤1000 by omega),yYA ha,yYA hb,jVZ hw hn];cases allN (fun i:Nat=>nqB q i) g.np 0 <;> cases decide (q a.toNat=0) <;> cases decide (q b.toNat=low) <;> cases allN (fun i:Nat=>gdE g q i) g.ne 0 <;> rfl
   ·rw [vYY h1]; rfl
end Go.Proofs.Ytglkkhpdbfacfaa.Cb

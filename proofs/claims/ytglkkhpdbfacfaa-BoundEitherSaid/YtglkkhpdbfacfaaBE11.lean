/- Part 11 of the texts behind the last one: rules and contracts. No condition. -/
import Derived.Test.YtglkkhpdbfacfaaBE10
open Bool renaming and_eq_true → vQJ
open Go.IntKind renaming wrap → vYX
namespace Go.Proofs.Ytglkkhpdbfacfaa.Bm
open Go.Rx Rt Go.Sx Go.RowKit Ba Bb Bc Bd Be Bf Bh Bg Bi Bj Bk Bl
def NN:Nat:=200000
theorem qYK:NN=200000:=rfl
section
variable (np:Nat) (ln:Nat→Nat) (lt lc:Nat→Nat→Int) (a b:Int)
noncomputable def seT:Rks:=(jV NN np ln lt lc a b ((iz b),(io b),1,(jz b),(jo b),(jb b))).2
noncomputable def paT:Int × Int × (Nat→Int) × (Nat→Int) × Nat × (Nat→Int):=(qUZ NN np ln lt lc b (a,(seT np ln lt lc a b).1 a.toNat,(seT np ln lt lc a b).1,(seT np ln lt lc a b).2.1,1,jb a)).2
noncomputable def shF:Bool:=!decide ((seT np ln lt lc a b).2.1 a.toNat=0)
noncomputable def shC:Int:=bif shF np ln lt lc a b then (seT np ln lt lc a b).1 a.toNat else 0
noncomputable def shN:Nat:=bif shF np ln lt lc a b then (paT np ln lt lc a b).2.2.2.2.1 else 0
noncomputable def shV:Nat→Int:=(paT np ln lt lc a b).2.2.2.2.2
end
section
variable {np:Nat} {ln:Nat→Nat} {lt lc:Nat→Nat→Int}
theorem qGZ (hl:LOk np ln lt lc) (hs:LSym np ln lt lc) {a b:Nat} (ha:a < np) (hb:b < np):zWQ NN np ln lt lc (a:Int) (b:Int) ((iz b),(io b),1,(jz b),(jo b),(jb b))=true∧(jV NN np ln lt lc (a:Int) (b:Int) ((iz b),(io b),1,(jz b),(jo b),(jb b))).1=0 ∧
  ((shF np ln lt lc a b=false∧∀ c p,¬ Wk np ln lt lc b a c p) ∨ (shF np ln lt lc a b=true∧zWK NN np ln lt lc (b:Int) ((a:Int),(seT np ln lt lc a b).1 a,(seT np ln lt lc a b).1,(seT np ln lt lc a b).2.1,1,jb a)=true∧(qUZ NN np ln lt lc (b:Int) ((a:Int),(seT np ln lt lc a b).1 a,(seT np ln lt lc a b).1,(seT np ln lt lc a b).2.1,1,jb a)).1=0∧(qUZ NN np ln lt lc (b:Int) ((a:Int),(seT np ln lt lc a b).1 a,(seT np ln lt lc a b).1,(seT np ln lt lc a b).2.1,1,jb a)).2.2.1=(seT np ln lt lc a b).1 a ∧
   (∃ p,Wk np ln lt lc b a (shC np ln lt lc a b) p)∧∀ c p,Wk np ln lt lc b a c p→shC np ln lt lc a b≤c)):=by
 have hnp:=hl.hnp;have hm:(np - cntS (fun _=>false) np) * 1001 + 1 < NN:=by
  have:(np - cntS (fun _=>false) np) * 1001≤100 * 1001:=Nat.mul_le_mul_right _ (by omega)
  rw [qYK]; omega
 obtain ⟨S,rc,rp,qn,qc,qp,qx,g1,g2,g3⟩:=jWF hl (N:=NN) (by rw [qYK]; omega) (a:Int) (b:Int) _ NN _ _ _ _ _ _ _ rfl hm (DI.init hb);have ho:jV NN np ln lt lc (a:Int) (b:Int) ((iz b),(io b),1,(jz b),(jo b),(jb b))=(0,rc,rp,qn,qc,qp,qx):=by unfold jV; rw [g1]; rfl
 have hT:seT np ln lt lc a b=(rc,rp,qn,qc,qp,qx):=by unfold seT; rw [ho]
 have hk:zWQ NN np ln lt lc (a:Int) (b:Int) ((iz b),(io b),1,(jz b),(jo b),(jb b))=true:=by unfold zWQ; rw [g1]; rfl
 refine ⟨hk,by rw [ho],?_⟩;unfold shC shF;rw [hT,toN];by_cases h0:rp a=0
 ·refine .inl ⟨by rw [vYJ h0]; rfl,DI.none hl g2 ha h0 g3⟩
 ·have hr:0 < rp a∧Wk np ln lt lc b a (rc a) (rp a):=by
   rcases g2.rk a ha with ⟨h1,_⟩ | h1
   ·exact absurd h1 h0
   ·exact h1
  obtain ⟨b1,b2⟩:=DI.best hl hb g2 ha hr.1 g3;have hon:OnR np ln lt lc b rc rp a a:=⟨ha,hr.2,fun c p hw=>by
   rcases b2 a c p hw with h | ⟨_,h⟩ <;> exact h,leR.refl _ _⟩
  have hcn:=zQE S np;have hra:=g2.rb a ha;obtain ⟨vn,vf,p1⟩:=jVQ hl hs b2 g2.rk (fun v hv=>by have:=g2.rb v hv; omega) (rc a) (rp a).toNat NN a 1 (jb a) (by omega) (by rw [qYK]; omega) (by omega) hon;refine .inr ⟨by rw [vYY h0]; rfl,by unfold zWK; rw [p1]; rfl,by unfold qUZ; rw [p1]; rfl,by unfold qUZ; rw [p1]; rfl,?_,fun c p hw => ?_⟩
  ·rw [vYY h0]; exact ⟨rp a,hr.2⟩
  ·rw [vYY h0]
   have:=hon.opt c p hw
   simp only [Bool.not_false,vYQ];unfold leR at this; omega
end
noncomputable def yVJ (N np:Nat) (ln:Nat→Nat) (lt lc:Nat→Nat→Int) (a b:Int):List (List Nat × yK):=[([0,0,1,1,1,1,0,1],sumF (fun t:((Nat→Int) × (Nat→Int) × Nat × (Nat→Int) × (Nat→Int) × (Nat→Int))=>(hst N np ln lt lc a b t.1 t.2.1 t.2.2.1 t.2.2.2.1 t.2.2.2.2.1 t.2.2.2.2.2)) (fun σ=>(rgI σ 19 0,rgI σ 19 1,rgN σ 30,rgI σ 30 0,rgI σ 30 1,rgI σ 30 2)) (fun t K=>(bif zWQ N np ln lt lc a b t then kxst N np ln lt lc a b K (jV N np ln lt lc a b t) else none))),([0,1,0,1,1,1,1,1,1,1,0,1],sumF (fun t:(Int × Int × (Nat→Int) × (Nat→Int) × Nat × (Nat→Int))=>(hpa N np ln lt lc a b t.1 t.2.1 t.2.2.1 t.2.2.2.1 t.2.2.2.2.1 t.2.2.2.2.2)) (fun σ=>(bkC σ 15 0,bkC σ 14 1,rgI σ 19 0,rgI σ 19 1,rgN σ 96,rgI σ 96 0)) (fun t K=>(bif zWK N np ln lt lc b t then kxpa N np ln lt lc a b K (qUZ N np ln lt lc b t) else none)))]
set_option maxRecDepth 100000 in
theorem jHQ (N np:Nat) (ln:Nat→Nat) (lt lc:Nat→Nat→Int) (a b:Int):qQK Tf (orst N np ln lt lc a b) (qY (yVJ N np ln lt lc a b)) N 55 [.lf np (fun u=>[.lf (ln u) (fun w=>[.n .i64 (lt u w),.n .i64 (lc u w)])]),.n .i64 a,.n .i64 b] =
 (bif (decide (0≤(np:Int))) then (bif (decide ((np:Int)≤(np:Int))) then (bif (decide ((np:Int)≤1000000)) then (bif (inB b (np:Int).toNat) then (bif (inB b (np:Int).toNat) then (bif (gSt (hst N np ln lt lc a b (iz b) (io b) 1 (jz b) (jo b) (jb b)) (hst N np ln lt lc a b (iz b) (io b) 1 (jz b) (jo b) (jb b))) then (bif (zWQ N np ln lt lc a b ((iz b),(io b),1,(jz b),(jo b),(jb b))) then (bif (Nat.beq (jV N np ln lt lc a b ((iz b),(io b),1,(jz b),(jo b),(jb b))).1 0) then (bif (inB a (np:Int).toNat) then (bif (decide (((jV N np ln lt lc a b ((iz b),(io b),1,(jz b),(jo b),(jb b))).2.2.1 (a).toNat)=0)) then some (.v (.t [.a [.l [],.n .i64 0],.b false]),[])
 else (bif (inB a (np:Int).toNat) then (bif (gSt (hpa N np ln lt lc a b a ((jV N np ln lt lc a b ((iz b),(io b),1,(jz b),(jo b),(jb b))).2.1 (a).toNat) (fun v=>((jV N np ln lt lc a b ((iz b),(io b),1,(jz b),(jo b),(jb b))).2.1 v)) (fun v=>((jV N np ln lt lc a b ((iz b),(io b),1,(jz b),(jo b),(jb b))).2.2.1 v)) 1 (jb a)) (hpa N np ln lt lc a b a ((jV N np ln lt lc a b ((iz b),(io b),1,(jz b),(jo b),(jb b))).2.1 (a).toNat) (fun v=>((jV N np ln lt lc a b ((iz b),(io b),1,(jz b),(jo b),(jb b))).2.1 v)) (fun v=>((jV N np ln lt lc a b ((iz b),(io b),1,(jz b),(jo b),(jb b))).2.2.1 v)) 1 (jb a))) then (bif (zWK N np ln lt lc b (a,((jV N np ln lt lc a b ((iz b),(io b),1,(jz b),(jo b),(jb b))).2.1 (a).toNat),(fun v=>((jV N np ln lt lc a b ((iz b),(io b),1,(jz b),(jo b),(jb b))).2.1 v)),(fun v=>((jV N np ln lt lc a b ((iz b),(io b),1,(jz b),(jo b),(jb b))).2.2.1 v)),1,(jb a))) then (bif (Nat.beq (qUZ N np ln lt lc b (a,((jV N np ln lt lc a b ((iz b),(io b),1,(jz b),(jo b),(jb b))).2.1 (a).toNat),(fun v=>((jV N np ln lt lc a b ((iz b),(io b),1,(jz b),(jo b),(jb b))).2.1 v)),(fun v=>((jV N np ln lt lc a b ((iz b),(io b),1,(jz b),(jo b),(jb b))).2.2.1 v)),1,(jb a))).1 0) then some (.v (.t [.a [.lf (qUZ N np ln lt lc b (a,((jV N np ln lt lc a b ((iz b),(io b),1,(jz b),(jo b),(jb b))).2.1 (a).toNat),(fun v=>((jV N np ln lt lc a b ((iz b),(io b),1,(jz b),(jo b),(jb b))).2.1 v)),(fun v=>((jV N np ln lt lc a b ((iz b),(io b),1,(jz b),(jo b),(jb b))).2.2.1 v)),1,(jb a))).2.2.2.2.2.1 (fun v=>[.n .i64 ((qUZ N np ln lt lc b (a,((jV N np ln lt lc a b ((iz b),(io b),1,(jz b),(jo b),(jb b))).2.1 (a).toNat),(fun v=>((jV N np ln lt lc a b ((iz b),(io b),1,(jz b),(jo b),(jb b))).2.1 v)),(fun v=>((jV N np ln lt lc a b ((iz b),(io b),1,(jz b),(jo b),(jb b))).2.2.1 v)),1,(jb a))).2.2.2.2.2.2 v)]),.n .i64 (qUZ N np ln lt lc b (a,((jV N np ln lt lc a b ((iz b),(io b),1,(jz b),(jo b),(jb b))).2.1 (a).toNat),(fun v=>((jV N np ln lt lc a b ((iz b),(io b),1,(jz b),(jo b),(jb b))).2.1 v)),(fun v=>((jV N np ln lt lc a b ((iz b),(io b),1,(jz b),(jo b),(jb b))).2.2.1 v)),1,(jb a))).2.2.1],.b true]),[])
 else none)
 else none)
 else none)
 else none))
 else none)
 else none)
 else none)
 else none)
 else none)
 else none)
 else none)
 else none)
 else none):=by kernel_rfl
theorem jQH (N np:Nat) (ln:Nat→Nat) (lt lc:Nat→Nat→Int) (a b:Int) (a0 b0:Nat) (ea:a=(a0:Int)) (eb:b=(b0:Int)) (hN:N=NN) (hl:LOk np ln lt lc) (hs:LSym np ln lt lc) (ha:a0 < np) (hb:b0 < np):yY Try.prog 55 [.lf np (fun u=>[.lf (ln u) (fun w=>[.n .i64 (lt u w),.n .i64 (lc u w)])]),.n .i64 a,.n .i64 b] (bif shF np ln lt lc a b then .v (.t [.a [.lf (paT np ln lt lc a b).2.2.2.2.1 (fQ (paT np ln lt lc a b).2.2.2.2.2),.n .i64 ((seT np ln lt lc a b).1 a.toNat)],.b true]) else .v (.t [.a [.l [],.n .i64 0],.b false])):=by
 refine qG (N:=N) (LO:=qY (yVJ N np ln lt lc a b)) yV yX (yG (l:=[(65,o_bt),(67,o_ix)]) (m:=[(66,o_pu),(64,o_po)]) ⟨jJX,kQV,trivial⟩ ⟨kQZ,kQJ,trivial⟩) (fun p S hp => ?_) ?_
 ·refine qW (L:=qQ Tf 55) (l:=(yVJ N np ln lt lc a b)) (show AllP _ (yVJ N np ln lt lc a b) from ⟨?_,?_,trivial⟩) p S hp
  ·dsimp only;refine yZ (T:=Tf) (o:=(orst N np ln lt lc a b)) (f:=55) (LO:=(qY [([0,1,1,1,0,1,0,0,0,1,1,1,1,0,1],sumF (fun t:(Int × Int × Int × Int × (Nat→Int) × (Nat→Int) × Nat × (Nat→Int) × (Nat→Int) × (Nat→Int))=>(hsi N np ln lt lc a b t.1 t.2.1 t.2.2.1 t.2.2.2.1 t.2.2.2.2.1 t.2.2.2.2.2.1 t.2.2.2.2.2.2.1 t.2.2.2.2.2.2.2.1 t.2.2.2.2.2.2.2.2.1 t.2.2.2.2.2.2.2.2.2)) (fun σ=>(slI σ 55,bkC σ 10 0,bkC σ 10 1,bkC σ 10 2,rgI σ 19 0,rgI σ 19 1,rgN σ 30,rgI σ 30 0,rgI σ 30 1,rgI σ 30 2)) (fun t K=>(bif qJI N np ln lt lc t then kxsi N np ln lt lc a b K (qQG N np ln lt lc t) else none)))])) (p:=[0,0,1,1,1,1,0,1]) (oksi N np ln lt lc a b) ?_;intro t K r hr;obtain ⟨hg,hr⟩:=qZ hr
   skip
   exact (lwst K N np ln lt lc a b t hg).trans hr
  ·dsimp only;refine yZ (T:=Tf) (o:=(orst N np ln lt lc a b)) (f:=55) (LO:=qY []) (p:=[0,1,0,1,1,1,1,1,1,1,0,1]) jQ ?_;intro t K r hr;obtain ⟨hg,hr⟩:=qZ hr
   skip
   exact (lwpa K N np ln lt lc a b t hg).trans hr
 ·refine (jHQ N np ln lt lc a b).trans ?_;subst ea eb hN;have hnp:=hl.hnp;obtain ⟨s1,s2,s3⟩:=qGZ hl hs ha hb;simp only [toN,vYJ (show (0:Int)≤(np:Int) by omega),vYJ (show (np:Int)≤(np:Int) by omega),vYJ (show (np:Int)≤1000000 by omega),zU ha,zU hb,yQ,s1,s2,vYQ,Nat.beq_refl];rcases s3 with ⟨h1,h2⟩ | ⟨h1,h2,h3,h4,_⟩
  ·have h0:(jV NN np ln lt lc (a0:Int) (b0:Int) ((iz b0),(io b0),1,(jz b0),(jo b0),(jb b0))).2.2.1 a0=0:=by
    unfold shF at h1;rw [toN] at h1;unfold seT at h1
    simpa using h1
   rw [vYJ h0,h1]; rfl
  ·have h0:¬ (jV NN np ln lt lc (a0:Int) (b0:Int) ((iz b0),(io b0),1,(jz b0),(jo b0),(jb b0))).2.2.1 a0=0:=by
    unfold shF at h1;rw [toN] at h1;unfold seT at h1
    simpa using h1
   rw [vYY h0,show zWK NN np ln lt lc (b0:Int) ((a0:Int),((jV NN np ln lt lc (a0:Int) (b0:Int) ((iz b0),(io b0),1,(jz b0),(jo b0),(jb b0))).2.1 a0),(fun v=>((jV NN np ln lt lc (a0:Int) (b0:Int) ((iz b0),(io b0),1,(jz b0),(jo b0),(jb b0))).2.1 v)),(fun v=>((jV NN np ln lt lc (a0:Int) (b0:Int) ((iz b0),(io b0),1,(jz b0),(jo b0),(jb b0))).2.2.1 v)),1,(jb a0))=true from h2,
    show (qUZ NN np ln lt lc (b0:Int) ((a0:Int),((jV NN np ln lt lc (a0:Int) (b0:Int) ((iz b0),(io b0),1,(jz b0),(jo b0),(jb b0))).2.1 a0),(fun v=>((jV NN np ln lt lc (a0:Int) (b0:Int) ((iz b0),(io b0),1,(jz b0),(jo b0),(jb b0))).2.1 v)),(fun v=>((jV NN np ln lt lc (a0:Int) (b0:Int) ((iz b0),(io b0),1,(jz b0),(jo b0),(jb b0))).2.2.1 v)),1,(jb a0))).1=0 from h3,
    show (qUZ NN np ln lt lc (b0:Int) ((a0:Int),((jV NN np ln lt lc (a0:Int) (b0:Int) ((iz b0),(io b0),1,(jz b0),(jo b0),(jb b0))).2.1 a0),(fun v=>((jV NN np ln lt lc (a0:Int) (b0:Int) ((iz b0),(io b0),1,(jz b0),(jo b0),(jb b0))).2.1 v)),(fun v=>((jV NN np ln lt lc (a0:Int) (b0:Int) ((iz b0),(io b0),1,(jz b0),(jo b0),(jb b0))).2.2.1 v)),1,(jb a0))).2.2.1=(seT np ln lt lc a0 b0).1 a0 from h4]
   rw [h1];unfold paT;rw [toN];rfl
theorem jKC (np:Nat) (ln:Nat→Nat) (lt lc:Nat→Nat→Int) (a b:Int) (a0 b0:Nat) (ea:a=(a0:Int)) (eb:b=(b0:Int)) (hl:LOk np ln lt lc) (hs:LSym np ln lt lc) (ha:a0 < np) (hb:b0 < np):yY Try.prog 55 [.lf np (fun u=>[.lf (ln u) (fun w=>[.n .i64 (lt u w),.n .i64 (lc u w)])]),.n .i64 a,.n .i64 b] (.v (.t [.a [.lf (shN np ln lt lc a b) (fQ (shV np ln lt lc a b)),.n .i64 (shC np ln lt lc a b)],.b (shF np ln lt lc a b)])):=by
 have h:=jQH NN np ln lt lc a b a0 b0 ea eb rfl hl hs ha hb;unfold shN shC shV;cases hf:shF np ln lt lc a b with
 | true=>rw [hf] at h; exact h
 | false=>rw [hf] at h; exact qQE (Same.t (xs:=[_,_]) (ys:=[_,_]) ⟨Same.a (xs:=[_,_]) (ys:=[_,_]) ⟨Same.lf rfl,Same.refl _,trivial⟩,Same.refl _,trivial⟩) h
end Go.Proofs.Ytglkkhpdbfacfaa.Bm
namespace Go.Proofs.Ytglkkhpdbfacfaa.Bn
open Go.Rx Rt Go.Sx Go.RowKit Ba Bb Bc Bd Be Bf Bh Bg Bi Bj Bk Bl Bm
abbrev Lk:=(Nat→Nat) × (Nat→Nat→Int) × (Nat→Nat→Int)
def addN (l:Nat→Nat) (u:Nat):Nat→Nat:=fun x=>bif Nat.beq x u then l u + 1 else l x
def addV (l:Nat→Nat) (t:Nat→Nat→Int) (u:Nat) (y:Int):Nat→Nat→Int:=fun x w=>bif Nat.beq x u then (bif Nat.beq w (l u) then y else t u w) else t x w
def addL (s:Lk) (u:Nat) (y c:Int):Lk:=(addN s.1 u,addV s.1 s.2.1 u y,addV s.1 s.2.2 u c)
def HasL (s:Lk) (x:Nat) (y c:Int):Prop:=∃ w,w < s.1 x∧s.2.1 x w=y∧s.2.2 x w=c
theorem yJF {s:Lk} {u x:Nat} {y0 c0 y c:Int}:HasL (addL s u y0 c0) x y c ↔ HasL s x y c ∨ (x=u∧y=y0∧c=c0):=by
 unfold HasL addL addN addV;by_cases e:x=u
 ·subst e;simp only [Nat.beq_refl,vYQ,true_and];refine ⟨fun ⟨w,h1,h2,h3⟩ => ?_,fun h => ?_⟩
  ·by_cases e:w=s.1 x
   ·subst e; simp only [Nat.beq_refl,vYQ] at h2 h3; exact .inr ⟨h2.symm,h3.symm⟩
   ·simp only [uH,vYY e,vYZ] at h2 h3; exact .inl ⟨w,by omega,h2,h3⟩
  ·rcases h with ⟨w,h1,h2,h3⟩ | ⟨rfl,rfl⟩
   ·refine ⟨w,by omega,?_,?_⟩ <;> simp only [uH,vYY (show ¬ w=s.1 x by omega),vYZ] <;> assumption
   ·exact ⟨s.1 x,by omega,by simp only [Nat.beq_refl,vYQ],by simp only [Nat.beq_refl,vYQ]⟩
 ·simp only [uH,vYY e,vYZ,false_and,or_false];simp only [e,false_and,or_false]
theorem yHL {s:Lk} {u:Nat} {y c:Int} {k:Nat} (h:∀ x,s.1 x≤k):∀ x,(addL s u y c).1 x≤k + 1:=fun x=>by
 have h1:=h x; have h2:=h u;show (bif Nat.beq x u then s.1 u + 1 else s.1 x)≤k + 1;cases Nat.beq x u <;> simp only [vYQ,vYZ] <;> omega
def nxL (g:Gr) (m:Int) (i:Nat) (s:Lk):Lk:=bif usB (g.ed i).s m then addL (addL s (g.ed i).u.toNat (g.ed i).v (g.ed i).c) (g.ed i).v.toNat (g.ed i).u (g.ed i).c else s
def lkO (g:Gr) (m:Int):Lk:=qUW (nxL g m) g.ne 0 (fun _=>0,fun _ _=>0,fun _ _=>0)
def Jn (g:Gr) (m:Int) (k:Nat) (x:Nat) (y c:Int):Prop:=∃ e,e < k∧usB (g.ed e).s m=true∧(g.ed e).c=c∧(((g.ed e).u.toNat=x∧(g.ed e).v=y) ∨ ((g.ed e).v.toNat=x∧(g.ed e).u=y))
theorem yYI {g:Gr} {m:Int} {i:Nat} {s:Lk} (h:(∀ x,s.1 x≤2 * i)∧∀ x y c,HasL s x y c ↔ Jn g m i x y c):(∀ x,(nxL g m i s).1 x≤2 * (i + 1))∧∀ x y c,HasL (nxL g m i s) x y c ↔ Jn g m (i + 1) x y c:=by
 unfold nxL;cases hu:usB (g.ed i).s m with
 | false =>
  simp only [vYZ];refine ⟨fun x=>by have:=h.1 x; omega,fun x y c=>(h.2 x y c).trans ⟨fun ⟨e,h1,h2⟩=>⟨e,by omega,h2⟩,fun ⟨e,h1,h2⟩ => ?_⟩⟩;by_cases ei:e=i
  ·subst ei; rw [hu] at h2; cases h2.1
  ·exact ⟨e,by omega,h2⟩
 | true =>
  simp only [vYQ];refine ⟨fun x=>by have:=yHL (u:=(g.ed i).v.toNat) (y:=(g.ed i).u) (c:=(g.ed i).c) (yHL (u:=(g.ed i).u.toNat) (y:=(g.ed i).v) (c:=(g.ed i).c) h.1) x; omega,fun x y c => ?_⟩;rw [yJF,yJF,h.2];refine ⟨fun hh => ?_,fun ⟨e,h1,h2,h3,h4⟩ => ?_⟩
  ·rcases hh with (⟨e,h1,h2⟩ | ⟨e1,e2,e3⟩) | ⟨e1,e2,e3⟩
   ·exact ⟨e,by omega,h2⟩
   ·exact ⟨i,by omega,hu,e3.symm,.inl ⟨e1.symm,e2.symm⟩⟩
   ·exact ⟨i,by omega,hu,e3.symm,.inr ⟨e1.symm,e2.symm⟩⟩
  ·by_cases ei:e=i
   ·subst ei;rcases h4 with ⟨a1,a2⟩ | ⟨a1,a2⟩
    ·exact .inl (.inr ⟨a1.symm,a2.symm,h3.symm⟩)
    ·exact .inr ⟨a1.symm,a2.symm,h3.symm⟩
   ·exact .inl (.inl ⟨e,by omega,h2,h3,h4⟩)
theorem jZ {σ τ:Type} {dec:Int × τ→(Int × τ) ⊕ (Nat × σ)} {nx:Nat→τ→τ} {Q:Nat→τ→Prop} {out:τ→σ} {c:Nat} (h1:∀ i s,i < c→Q i s→dec ((i:Int),s)=.inl (((i + 1:Nat):Int),nx i s)) (hq:∀ i s,i < c→Q i s→Q (i + 1) (nx i s)) (h2:∀ s,Q c s→dec ((c:Int),s)=.inr (0,out s)) :
  ∀ (d i N:Nat) (s:τ),i + d=c→d < N→Q i s→qU dec N ((i:Int),s)=some (0,out (qUW nx d i s))
 | _,_,0,_,_,h,_=>by omega
 | 0,i,N + 1,s,hi,hN,hs=>by
  obtain rfl:i=c:=by omega
  rw [qU,h2 s hs]; rfl
 | d + 1,i,N + 1,s,hi,hN,hs=>by
  rw [qU,h1 i s (by omega) hs];exact jZ h1 hq h2 d (i + 1) N (nx i s) (by omega) (by omega) (hq i s (by omega) hs)
theorem qGC (g:Gr) (m:Int):(∀ x,(lkO g m).1 x≤2 * g.ne)∧∀ x y c,HasL (lkO g m) x y c ↔ Jn g m g.ne x y c :=
 jG (Q:=fun (i:Nat) (s:Lk)=>(∀ x,s.1 x≤2 * i)∧∀ x y c,HasL s x y c ↔ Jn g m i x y c) (c:=g.ne) (nx:=nxL g m) (fun i s _ h=>yYI h) g.ne 0 _ (by omega)
  ⟨fun _=>Nat.le_refl _,fun x y c=>⟨fun ⟨w,h,_⟩=>absurd h (Nat.not_lt_zero w),fun ⟨e,h,_⟩=>absurd h (Nat.not_lt_zero e)⟩⟩
theorem jU {g:Gr} (h:wfB g=true) {i:Nat} (_:i < g.ne):0≤(g.ed i).u∧(g.ed i).u < (g.ed i).v∧(g.ed i).v < (g.np:Int)∧0≤(g.ed i).c∧(g.ed i).c≤1099511627776:=by
 unfold wfB at h;simp only [vQJ] at h
 have:=allN_iff.1 h.2.2 i (by omega) (by omega)
 unfold okE isP at this;simp only [vQJ,Bool.not_eq_true',decide_eq_true_eq,decide_eq_false_iff_not] at this;omega
theorem yKL {g:Gr} {m:Int} (h:wfB g=true) {i:Nat} (hi:i < g.ne) (_:g.ne≤8192) {s:Lk} (hs:∀ x,s.1 x≤2 * i):dclk g m ((i:Int),s)=.inl (((i + 1:Nat):Int),nxL g m i s):=by
 obtain ⟨e1,e2,e3,e4,e5⟩:=jU h hi;obtain ⟨ln,lt,lc⟩:=s;have hU:inB (g.ed i).u g.np=true:=qZG (y:=(g.ed i).u.toNat) (by omega) (by omega);have hV:inB (g.ed i).v g.np=true:=qZG (y:=(g.ed i).v.toNat) (by omega) (by omega);have b1:=hs (g.ed i).u.toNat;have b2:=hs (g.ed i).v.toNat;dsimp only at b1 b2;have hb:decide ((bif (Nat.beq (g.ed i).v.toNat (g.ed i).u.toNat) then ((ln (g.ed i).u.toNat) + 1) else (ln (g.ed i).v.toNat)) + 1≤1000000)=true:=by
  cases Nat.beq (g.ed i).v.toNat (g.ed i).u.toNat <;> simp <;> omega
 dsimp only [dclk];unfold nxL;simp only [toN,vYJ (show (i:Int) < (g.ne:Int) by omega),zU hi,kW (C:=cus) (t:=_) trivial,uK (show i < 1000000 by omega),hU,hV,hb,vYJ (show ln (g.ed i).u.toNat + 1≤1000000 by omega),Nat.beq_refl,vYQ];cases usB (g.ed i).s m <;> rfl
theorem yGH {g:Gr} {m:Int} {s:Lk}:dclk g m ((g.ne:Int),s)=.inr (0,(g.ne:Int),s):=by
 obtain ⟨ln,lt,lc⟩:=s;dsimp only [dclk];rw [vYY (by omega)]; rfl
theorem kZX {g:Gr} {m:Int} (h:wfB g=true) (hn:g.ne≤8192):qU (dclk g m) (g.ne + 1) (0,(fun _=>0),(fun _ _=>0),(fun _ _=>0))=some (0,(g.ne:Int),lkO g m) :=
 jZ (dec:=dclk g m) (nx:=nxL g m) (Q:=fun (i:Nat) (s:Lk)=>(∀ x,s.1 x≤2 * i)∧∀ x y c,HasL s x y c ↔ Jn g m i x y c) (out:=fun s=>((g.ne:Int),s)) (c:=g.ne) (fun i s hi hq=>yKL h hi hn hq.1) (fun i s _ hq=>yYI hq) (fun s _=>yGH) g.ne 0 (g.ne + 1) _ (by omega) (by omega)
  ⟨fun _=>Nat.le_refl _,fun x y c=>⟨fun ⟨w,h,_⟩=>absurd h (Nat.not_lt_zero w),fun ⟨e,h,_⟩=>absurd h (Nat.not_lt_zero e)⟩⟩
theorem qKJ {g:Gr} {m:Int} (h:wfB g=true) (hp:g.np≤100) (_:g.ne≤500):LOk g.np (lkO g m).1 (lkO g m).2.1 (lkO g m).2.2∧LSym g.np (lkO g m).1 (lkO g m).2.1 (lkO g m).2.2:=by
 obtain ⟨k1,k2⟩:=qGC g m;have key:∀ u w,w < (lkO g m).1 u→Jn g m g.ne u ((lkO g m).2.1 u w) ((lkO g m).2.2 u w):=fun u w hw=>(k2 u _ _).1 ⟨w,hw,rfl,rfl⟩
 refine ⟨⟨hp,fun u _=>by have:=k1 u; omega,fun u w _ hw => ?_,fun u w _ hw => ?_⟩,fun u w y hu hw hy => ?_⟩
 ·obtain ⟨e,he,_,_,h4⟩:=key u w hw
  have:=jU h he
  rcases h4 with h4 | h4 <;> omega
 ·obtain ⟨e,he,_,h3,_⟩:=key u w hw
  have:=jU h he
  omega
 ·obtain ⟨e,he,h2,h3,h4⟩:=key u w hw
  have:=jU h he
  rw [hy] at h4;obtain ⟨w',g1,g2,g3⟩:=(k2 y (u:Int) ((lkO g m).2.2 u w)).2 ⟨e,he,h2,h3,by
   rcases h4 with h4 | h4
   ·exact .inr ⟨by omega,by omega⟩
   ·exact .inl ⟨by omega,by omega⟩⟩
  exact ⟨w',g1,g2,g3⟩
noncomputable def lslk (N:Nat) (g:Gr) (m:Int):List (List Nat × yK):=[([0,1,0,1,1],sumF (fun t:(Int × (Nat→Nat) × (Nat→Nat→Int) × (Nat→Nat→Int))=>(hlk N g m t.1 t.2.1 t.2.2.1 t.2.2.2)) (fun σ=>(slI σ 15,nsN σ 11,nsI σ 11 0,nsI σ 11 1)) (fun t K=>(bif yQX N g m t then kxlk N g m K (zZH N g m t) else none)))]
set_option maxRecDepth 100000 in
theorem pxlk (N:Nat) (g:Gr) (m:Int):qQK Tf (orlk N g m) (qY (lslk N g m)) N 56 [.a (gP g),.n .i64 m] =
 (bif (decide (0≤(g.np:Int))) then (bif (decide ((g.np:Int)≤(g.np:Int))) then (bif (decide ((g.np:Int)≤1000000)) then (bif (gSt (hlk N g m 0 (fun _=>0) (fun u w=>0) (fun u w=>0)) (hlk N g m 0 (fun _=>0) (fun u w=>0) (fun u w=>0))) then (bif (yQX N g m (0,(fun _=>0),(fun u w=>0),(fun u w=>0))) then (bif (Nat.beq (zZH N g m (0,(fun _=>0),(fun u w=>0),(fun u w=>0))).1 0) then some (.ow 102 1 (.fo (g.np:Int).toNat (fun u=>[.lf ((zZH N g m (0,(fun _=>0),(fun u w=>0),(fun u w=>0))).2.2.1 u) (fun w=>[.n .i64 ((zZH N g m (0,(fun _=>0),(fun u w=>0),(fun u w=>0))).2.2.2.1 u w),.n .i64 ((zZH N g m (0,(fun _=>0),(fun u w=>0),(fun u w=>0))).2.2.2.2 u w)])])),[])
 else none)
 else none)
 else none)
 else none)
 else none)
 else none):=by kernel_rfl
theorem jUK (N:Nat) (g:Gr) (m:Int) (hN:N=g.ne + 1) (h:wfB g=true) (hp:g.np≤1000000) (hn:g.ne≤8192):yY Try.prog 56 [.a (gP g),.n .i64 m] (.ow 102 1 (.fo g.np (fun u=>[.lf ((lkO g m).1 u) (tcP ((lkO g m).2.1 u) ((lkO g m).2.2 u))]))):=by
 refine qG (N:=N) (LO:=qY (lslk N g m)) yV yX (yG (l:=[(69,o_us)]) (m:=[]) ⟨jHF,trivial⟩ trivial) (fun p S hp => ?_) ?_
 ·refine qW (L:=qQ Tf 56) (l:=(lslk N g m)) (show AllP _ (lslk N g m) from ⟨?_,trivial⟩) p S hp
  ·dsimp only;refine yZ (T:=Tf) (o:=(orlk N g m)) (f:=56) (LO:=qY []) (p:=[0,1,0,1,1]) jQ ?_;intro t K r hr;obtain ⟨hg,hr⟩:=qZ hr
   skip
   exact (lwlk K N g m t hg).trans hr
 ·refine (pxlk N g m).trans ?_;subst hN;have hi:=kZX (m:=m) h hn;have ho:zZH (g.ne + 1) g m (0,(fun _=>0),(fun u w=>0),(fun u w=>0))=(0,(g.ne:Int),lkO g m):=by unfold zZH; rw [hi]; rfl
  have hk:yQX (g.ne + 1) g m (0,(fun _=>0),(fun u w=>0),(fun u w=>0))=true:=by unfold yQX; rw [hi]; rfl
  simp only [vYJ (show (0:Int)≤(g.np:Int) by omega),vYJ (show (g.np:Int)≤(g.np:Int) by omega),vYJ (show (g.np:Int)≤1000000 by omega),yQ,hk,ho,toN,vYQ,Nat.beq_refl];rfl
end Go.Proofs.Ytglkkhpdbfacfaa.Bn
namespace Go.Proofs.Ytglkkhpdbfacfaa.Bo
open Go.Rx Rt Go.Sx Go.RowKit Ba Bb Bc Bd Be Bf Bh Bg Bi Bj Bk Bl Bm Bn
def clk:Gr × Int→Prop:=fun t=>match t with | (g,_)=>wfB g=true∧g.np≤1000000∧g.ne≤8192
def elk:Gr × Int→List PV:=fun t=>match t with | (g,m)=>[.a (gP g),.n .i64 m]
noncomputable def rlk:Gr × Int→Ret:=fun t=>match t with | (g,m)=>.ow 102 1 (.fo g.np (fun u=>[.lf ((lkO g m).1 u) (tcP ((lkO g m).2.1 u) ((lkO g m).2.2 u))]))
def dlk:List PV→Gr × Int:=fun ps=>match ps with
 | [.a [.lf np pt,.lf ne ed],.n _ b]=>(⟨np,pt,ne,unFE ed⟩,b)
 | _=>(⟨0,fun _=>[],0,fun _=>unE []⟩,0)
noncomputable def o_lk:List PV→Option (Bool × Ret):=o_fm dlk clk elk rlk
theorem jXI:qQY Try.prog 56 o_lk:=qQF fun t h=>by
 obtain ⟨g,m⟩:=t;exact jUK (g.ne + 1) g m rfl h.1 h.2.1 h.2.2
def ladP (ln:Nat→Nat) (lt lc:Nat→Nat→Int):Nat→List PV:=fun u=>[.lf (ln u) (tcP (lt u) (lc u))]
def unLn (f:Nat→List PV):Nat→Nat:=fun u=>match f u with
 | [.lf n _]=>n
 | _=>0
def unLc (k:Nat) (f:Nat→List PV):Nat→Nat→Int:=fun u w=>match f u with
 | [.lf _ h]=>unq k h w
 | _=>0
def csh:Nat × (Nat→Nat) × (Nat→Nat→Int) × (Nat→Nat→Int) × Int × Int→Prop:=fun t=>match t with | (np,ln,lt,lc,a,b)=>LOk np ln lt lc∧LSym np ln lt lc∧(0≤a∧a < (np:Int))∧0≤b∧b < (np:Int)
def esh:Nat × (Nat→Nat) × (Nat→Nat→Int) × (Nat→Nat→Int) × Int × Int→List PV:=fun t=>match t with | (np,ln,lt,lc,a,b)=>[.lf np (ladP ln lt lc),.n .i64 a,.n .i64 b]
noncomputable def rsh:Nat × (Nat→Nat) × (Nat→Nat→Int) × (Nat→Nat→Int) × Int × Int→Ret:=fun t=>match t with | (np,ln,lt,lc,a,b)=>.v (.t [.a [.lf (shN np ln lt lc a b) (fQ (shV np ln lt lc a b)),.n .i64 (shC np ln lt lc a b)],.b (shF np ln lt lc a b)])
def dsh:List PV→Nat × (Nat→Nat) × (Nat→Nat→Int) × (Nat→Nat→Int) × Int × Int:=fun ps=>match ps with
 | [.lf n f,.n _ a,.n _ b]=>(n,unLn f,unLc 0 f,unLc 1 f,a,b)
 | _=>(0,fun _=>0,fun _ _=>0,fun _ _=>0,0,0)
noncomputable def o_sh:List PV→Option (Bool × Ret):=o_fm dsh csh esh rsh
theorem jHI:qQY Try.prog 55 o_sh:=qQF fun t h=>by
 obtain ⟨np,ln,lt,lc,a,b⟩:=t;exact by
  have h:LOk np ln lt lc∧LSym np ln lt lc∧(0≤a∧a < (np:Int))∧0≤b∧b < (np:Int):=h;exact jKC np ln lt lc a b a.toNat b.toNat (by omega) (by omega) h.1 h.2.1 (by omega) (by omega)
def stQ (g:Gr) (a b m:Int):Bool:=wfB g && (isP g a && (isP g b && (!decide (m < 0) && !decide (2 < m))))
noncomputable def stF (g:Gr) (a b m:Int):Bool:=bif stQ g a b m then shF g.np (lkO g m).1 (lkO g m).2.1 (lkO g m).2.2 a b else false
noncomputable def stC (g:Gr) (a b m:Int):Int:=bif stQ g a b m then shC g.np (lkO g m).1 (lkO g m).2.1 (lkO g m).2.2 a b else 0
noncomputable def stN (g:Gr) (a b m:Int):Nat:=bif stQ g a b m then shN g.np (lkO g m).1 (lkO g m).2.1 (lkO g m).2.2 a b else 0
noncomputable def stV (g:Gr) (a b m:Int):Nat→Int:=shV g.np (lkO g m).1 (lkO g m).2.1 (lkO g m).2.2 a b
theorem qUV {g:Gr} {v:Int} (h:isP g v=true):0≤v∧v < (g.np:Int):=by
 unfold isP at h
 simpa using h
noncomputable def jHA (g:Gr) (a b m:Int):OrS:=orS [(53,o_wf),(54,o_ip),(56,o_lk),(55,o_sh)] []
noncomputable def yVY (g:Gr) (a b m:Int):List (List Nat × yK):=[]
set_option maxRecDepth 100000 in
theorem jGL (g:Gr) (a b m:Int):qQK Tf (jHA g a b m) (qY (yVY g a b m)) 60 37 [.a (gP g),.n .i64 a,.n .i64 b,.n .i64 m] =
 (bif (gF1 cwf ewf g) then (bif (wfB g) then (bif (gF1 cip eip (g,a)) then (bif (isP g a) then (bif (gF1 cip eip (g,b)) then (bif (isP g b) then (bif (decide (m < 0)) then some (.v (.t [.a [.l [],.n .i64 0],.b false]),[])
 else (bif (decide (2 < m)) then some (.v (.t [.a [.l [],.n .i64 0],.b false]),[])
 else (bif (gF1 clk elk (g,m)) then (bif (gF1 csh esh (g.np,((lkO g m).1),((lkO g m).2.1),((lkO g m).2.2),a,b)) then (bif (shF g.np ((lkO g m).1) ((lkO g m).2.1) ((lkO g m).2.2) a b) then some (.v (.t [.a [.lf (shN g.np ((lkO g m).1) ((lkO g m).2.1) ((lkO g m).2.2) a b) (fun v=>[.n .i64 ((shV g.np ((lkO g m).1) ((lkO g m).2.1) ((lkO g m).2.2) a b) v)]),.n .i64 (shC g.np ((lkO g m).1) ((lkO g m).2.1) ((lkO g m).2.2) a b)],.b true]),[])
 else some (.v (.t [.a [.lf (shN g.np ((lkO g m).1) ((lkO g m).2.1) ((lkO g m).2.2) a b) (fun v=>[.n .i64 ((shV g.np ((lkO g m).1) ((lkO g m).2.1) ((lkO g m).2.2) a b) v)]),.n .i64 (shC g.np ((lkO g m).1) ((lkO g m).2.1) ((lkO g m).2.2) a b)],.b false]),[]))
 else none)
 else none)))
 else some (.v (.t [.a [.l [],.n .i64 0],.b false]),[]))
 else none)
 else some (.v (.t [.a [.l [],.n .i64 0],.b false]),[]))
 else none)
 else some (.v (.t [.a [.l [],.n .i64 0],.b false]),[]))
 else none):=by kernel_rfl
theorem jQG (g:Gr) (a b m:Int) (hp:g.np≤100) (hn:g.ne≤500):yY Try.prog 37 [.a (gP g),.n .i64 a,.n .i64 b,.n .i64 m] (bif stQ g a b m then .v (.t [.a [.lf (shN g.np (lkO g m).1 (lkO g m).2.1 (lkO g m).2.2 a b) (fQ (shV g.np (lkO g m).1 (lkO g m).2.1 (lkO g m).2.2 a b)),.n .i64 (shC g.np (lkO g m).1 (lkO g m).2.1 (lkO g m).2.2 a b)],.b (shF g.np (lkO g m).1 (lkO g m).2.1 (lkO g m).2.2 a b)]) else .v (.t [.a [.l [],.n .i64 0],.b false])):=by
 refine qG (N:=60) (LO:=qY (yVY g a b m)) yV yX (yG (l:=[(53,o_wf),(54,o_ip),(56,o_lk),(55,o_sh)]) (m:=[]) ⟨jHE,jWQ,jXI,jHI,trivial⟩ trivial) (fun p S hp => ?_) ?_
 ·refine qW (L:=qQ Tf 37) (l:=(yVY g a b m)) (show AllP _ (yVY g a b m) from trivial) p S hp
 ·refine (jGL g a b m).trans ?_;unfold stQ;simp only [kW (C:=cwf) (t:=g) trivial,kW (C:=cip) (t:=(g,a)) trivial,kW (C:=cip) (t:=(g,b)) trivial,vYQ];cases hw:wfB g with
  | false=>rfl
  | true =>
   cases ha:isP g a with
   | false=>rfl
   | true =>
    cases hb:isP g b with
    | false=>rfl
    | true =>
     cases decide (m < 0) with
     | true=>rfl
     | false =>
      cases decide (2 < m) with
      | true=>rfl
      | false =>
       have hl:=qKJ (m:=m) hw hp hn;rw [kW (C:=clk) (t:=(g,m)) ⟨hw,by omega,by omega⟩,kW (C:=csh) (t:=(g.np,(lkO g m).1,(lkO g m).2.1,(lkO g m).2.2,a,b)) ⟨hl.1,hl.2,qUV ha,qUV hb⟩];cases hf:shF g.np (lkO g m).1 (lkO g m).2.1 (lkO g m).2.2 a b <;> simp only [hf,vYQ,vYZ] <;> rfl
theorem jKB (g:Gr) (a b m:Int) (hp:g.np≤100) (hn:g.ne≤500):yY Try.prog 37 [.a (gP g),.n .i64 a,.n .i64 b,.n .i64 m] (.v (.t [.a [.lf (stN g a b m) (fQ (stV g a b m)),.n .i64 (stC g a b m)],.b (stF g a b m)])):=by
 have h:=jQG g a b m hp hn;unfold stN stC stV stF;cases hf:stQ g a b m with
 | true=>rw [hf] at h; exact h
 | false=>rw [hf] at h; exact qQE (Same.t (xs:=[_,_]) (ys:=[_,_]) ⟨Same.a (xs:=[_,_]) (ys:=[_,_]) ⟨Same.lf rfl,Same.refl _,trivial⟩,Same.refl _,trivial⟩) h
def cst:Gr × Int × Int × Int→Prop:=fun t=>match t with | (g,_,_,_)=>g.np≤100∧g.ne≤500
def est:Gr × Int × Int × Int→List PV:=fun t=>match t with | (g,a,b,m)=>[.a (gP g),.n .i64 a,.n .i64 b,.n .i64 m]
noncomputable def rst:Gr × Int × Int × Int→Ret:=fun t=>match t with | (g,a,b,m)=>.v (.t [.a [.lf (stN g a b m) (fQ (stV g a b m)),.n .i64 (stC g a b m)],.b (stF g a b m)])
def dst:List PV→Gr × Int × Int × Int:=fun ps=>match ps with
 | [.a [.lf np pt,.lf ne ed],.n _ a,.n _ b,.n _ m]=>(⟨np,pt,ne,unFE ed⟩,a,b,m)
 | _=>(⟨0,fun _=>[],0,fun _=>unE []⟩,0,0,0)
noncomputable def o_st:List PV→Option (Bool × Ret):=o_fm dst cst est rst
theorem jXW:qQY Try.prog 37 o_st:=qQF fun t h=>by
 obtain ⟨g,a,b,m⟩:=t;exact jKB g a b m h.1 h.2
end Go.Proofs.Ytglkkhpdbfacfaa.Bo
namespace Go.Proofs.Ytglkkhpdbfacfaa.Bp
open Go.Rx Rt Go.Sx Go.RowKit Ba Bb Bo
def zN:Nat→Int:=fun _=>0
noncomputable def orl0 (N:Nat) (g:Gr) (b m:Int):OrS:=orS [(48,o_ru),(51,o_ls)] []
noncomputable def hl0 (N:Nat) (g:Gr) (b m:Int) (i:Int) (oc:Nat→Int) (oe:Nat→Int):St:=⟨[(1,.v (.n .i64 b)),(2,.v (.n .i64 m)),(3,.p 3 0),(7,.o 18),(8,.v (.n .i64 i))],[(3,.blk [.v (.lf g.np g.pt),.v (.lf g.ne (fE g.ed))]),(18,.reg 76 2 (.fo (g.np:Int).toNat (fun v=>[.n .i64 (oc v),.n .i64 (oe v)])))]⟩
set_option maxRecDepth 100000 in
theorem rdl0 (G:St→Option (Ret × Mem)) (K:Cont) (N:Nat) (g:Gr) (b m:Int) (i:Int) (oc:Nat→Int) (oe:Nat→Int):zH (N + 10) (cxS Tf (orl0 N g b m) (N + 10) 33 (ntmF Tf 33)) (evX Tf (orl0 N g b m) (N + 10) 33 (ntmF Tf 33)) (qY []) (qQ Tf 33 [0,1,0,1,1]) [0,1,0,1,1] (Tf.hint 33 (qJ (qQ Tf 33 [0,1,0,1,1]))) K G (hl0 N g b m i oc oe) =
 (bif (decide (i < ((g.np:Int).toNat:Int))) then (bif (inB i (g.np:Int).toNat) then (G (hl0 N g b m (vYX .i64 (i + 1)) (fun v=>(bif (Nat.beq v (i).toNat) then (-1) else (oc v))) (fun v=>(bif (Nat.beq v (i).toNat) then (oe (i).toNat) else (oe v)))))
 else none)
 else (K (.exit 0) ⟨[(1,.v (.n .i64 b)),(2,.v (.n .i64 m)),(3,.p 3 0),(7,.o 18)],[(3,.blk [.v (.lf g.np g.pt),.v (.lf g.ne (fE g.ed))]),(18,.reg 76 2 (.fo (g.np:Int).toNat (fun v=>[.n .i64 (oc v),.n .i64 (oe v)])))]⟩)):=by kernel_rfl
noncomputable def dcl0 (g:Gr):(Int × (Nat→Int) × (Nat→Int))→(Int × (Nat→Int) × (Nat→Int)) ⊕ (Nat × Int × (Nat→Int) × (Nat→Int)):=fun t=>match t with | (i,oc,oe)=>(bif (decide (i < ((g.np:Int).toNat:Int))) then (bif (inB i (g.np:Int).toNat) then (.inl ((vYX .i64 (i + 1)),(fun v=>(bif (Nat.beq v (i).toNat) then (-1) else (oc v))),(fun v=>(bif (Nat.beq v (i).toNat) then (oe (i).toNat) else (oe v))))) else (.inr (1,(i,oc,oe)))) else (.inr (0,(i,oc,oe))))
noncomputable def kxl0 (N:Nat) (g:Gr) (b m:Int) (K:Cont) (w9:Nat × Int × (Nat→Int) × (Nat→Int)):Option (Ret × Mem):=bif Nat.beq w9.1 0 then (K (.exit 0) ⟨[(1,.v (.n .i64 b)),(2,.v (.n .i64 m)),(3,.p 3 0),(7,.o 18)],[(3,.blk [.v (.lf g.np g.pt),.v (.lf g.ne (fE g.ed))]),(18,.reg 76 2 (.fo (g.np:Int).toNat (fun v=>[.n .i64 (w9.2.2.1 v),.n .i64 (w9.2.2.2 v)])))]⟩) else none
theorem wll0 (K:Cont) (N:Nat) (g:Gr) (b m:Int):∀ n9 (t:(Int × (Nat→Int) × (Nat→Int))),LFX (N + 10) (cxS Tf (orl0 N g b m) (N + 10) 33 (ntmF Tf 33)) (evX Tf (orl0 N g b m) (N + 10) 33 (ntmF Tf 33)) (qY []) (qQ Tf 33 [0,1,0,1,1]) [0,1,0,1,1] (Tf.hint 33 (qJ (qQ Tf 33 [0,1,0,1,1]))) K n9 (hl0 N g b m t.1 t.2.1 t.2.2)=(qU (dcl0 g) n9 t).bind (kxl0 N g b m K):=fun n9 t=>by
 refine kG (L:=LFX (N + 10) (cxS Tf (orl0 N g b m) (N + 10) 33 (ntmF Tf 33)) (evX Tf (orl0 N g b m) (N + 10) 33 (ntmF Tf 33)) (qY []) (qQ Tf 33 [0,1,0,1,1]) [0,1,0,1,1] (Tf.hint 33 (qJ (qQ Tf 33 [0,1,0,1,1]))) K) (stp:=zH (N + 10) (cxS Tf (orl0 N g b m) (N + 10) 33 (ntmF Tf 33)) (evX Tf (orl0 N g b m) (N + 10) 33 (ntmF Tf 33)) (qY []) (qQ Tf 33 [0,1,0,1,1]) [0,1,0,1,1] (Tf.hint 33 (qJ (qQ Tf 33 [0,1,0,1,1]))) K) (fun _ _=>rfl) (fun _=>rfl) (fun t=>hl0 N g b m t.1 t.2.1 t.2.2) (fun _=>True) (dcl0 g) (kxl0 N g b m K) (fun G t _ => ?_) (fun _ _ _ _=>trivial) n9 t trivial;obtain ⟨i,oc,oe⟩:=t;refine (rdl0 G K N g b m i oc oe).trans ?_;dsimp only [dcl0];cases (decide (i < ((g.np:Int).toNat:Int)))
 ·rfl
 ·cases (inB i (g.np:Int).toNat)
  ·rfl
  ·rfl
noncomputable def zWX (N:Nat) (g:Gr) (t:(Int × (Nat→Int) × (Nat→Int))):Bool:=(qU (dcl0 g) (N + 10) t).isSome
noncomputable def qQU (N:Nat) (g:Gr) (t:(Int × (Nat→Int) × (Nat→Int))):Nat × Int × (Nat→Int) × (Nat→Int):=(qU (dcl0 g) (N + 10) t).getD (99,t)
theorem lwl0 (K:Cont) (N:Nat) (g:Gr) (b m:Int) (t:(Int × (Nat→Int) × (Nat→Int))) (hg:zWX N g t=true):LFX (N + 10) (cxS Tf (orl0 N g b m) (N + 10) 33 (ntmF Tf 33)) (evX Tf (orl0 N g b m) (N + 10) 33 (ntmF Tf 33)) (qY []) (qQ Tf 33 [0,1,0,1,1]) [0,1,0,1,1] (Tf.hint 33 (qJ (qQ Tf 33 [0,1,0,1,1]))) K (N + 10) (hl0 N g b m t.1 t.2.1 t.2.2)=kxl0 N g b m K (qQU N g t):=by
 refine (wll0 K N g b m (N + 10) t).trans ?_;unfold zWX at hg;unfold qQU;cases h:qU (dcl0 g) (N + 10) t with
 | none=>rw [h] at hg; cases hg
 | some y=>rfl
noncomputable def hl2 (N:Nat) (g:Gr) (b m:Int) (i:Int) (ag:Bool) (oc:Nat→Int) (oe:Nat→Int):St:=⟨[(2,.v (.n .i64 m)),(3,.p 3 0),(7,.o 18),(9,.v (.b (ag))),(10,.v (.n .i64 i))],[(3,.blk [.v (.lf g.np g.pt),.v (.lf g.ne (fE g.ed))]),(18,.reg 76 2 (.fo (g.np:Int).toNat (fun v=>[.n .i64 (oc v),.n .i64 (oe v)])))]⟩
set_option maxRecDepth 100000 in
theorem rdl2 (G:St→Option (Ret × Mem)) (K:Cont) (N:Nat) (g:Gr) (b m:Int) (i:Int) (ag:Bool) (oc:Nat→Int) (oe:Nat→Int):zH (N + 10) (cxS Tf (orl0 N g b m) (N + 10) 33 (ntmF Tf 33)) (evX Tf (orl0 N g b m) (N + 10) 33 (ntmF Tf 33)) (qY []) (qQ Tf 33 [0,1,1,0,1,0,0,1,0,1,1,1,1]) [0,1,1,0,1,0,0,1,0,1,1,1,1] (Tf.hint 33 (qJ (qQ Tf 33 [0,1,1,0,1,0,0,1,0,1,1,1,1]))) K G (hl2 N g b m i ag oc oe) =
 (bif (decide (i < (g.ne:Int))) then (bif (inB i g.ne) then (bif (gF1 cru eru ((g.ed (i).toNat),m)) then (bif (usB (g.ed (i).toNat).s m) then (bif (inB ((g.ed (i).toNat).u) (g.np:Int).toNat) then (bif (decide ((oc ((g.ed (i).toNat).u).toNat) < 0)) then (bif (inB ((g.ed (i).toNat).v) (g.np:Int).toNat) then (bif (decide ((oc ((g.ed (i).toNat).v).toNat) < 0)) then (G (hl2 N g b m (vYX .i64 (i + 1)) ag (fun v=>(oc v)) (fun v=>(oe v))))
 else (bif (inB ((g.ed (i).toNat).u) (g.np:Int).toNat) then (bif (gF1 cls els ((vYX .i64 ((oc ((g.ed (i).toNat).v).toNat) + (g.ed (i).toNat).c)),(vYX .i64 ((oe ((g.ed (i).toNat).v).toNat) + 1)),(oc ((g.ed (i).toNat).u).toNat),(oe ((g.ed (i).toNat).u).toNat))) then (bif (lsB (vYX .i64 ((oc ((g.ed (i).toNat).v).toNat) + (g.ed (i).toNat).c)) (vYX .i64 ((oe ((g.ed (i).toNat).v).toNat) + 1)) (oc ((g.ed (i).toNat).u).toNat) (oe ((g.ed (i).toNat).u).toNat)) then (bif (inB ((g.ed (i).toNat).u) (g.np:Int).toNat) then (G (hl2 N g b m (vYX .i64 (i + 1)) true (fun v=>(bif (Nat.beq v ((g.ed (i).toNat).u).toNat) then (vYX .i64 ((oc ((g.ed (i).toNat).v).toNat) + (g.ed (i).toNat).c)) else (oc v))) (fun v=>(bif (Nat.beq v ((g.ed (i).toNat).u).toNat) then (vYX .i64 ((oe ((g.ed (i).toNat).v).toNat) + 1)) else (oe v)))))
 else none)
 else (G (hl2 N g b m (vYX .i64 (i + 1)) ag (fun v=>(oc v)) (fun v=>(oe v)))))
 else none)
 else none))
 else none)
 else (bif (inB ((g.ed (i).toNat).v) (g.np:Int).toNat) then (bif (gF1 cls els ((vYX .i64 ((oc ((g.ed (i).toNat).u).toNat) + (g.ed (i).toNat).c)),(vYX .i64 ((oe ((g.ed (i).toNat).u).toNat) + 1)),(oc ((g.ed (i).toNat).v).toNat),(oe ((g.ed (i).toNat).v).toNat))) then (bif (lsB (vYX .i64 ((oc ((g.ed (i).toNat).u).toNat) + (g.ed (i).toNat).c)) (vYX .i64 ((oe ((g.ed (i).toNat).u).toNat) + 1)) (oc ((g.ed (i).toNat).v).toNat) (oe ((g.ed (i).toNat).v).toNat)) then (bif (inB ((g.ed (i).toNat).v) (g.np:Int).toNat) then (bif (inB ((g.ed (i).toNat).v) (g.np:Int).toNat) then (bif (decide ((bif (Nat.beq ((g.ed (i).toNat).v).toNat ((g.ed (i).toNat).v).toNat) then (vYX .i64 ((oc ((g.ed (i).toNat).u).toNat) + (g.ed (i).toNat).c)) else (oc ((g.ed (i).toNat).v).toNat)) < 0)) then (G (hl2 N g b m (vYX .i64 (i + 1)) true (fun v=>(bif (Nat.beq v ((g.ed (i).toNat).v).toNat) then (vYX .i64 ((oc ((g.ed (i).toNat).u).toNat) + (g.ed (i).toNat).c)) else (oc v))) (fun v=>(bif (Nat.beq v ((g.ed (i).toNat).v).toNat) then (vYX .i64 ((oe ((g.ed (i).toNat).u).toNat) + 1)) else (oe v)))))
 else (bif (inB ((g.ed (i).toNat).u) (g.np:Int).toNat) then (bif (gF1 cls els ((vYX .i64 ((bif (Nat.beq ((g.ed (i).toNat).v).toNat ((g.ed (i).toNat).v).toNat) then (vYX .i64 ((oc ((g.ed (i).toNat).u).toNat) + (g.ed (i).toNat).c)) else (oc ((g.ed (i).toNat).v).toNat)) + (g.ed (i).toNat).c)),(vYX .i64 ((bif (Nat.beq ((g.ed (i).toNat).v).toNat ((g.ed (i).toNat).v).toNat) then (vYX .i64 ((oe ((g.ed (i).toNat).u).toNat) + 1)) else (oe ((g.ed (i).toNat).v).toNat)) + 1)),(bif (Nat.beq ((g.ed (i).toNat).u).toNat ((g.ed (i).toNat).v).toNat) then (vYX .i64 ((oc ((g.ed (i).toNat).u).toNat) + (g.ed (i).toNat).c)) else (oc ((g.ed (i).toNat).u).toNat)),(bif (Nat.beq ((g.ed (i).toNat).u).toNat ((g.ed (i).toNat).v).toNat) then (vYX .i64 ((oe ((g.ed (i).toNat).u).toNat) + 1)) else (oe ((g.ed (i).toNat).u).toNat)))) then (bif (lsB (vYX .i64 ((bif (Nat.beq ((g.ed (i).toNat).v).toNat ((g.ed (i).toNat).v).toNat) then (vYX .i64 ((oc ((g.ed (i).toNat).u).toNat) + (g.ed (i).toNat).c)) else (oc ((g.ed (i).toNat).v).toNat)) + (g.ed (i).toNat).c)) (vYX .i64 ((bif (Nat.beq ((g.ed (i).toNat).v).toNat ((g.ed (i).toNat).v).toNat) then (vYX .i64 ((oe ((g.ed (i).toNat).u).toNat) + 1)) else (oe ((g.ed (i).toNat).v).toNat)) + 1)) (bif (Nat.beq ((g.ed (i).toNat).u).toNat ((g.ed (i).toNat).v).toNat) then (vYX .i64 ((oc ((g.ed (i).toNat).u).toNat) + (g.ed (i).toNat).c)) else (oc ((g.ed (i).toNat).u).toNat)) (bif (Nat.beq ((g.ed (i).toNat).u).toNat ((g.ed (i).toNat).v).toNat) then (vYX .i64 ((oe ((g.ed (i).toNat).u).toNat) + 1)) else (oe ((g.ed (i).toNat).u).toNat))) then (bif (inB ((g.ed (i).toNat).u) (g.np:Int).toNat) then (G (hl2 N g b m (vYX .i64 (i + 1)) true (fun v=>(bif (Nat.beq v ((g.ed (i).toNat).u).toNat) then (vYX .i64 ((bif (Nat.beq ((g.ed (i).toNat).v).toNat ((g.ed (i).toNat).v).toNat) then (vYX .i64 ((oc ((g.ed (i).toNat).u).toNat) + (g.ed (i).toNat).c)) else (oc ((g.ed (i).toNat).v).toNat)) + (g.ed (i).toNat).c)) else (bif (Nat.beq v ((g.ed (i).toNat).v).toNat) then (vYX .i64 ((oc ((g.ed (i).toNat).u).toNat) + (g.ed (i).toNat).c)) else (oc v)))) (fun v=>(bif (Nat.beq v ((g.ed (i).toNat).u).toNat) then (vYX .i64 ((bif (Nat.beq ((g.ed (i).toNat).v).toNat ((g.ed (i).toNat).v).toNat) then (vYX .i64 ((oe ((g.ed (i).toNat).u).toNat) + 1)) else (oe ((g.ed (i).toNat).v).toNat)) + 1)) else (bif (Nat.beq v ((g.ed (i).toNat).v).toNat) then (vYX .i64 ((oe ((g.ed (i).toNat).u).toNat) + 1)) else (oe v))))))
 else none)
 else (G (hl2 N g b m (vYX .i64 (i + 1)) true (fun v=>(bif (Nat.beq v ((g.ed (i).toNat).v).toNat) then (vYX .i64 ((oc ((g.ed (i).toNat).u).toNat) + (g.ed (i).toNat).c)) else (oc v))) (fun v=>(bif (Nat.beq v ((g.ed (i).toNat).v).toNat) then (vYX .i64 ((oe ((g.ed (i).toNat).u).toNat) + 1)) else (oe v))))))
 else none)
 else none))
 else none)
 else none)
 else (bif (inB ((g.ed (i).toNat).v) (g.np:Int).toNat) then (bif (decide ((oc ((g.ed (i).toNat).v).toNat) < 0)) then (G (hl2 N g b m (vYX .i64 (i + 1)) ag (fun v=>(oc v)) (fun v=>(oe v))))
 else (bif (inB ((g.ed (i).toNat).u) (g.np:Int).toNat) then (bif (gF1 cls els ((vYX .i64 ((oc ((g.ed (i).toNat).v).toNat) + (g.ed (i).toNat).c)),(vYX .i64 ((oe ((g.ed (i).toNat).v).toNat) + 1)),(oc ((g.ed (i).toNat).u).toNat),(oe ((g.ed (i).toNat).u).toNat))) then (bif (lsB (vYX .i64 ((oc ((g.ed (i).toNat).v).toNat) + (g.ed (i).toNat).c)) (vYX .i64 ((oe ((g.ed (i).toNat).v).toNat) + 1)) (oc ((g.ed (i).toNat).u).toNat) (oe ((g.ed (i).toNat).u).toNat)) then (bif (inB ((g.ed (i).toNat).u) (g.np:Int).toNat) then (G (hl2 N g b m (vYX .i64 (i + 1)) true (fun v=>(bif (Nat.beq v ((g.ed (i).toNat).u).toNat) then (vYX .i64 ((oc ((g.ed (i).toNat).v).toNat) + (g.ed (i).toNat).c)) else (oc v))) (fun v=>(bif (Nat.beq v ((g.ed (i).toNat).u).toNat) then (vYX .i64 ((oe ((g.ed (i).toNat).v).toNat) + 1)) else (oe v)))))
 else none)
 else (G (hl2 N g b m (vYX .i64 (i + 1)) ag (fun v=>(oc v)) (fun v=>(oe v)))))
 else none)
 else none))
 else none))
 else none)
 else none))
 else none)
 else (G (hl2 N g b m (vYX .i64 (i + 1)) ag (fun v=>(oc v)) (fun v=>(oe v)))))
 else none)
 else none)
 else (K (.exit 4) ⟨[(2,.v (.n .i64 m)),(3,.p 3 0),(7,.o 18),(9,.v (.b (ag)))],[(3,.blk [.v (.lf g.np g.pt),.v (.lf g.ne (fE g.ed))]),(18,.reg 76 2 (.fo (g.np:Int).toNat (fun v=>[.n .i64 (oc v),.n .i64 (oe v)])))]⟩)):=by kernel_rfl
noncomputable def dcl2 (g:Gr) (m:Int):(Int × Bool × (Nat→Int) × (Nat→Int))→(Int × Bool × (Nat→Int) × (Nat→Int)) ⊕ (Nat × Int × Bool × (Nat→Int) × (Nat→Int)):=fun t=>match t with | (i,ag,oc,oe)=>(bif (decide (i < (g.ne:Int))) then (bif (inB i g.ne) then (bif (gF1 cru eru ((g.ed (i).toNat),m)) then (bif (usB (g.ed (i).toNat).s m) then (bif (inB ((g.ed (i).toNat).u) (g.np:Int).toNat) then (bif (decide ((oc ((g.ed (i).toNat).u).toNat) < 0)) then (bif (inB ((g.ed (i).toNat).v) (g.np:Int).toNat) then (bif (decide ((oc ((g.ed (i).toNat).v).toNat) < 0)) then (.inl ((vYX .i64 (i + 1)),ag,(fun v=>(oc v)),(fun v=>(oe v)))) else (bif (gF1 cls els ((vYX .i64 ((oc ((g.ed (i).toNat).v).toNat) + (g.ed (i).toNat).c)),(vYX .i64 ((oe ((g.ed (i).toNat).v).toNat) + 1)),(oc ((g.ed (i).toNat).u).toNat),(oe ((g.ed (i).toNat).u).toNat))) then (bif (lsB (vYX .i64 ((oc ((g.ed (i).toNat).v).toNat) + (g.ed (i).toNat).c)) (vYX .i64 ((oe ((g.ed (i).toNat).v).toNat) + 1)) (oc ((g.ed (i).toNat).u).toNat) (oe ((g.ed (i).toNat).u).toNat)) then (.inl ((vYX .i64 (i + 1)),true,(fun v=>(bif (Nat.beq v ((g.ed (i).toNat).u).toNat) then (vYX .i64 ((oc ((g.ed (i).toNat).v).toNat) + (g.ed (i).toNat).c)) else (oc v))),(fun v=>(bif (Nat.beq v ((g.ed (i).toNat).u).toNat) then (vYX .i64 ((oe ((g.ed (i).toNat).v).toNat) + 1)) else (oe v))))) else (.inl ((vYX .i64 (i + 1)),ag,(fun v=>(oc v)),(fun v=>(oe v))))) else (.inr (1,(i,ag,oc,oe))))) else (.inr (1,(i,ag,oc,oe)))) else (bif (inB ((g.ed (i).toNat).v) (g.np:Int).toNat) then (bif (gF1 cls els ((vYX .i64 ((oc ((g.ed (i).toNat).u).toNat) + (g.ed (i).toNat).c)),(vYX .i64 ((oe ((g.ed (i).toNat).u).toNat) + 1)),(oc ((g.ed (i).toNat).v).toNat),(oe ((g.ed (i).toNat).v).toNat))) then (bif (lsB (vYX .i64 ((oc ((g.ed (i).toNat).u).toNat) + (g.ed (i).toNat).c)) (vYX .i64 ((oe ((g.ed (i).toNat).u).toNat) + 1)) (oc ((g.ed (i).toNat).v).toNat) (oe ((g.ed (i).toNat).v).toNat)) then (bif (decide ((bif (Nat.beq ((g.ed (i).toNat).v).toNat ((g.ed (i).toNat).v).toNat) then (vYX .i64 ((oc ((g.ed (i).toNat).u).toNat) + (g.ed (i).toNat).c)) else (oc ((g.ed (i).toNat).v).toNat)) < 0)) then (.inl ((vYX .i64 (i + 1)),true,(fun v=>(bif (Nat.beq v ((g.ed (i).toNat).v).toNat) then (vYX .i64 ((oc ((g.ed (i).toNat).u).toNat) + (g.ed (i).toNat).c)) else (oc v))),(fun v=>(bif (Nat.beq v ((g.ed (i).toNat).v).toNat) then (vYX .i64 ((oe ((g.ed (i).toNat).u).toNat) + 1)) else (oe v))))) else (bif (gF1 cls els ((vYX .i64 ((bif (Nat.beq ((g.ed (i).toNat).v).toNat ((g.ed (i).toNat).v).toNat) then (vYX .i64 ((oc ((g.ed (i).toNat).u).toNat) + (g.ed (i).toNat).c)) else (oc ((g.ed (i).toNat).v).toNat)) + (g.ed (i).toNat).c)),(vYX .i64 ((bif (Nat.beq ((g.ed (i).toNat).v).toNat ((g.ed (i).toNat).v).toNat) then (vYX .i64 ((oe ((g.ed (i).toNat).u).toNat) + 1)) else (oe ((g.ed (i).toNat).v).toNat)) + 1)),(bif (Nat.beq ((g.ed (i).toNat).u).toNat ((g.ed (i).toNat).v).toNat) then (vYX .i64 ((oc ((g.ed (i).toNat).u).toNat) + (g.ed (i).toNat).c)) else (oc ((g.ed (i).toNat).u).toNat)),(bif (Nat.beq ((g.ed (i).toNat).u).toNat ((g.ed (i).toNat).v).toNat) then (vYX .i64 ((oe ((g.ed (i).toNat).u).toNat) + 1)) else (oe ((g.ed (i).toNat).u).toNat)))) then (bif (lsB (vYX .i64 ((bif (Nat.beq ((g.ed (i).toNat).v).toNat ((g.ed (i).toNat).v).toNat) then (vYX .i64 ((oc ((g.ed (i).toNat).u).toNat) + (g.ed (i).toNat).c)) else (oc ((g.ed (i).toNat).v).toNat)) + (g.ed (i).toNat).c)) (vYX .i64 ((bif (Nat.beq ((g.ed (i).toNat).v).toNat ((g.ed (i).toNat).v).toNat) then (vYX .i64 ((oe ((g.ed (i).toNat).u).toNat) + 1)) else (oe ((g.ed (i).toNat).v).toNat)) + 1)) (bif (Nat.beq ((g.ed (i).toNat).u).toNat ((g.ed (i).toNat).v).toNat) then (vYX .i64 ((oc ((g.ed (i).toNat).u).toNat) + (g.ed (i).toNat).c)) else (oc ((g.ed (i).toNat).u).toNat)) (bif (Nat.beq ((g.ed (i).toNat).u).toNat ((g.ed (i).toNat).v).toNat) then (vYX .i64 ((oe ((g.ed (i).toNat).u).toNat) + 1)) else (oe ((g.ed (i).toNat).u).toNat))) then (.inl ((vYX .i64 (i + 1)),true,(fun v=>(bif (Nat.beq v ((g.ed (i).toNat).u).toNat) then (vYX .i64 ((bif (Nat.beq ((g.ed (i).toNat).v).toNat ((g.ed (i).toNat).v).toNat) then (vYX .i64 ((oc ((g.ed (i).toNat).u).toNat) + (g.ed (i).toNat).c)) else (oc ((g.ed (i).toNat).v).toNat)) + (g.ed (i).toNat).c)) else (bif (Nat.beq v ((g.ed (i).toNat).v).toNat) then (vYX .i64 ((oc ((g.ed (i).toNat).u).toNat) + (g.ed (i).toNat).c)) else (oc v)))),(fun v=>(bif (Nat.beq v ((g.ed (i).toNat).u).toNat) then (vYX .i64 ((bif (Nat.beq ((g.ed (i).toNat).v).toNat ((g.ed (i).toNat).v).toNat) then (vYX .i64 ((oe ((g.ed (i).toNat).u).toNat) + 1)) else (oe ((g.ed (i).toNat).v).toNat)) + 1)) else (bif (Nat.beq v ((g.ed (i).toNat).v).toNat) then (vYX .i64 ((oe ((g.ed (i).toNat).u).toNat) + 1)) else (oe v)))))) else (.inl ((vYX .i64 (i + 1)),true,(fun v=>(bif (Nat.beq v ((g.ed (i).toNat).v).toNat) then (vYX .i64 ((oc ((g.ed (i).toNat).u).toNat) + (g.ed (i).toNat).c)) else (oc v))),(fun v=>(bif (Nat.beq v ((g.ed (i).toNat).v).toNat) then (vYX .i64 ((oe ((g.ed (i).toNat).u).toNat) + 1)) else (oe v)))))) else (.inr (1,(i,ag,oc,oe))))) else (bif (decide ((oc ((g.ed (i).toNat).v).toNat) < 0)) then (.inl ((vYX .i64 (i + 1)),ag,(fun v=>(oc v)),(fun v=>(oe v)))) else (bif (gF1 cls els ((vYX .i64 ((oc ((g.ed (i).toNat).v).toNat) + (g.ed (i).toNat).c)),(vYX .i64 ((oe ((g.ed (i).toNat).v).toNat) + 1)),(oc ((g.ed (i).toNat).u).toNat),(oe ((g.ed (i).toNat).u).toNat))) then (bif (lsB (vYX .i64 ((oc ((g.ed (i).toNat).v).toNat) + (g.ed (i).toNat).c)) (vYX .i64 ((oe ((g.ed (i).toNat).v).toNat) + 1)) (oc ((g.ed (i).toNat).u).toNat) (oe ((g.ed (i).toNat).u).toNat)) then (.inl ((vYX .i64 (i + 1)),true,(fun v=>(bif (Nat.beq v ((g.ed (i).toNat).u).toNat) then (vYX .i64 ((oc ((g.ed (i).toNat).v).toNat) + (g.ed (i).toNat).c)) else (oc v))),(fun v=>(bif (Nat.beq v ((g.ed (i).toNat).u).toNat) then (vYX .i64 ((oe ((g.ed (i).toNat).v).toNat) + 1)) else (oe v))))) else (.inl ((vYX .i64 (i + 1)),ag,(fun v=>(oc v)),(fun v=>(oe v))))) else (.inr (1,(i,ag,oc,oe)))))) else (.inr (1,(i,ag,oc,oe)))) else (.inr (1,(i,ag,oc,oe))))) else (.inr (1,(i,ag,oc,oe)))) else (.inl ((vYX .i64 (i + 1)),ag,(fun v=>(oc v)),(fun v=>(oe v))))) else (.inr (1,(i,ag,oc,oe)))) else (.inr (1,(i,ag,oc,oe)))) else (.inr (0,(i,ag,oc,oe))))
noncomputable def kxl2 (N:Nat) (g:Gr) (b m:Int) (K:Cont) (w9:Nat × Int × Bool × (Nat→Int) × (Nat→Int)):Option (Ret × Mem):=bif Nat.beq w9.1 0 then (K (.exit 4) ⟨[(2,.v (.n .i64 m)),(3,.p 3 0),(7,.o 18),(9,.v (.b (w9.2.2.1)))],[(3,.blk [.v (.lf g.np g.pt),.v (.lf g.ne (fE g.ed))]),(18,.reg 76 2 (.fo (g.np:Int).toNat (fun v=>[.n .i64 (w9.2.2.2.1 v),.n .i64 (w9.2.2.2.2 v)])))]⟩) else none
theorem wll2 (K:Cont) (N:Nat) (g:Gr) (b m:Int):∀ n9 (t:(Int × Bool × (Nat→Int) × (Nat→Int))),LFX (N + 10) (cxS Tf (orl0 N g b m) (N + 10) 33 (ntmF Tf 33)) (evX Tf (orl0 N g b m) (N + 10) 33 (ntmF Tf 33)) (qY []) (qQ Tf 33 [0,1,1,0,1,0,0,1,0,1,1,1,1]) [0,1,1,0,1,0,0,1,0,1,1,1,1] (Tf.hint 33 (qJ (qQ Tf 33 [0,1,1,0,1,0,0,1,0,1,1,1,1]))) K n9 (hl2 N g b m t.1 t.2.1 t.2.2.1 t.2.2.2)=(qU (dcl2 g m) n9 t).bind (kxl2 N g b m K):=fun n9 t=>by
 refine kG (L:=LFX (N + 10) (cxS Tf (orl0 N g b m) (N + 10) 33 (ntmF Tf 33)) (evX Tf (orl0 N g b m) (N + 10) 33 (ntmF Tf 33)) (qY []) (qQ Tf 33 [0,1,1,0,1,0,0,1,0,1,1,1,1]) [0,1,1,0,1,0,0,1,0,1,1,1,1] (Tf.hint 33 (qJ (qQ Tf 33 [0,1,1,0,1,0,0,1,0,1,1,1,1]))) K) (stp:=zH (N + 10) (cxS Tf (orl0 N g b m) (N + 10) 33 (ntmF Tf 33)) (evX Tf (orl0 N g b m) (N + 10) 33 (ntmF Tf 33)) (qY []) (qQ Tf 33 [0,1,1,0,1,0,0,1,0,1,1,1,1]) [0,1,1,0,1,0,0,1,0,1,1,1,1] (Tf.hint 33 (qJ (qQ Tf 33 [0,1,1,0,1,0,0,1,0,1,1,1,1]))) K) (fun _ _=>rfl) (fun _=>rfl) (fun t=>hl2 N g b m t.1 t.2.1 t.2.2.1 t.2.2.2) (fun _=>True) (dcl2 g m) (kxl2 N g b m K) (fun G t _ => ?_) (fun _ _ _ _=>trivial) n9 t trivial;obtain ⟨i,ag,oc,oe⟩:=t;refine (rdl2 G K N g b m i ag oc oe).trans ?_;dsimp only [dcl2];cases (decide (i < (g.ne:Int)))
 ·rfl
 ·cases (inB i g.ne)
  ·rfl
  ·cases (gF1 cru eru ((g.ed (i).toNat),m))
   ·rfl
   ·cases (usB (g.ed (i).toNat).s m)
    ·rfl
    ·cases (inB ((g.ed (i).toNat).u) (g.np:Int).toNat)
     ·rfl
     ·cases (decide ((oc ((g.ed (i).toNat).u).toNat) < 0))
      ·cases (inB ((g.ed (i).toNat).v) (g.np:Int).toNat)
       ·rfl
       ·cases (gF1 cls els ((vYX .i64 ((oc ((g.ed (i).toNat).u).toNat) + (g.ed (i).toNat).c)),(vYX .i64 ((oe ((g.ed (i).toNat).u).toNat) + 1)),(oc ((g.ed (i).toNat).v).toNat),(oe ((g.ed (i).toNat).v).toNat)))
        ·rfl
        ·cases (lsB (vYX .i64 ((oc ((g.ed (i).toNat).u).toNat) + (g.ed (i).toNat).c)) (vYX .i64 ((oe ((g.ed (i).toNat).u).toNat) + 1)) (oc ((g.ed (i).toNat).v).toNat) (oe ((g.ed (i).toNat).v).toNat))
         ·cases (decide ((oc ((g.ed (i).toNat).v).toNat) < 0))
          ·cases (gF1 cls els ((vYX .i64 ((oc ((g.ed (i).toNat).v).toNat) + (g.ed (i).toNat).c)),(vYX .i64 ((oe ((g.ed (i).toNat).v).toNat) + 1)),(oc ((g.ed (i).toNat).u).toNat),(oe ((g.ed (i).toNat).u).toNat)))
           ·rfl
           ·cases (lsB (vYX .i64 ((oc ((g.ed (i).toNat).v).toNat) + (g.ed (i).toNat).c)) (vYX .i64 ((oe ((g.ed (i).toNat).v).toNat) + 1)) (oc ((g.ed (i).toNat).u).toNat) (oe ((g.ed (i).toNat).u).toNat))
            ·rfl
            ·rfl
          ·rfl
         ·cases (decide ((bif (Nat.beq ((g.ed (i).toNat).v).toNat ((g.ed (i).toNat).v).toNat) then (vYX .i64 ((oc ((g.ed (i).toNat).u).toNat) + (g.ed (i).toNat).c)) else (oc ((g.ed (i).toNat).v).toNat)) < 0))
          ·cases (gF1 cls els ((vYX .i64 ((bif (Nat.beq ((g.ed (i).toNat).v).toNat ((g.ed (i).toNat).v).toNat) then (vYX .i64 ((oc ((g.ed (i).toNat).u).toNat) + (g.ed (i).toNat).c)) else (oc ((g.ed (i).toNat).v).toNat)) + (g.ed (i).toNat).c)),(vYX .i64 ((bif (Nat.beq ((g.ed (i).toNat).v).toNat ((g.ed (i).toNat).v).toNat) then (vYX .i64 ((oe ((g.ed (i).toNat).u).toNat) + 1)) else (oe ((g.ed (i).toNat).v).toNat)) + 1)),(bif (Nat.beq ((g.ed (i).toNat).u).toNat ((g.ed (i).toNat).v).toNat) then (vYX .i64 ((oc ((g.ed (i).toNat).u).toNat) + (g.ed (i).toNat).c)) else (oc ((g.ed (i).toNat).u).toNat)),(bif (Nat.beq ((g.ed (i).toNat).u).toNat ((g.ed (i).toNat).v).toNat) then (vYX .i64 ((oe ((g.ed (i).toNat).u).toNat) + 1)) else (oe ((g.ed (i).toNat).u).toNat))))
           ·rfl
           ·cases (lsB (vYX .i64 ((bif (Nat.beq ((g.ed (i).toNat).v).toNat ((g.ed (i).toNat).v).toNat) then (vYX .i64 ((oc ((g.ed (i).toNat).u).toNat) + (g.ed (i).toNat).c)) else (oc ((g.ed (i).toNat).v).toNat)) + (g.ed (i).toNat).c)) (vYX .i64 ((bif (Nat.beq ((g.ed (i).toNat).v).toNat ((g.ed (i).toNat).v).toNat) then (vYX .i64 ((oe ((g.ed (i).toNat).u).toNat) + 1)) else (oe ((g.ed (i).toNat).v).toNat)) + 1)) (bif (Nat.beq ((g.ed (i).toNat).u).toNat ((g.ed (i).toNat).v).toNat) then (vYX .i64 ((oc ((g.ed (i).toNat).u).toNat) + (g.ed (i).toNat).c)) else (oc ((g.ed (i).toNat).u).toNat)) (bif (Nat.beq ((g.ed (i).toNat).u).toNat ((g.ed (i).toNat).v).toNat) then (vYX .i64 ((oe ((g.ed (i).toNat).u).toNat) + 1)) else (oe ((g.ed (i).toNat).u).toNat)))
            ·rfl
            ·rfl
          ·rfl
      ·cases (inB ((g.ed (i).toNat).v) (g.np:Int).toNat)
       ·rfl
       ·cases (decide ((oc ((g.ed (i).toNat).v).toNat) < 0))
        ·cases (gF1 cls els ((vYX .i64 ((oc ((g.ed (i).toNat).v).toNat) + (g.ed (i).toNat).c)),(vYX .i64 ((oe ((g.ed (i).toNat).v).toNat) + 1)),(oc ((g.ed (i).toNat).u).toNat),(oe ((g.ed (i).toNat).u).toNat)))
         ·rfl
         ·cases (lsB (vYX .i64 ((oc ((g.ed (i).toNat).v).toNat) + (g.ed (i).toNat).c)) (vYX .i64 ((oe ((g.ed (i).toNat).v).toNat) + 1)) (oc ((g.ed (i).toNat).u).toNat) (oe ((g.ed (i).toNat).u).toNat))
          ·rfl
          ·rfl
        ·rfl
noncomputable def qJL (N:Nat) (g:Gr) (m:Int) (t:(Int × Bool × (Nat→Int) × (Nat→Int))):Bool:=(qU (dcl2 g m) (N + 10) t).isSome
noncomputable def qZL (N:Nat) (g:Gr) (m:Int) (t:(Int × Bool × (Nat→Int) × (Nat→Int))):Nat × Int × Bool × (Nat→Int) × (Nat→Int):=(qU (dcl2 g m) (N + 10) t).getD (99,t)
theorem lwl2 (K:Cont) (N:Nat) (g:Gr) (b m:Int) (t:(Int × Bool × (Nat→Int) × (Nat→Int))) (hg:qJL N g m t=true):LFX (N + 10) (cxS Tf (orl0 N g b m) (N + 10) 33 (ntmF Tf 33)) (evX Tf (orl0 N g b m) (N + 10) 33 (ntmF Tf 33)) (qY []) (qQ Tf 33 [0,1,1,0,1,0,0,1,0,1,1,1,1]) [0,1,1,0,1,0,0,1,0,1,1,1,1] (Tf.hint 33 (qJ (qQ Tf 33 [0,1,1,0,1,0,0,1,0,1,1,1,1]))) K (N + 10) (hl2 N g b m t.1 t.2.1 t.2.2.1 t.2.2.2)=kxl2 N g b m K (qZL N g m t):=by
 refine (wll2 K N g b m (N + 10) t).trans ?_;unfold qJL at hg;unfold qZL;cases h:qU (dcl2 g m) (N + 10) t with
 | none=>rw [h] at hg; cases hg
 | some y=>rfl
theorem okl2 (N:Nat) (g:Gr) (b m:Int):∀ p S,qY [([0,1,1,0,1,0,0,1,0,1,1,1,1],sumF (fun t:(Int × Bool × (Nat→Int) × (Nat→Int))=>(hl2 N g b m t.1 t.2.1 t.2.2.1 t.2.2.2)) (fun σ=>(slI σ 10,slB σ 9,rgI σ 18 0,rgI σ 18 1)) (fun t K=>(bif qJL N g m t then kxl2 N g b m K (qZL N g m t) else none)))] p=some S→kQ (N + 10) (cxS Tf (orl0 N g b m) (N + 10) 33 (ntmF Tf 33)) (qQ Tf 33 p) S:=fun p S hp=>by
 refine qW (L:=qQ Tf 33) (l:=[([0,1,1,0,1,0,0,1,0,1,1,1,1],sumF (fun t:(Int × Bool × (Nat→Int) × (Nat→Int))=>(hl2 N g b m t.1 t.2.1 t.2.2.1 t.2.2.2)) (fun σ=>(slI σ 10,slB σ 9,rgI σ 18 0,rgI σ 18 1)) (fun t K=>(bif qJL N g m t then kxl2 N g b m K (qZL N g m t) else none)))]) ⟨?_,trivial⟩ p S hp;dsimp only;refine yZ (T:=Tf) (o:=(orl0 N g b m)) (f:=33) (LO:=qY []) (p:=[0,1,1,0,1,0,0,1,0,1,1,1,1]) jQ ?_;intro t K r hr;obtain ⟨hg,hr⟩:=qZ hr
 skip
 exact (lwl2 K N g b m t hg).trans hr
noncomputable def hl1 (N:Nat) (g:Gr) (b m:Int) (ag:Bool) (oc:Nat→Int) (oe:Nat→Int):St:=⟨[(2,.v (.n .i64 m)),(3,.p 3 0),(7,.o 18),(9,.v (.b (ag)))],[(3,.blk [.v (.lf g.np g.pt),.v (.lf g.ne (fE g.ed))]),(18,.reg 76 2 (.fo (g.np:Int).toNat (fun v=>[.n .i64 (oc v),.n .i64 (oe v)])))]⟩
set_option maxRecDepth 100000 in
theorem rdl1 (G:St→Option (Ret × Mem)) (K:Cont) (N:Nat) (g:Gr) (b m:Int) (ag:Bool) (oc:Nat→Int) (oe:Nat→Int):zH (N + 10) (cxS Tf (orl0 N g b m) (N + 10) 33 (ntmF Tf 33)) (evX Tf (orl0 N g b m) (N + 10) 33 (ntmF Tf 33)) (qY [([0,1,1,0,1,0,0,1,0,1,1,1,1],sumF (fun t:(Int × Bool × (Nat→Int) × (Nat→Int))=>(hl2 N g b m t.1 t.2.1 t.2.2.1 t.2.2.2)) (fun σ=>(slI σ 10,slB σ 9,rgI σ 18 0,rgI σ 18 1)) (fun t K=>(bif qJL N g m t then kxl2 N g b m K (qZL N g m t) else none)))]) (qQ Tf 33 [0,1,0,1,1,1,1]) [0,1,0,1,1,1,1] (Tf.hint 33 (qJ (qQ Tf 33 [0,1,0,1,1,1,1]))) K G (hl1 N g b m ag oc oe) =
 (bif ag then (bif (gSt (hl2 N g b m 0 false (fun v=>(oc v)) (fun v=>(oe v))) (hl2 N g b m 0 false (fun v=>(oc v)) (fun v=>(oe v)))) then (bif (qJL N g m (0,false,(fun v=>(oc v)),(fun v=>(oe v)))) then (bif (Nat.beq (qZL N g m (0,false,(fun v=>(oc v)),(fun v=>(oe v)))).1 0) then (G (hl1 N g b m (qZL N g m (0,false,(fun v=>(oc v)),(fun v=>(oe v)))).2.2.1 (fun v=>((qZL N g m (0,false,(fun v=>(oc v)),(fun v=>(oe v)))).2.2.2.1 v)) (fun v=>((qZL N g m (0,false,(fun v=>(oc v)),(fun v=>(oe v)))).2.2.2.2 v))))
 else none)
 else none)
 else none)
 else (K (.exit 2) ⟨[(7,.o 18)],[(18,.reg 76 2 (.fo (g.np:Int).toNat (fun v=>[.n .i64 (oc v),.n .i64 (oe v)])))]⟩)):=by kernel_rfl
noncomputable def dcl1 (N:Nat) (g:Gr) (b m:Int):(Bool × (Nat→Int) × (Nat→Int))→(Bool × (Nat→Int) × (Nat→Int)) ⊕ (Nat × Bool × (Nat→Int) × (Nat→Int)):=fun t=>match t with | (ag,oc,oe)=>(bif ag then (bif (gSt (hl2 N g b m 0 false (fun v=>(oc v)) (fun v=>(oe v))) (hl2 N g b m 0 false (fun v=>(oc v)) (fun v=>(oe v)))) then (bif (qJL N g m (0,false,(fun v=>(oc v)),(fun v=>(oe v)))) then (bif (Nat.beq (qZL N g m (0,false,(fun v=>(oc v)),(fun v=>(oe v)))).1 0) then (.inl ((qZL N g m (0,false,(fun v=>(oc v)),(fun v=>(oe v)))).2.2.1,(fun v=>((qZL N g m (0,false,(fun v=>(oc v)),(fun v=>(oe v)))).2.2.2.1 v)),(fun v=>((qZL N g m (0,false,(fun v=>(oc v)),(fun v=>(oe v)))).2.2.2.2 v)))) else (.inr (1,(ag,oc,oe)))) else (.inr (1,(ag,oc,oe)))) else (.inr (1,(ag,oc,oe)))) else (.inr (0,(ag,oc,oe))))
noncomputable def kxl1 (N:Nat) (g:Gr) (b m:Int) (K:Cont) (w9:Nat × Bool × (Nat→Int) × (Nat→Int)):Option (Ret × Mem):=bif Nat.beq w9.1 0 then (K (.exit 2) ⟨[(7,.o 18)],[(18,.reg 76 2 (.fo (g.np:Int).toNat (fun v=>[.n .i64 (w9.2.2.1 v),.n .i64 (w9.2.2.2 v)])))]⟩) else none
theorem wll1 (K:Cont) (N:Nat) (g:Gr) (b m:Int):∀ n9 (t:(Bool × (Nat→Int) × (Nat→Int))),LFX (N + 10) (cxS Tf (orl0 N g b m) (N + 10) 33 (ntmF Tf 33)) (evX Tf (orl0 N g b m) (N + 10) 33 (ntmF Tf 33)) (qY [([0,1,1,0,1,0,0,1,0,1,1,1,1],sumF (fun t:(Int × Bool × (Nat→Int) × (Nat→Int))=>(hl2 N g b m t.1 t.2.1 t.2.2.1 t.2.2.2)) (fun σ=>(slI σ 10,slB σ 9,rgI σ 18 0,rgI σ 18 1)) (fun t K=>(bif qJL N g m t then kxl2 N g b m K (qZL N g m t) else none)))]) (qQ Tf 33 [0,1,0,1,1,1,1]) [0,1,0,1,1,1,1] (Tf.hint 33 (qJ (qQ Tf 33 [0,1,0,1,1,1,1]))) K n9 (hl1 N g b m t.1 t.2.1 t.2.2)=(qU (dcl1 N g b m) n9 t).bind (kxl1 N g b m K):=fun n9 t=>by
 refine kG (L:=LFX (N + 10) (cxS Tf (orl0 N g b m) (N + 10) 33 (ntmF Tf 33)) (evX Tf (orl0 N g b m) (N + 10) 33 (ntmF Tf 33)) (qY [([0,1,1,0,1,0,0,1,0,1,1,1,1],sumF (fun t:(Int × Bool × (Nat→Int) × (Nat→Int))=>(hl2 N g b m t.1 t.2.1 t.2.2.1 t.2.2.2)) (fun σ=>(slI σ 10,slB σ 9,rgI σ 18 0,rgI σ 18 1)) (fun t K=>(bif qJL N g m t then kxl2 N g b m K (qZL N g m t) else none)))]) (qQ Tf 33 [0,1,0,1,1,1,1]) [0,1,0,1,1,1,1] (Tf.hint 33 (qJ (qQ Tf 33 [0,1,0,1,1,1,1]))) K) (stp:=zH (N + 10) (cxS Tf (orl0 N g b m) (N + 10) 33 (ntmF Tf 33)) (evX Tf (orl0 N g b m) (N + 10) 33 (ntmF Tf 33)) (qY [([0,1,1,0,1,0,0,1,0,1,1,1,1],sumF (fun t:(Int × Bool × (Nat→Int) × (Nat→Int))=>(hl2 N g b m t.1 t.2.1 t.2.2.1 t.2.2.2)) (fun σ=>(slI σ 10,slB σ 9,rgI σ 18 0,rgI σ 18 1)) (fun t K=>(bif qJL N g m t then kxl2 N g b m K (qZL N g m t) else none)))]) (qQ Tf 33 [0,1,0,1,1,1,1]) [0,1,0,1,1,1,1] (Tf.hint 33 (qJ (qQ Tf 33 [0,1,0,1,1,1,1]))) K) (fun _ _=>rfl) (fun _=>rfl) (fun t=>hl1 N g b m t.1 t.2.1 t.2.2) (fun _=>True) (dcl1 N g b m) (kxl1 N g b m K) (fun G t _ => ?_) (fun _ _ _ _=>trivial) n9 t trivial;obtain ⟨ag,oc,oe⟩:=t;refine (rdl1 G K N g b m ag oc oe).trans ?_;dsimp only [dcl1];cases ag
 ·rfl
 ·cases (gSt (hl2 N g b m 0 false (fun v=>(oc v)) (fun v=>(oe v))) (hl2 N g b m 0 false (fun v=>(oc v)) (fun v=>(oe v))))
  ·rfl
  ·cases (qJL N g m (0,false,(fun v=>(oc v)),(fun v=>(oe v))))
   ·rfl
   ·cases (Nat.beq (qZL N g m (0,false,(fun v=>(oc v)),(fun v=>(oe v)))).1 0)
    ·rfl
    ·rfl
noncomputable def zWU (N:Nat) (g:Gr) (b m:Int) (t:(Bool × (Nat→Int) × (Nat→Int))):Bool:=(qU (dcl1 N g b m) (N + 10) t).isSome
noncomputable def qHH (N:Nat) (g:Gr) (b m:Int) (t:(Bool × (Nat→Int) × (Nat→Int))):Nat × Bool × (Nat→Int) × (Nat→Int):=(qU (dcl1 N g b m) (N + 10) t).getD (99,t)
theorem lwl1 (K:Cont) (N:Nat) (g:Gr) (b m:Int) (t:(Bool × (Nat→Int) × (Nat→Int))) (hg:zWU N g b m t=true):LFX (N + 10) (cxS Tf (orl0 N g b m) (N + 10) 33 (ntmF Tf 33)) (evX Tf (orl0 N g b m) (N + 10) 33 (ntmF Tf 33)) (qY [([0,1,1,0,1,0,0,1,0,1,1,1,1],sumF (fun t:(Int × Bool × (Nat→Int) × (Nat→Int))=>(hl2 N g b m t.1 t.2.1 t.2.2.1 t.2.2.2)) (fun σ=>(slI σ 10,slB σ 9,rgI σ 18 0,rgI σ 18 1)) (fun t K=>(bif qJL N g m t then kxl2 N g b m K (qZL N g m t) else none)))]) (qQ Tf 33 [0,1,0,1,1,1,1]) [0,1,0,1,1,1,1] (Tf.hint 33 (qJ (qQ Tf 33 [0,1,0,1,1,1,1]))) K (N + 10) (hl1 N g b m t.1 t.2.1 t.2.2)=kxl1 N g b m K (qHH N g b m t):=by
 refine (wll1 K N g b m (N + 10) t).trans ?_;unfold zWU at hg;unfold qHH;cases h:qU (dcl1 N g b m) (N + 10) t with
 | none=>rw [h] at hg; cases hg
 | some y=>rfl
end Go.Proofs.Ytglkkhpdbfacfaa.Bp
namespace Go.Proofs.Ytglkkhpdbfacfaa.Bq
open Go.Rx Rt Go.Sx Go.RowKit Ba Bb Bc Bd Be Bf Bi Bj Bm Bn Bo Bp
abbrev Lbl:=Bool × (Nat→Int) × (Nat→Int)
def rlx (s:Lbl) (x y:Nat) (c:Int):Lbl:=bif decide (s.2.1 x < 0) then s else bif lsB (s.2.1 x + c) (s.2.2 x + 1) (s.2.1 y) (s.2.2 y) then (true,setF s.2.1 y (s.2.1 x + c),setF s.2.2 y (s.2.2 x + 1)) else s
def nxB (g:Gr) (m:Int) (i:Nat) (s:Lbl):Lbl:=bif usB (g.ed i).s m then rlx (rlx s (g.ed i).u.toNat (g.ed i).v.toNat (g.ed i).c) (g.ed i).v.toNat (g.ed i).u.toNat (g.ed i).c else s
def LbS (np:Nat) (oc oe:Nat→Int) (k:Int):Prop:=∀ v,v < np → -1≤oc v∧oc v≤k * 1099511627776∧0≤oe v∧oe v≤k
theorem yUQ {g:Gr} {m:Int} (h:wfB g=true) {i:Nat} (hi:i < g.ne) (_:g.ne≤8192) {ag:Bool} {oc oe:Nat→Int} {k:Int} (_:k≤4000000) (hs:LbS g.np oc oe k):dcl2 g m ((i:Int),ag,oc,oe)=.inl (((i + 1:Nat):Int),nxB g m i (ag,oc,oe)):=by
 obtain ⟨e1,e2,e3,e4,e5⟩:=jU h hi;have hU:inB (g.ed i).u g.np=true:=qZG (y:=(g.ed i).u.toNat) (by omega) (by omega);have hV:inB (g.ed i).v g.np=true:=qZG (y:=(g.ed i).v.toNat) (by omega) (by omega);obtain ⟨u1,u2,u3,u4⟩:=hs (g.ed i).u.toNat (by omega);obtain ⟨v1,v2,v3,v4⟩:=hs (g.ed i).v.toNat (by omega);have hne:(g.ed i).u.toNat ≠ (g.ed i).v.toNat:=by omega
 have w1:vYX .i64 (oc (g.ed i).u.toNat + (g.ed i).c)=oc (g.ed i).u.toNat + (g.ed i).c:=yH (by omega);have w2:vYX .i64 (oe (g.ed i).u.toNat + 1)=oe (g.ed i).u.toNat + 1:=yH (by omega);have w3:vYX .i64 (oc (g.ed i).v.toNat + (g.ed i).c)=oc (g.ed i).v.toNat + (g.ed i).c:=yH (by omega);have w4:vYX .i64 (oe (g.ed i).v.toNat + 1)=oe (g.ed i).v.toNat + 1:=yH (by omega);have w5:vYX .i64 (oc (g.ed i).u.toNat + (g.ed i).c + (g.ed i).c)=oc (g.ed i).u.toNat + (g.ed i).c + (g.ed i).c:=yH (by omega);have w6:vYX .i64 (oe (g.ed i).u.toNat + 1 + 1)=oe (g.ed i).u.toNat + 1 + 1:=yH (by omega);have hb:Nat.beq (g.ed i).u.toNat (g.ed i).v.toNat=false:=by rw [uH,vYY hne]
 dsimp only [dcl2];unfold nxB rlx;simp only [toN,vYJ (show (i:Int) < (g.ne:Int) by omega),zU hi,kW (C:=cru) (t:=_) trivial,kW (C:=cls) (t:=_) trivial,uK (show i < 1000000 by omega),hU,hV,w1,w2,w3,w4,w5,w6,hb,Nat.beq_refl,vYQ,vYZ];cases usB (g.ed i).s m with
 | false=>rfl
 | true =>
  simp only [vYQ];cases h1:decide (oc (g.ed i).u.toNat < 0) with
  | true =>
   simp only [vYQ];cases h2:decide (oc (g.ed i).v.toNat < 0) <;> simp only [vYQ,vYZ]
   cases h3:lsB (oc (g.ed i).v.toNat + (g.ed i).c) (oe (g.ed i).v.toNat + 1) (oc (g.ed i).u.toNat) (oe (g.ed i).u.toNat) <;> rfl
  | false =>
   simp only [vYZ];cases h4:lsB (oc (g.ed i).u.toNat + (g.ed i).c) (oe (g.ed i).u.toNat + 1) (oc (g.ed i).v.toNat) (oe (g.ed i).v.toNat) with
   | false =>
    simp only [vYZ];cases h2:decide (oc (g.ed i).v.toNat < 0) <;> simp only [vYQ,vYZ]
    cases h3:lsB (oc (g.ed i).v.toNat + (g.ed i).c) (oe (g.ed i).v.toNat + 1) (oc (g.ed i).u.toNat) (oe (g.ed i).u.toNat) <;> rfl
   | true =>
    simp only [vYQ,yU,zY hne];cases h2:decide (oc (g.ed i).u.toNat + (g.ed i).c < 0) <;> simp only [vYQ,vYZ]
    ·cases h3:lsB (oc (g.ed i).u.toNat + (g.ed i).c + (g.ed i).c) (oe (g.ed i).u.toNat + 1 + 1) (oc (g.ed i).u.toNat) (oe (g.ed i).u.toNat) <;> rfl
    ·rfl
theorem yGA {g:Gr} {m:Int} {s:Lbl}:dcl2 g m ((g.ne:Int),s)=.inr (0,(g.ne:Int),s):=by
 obtain ⟨ag,oc,oe⟩:=s;dsimp only [dcl2];rw [vYY (by omega)]; rfl
end Go.Proofs.Ytglkkhpdbfacfaa.Bq
namespace Go.Proofs.Ytglkkhpdbfacfaa.Br
open Go.Rx Rt Go.Sx Go.RowKit Ba Bb Bc Bd Be Bf Bi Bj Bm Bn Bo Bp Bq
abbrev WkG (g:Gr) (m:Int) (b:Nat):Nat→Int→Int→Prop:=Wk g.np (lkO g m).1 (lkO g m).2.1 (lkO g m).2.2 b
def leL (a b c d:Int):Prop:=c < 0 ∨ (0≤a∧leR a b c d)
theorem leL.refl (a b:Int):leL a b a b:=by unfold leL leR; omega
theorem leL.trans {a b c d e f:Int} (_:leL a b c d) (_:leL c d e f):leL a b e f:=by unfold leL leR at *; omega
theorem leL.add {a b c d k:Int} (_:0≤k) (_:0≤c) (_:leL a b c d):leL (a + k) (b + 1) (c + k) (d + 1):=by unfold leL leR at *; omega
theorem ls_t {a b c d:Int} (_:0≤a) (h:lsB a b c d=true):leL a b c d∧¬ leL c d a b:=by
 unfold lsB at h;by_cases hc:c < 0
 ·exact ⟨.inl hc,by unfold leL; omega⟩
 ·rw [vYY hc,vYY (show ¬ a < 0 by omega)] at h;simp only [Bool.or_self,vYZ,Bool.or_eq_true,vQJ,decide_eq_true_eq] at h;unfold leL leR; omega
theorem ls_f {a b c d:Int} (ha:0≤a) (h:lsB a b c d=false):leL c d a b:=by
 unfold lsB at h;by_cases hc:c < 0
 ·rw [vYJ hc,vYJ ha] at h; simp at h
 ·rw [vYY hc,vYY (show ¬ a < 0 by omega)] at h;simp only [Bool.or_self,vYZ,Bool.or_eq_false_iff,Bool.and_eq_false_imp,decide_eq_true_eq,decide_eq_false_iff_not] at h;unfold leL leR; omega
section
variable {g:Gr} {m:Int} {b:Nat}
theorem WkG.edge {x y:Nat} {c p k:Int} (h:WkG g m b x c p) (hx:x < g.np) (hj:Jn g m g.ne x (y:Int) k):WkG g m b y (c + k) (p + 1):=by
 obtain ⟨w,h1,h2,h3⟩:=((qGC g m).2 x (y:Int) k).2 hj;rw [← h3];exact .cons h hx h1 h2
structure LbW (g:Gr) (m:Int) (b:Nat) (oc oe:Nat→Int):Prop where
 wk:∀ v,v < g.np→oc v < 0 ∨ WkG g m b v (oc v) (oe v + 1)
 src:oc b=0∧oe b=0
theorem LbW.bd (hw:wfB g=true) (hp:g.np≤100) (hn:g.ne≤500) {oc oe:Nat→Int} (h:LbW g m b oc oe) {v:Nat} (hv:v < g.np) (_:0≤oc v):0≤oe v:=by
 rcases h.wk v hv with h1 | h1
 ·omega
 ·have:=h1.bd (qKJ hw hp hn).1; omega
theorem zZX (hw:wfB g=true) (hp:g.np≤100) (hn:g.ne≤500) {s:Lbl} {x y:Nat} {c:Int} (hx:x < g.np) (_:0≤c) (hj:Jn g m g.ne x (y:Int) c) (h:LbW g m b s.2.1 s.2.2) :
  LbW g m b (rlx s x y c).2.1 (rlx s x y c).2.2∧(∀ v,leL ((rlx s x y c).2.1 v) ((rlx s x y c).2.2 v) (s.2.1 v) (s.2.2 v))∧(0≤s.2.1 x→leL ((rlx s x y c).2.1 y) ((rlx s x y c).2.2 y) (s.2.1 x + c) (s.2.2 x + 1))∧(rlx s x y c=s ∨ ((rlx s x y c).1=true∧0≤s.2.1 x∧¬ leL (s.2.1 y) (s.2.2 y) (s.2.1 x + c) (s.2.2 x + 1))):=by
 unfold rlx;cases h0:decide (s.2.1 x < 0) with
 | true =>
  have h0:=vYK h0;simp only [vYQ];exact ⟨h,fun v=>leL.refl _ _,fun h1=>by omega,.inl trivial⟩
 | false =>
  have h0:=vYU h0;have ho:=h.bd hw hp hn hx (by omega);simp only [vYZ];cases hb:lsB (s.2.1 x + c) (s.2.2 x + 1) (s.2.1 y) (s.2.2 y) with
  | false =>
   simp only [vYZ];exact ⟨h,fun v=>leL.refl _ _,fun h1=>ls_f (by omega) hb,.inl trivial⟩
  | true =>
   simp only [vYQ];obtain ⟨q1,q2⟩:=ls_t (by omega) hb;refine ⟨⟨fun v hv => ?_,?_⟩,fun v => ?_,fun _ => ?_,.inr ⟨trivial,by omega,q2⟩⟩
   ·by_cases e:v=y
    ·subst e;rw [yU,yU];rcases h.wk x hx with h1 | h1
     ·omega
     ·exact .inr (h1.edge hx hj)
    ·rw [zY e,zY e]; exact h.wk v hv
   ·have e:b ≠ y:=fun e=>by
     subst e;rw [h.src.1,h.src.2] at q2;exact q2 (.inr ⟨by omega,by unfold leR; omega⟩)
    rw [zY e,zY e]; exact h.src
   ·by_cases e:v=y
    ·subst e; rw [yU,yU]; exact q1
    ·rw [zY e,zY e]; exact leL.refl _ _
   ·rw [yU,yU]; exact leL.refl _ _
theorem zJI {np:Nat} {s:Lbl} {x y:Nat} {c k:Int} (hx:x < np) (_:0≤c) (_:c≤1099511627776) (_:0≤k) (h:LbS np s.2.1 s.2.2 k):LbS np (rlx s x y c).2.1 (rlx s x y c).2.2 (k + 1):=by
 have up:LbS np s.2.1 s.2.2 (k + 1):=fun v hv=>by have:=h v hv; omega
 have hxs:=h x hx;unfold rlx;cases h0:decide (s.2.1 x < 0) with
 | true=>exact up
 | false =>
  simp only [vYZ];cases hb:lsB (s.2.1 x + c) (s.2.2 x + 1) (s.2.1 y) (s.2.2 y) with
  | false=>exact up
  | true =>
   simp only [vYQ];intro v hv;by_cases e:v=y
   ·subst e; rw [yU,yU]; omega
   ·rw [zY e,zY e]; exact up v hv
structure RI (g:Gr) (m:Int) (b i:Nat) (k0:Int) (c0 e0:Nat→Int) (s:Lbl):Prop where
 w:LbW g m b s.2.1 s.2.2
 le:∀ v,leL (s.2.1 v) (s.2.2 v) (c0 v) (e0 v)
 ed:∀ x y c,Jn g m i x ((y:Nat):Int) c→0≤c0 x→leL (s.2.1 y) (s.2.2 y) (c0 x + c) (e0 x + 1)
 ag:s.1=false→s=(false,c0,e0)
 sm:LbS g.np s.2.1 s.2.2 (k0 + 2 * i)
theorem RI.next (hw:wfB g=true) (hp:g.np≤100) (hn:g.ne≤500) {i:Nat} {k0:Int} (_:0≤k0) {c0 e0:Nat→Int} {s:Lbl} (hi:i < g.ne) (h:RI g m b i k0 c0 e0 s):RI g m b (i + 1) k0 c0 e0 (nxB g m i s):=by
 obtain ⟨e1,e2,e3,e4,e5⟩:=jU hw hi;unfold nxB;cases hu:usB (g.ed i).s m with
 | false =>
  simp only [vYZ];refine ⟨h.w,h.le,fun x y c ⟨e,q1,q2,q3⟩=>h.ed x y c ⟨e,?_,q2,q3⟩,h.ag,fun v hv=>by have:=h.sm v hv; omega⟩;by_cases ei:e=i
  ·subst ei; rw [hu] at q2; cases q2
  ·omega
 | true =>
  simp only [vYQ];have hU:(g.ed i).u.toNat < g.np:=by omega
  have hV:(g.ed i).v.toNat < g.np:=by omega
  have j1:Jn g m g.ne (g.ed i).u.toNat ((g.ed i).v.toNat:Int) (g.ed i).c:=⟨i,hi,hu,rfl,.inl ⟨rfl,by omega⟩⟩
  have j2:Jn g m g.ne (g.ed i).v.toNat ((g.ed i).u.toNat:Int) (g.ed i).c:=⟨i,hi,hu,rfl,.inr ⟨rfl,by omega⟩⟩
  obtain ⟨a1,a2,a3,a4⟩:=zZX hw hp hn (s:=s) hU e4 j1 h.w;obtain ⟨b1,b2,b3,b4⟩:=zZX hw hp hn (s:=rlx s (g.ed i).u.toNat (g.ed i).v.toNat (g.ed i).c) hV e4 j2 a1;have s1:=zJI (y:=(g.ed i).v.toNat) hU e4 e5 (show (0:Int)≤k0 + 2 * i by omega) h.sm;have s2:=zJI (y:=(g.ed i).u.toNat) hV e4 e5 (show (0:Int)≤k0 + 2 * i + 1 by omega) s1;refine ⟨b1,fun v=>(b2 v).trans ((a2 v).trans (h.le v)),fun x y c ⟨e,q1,q2,q3,q4⟩ h0 => ?_,fun hf => ?_,fun v hv=>by have:=s2 v hv; omega⟩
  ·by_cases ei:e=i
   ·subst ei;rcases q4 with ⟨r1,r2⟩ | ⟨r1,r2⟩
    ·obtain rfl:y=(g.ed e).v.toNat:=by omega
     subst r1;rw [← q3];have hx:=h.le (g.ed e).u.toNat;have h1:0≤s.2.1 (g.ed e).u.toNat:=by unfold leL at hx; omega
     exact (b2 _).trans ((a3 h1).trans (hx.add e4 h0))
    ·obtain rfl:y=(g.ed e).u.toNat:=by omega
     subst r1;rw [← q3];have hx:=(a2 (g.ed e).v.toNat).trans (h.le (g.ed e).v.toNat);have h1:0≤(rlx s (g.ed e).u.toNat (g.ed e).v.toNat (g.ed e).c).2.1 (g.ed e).v.toNat:=by unfold leL at hx; omega
     exact (b3 h1).trans (hx.add e4 h0)
   ·exact ((b2 _).trans (a2 _)).trans (h.ed x y c ⟨e,by omega,q2,q3,q4⟩ h0)
  ·rcases b4 with e | e
   ·rw [e] at hf ⊢;rcases a4 with e' | e'
    ·rw [e'] at hf ⊢; exact h.ag hf
    ·rw [e'.1] at hf; cases hf
   ·rw [e.1] at hf; cases hf
end
end Go.Proofs.Ytglkkhpdbfacfaa.Br
namespace Go.Proofs.Ytglkkhpdbfacfaa.Bs
open Go.Rx Rt Go.Sx Go.RowKit Ba Bb Bc Bd Be Bf Bi Bj Bk Bm Bn Bo Bp Bq Br
section
variable {g:Gr} {m:Int} {b:Nat}
theorem jKK (hw:wfB g=true) (hp:g.np≤100) (hn:g.ne≤500) {a:Nat} (ha:a < g.np) (hb:b < g.np):(∀ c p,¬ WkG g m b a c p) ∨ ∃ c p,WkG g m b a c p∧p≤101∧∀ c' p',WkG g m b a c' p'→leR c p c' p':=by
 have hl:=(qKJ (m:=m) hw hp hn).1;have hm:(g.np - cntS (fun _=>false) g.np) * 1001 + 1 < NN:=by
  have:(g.np - cntS (fun _=>false) g.np) * 1001≤100 * 1001:=Nat.mul_le_mul_right _ (by omega)
  rw [qYK]; omega
 obtain ⟨S,rc,rp,qn,qc,qp,qx,_,g2,g3⟩:=jWF hl (N:=NN) (by rw [qYK]; omega) (a:Int) (b:Int) _ NN _ _ _ _ _ _ _ rfl hm (DI.init hb);rcases g2.rk a ha with ⟨h1,_⟩ | h1
 ·exact .inl (DI.none hl g2 ha h1 g3)
 ·obtain ⟨_,b2⟩:=DI.best hl hb g2 ha h1.1 g3;have hcn:=zQE S g.np;have hra:=g2.rb a ha;exact .inr ⟨rc a,rp a,h1.2,by omega,fun c' p' h=>by rcases b2 a c' p' h with h | ⟨_,h⟩ <;> exact h⟩
def KLb (g:Gr) (m:Int) (b:Nat) (oc oe:Nat→Int) (k:Int):Prop:=∀ v c p,WkG g m b v c p→p≤k + 1→leL (oc v) (oe v) c (p - 1)
def BLb (g:Gr) (m:Int) (b:Nat) (oc oe:Nat→Int):Prop:=∀ v c p,WkG g m b v c p→leL (oc v) (oe v) c (p - 1)
theorem yJA {x w:Nat} (hw:w < (lkO g m).1 x) {y:Nat} (hy:(lkO g m).2.1 x w=(y:Int)):Jn g m g.ne x (y:Int) ((lkO g m).2.2 x w):=((qGC g m).2 x (y:Int) _).1 ⟨w,hw,hy,rfl⟩
theorem KLb.best (hw:wfB g=true) (hp:g.np≤100) (hn:g.ne≤500) (hb:b < g.np) {oc oe:Nat→Int} {k:Int} (_:100≤k) (h:KLb g m b oc oe k):BLb g m b oc oe:=fun v c p hv=>by
 have hl:=(qKJ (m:=m) hw hp hn).1;have hvn:=Wk.ltn hl hb hv;rcases jKK (m:=m) hw hp hn hvn hb with h1 | ⟨c0,p0,h1,h2,h3⟩
 ·exact absurd hv (h1 c p)
 ·have:=h v c0 p0 h1 (by omega)
  have h4:=h3 c p hv;have hbd:=hv.bd hl;have hbd0:=h1.bd hl;exact this.trans (by unfold leL leR at *; omega)
theorem RI.step (hw:wfB g=true) (hp:g.np≤100) (hn:g.ne≤500) {k0:Int} {c0 e0:Nat→Int} {s:Lbl} {k:Int} (h:RI g m b g.ne k0 c0 e0 s) (hk:KLb g m b c0 e0 k):KLb g m b s.2.1 s.2.2 (k + 1):=fun v c p hv hpk=>by
 have hl:=(qKJ (m:=m) hw hp hn).1;cases hv with
 | nil=>rw [h.w.src.1,h.w.src.2]; exact leL.refl _ _
 | @cons x y w c p hv hx hwl hy =>
  have hc:=hl.hco _ _ hx hwl;have hbd:=hv.bd hl;have h1:=hk x c p hv (by omega);have h2:=h.ed x v _ (yJA hwl hy) (by unfold leL at h1; omega);have h3:=leL.add hc.1 hbd.1 h1;rw [show p - 1 + 1=p + 1 - 1 by omega] at h3;exact h2.trans h3
theorem RI.stable (hw:wfB g=true) (hp:g.np≤100) (hn:g.ne≤500) {k0:Int} {c0 e0:Nat→Int} (h:RI g m b g.ne k0 c0 e0 (false,c0,e0)):BLb g m b c0 e0:=fun v c p hv=>by
 have hl:=(qKJ (m:=m) hw hp hn).1;induction hv with
 | nil=>rw [show c0 b=0 from h.w.src.1,show e0 b=0 from h.w.src.2]; exact leL.refl _ _
 | @cons x y w c p hv hx hwl hy ih =>
  have hc:=hl.hco _ _ hx hwl;have hbd:=hv.bd hl;have h2:=h.ed x y _ (yJA hwl hy) (by unfold leL at ih; omega);have h3:=leL.add hc.1 hbd.1 ih;rw [show p - 1 + 1=p + 1 - 1 by omega] at h3;exact h2.trans h3
theorem zVE (hw:wfB g=true) (hp:g.np≤100) (hn:g.ne≤500) {oc oe:Nat→Int} (h:LbW g m b oc oe) (hb:BLb g m b oc oe) {x y:Nat} {c:Int} (hx:x < g.np) (hc:0≤c) (hj:Jn g m g.ne x (y:Int) c):rlx (false,oc,oe) x y c=(false,oc,oe):=by
 obtain ⟨_,_,_,h4⟩:=zZX hw hp hn (s:=(false,oc,oe)) hx hc hj h;rcases h4 with h4 | ⟨_,h5,h6⟩
 ·exact h4
 ·exfalso;rcases h.wk x hx with h7 | h7
  ·have:(0:Int)≤oc x:=h5
   omega
  ·have:=hb y _ _ (h7.edge hx hj)
   rw [show oe x + 1 + 1 - 1=oe x + 1 by omega] at this;exact h6 this
theorem yWF (hw:wfB g=true) (hp:g.np≤100) (hn:g.ne≤500) {oc oe:Nat→Int} (h:LbW g m b oc oe) (hb:BLb g m b oc oe) {i:Nat} (hi:i < g.ne):nxB g m i (false,oc,oe)=(false,oc,oe):=by
 obtain ⟨e1,e2,e3,e4,e5⟩:=jU hw hi;unfold nxB;cases hu:usB (g.ed i).s m with
 | false=>rfl
 | true =>
  simp only [vYQ];rw [zVE hw hp hn h hb (by omega) e4 ⟨i,hi,hu,rfl,.inl ⟨rfl,by omega⟩⟩,zVE hw hp hn h hb (by omega) e4 ⟨i,hi,hu,rfl,.inr ⟨rfl,by omega⟩⟩]
theorem kZW (hw:wfB g=true) (hp:g.np≤100) (hn:g.ne≤500) {k0:Int} (hk:0≤k0) (_:k0≤1000000) {c0 e0:Nat→Int} (h:LbW g m b c0 e0) (hs:LbS g.np c0 e0 k0) {N:Nat} (hN:g.ne < N) :
  qU (dcl2 g m) N (0,false,c0,e0)=some (0,(g.ne:Int),qUW (nxB g m) g.ne 0 (false,c0,e0))∧RI g m b g.ne k0 c0 e0 (qUW (nxB g m) g.ne 0 (false,c0,e0)):=by
 have hR:RI g m b 0 k0 c0 e0 (false,c0,e0):=⟨h,fun v=>leL.refl _ _,fun x y c ⟨e,h,_⟩=>absurd h (Nat.not_lt_zero e),fun _=>rfl,fun v hv=>by
  have:=hs v hv
  show -1≤c0 v∧c0 v≤(k0 + 2 * ((0:Nat):Int)) * 1099511627776∧0≤e0 v∧e0 v≤k0 + 2 * ((0:Nat):Int)
  omega⟩
 refine ⟨jZ (dec:=dcl2 g m) (nx:=nxB g m) (Q:=fun (i:Nat) (s:Lbl)=>RI g m b i k0 c0 e0 s) (out:=fun s=>((g.ne:Int),s)) (c:=g.ne) (fun i s hi hq=>yUQ hw hi (by omega) (show k0 + 2 * (i:Int)≤4000000 by omega) hq.sm) (fun i s hi hq=>hq.next hw hp hn hk hi) (fun s _=>yGA) g.ne 0 N _ (by omega) hN hR,?_⟩;exact jG (Q:=fun (i:Nat) (s:Lbl)=>RI g m b i k0 c0 e0 s) (c:=g.ne) (nx:=nxB g m) (fun i s hi hq=>hq.next hw hp hn hk hi) g.ne 0 _ (by omega) hR
theorem jJL {N:Nat} {B:Int} {oc oe:Nat→Int} {j:Int} {s:Lbl} (h:qU (dcl2 g m) (N + 10) (0,false,oc,oe)=some (0,j,s)):dcl1 N g B m (true,oc,oe)=.inl s:=by
 have ho:qZL N g m (0,false,(fun v=>(oc v)),(fun v=>(oe v)))=(0,j,s):=by
  unfold qZL;show (qU (dcl2 g m) (N + 10) (0,false,oc,oe)).getD _=_;rw [h]; rfl
 have hk:qJL N g m (0,false,(fun v=>(oc v)),(fun v=>(oe v)))=true:=by
  unfold qJL;show (qU (dcl2 g m) (N + 10) (0,false,oc,oe)).isSome=_;rw [h]; rfl
 dsimp only [dcl1];rw [yQ,ho,hk]; rfl
theorem yGB {N:Nat} {B:Int} {oc oe:Nat→Int}:dcl1 N g B m (false,oc,oe)=.inr (0,false,oc,oe):=rfl
theorem jVZ (hw:wfB g=true) (hp:g.np≤100) (hn:g.ne≤500) (hb:b < g.np) {N:Nat} (hN:g.ne < N + 10) (B:Int):∀ (j k M:Nat) (oc oe:Nat→Int),j + k=101→j + 2 < M→LbW g m b oc oe→LbS g.np oc oe (1000 * (k:Int))→KLb g m b oc oe (k:Int) →
  ∃ oc' oe',qU (dcl1 N g B m) M (true,oc,oe)=some (0,false,oc',oe')∧LbW g m b oc' oe'∧BLb g m b oc' oe'
 | j,k,0,oc,oe,hj,hM,h,hs,hk=>by omega
 | j,k,M + 1,oc,oe,hj,hM,h,hs,hk=>by
  obtain ⟨h1,h2⟩:=kZW hw hp hn (show (0:Int)≤1000 * (k:Int) by omega) (by omega) h hs hN;rw [qU,jJL h1];cases hs1:(qUW (nxB g m) g.ne 0 (false,oc,oe)).1 with
  | false =>
   have e:=h2.ag hs1;rw [e] at h2 ⊢;obtain ⟨M,rfl⟩:∃ K,M=K + 1:=⟨M - 1,by omega⟩
   exact ⟨oc,oe,by simp only [qU,yGB],h,RI.stable hw hp hn h2⟩
  | true =>
   by_cases h101:100≤k
   ·exfalso;have hbst:=KLb.best hw hp hn hb (show (100:Int)≤(k:Int) by omega) hk
    have:qUW (nxB g m) g.ne 0 (false,oc,oe)=(false,oc,oe):=jG (Q:=fun (_:Nat) (s:Lbl)=>s=(false,oc,oe)) (c:=g.ne) (nx:=nxB g m) (fun i s hi hq=>by rw [hq]; exact yWF hw hp hn h hbst hi) g.ne 0 _ (by omega) rfl
    rw [this] at hs1; cases hs1
   ·generalize qUW (nxB g m) g.ne 0 (false,oc,oe)=s at *;obtain ⟨ag,oc',oe'⟩:=s;dsimp only at hs1;subst hs1;exact jVZ hw hp hn hb hN B (j - 1) (k + 1) M oc' oe' (by omega) (by omega) h2.w (fun v hv=>by have:=h2.sm v hv; dsimp only at this; omega) (by
     have:=RI.step hw hp hn h2 hk
     rw [show ((k + 1:Nat):Int)=(k:Int) + 1 by omega];exact this)
end
end Go.Proofs.Ytglkkhpdbfacfaa.Bs
namespace Go.Proofs.Ytglkkhpdbfacfaa.Bt
open Go.Rx Rt Go.Sx Go.RowKit Ba Bb Bc Bd Be Bf Bi Bj Bk Bh Bm Bn Bo Bp Bq Br Bs
theorem yUZ {g:Gr} (_:g.np≤100) {i:Nat} (hi:i < g.np) {s:(Nat→Int) × (Nat→Int)}:dcl0 g ((i:Int),s)=.inl (((i + 1:Nat):Int),setF s.1 i (-1),setF s.2 i (s.2 i)):=by
 obtain ⟨oc,oe⟩:=s;dsimp only [dcl0];simp only [toN,vYJ (show (i:Int) < (g.np:Int) by omega),zU hi,uK (show i < 1000000 by omega),vYQ];rfl
theorem yGC {g:Gr} {s:(Nat→Int) × (Nat→Int)}:dcl0 g ((g.np:Int),s)=.inr (0,(g.np:Int),s):=by
 obtain ⟨oc,oe⟩:=s;dsimp only [dcl0];rw [toN,vYY (by omega)]; rfl
theorem kZV {g:Gr} (hp:g.np≤100) {N:Nat} (hN:g.np < N):∃ oc oe:Nat→Int,qU (dcl0 g) N (0,zN,zN)=some (0,(g.np:Int),oc,oe)∧∀ v,v < g.np→oc v = -1∧oe v=0:=by
 have h1:=jZ (dec:=dcl0 g) (nx:=fun (i:Nat) (s:(Nat→Int) × (Nat→Int))=>(setF s.1 i (-1),setF s.2 i (s.2 i))) (Q:=fun _ _=>True) (out:=fun s=>((g.np:Int),s)) (c:=g.np) (fun i s hi _=>yUZ hp hi) (fun _ _ _ _=>trivial) (fun s _=>yGC) g.np 0 N (zN,zN) (by omega) hN trivial;have h2:=jG (Q:=fun (i:Nat) (s:(Nat→Int) × (Nat→Int))=>(∀ v,v < i→s.1 v = -1)∧∀ v,s.2 v=0) (c:=g.np) (nx:=fun (i:Nat) (s:(Nat→Int) × (Nat→Int))=>(setF s.1 i (-1),setF s.2 i (s.2 i))) (fun i s hi hq=>⟨fun v hv=>by
  by_cases e:v=i
  ·subst e; exact yU _ _ _
  ·show setF s.1 i (-1) v = -1;rw [zY e]; exact hq.1 v (by omega),fun v=>by
  by_cases e:v=i
  ·subst e; show setF s.2 v (s.2 v) v=0; rw [yU]; exact hq.2 v
  ·show setF s.2 i (s.2 i) v=0;rw [zY e]; exact hq.2 v⟩) g.np 0 (zN,zN) (by omega) ⟨fun v hv=>absurd hv (Nat.not_lt_zero v),fun v=>rfl⟩
 exact ⟨_,_,h1,fun v hv=>⟨h2.1 v hv,h2.2 v⟩⟩
noncomputable def lbT (g:Gr) (b m:Int):Lbl:=(qHH NN g b m (true,(fun v=>(bif (Nat.beq v (b).toNat) then 0 else ((qQU NN g (0,zN,zN)).2.2.1 v))),(fun v=>(bif (Nat.beq v (b).toNat) then 0 else ((qQU NN g (0,zN,zN)).2.2.2 v))))).2
theorem zYJ {g:Gr} {m:Int} {b:Nat} (hw:wfB g=true) (hp:g.np≤100) (hn:g.ne≤500) (hb:b < g.np):zWX NN g (0,zN,zN)=true∧(qQU NN g (0,zN,zN)).1=0∧zWU NN g (b:Int) m (true,(fun v=>(bif (Nat.beq v (b:Int).toNat) then 0 else ((qQU NN g (0,zN,zN)).2.2.1 v))),(fun v=>(bif (Nat.beq v (b:Int).toNat) then 0 else ((qQU NN g (0,zN,zN)).2.2.2 v))))=true∧(qHH NN g (b:Int) m (true,(fun v=>(bif (Nat.beq v (b:Int).toNat) then 0 else ((qQU NN g (0,zN,zN)).2.2.1 v))),(fun v=>(bif (Nat.beq v (b:Int).toNat) then 0 else ((qQU NN g (0,zN,zN)).2.2.2 v))))).1=0∧LbW g m b (lbT g b m).2.1 (lbT g b m).2.2∧BLb g m b (lbT g b m).2.1 (lbT g b m).2.2:=by
 have hl:=(qKJ (m:=m) hw hp hn).1;obtain ⟨oc,oe,h1,h2⟩:=kZV hp (show g.np < NN + 10 by rw [qYK]; omega);have o0:qQU NN g (0,zN,zN)=(0,(g.np:Int),oc,oe):=by unfold qQU; rw [h1]; rfl
 have k0:zWX NN g (0,zN,zN)=true:=by unfold zWX; rw [h1]; rfl
 have z:∀ (f:Nat→Int) (v:Nat),(bif Nat.beq v (b:Int).toNat then (0:Int) else f v)=if v=b then 0 else f v:=fun f v=>by
  rw [toN,uH];by_cases e:v=b
  ·rw [vYJ e,if_pos e]; rfl
  ·rw [vYY e,if_neg e]; rfl
 have hW:LbW g m b (fun v=>(bif (Nat.beq v (b:Int).toNat) then 0 else (oc v))) (fun v=>(bif (Nat.beq v (b:Int).toNat) then 0 else (oe v))):=by
  refine ⟨fun v hv => ?_,?_⟩
  ·simp only [z];by_cases e:v=b
   ·subst e; rw [if_pos rfl,if_pos rfl]; exact .inr .nil
   ·rw [if_neg e,(h2 v hv).1]; exact .inl (by omega)
  ·simp only [z,if_true]; exact ⟨trivial,trivial⟩
 have hS:LbS g.np (fun v=>(bif (Nat.beq v (b:Int).toNat) then 0 else (oc v))) (fun v=>(bif (Nat.beq v (b:Int).toNat) then 0 else (oe v))) (1000 * ((0:Nat):Int)):=fun v hv=>by
  simp only [z];by_cases e:v=b
  ·rw [if_pos e,if_pos e]; omega
  ·rw [if_neg e,if_neg e,(h2 v hv).1,(h2 v hv).2]; omega
 have hK:KLb g m b (fun v=>(bif (Nat.beq v (b:Int).toNat) then 0 else (oc v))) (fun v=>(bif (Nat.beq v (b:Int).toNat) then 0 else (oe v))) ((0:Nat):Int):=fun v c p hv hpk=>by
  have hbd:=hv.bd hl;obtain ⟨rfl,rfl⟩:=hv.one hl (by omega);simp only [z,if_true];unfold leL leR; omega
 obtain ⟨oc',oe',q1,q2,q3⟩:=jVZ hw hp hn hb (N:=NN) (show g.ne < NN + 10 by rw [qYK]; omega) (b:Int) 101 0 (NN + 10) _ _ (by omega) (by rw [qYK]; omega) hW hS hK;have o1:qHH NN g (b:Int) m (true,(fun v=>(bif (Nat.beq v (b:Int).toNat) then 0 else ((qQU NN g (0,zN,zN)).2.2.1 v))),(fun v=>(bif (Nat.beq v (b:Int).toNat) then 0 else ((qQU NN g (0,zN,zN)).2.2.2 v))))=(0,false,oc',oe'):=by rw [o0]; unfold qHH; rw [q1]; rfl
 have k1:zWU NN g (b:Int) m (true,(fun v=>(bif (Nat.beq v (b:Int).toNat) then 0 else ((qQU NN g (0,zN,zN)).2.2.1 v))),(fun v=>(bif (Nat.beq v (b:Int).toNat) then 0 else ((qQU NN g (0,zN,zN)).2.2.2 v))))=true:=by rw [o0]; unfold zWU; rw [q1]; rfl
 have hT:lbT g b m=(false,oc',oe'):=by unfold lbT; rw [o1]
 rw [hT];exact ⟨k0,by rw [o0],k1,by rw [o1],q2,q3⟩
noncomputable def lslb (N:Nat) (g:Gr) (b m:Int):List (List Nat × yK):=[([0,1,0,1,1],sumF (fun t:(Int × (Nat→Int) × (Nat→Int))=>(hl0 N g b m t.1 t.2.1 t.2.2)) (fun σ=>(slI σ 8,rgI σ 18 0,rgI σ 18 1)) (fun t K=>(bif zWX N g t then kxl0 N g b m K (qQU N g t) else none))),([0,1,0,1,1,1,1],sumF (fun t:(Bool × (Nat→Int) × (Nat→Int))=>(hl1 N g b m t.1 t.2.1 t.2.2)) (fun σ=>(slB σ 9,rgI σ 18 0,rgI σ 18 1)) (fun t K=>(bif zWU N g b m t then kxl1 N g b m K (qHH N g b m t) else none)))]
set_option maxRecDepth 100000 in
theorem pxlb (N:Nat) (g:Gr) (b m:Int):qQK Tf (orl0 N g b m) (qY (lslb N g b m)) (N + 10) 33 [.a (gP g),.n .i64 b,.n .i64 m] =
 (bif (decide (0≤(g.np:Int))) then (bif (decide ((g.np:Int)≤(g.np:Int))) then (bif (decide ((g.np:Int)≤1000000)) then (bif (gSt (hl0 N g b m 0 zN zN) (hl0 N g b m 0 zN zN)) then (bif (zWX N g (0,zN,zN)) then (bif (Nat.beq (qQU N g (0,zN,zN)).1 0) then (bif (inB b (g.np:Int).toNat) then (bif (gSt (hl1 N g b m true (fun v=>(bif (Nat.beq v (b).toNat) then 0 else ((qQU N g (0,zN,zN)).2.2.1 v))) (fun v=>(bif (Nat.beq v (b).toNat) then 0 else ((qQU N g (0,zN,zN)).2.2.2 v)))) (hl1 N g b m true (fun v=>(bif (Nat.beq v (b).toNat) then 0 else ((qQU N g (0,zN,zN)).2.2.1 v))) (fun v=>(bif (Nat.beq v (b).toNat) then 0 else ((qQU N g (0,zN,zN)).2.2.2 v))))) then (bif (zWU N g b m (true,(fun v=>(bif (Nat.beq v (b).toNat) then 0 else ((qQU N g (0,zN,zN)).2.2.1 v))),(fun v=>(bif (Nat.beq v (b).toNat) then 0 else ((qQU N g (0,zN,zN)).2.2.2 v))))) then (bif (Nat.beq (qHH N g b m (true,(fun v=>(bif (Nat.beq v (b).toNat) then 0 else ((qQU N g (0,zN,zN)).2.2.1 v))),(fun v=>(bif (Nat.beq v (b).toNat) then 0 else ((qQU N g (0,zN,zN)).2.2.2 v))))).1 0) then some (.ow 76 2 (.fo (g.np:Int).toNat (fun v=>[.n .i64 ((qHH N g b m (true,(fun v=>(bif (Nat.beq v (b).toNat) then 0 else ((qQU N g (0,zN,zN)).2.2.1 v))),(fun v=>(bif (Nat.beq v (b).toNat) then 0 else ((qQU N g (0,zN,zN)).2.2.2 v))))).2.2.1 v),.n .i64 ((qHH N g b m (true,(fun v=>(bif (Nat.beq v (b).toNat) then 0 else ((qQU N g (0,zN,zN)).2.2.1 v))),(fun v=>(bif (Nat.beq v (b).toNat) then 0 else ((qQU N g (0,zN,zN)).2.2.2 v))))).2.2.2 v)])),[])
 else none)
 else none)
 else none)
 else none)
 else none)
 else none)
 else none)
 else none)
 else none)
 else none):=by kernel_rfl
theorem jUU (N:Nat) (g:Gr) (b m:Int) (b0:Nat) (eb:b=(b0:Int)) (hN:N=NN) (hw:wfB g=true) (hp:g.np≤100) (hn:g.ne≤500) (hb:b0 < g.np):yY Try.prog 33 [.a (gP g),.n .i64 b,.n .i64 m] (.ow 76 2 (.fo g.np (tcP (lbT g b m).2.1 (lbT g b m).2.2))):=by
 refine qG (N:=(N + 10)) (LO:=qY (lslb N g b m)) yV yX (yG (l:=[(48,o_ru),(51,o_ls)]) (m:=[]) ⟨jXG,kQX,trivial⟩ trivial) (fun p S hp => ?_) ?_
 ·refine qW (L:=qQ Tf 33) (l:=(lslb N g b m)) (show AllP _ (lslb N g b m) from ⟨?_,?_,trivial⟩) p S hp
  ·dsimp only;refine yZ (T:=Tf) (o:=(orl0 N g b m)) (f:=33) (LO:=qY []) (p:=[0,1,0,1,1]) jQ ?_;intro t K r hr;obtain ⟨hg,hr⟩:=qZ hr
   skip
   exact (lwl0 K N g b m t hg).trans hr
  ·dsimp only;refine yZ (T:=Tf) (o:=(orl0 N g b m)) (f:=33) (LO:=(qY [([0,1,1,0,1,0,0,1,0,1,1,1,1],sumF (fun t:(Int × Bool × (Nat→Int) × (Nat→Int))=>(hl2 N g b m t.1 t.2.1 t.2.2.1 t.2.2.2)) (fun σ=>(slI σ 10,slB σ 9,rgI σ 18 0,rgI σ 18 1)) (fun t K=>(bif qJL N g m t then kxl2 N g b m K (qZL N g m t) else none)))])) (p:=[0,1,0,1,1,1,1]) (okl2 N g b m) ?_;intro t K r hr;obtain ⟨hg,hr⟩:=qZ hr
   skip
   exact (lwl1 K N g b m t hg).trans hr
 ·refine (pxlb N g b m).trans ?_;subst eb hN;obtain ⟨s1,s2,s3,s4,_,_⟩:=zYJ (m:=m) hw hp hn hb;simp only [vYJ (show (0:Int)≤(g.np:Int) by omega),vYJ (show (g.np:Int)≤(g.np:Int) by omega),vYJ (show (g.np:Int)≤1000000 by omega),yQ,s1,s2,qZG (n:=(g.np:Int).toNat) rfl (by rw [toN]; exact hb),vYQ,Nat.beq_refl];rw [s3,s4];rfl
end Go.Proofs.Ytglkkhpdbfacfaa.Bt

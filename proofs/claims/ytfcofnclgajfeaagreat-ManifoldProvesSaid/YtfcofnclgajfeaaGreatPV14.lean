/- Part 14 of the texts behind the last one: rules and contracts. No condition. -/
import Derived.Test.YtfcofnclgajfeaaGreatPV13
open Bool renaming and_eq_true → vQJ, and_self → vZJ
open Go.IntKind renaming wrap → vJJ
namespace Go.Proofs.YtfcofnclgajfeaaGreat.Td
open Go.Rx Rt Go.Sx Go.RowKit Od Oe Na Nb Nc Nd Nx Nf Ng Nj Nj2 Nl Nm Pa Pb Ta Tb Tc
abbrev Stk:=Nat × (Nat→Int) × (Nat→Int) × Nat × (Nat→Int) × (Nat→Int)
section
variable {js:Nat→J} {ms:Nat→Ms} {n m:Nat} {cs:Nat→Cn} {c:Nat} {pp qq:Nat→Int} {k l:Nat} {D:Int}
theorem wr_n {a:Nat} (_:a≤1000000):vJJ .i64 (((a + 1:Nat):Int) - 1)=(a:Int):=by rw [qG (by omega)]; omega
theorem tp_n {a:Nat} {f:Nat→Int} (h:a≤1000000):tp (a + 1) f=f a:=by unfold tp; rw [wr_n h,Int.toNat_natCast]
theorem dc_at (hc:cErr js ms n m cs c=true) (hp:qIn js ms pp n m k=true) (hq:qIn js ms qq n m l=true) {d i:Int} {sn:Nat} {sd si:Nat→Int} {cnt:Nat} {pd pi:Nat→Int} (h0:0≤d) (h1:d≤20) (i0:0≤i) (i1:i < 2 ^ d.toNat) (_:sn≤100) (ed:sd sn=d) (ei:si sn=i) :
  dcTu js ms n m cs c pp qq k l D (sn + 1,sd,si,cnt,pd,pi)=if 4096≤cnt then .inr (0,(sn + 1,sd,si,cnt,pd,pi)) else if hE js ms n m cs c pp qq k d i=true then .inl (sn,sd,si,cnt + 1,(fun v=>bif Nat.beq v cnt then d else pd v),(fun v=>bif Nat.beq v cnt then i else pi v)) else
   if bE js ms n m cs c pp qq k d i=true then .inr (1,(sn + 1,sd,si,cnt,pd,pi)) else if D≤d then .inr (0,(sn + 1,sd,si,cnt,pd,pi)) else
   .inl (sn + 2,(fun v=>bif Nat.beq v (sn + 1) then d + 1 else bif Nat.beq v sn then d + 1 else sd v),(fun v=>bif Nat.beq v (sn + 1) then 2 * i else bif Nat.beq v sn then 2 * i + 1 else si v),cnt,pd,pi):=by
 have hk:k=l:=by rw [← (qJB hp).2.1,← (qJB hq).2.1]
 have hn:=qGC (qJB hp).1;have hkn:=(qJB hp).2.1;subst hk;obtain ⟨v1,v2⟩:=pcs_in hp hq d i h0 h1 i0 i1;have g1:gpc js ms n m cs c pp qq k k D d i=true:=qHX ⟨by omega,by omega,v1⟩;have g2:gho js ms n m cs c pp qq k k D d i=true:=qHX ⟨by omega,hc,v2⟩;have g3:gbr js ms n m cs c pp qq k k D d i=true:=qHX ⟨by omega,hc,v2⟩;have p1:(2:Int) ^ d.toNat≤1048576:=two_pow (by omega);unfold dcTu;simp only [tp_n (show sn≤1000000 by omega),ed,ei,wr_n (show sn≤1000000 by omega),Int.toNat_natCast,g1,g2,g3,vJQ (show 0 < ((sn + 1:Nat):Int) by omega),kZ (show sn < sn + 1 by omega),vJQ (show (0:Int)≤(sn:Int) by omega),vJQ (show sn≤sn + 1 by omega),vJQ (show sn + 2≤1000000 by omega),vYV,
  qG (x:=d + 1) (by omega),qG (x:=2 * i) (by omega),qG (x:=2 * i + 1) (by omega)]
 by_cases a1:4096≤cnt
 ·rw [if_pos a1,vJQ (show (4096:Int)≤(cnt:Int) by omega)]; rfl
 rw [if_neg a1,vYH (show ¬ (4096:Int)≤(cnt:Int) by omega),vJQ (show cnt + 1≤1000000 by omega)];by_cases a2:hE js ms n m cs c pp qq k d i=true
 ·rw [if_pos a2,a2]; rfl
 rw [if_neg a2,Bool.eq_false_iff.2 a2];by_cases a3:bE js ms n m cs c pp qq k d i=true
 ·rw [if_pos a3,a3]; rfl
 rw [if_neg a3,Bool.eq_false_iff.2 a3];by_cases a4:D≤d
 ·rw [if_pos a4,vJQ a4]; rfl
 ·rw [if_neg a4,vYH a4]; rfl
theorem bq_t (a:Nat) (x y:Int):(bif Nat.beq a a then x else y)=x:=by rw [qWE,vJQ rfl]; rfl
theorem bq_f {a b:Nat} (h:a ≠ b) (x y:Int):(bif Nat.beq a b then x else y)=y:=by rw [qWE,vYH h]; rfl
theorem it_l {τ υ:Type} {f:τ→τ ⊕ υ} {N:Nat} {s s':τ} (h:f s=.inl s'):qXX f (N + 1) s=qXX f N s':=by simp only [qXX,h]
theorem it_r {τ υ:Type} {f:τ→τ ⊕ υ} {N:Nat} {s:τ} {y:υ} (h:f s=.inr y):qXX f (N + 1) s=some y:=by simp only [qXX,h]
def EndF (js:Nat→J) (n:Nat) (cs:Nat→Cn) (c:Nat) (pp qq:Nat→Int) (ms:Nat→Ms) (m k:Nat) (r:Exs) (o:Nat × Stk):Prop:=∃ a b:Int,tQ o.2=(a,b)∧((o.1=0∧r=(0,z0,z0,0,a,b,0)) ∨ (o.1=1∧r=(0,z0,z0,2,a,b,yB js ms n m cs c pp qq k a b)))
theorem it_ex (hc:cErr js ms n m cs c=true) (hp:qIn js ms pp n m k=true) (hq:qIn js ms qq n m l=true) (_:D≤20):∀ (x:Nat) (d i:Int) (sn:Nat) (sd si:Nat→Int) (cnt:Nat) (pd pi:Nat→Int),d + x=D→0≤d→0≤i→i < 2 ^ d.toNat→sn≤d.toNat→sd sn=d→si sn=i →
  ∃ M,M + 1≤2 ^ (x + 1)∧((∃ cnt' pd' pi' sd' si',exE js ms n m cs c pp qq k x d i (cnt,pd,pi,0,0,0,0)=(true,cnt',pd',pi',0,0,0,0)∧(∀ v,v < sn→sd' v=sd v∧si' v=si v)∧∀ N,qXX (dcTu js ms n m cs c pp qq k l D) (M + N) (sn + 1,sd,si,cnt,pd,pi)=qXX (dcTu js ms n m cs c pp qq k l D) N (sn,sd',si',cnt',pd',pi')) ∨
   (∃ r o,exE js ms n m cs c pp qq k x d i (cnt,pd,pi,0,0,0,0)=(false,r)∧EndF js n cs c pp qq ms m k r o∧∀ N,qXX (dcTu js ms n m cs c pp qq k l D) (M + N) (sn + 1,sd,si,cnt,pd,pi)=some o)):=by
 intro x;induction x with
 | zero =>
  intro d i sn sd si cnt pd pi hd h0 i0 i1 hs ed ei;have dc:=dc_at (D:=D) (cnt:=cnt) (pd:=pd) (pi:=pi) hc hp hq h0 (by omega) i0 i1 (by omega) ed ei;have et:tQ ((sn + 1,sd,si,cnt,pd,pi):Stk)=(d,i):=by
   unfold tQ;simp only [tp_n (show sn≤1000000 by omega),ed,ei]
  refine ⟨1,by decide,?_⟩;unfold exE exR;by_cases a1:4096≤cnt
  ·rw [if_pos a1] at dc ⊢;exact .inr ⟨_,_,rfl,⟨d,i,et,.inl ⟨rfl,rfl⟩⟩,fun N=>by rw [Nat.add_comm 1]; first | exact it_r dc | exact it_l dc⟩
  rw [if_neg a1] at dc ⊢;by_cases a2:hE js ms n m cs c pp qq k d i=true
  ·rw [if_pos a2] at dc ⊢;exact .inl ⟨_,_,_,sd,si,rfl,fun v _=>⟨rfl,rfl⟩,fun N=>by rw [Nat.add_comm 1]; first | exact it_r dc | exact it_l dc⟩
  rw [if_neg a2] at dc ⊢;by_cases a3:bE js ms n m cs c pp qq k d i=true
  ·rw [if_pos a3] at dc ⊢;exact .inr ⟨_,_,rfl,⟨d,i,et,.inr ⟨rfl,rfl⟩⟩,fun N=>by rw [Nat.add_comm 1]; first | exact it_r dc | exact it_l dc⟩
  rw [if_neg a3] at dc ⊢;rw [if_pos (show D≤d by omega)] at dc;exact .inr ⟨_,_,rfl,⟨d,i,et,.inl ⟨rfl,rfl⟩⟩,fun N=>by rw [Nat.add_comm 1]; first | exact it_r dc | exact it_l dc⟩
 | succ x ih =>
  intro d i sn sd si cnt pd pi hd h0 i0 i1 hs ed ei;have dc:=dc_at (D:=D) (cnt:=cnt) (pd:=pd) (pi:=pi) hc hp hq h0 (by omega) i0 i1 (by omega) ed ei;have et:tQ ((sn + 1,sd,si,cnt,pd,pi):Stk)=(d,i):=by
   unfold tQ;simp only [tp_n (show sn≤1000000 by omega),ed,ei]
  have b1:1 + 1≤2 ^ (x + 1 + 1):=by
   have:1≤2 ^ x:=Nat.one_le_two_pow
   rw [Nat.pow_succ,Nat.pow_succ]; omega
  unfold exE;rw [exR];by_cases a1:4096≤cnt
  ·rw [if_pos a1] at dc;refine ⟨1,b1,?_⟩;rw [if_pos a1];exact .inr ⟨_,_,rfl,⟨d,i,et,.inl ⟨rfl,rfl⟩⟩,fun N=>by rw [Nat.add_comm 1]; first | exact it_r dc | exact it_l dc⟩
  rw [if_neg a1] at dc;by_cases a2:hE js ms n m cs c pp qq k d i=true
  ·rw [if_pos a2] at dc;refine ⟨1,b1,?_⟩;rw [if_neg a1,if_pos a2];exact .inl ⟨_,_,_,sd,si,rfl,fun v _=>⟨rfl,rfl⟩,fun N=>by rw [Nat.add_comm 1]; first | exact it_r dc | exact it_l dc⟩
  rw [if_neg a2] at dc;by_cases a3:bE js ms n m cs c pp qq k d i=true
  ·rw [if_pos a3] at dc;refine ⟨1,b1,?_⟩;rw [if_neg a1,if_neg a2,if_pos a3];exact .inr ⟨_,_,rfl,⟨d,i,et,.inr ⟨rfl,rfl⟩⟩,fun N=>by rw [Nat.add_comm 1]; first | exact it_r dc | exact it_l dc⟩
  rw [if_neg a3,if_neg (show ¬ D≤d by omega)] at dc;rw [if_neg a1,if_neg a2,if_neg a3];have hq2:(2:Int) ^ (d + 1).toNat=2 * 2 ^ d.toNat:=by rw [show (d + 1).toNat=d.toNat + 1 by omega,Int.pow_succ]; omega
  have pw:2 ^ (x + 1 + 1)=2 ^ (x + 1) + 2 ^ (x + 1):=by rw [Nat.pow_succ]; omega
  obtain ⟨M1,hM1,r1⟩:=ih (d + 1) (2 * i) (sn + 1) (fun v=>bif Nat.beq v (sn + 1) then d + 1 else bif Nat.beq v sn then d + 1 else sd v) (fun v=>bif Nat.beq v (sn + 1) then 2 * i else bif Nat.beq v sn then 2 * i + 1 else si v) cnt pd pi (by omega) (by omega) (by omega) (by omega) (by omega) (bq_t _ _ _) (bq_t _ _ _);rcases r1 with ⟨c1,pd1,pi1,sd1,si1,e1,g1,s1⟩ | ⟨r,o,e1,g1,s1⟩
  ·obtain ⟨M2,hM2,r2⟩:=ih (d + 1) (2 * i + 1) sn sd1 si1 c1 pd1 pi1 (by omega) (by omega) (by omega) (by omega) (by omega) (by rw [(g1 sn (by omega)).1,bq_f (by omega),bq_t]) (by rw [(g1 sn (by omega)).2,bq_f (by omega),bq_t]);unfold exE at e1;refine ⟨1 + M1 + M2,by omega,?_⟩;rw [e1];simp only [if_true];rcases r2 with ⟨c2,pd2,pi2,sd2,si2,e2,g2,s2⟩ | ⟨r,o,e2,g2,s2⟩
   ·unfold exE at e2;refine .inl ⟨c2,pd2,pi2,sd2,si2,e2,fun v hv=>⟨?_,?_⟩,fun N => ?_⟩
    ·rw [(g2 v hv).1,(g1 v (by omega)).1,bq_f (by omega),bq_f (by omega)]
    ·rw [(g2 v hv).2,(g1 v (by omega)).2,bq_f (by omega),bq_f (by omega)]
    ·rw [show 1 + M1 + M2 + N=(M1 + (M2 + N)) + 1 by omega];exact (it_l dc).trans ((s1 _).trans (s2 _))
   ·unfold exE at e2;refine .inr ⟨r,o,e2,g2,fun N => ?_⟩;rw [show 1 + M1 + M2 + N=(M1 + (M2 + N)) + 1 by omega];exact (it_l dc).trans ((s1 _).trans (s2 _))
  ·unfold exE at e1;refine ⟨1 + M1,by omega,?_⟩;rw [e1];simp only [Bool.false_eq_true,if_false];refine .inr ⟨r,o,rfl,g1,fun N => ?_⟩;rw [show 1 + M1 + N=(M1 + N) + 1 by omega];exact (it_l dc).trans (s1 _)
end
def NT:Nat:=4194304
theorem pow_nt {x:Nat} (_:x≤20):2 ^ (x + 1) < NT:=by
 have:∀ e:Nat,e < 21→2 ^ (e + 1) < 4194304:=by decide
 exact this x (by omega)
theorem yHU (js:Nat→J) (ms:Nat→Ms) (n m:Nat) (cs:Nat→Cn) (c:Nat) (pp qq:Nat→Int) (k l:Nat) (D:Int) (ho:okE js ms n m cs c pp qq k l D=true):yQW NT js ms n m cs c pp qq k l D (1,(fun _=>0),(fun _=>0),0,(fun _=>0),(fun _=>0))=true∧(oT NT js ms n m cs c pp qq k l D).1 < 3∧∀ F w v,RP F w (tR js ms n m cs c pp qq k l D (oT NT js ms n m cs c pp qq k l D)) v→RP F w (rE (prE js ms n m cs c pp qq k l D)) v:=by
 have ho':=ho;unfold okE at ho;simp only [vQJ,decide_eq_true_eq] at ho;obtain ⟨hc,hp,hq,h0,h1⟩:=ho;obtain ⟨M,hM,r⟩:=it_ex (D:=D) hc hp hq h1 D.toNat 0 0 0 (fun _=>0) (fun _=>0) 0 z0 z0 (by omega) (by omega) (by omega) (by decide) (by omega) rfl rfl;have hMN:M + 1≤NT:=by have:=pow_nt (x:=D.toNat) (by omega); omega
 have eN:NT=M + (NT - M):=by omega
 unfold prE exP;rw [ho',vYV];rcases r with ⟨cnt',pd',pi',sd',si',e,_,s⟩ | ⟨r,o,e,g,s⟩
 ·have hi:qXX (dcTu js ms n m cs c pp qq k l D) NT (0 + 1,(fun _=>0),(fun _=>0),0,z0,z0)=some (2,(0,sd',si',cnt',pd',pi')):=by
   rw [eN,s,show NT - M=(NT - M - 1) + 1 by omega];unfold qXX;rfl
  have eo:oT NT js ms n m cs c pp qq k l D=(2,(0,sd',si',cnt',pd',pi')):=by
   unfold oT yUK;rw [show qXX (dcTu js ms n m cs c pp qq k l D) NT (1,(fun _=>0),(fun _=>0),0,(fun _=>0),(fun _=>0))=_ from hi]; rfl
  refine ⟨?_,by rw [eo]; show 2 < 3; omega,?_⟩
  ·unfold yQW;exact congrArg Option.isSome hi
  ·rw [eo,e];intro F w v h;exact h
 ·have hi:qXX (dcTu js ms n m cs c pp qq k l D) NT (0 + 1,(fun _=>0),(fun _=>0),0,z0,z0)=some o:=by rw [eN,s]
  have eo:oT NT js ms n m cs c pp qq k l D=o:=by
   unfold oT yUK;rw [show qXX (dcTu js ms n m cs c pp qq k l D) NT (1,(fun _=>0),(fun _=>0),0,(fun _=>0),(fun _=>0))=_ from hi]; rfl
  obtain ⟨a,b,et,g⟩:=g;refine ⟨?_,?_,?_⟩
  ·unfold yQW;exact congrArg Option.isSome hi
  ·rw [eo];rcases g with ⟨g,_⟩ | ⟨g,_⟩ <;> rw [g] <;> decide
  ·rw [eo,e];intro F w v h;rcases g with ⟨g,rfl⟩ | ⟨g,rfl⟩
   ·unfold tR at h;rw [g] at h;simp only [et] at h;exact Same.a (xs:=[_,_,_,_,_,_,_,_]) (ys:=[_,.lf 0 (p3 z0 z0),_,_,_,_,_,_]) ⟨Same.refl _,Same.lf rfl,Same.refl _,Same.refl _,Same.refl _,Same.refl _,Same.refl _,Same.refl _,trivial⟩ F w v h
   ·unfold tR at h;rw [g] at h;simp only [et] at h;exact Same.a (xs:=[_,_,_,_,_,_,_,_]) (ys:=[_,.lf 0 (p3 z0 z0),_,_,_,_,_,_]) ⟨Same.refl _,Same.lf rfl,Same.refl _,Same.refl _,Same.refl _,Same.refl _,Same.refl _,Same.refl _,trivial⟩ F w v h
theorem snd_tu (js:Nat→J) (ms:Nat→Ms) (n m:Nat) (cs:Nat→Cn) (c:Nat) (pp qq:Nat→Int) (k l:Nat) (D:Int):yZ Tryz.prog 22 [.a [.lf n (fJ js),.lf m (fM ms)],.lf c (fC cs),.lf k (fQ pp),.lf l (fQ qq),.n .i64 D] (.v (rE (prE js ms n m cs c pp qq k l D))):=by
 have h:=snd_tu0 NT js ms n m cs c pp qq k l D (fun ho=>⟨(yHU js ms n m cs c pp qq k l D ho).1,(yHU js ms n m cs c pp qq k l D ho).2.1⟩);cases hk:okE js ms n m cs c pp qq k l D with
 | true =>
  rw [hk] at h;exact qYD (fun F w v hv=>(yHU js ms n m cs c pp qq k l D hk).2.2 F w v hv) h
 | false =>
  rw [hk] at h;unfold prE;rw [hk];exact qYD (Same.a (xs:=[_,_,_,_,_,_,_,_]) ⟨Same.refl _,Same.lf rfl,Same.refl _,Same.refl _,Same.refl _,Same.refl _,Same.refl _,Same.refl _,trivial⟩) h
end Go.Proofs.YtfcofnclgajfeaaGreat.Td
namespace Go.Proofs.YtfcofnclgajfeaaGreat.Te
open Go.Rx Rt Go.Sx Go.RowKit Od Oe Na Nb Nc Nd Nx Nf Ng Nj Nj2 Nl Nm Pa Pb Ta Tb Tc Td
noncomputable def orSp (cnt:Nat) (pd pi:Nat→Int):OrS:=orS [] []
noncomputable def hSp (cnt:Nat) (pd pi:Nat→Int) (i:Int):St:=⟨[(0,.v (.lf cnt (p3 pd pi))),(1,.v (.lf cnt (p3 pd pi))),(5,.v (.n .i64 i))],[]⟩
set_option maxRecDepth 100000 in
theorem rdSp (G:St→Option (Ret × Mem)) (K:Cont) (cnt:Nat) (pd pi:Nat→Int) (i:Int):stpT Tf 36 (orSp cnt pd pi) 5000 [] [0,1,0,1,1] K G (hSp cnt pd pi i) =
 (bif (decide (i < (cnt:Int))) then (bif (inB i cnt) then (bif (inB i cnt) then (bif (decide ((pd (i).toNat)=(pd (i).toNat))) then (bif (decide ((pi (i).toNat)=(pi (i).toNat))) then (G (hSp cnt pd pi (vJJ .i64 (i + 1))))
 else (K .ret ⟨[(4,.v (.b false))],[]⟩))
 else (K .ret ⟨[(4,.v (.b false))],[]⟩))
 else none)
 else none)
 else (K (.exit 0) ⟨[],[]⟩)):=by kernel_rfl
theorem lpSp (K:Cont) (cnt:Nat) (pd pi:Nat→Int) (_:cnt≤4096):LFT Tf 36 (orSp cnt pd pi) 5000 [] [0,1,0,1,1] K 5000 (hSp cnt pd pi 0)=bif (allN (fun i:Nat=>true) cnt 0) then (K (.exit 0) ⟨[],[]⟩) else (K .ret ⟨[(4,.v (.b false))],[]⟩):=by
 refine (zXW (L:=LFT Tf 36 (orSp cnt pd pi) 5000 [] [0,1,0,1,1] K) (stp:=stpT Tf 36 (orSp cnt pd pi) 5000 [] [0,1,0,1,1] K) (fun _ _=>rfl) (fun (i:Nat) (_:Unit)=>hSp cnt pd pi (i:Int)) (fun _ _=>True) (fun (i:Nat) _=>true) (fun _ _=>()) (c:=cnt) (fun _=>(K (.exit 0) ⟨[],[]⟩)) (fun i _=>(K .ret ⟨[(4,.v (.b false))],[]⟩)) (fun G i f hi _ => ?_) (fun _ _ _ _ _=>trivial) (fun G f _ => ?_) cnt 0 5000 () (by omega) (by omega) trivial).trans ((runS_unit _ _ _ _ _).trans (qZF _ _ _ _ _))
 ·refine (rdSp G K cnt pd pi i).trans ?_;rw [vJQ (show (i:Int) < (cnt:Int) by omega),qZQ (by omega),kZ (show i < cnt by omega),toN,vJQ (show pd i=pd i from rfl),vJQ (show pi i=pi i from rfl)]
  all_goals rfl
 ·refine (rdSp G K cnt pd pi cnt).trans ?_;rw [vYH (show ¬ (cnt:Int) < (cnt:Int) by omega)];rfl
noncomputable def yVA (cnt:Nat) (pd pi:Nat→Int):List (List Nat × uU):=[([0,1,0,1,1],sumF (fun _:Unit=>(hSp cnt pd pi 0)) (fun _=>()) (fun _ K=>(bif (decide (cnt≤4096)) then (bif (allN (fun i:Nat=>true) cnt 0) then (K (.exit 0) ⟨[],[]⟩) else (K .ret ⟨[(4,.v (.b false))],[]⟩)) else none)))]
set_option maxRecDepth 100000 in
theorem pxsps (cnt:Nat) (pd pi:Nat→Int):qXJ Tf (orSp cnt pd pi) (zW (yVA cnt pd pi)) 5000 36 [.lf cnt (p3 pd pi),.lf cnt (p3 pd pi)] =
 (bif (!decide ((cnt:Int)=(cnt:Int))) then some (.v (.b false),[])
 else (bif (gSt (hSp cnt pd pi 0) (hSp cnt pd pi 0)) then (bif (decide (cnt≤4096)) then (bif (allN (fun i:Nat=>true) cnt 0) then some (.v (.b true),[])
 else some (.v (.b false),[]))
 else none)
 else none)):=by kernel_rfl
theorem snd_sps (cnt:Nat) (pd pi:Nat→Int) (hc:cnt≤4096):yZ Tryz.prog 36 [.lf cnt (p3 pd pi),.lf cnt (p3 pd pi)] (.v (.b true)):=by
 refine jX (N:=5000) (LO:=zW (yVA cnt pd pi)) qZH yQ (qZC (l:=[]) (m:=[]) trivial trivial) (fun p S hp => ?_) ?_
 ·refine jK (L:=qK Tf 36) (l:=(yVA cnt pd pi)) (show AllP _ (yVA cnt pd pi) from ⟨?_,trivial⟩) p S hp
  ·dsimp only;refine qVW (T:=Tf) (o:=(orSp cnt pd pi)) (f:=36) (LO:=zW []) (p:=[0,1,0,1,1]) qVF ?_;intro t K r hr;obtain ⟨hg,hr⟩:=qQ hr;have hc:=vJZ hg;exact (lpSp K cnt pd pi hc).trans hr
 ·refine (pxsps cnt pd pi).trans ?_;have e:(allN (fun i:Nat=>true) cnt 0)=true:=allN_iff.2 fun _ _ _=>rfl
  simp only [jG,vJQ hc,e,vJQ (show (cnt:Int)=(cnt:Int) from rfl),Bool.not_true,vYV,vYG]
  all_goals rfl
noncomputable def orsme (cnt:Nat) (pd pi:Nat→Int) (_ ad _ _:Int):OrS:=orS [(36,o_lk [.lf cnt (p3 pd pi),.lf cnt (p3 pd pi)] (decide (cnt≤4096)) (.v (.b true)))] []
noncomputable def yVB (cnt:Nat) (pd pi:Nat→Int) (_ ad _ _:Int):List (List Nat × uU):=[]
set_option maxRecDepth 100000 in
theorem pxsme (cnt:Nat) (pd pi:Nat→Int) (kd ad ai pr:Int):qXJ Tf (orsme cnt pd pi kd ad ai pr) (zW (yVB cnt pd pi kd ad ai pr)) 60 21 [.a [.n .i64 kd,.lf cnt (p3 pd pi),.n .i64 ad,.n .i64 ai,.l [],.n .i64 pr,.l [],.l []],.a [.n .i64 kd,.lf cnt (p3 pd pi),.n .i64 ad,.n .i64 ai,.l [],.n .i64 pr,.l [],.l []]] =
 (bif (decide (kd=kd)) then (bif (g1 [.lf cnt (p3 pd pi),.lf cnt (p3 pd pi)] && (decide (cnt≤4096))) then (bif (decide (ad=ad)) then (bif (decide (ai=ai)) then (bif (decide (pr=pr)) then some (.v (.b true),[])
 else some (.v (.b false),[]))
 else some (.v (.b false),[]))
 else some (.v (.b false),[]))
 else none)
 else some (.v (.b false),[])):=by kernel_rfl
theorem snd_sme (cnt:Nat) (pd pi:Nat→Int) (kd ad ai pr:Int) (hc:cnt≤4096):yZ Tryz.prog 21 [.a [.n .i64 kd,.lf cnt (p3 pd pi),.n .i64 ad,.n .i64 ai,.l [],.n .i64 pr,.l [],.l []],.a [.n .i64 kd,.lf cnt (p3 pd pi),.n .i64 ad,.n .i64 ai,.l [],.n .i64 pr,.l [],.l []]] (.v (.b true)):=by
 refine jX (N:=60) (LO:=zW (yVB cnt pd pi kd ad ai pr)) qZH yQ (qZC (l:=[(36,o_lk [.lf cnt (p3 pd pi),.lf cnt (p3 pd pi)] (decide (cnt≤4096)) (.v (.b true)))]) (m:=[]) ⟨zVC (fun h=>snd_sps cnt pd pi (vJZ h)),trivial⟩ trivial) (fun p S hp => ?_) ?_
 ·refine jK (L:=qK Tf 21) (l:=(yVB cnt pd pi kd ad ai pr)) (show AllP _ (yVB cnt pd pi kd ad ai pr) from trivial) p S hp
 ·refine (pxsme cnt pd pi kd ad ai pr).trans ?_;simp only [g1_t,vJQ hc,vJQ (show kd=kd from rfl),vJQ (show ad=ad from rfl),vJQ (show ai=ai from rfl),vJQ (show pr=pr from rfl),vZJ,decide_true,vYV]
theorem exR_le (h b:Int→Int→Bool) (y:Int→Int→Int):∀ (x:Nat) (d i:Int) (s:Exs),s.1≤4096→(exR h b y x d i s).2.1≤4096:=by
 intro x;induction x with
 | zero =>
  intro d i s hs;rw [exR];split
  ·exact Nat.zero_le _
  split
  ·show s.1 + 1≤4096; omega
  split
  ·exact Nat.zero_le _
  ·exact Nat.zero_le _
 | succ x ih =>
  intro d i s hs;rw [exR];split
  ·exact Nat.zero_le _
  split
  ·show s.1 + 1≤4096; omega
  split
  ·exact Nat.zero_le _
  ·split
   ·exact ih _ _ _ (ih _ _ _ hs)
   ·exact ih _ _ _ hs
theorem prE_le (js:Nat→J) (ms:Nat→Ms) (n m:Nat) (cs:Nat→Cn) (c:Nat) (pp qq:Nat→Int) (k l:Nat) (D:Int):(prE js ms n m cs c pp qq k l D).1≤4096:=by
 have:=exR_le (hE js ms n m cs c pp qq k) (bE js ms n m cs c pp qq k) (yE js ms n m cs c pp qq k) D.toNat 0 0 (0,z0,z0,0,0,0,0) (Nat.zero_le _)
 unfold prE;cases okE js ms n m cs c pp qq k l D with
 | false=>exact Nat.zero_le _
 | true =>
  simp only [vYV];cases (exP js ms n m cs c pp qq k D).1 with
  | false=>exact this
  | true=>exact this
theorem snd_smE (js:Nat→J) (ms:Nat→Ms) (n m:Nat) (cs:Nat→Cn) (c:Nat) (pp qq:Nat→Int) (k l:Nat) (D:Int):yZ Tryz.prog 21 [rE (prE js ms n m cs c pp qq k l D),rE (prE js ms n m cs c pp qq k l D)] (.v (.b true)):=snd_sme _ _ _ _ _ _ _ (prE_le js ms n m cs c pp qq k l D)
noncomputable def orprvs (js:Nat→J) (ms:Nat→Ms) (n m:Nat) (cs:Nat→Cn) (c:Nat) (pp qq:Nat→Int) (k l:Nat) (D:Int):OrS:=orS [(17,o_cr [.a [.lf n (fJ js),.lf m (fM ms)],.lf c (fC cs),.lf k (fQ pp),.lf l (fQ qq),.n .i64 D] (.v (rE (prE js ms n m cs c pp qq k l D)))),(22,o_cr [.a [.lf n (fJ js),.lf m (fM ms)],.lf c (fC cs),.lf k (fQ pp),.lf l (fQ qq),.n .i64 D] (.v (rE (prE js ms n m cs c pp qq k l D)))),(21,o_cr [rE (prE js ms n m cs c pp qq k l D),rE (prE js ms n m cs c pp qq k l D)] (.v (.b true)))] []
noncomputable def yKZ (_:Nat→J) (_:Nat→Ms) (n m:Nat) (cs:Nat→Cn) (c:Nat) (pp qq:Nat→Int) (k l:Nat) (D:Int):List (List Nat × uU):=[]
set_option maxRecDepth 100000 in
theorem pxprvs (js:Nat→J) (ms:Nat→Ms) (n m:Nat) (cs:Nat→Cn) (c:Nat) (pp qq:Nat→Int) (k l:Nat) (D:Int):qXJ Tf (orprvs js ms n m cs c pp qq k l D) (zW (yKZ js ms n m cs c pp qq k l D)) 60 10 [.a [.lf n (fJ js),.lf m (fM ms)],.lf c (fC cs),.lf k (fQ pp),.lf l (fQ qq),.n .i64 D] =
 (bif (g1 [.a [.lf n (fJ js),.lf m (fM ms)],.lf c (fC cs),.lf k (fQ pp),.lf l (fQ qq),.n .i64 D]) then (bif (g1 [.a [.lf n (fJ js),.lf m (fM ms)],.lf c (fC cs),.lf k (fQ pp),.lf l (fQ qq),.n .i64 D]) then (bif (g1 [rE (prE js ms n m cs c pp qq k l D),rE (prE js ms n m cs c pp qq k l D)]) then some (.v (.b true),[])
 else none)
 else none)
 else none):=by kernel_rfl
theorem snd_prvs (js:Nat→J) (ms:Nat→Ms) (n m:Nat) (cs:Nat→Cn) (c:Nat) (pp qq:Nat→Int) (k l:Nat) (D:Int):yZ Tryz.prog 10 [.a [.lf n (fJ js),.lf m (fM ms)],.lf c (fC cs),.lf k (fQ pp),.lf l (fQ qq),.n .i64 D] (.v (.b true)):=by
 refine jX (N:=60) (LO:=zW (yKZ js ms n m cs c pp qq k l D)) qZH yQ (qZC (l:=[(17,o_cr [.a [.lf n (fJ js),.lf m (fM ms)],.lf c (fC cs),.lf k (fQ pp),.lf l (fQ qq),.n .i64 D] (.v (rE (prE js ms n m cs c pp qq k l D)))),(22,o_cr [.a [.lf n (fJ js),.lf m (fM ms)],.lf c (fC cs),.lf k (fQ pp),.lf l (fQ qq),.n .i64 D] (.v (rE (prE js ms n m cs c pp qq k l D)))),(21,o_cr [rE (prE js ms n m cs c pp qq k l D),rE (prE js ms n m cs c pp qq k l D)] (.v (.b true)))]) (m:=[]) ⟨qJZ (snd_pr js ms n m cs c pp qq k l D),qJZ (snd_tu js ms n m cs c pp qq k l D),qJZ (snd_smE js ms n m cs c pp qq k l D),trivial⟩ trivial) (fun p S hp => ?_) ?_
 ·refine jK (L:=qK Tf 10) (l:=(yKZ js ms n m cs c pp qq k l D)) (show AllP _ (yKZ js ms n m cs c pp qq k l D) from trivial) p S hp
 ·refine (pxprvs js ms n m cs c pp qq k l D).trans ?_;simp only [g1_t,vYV]
end Go.Proofs.YtfcofnclgajfeaaGreat.Te
namespace Go.Proofs.YtfcofnclgajfeaaGreat.Sn
open Go.Rx Rt Go.Sx Go.RowKit Od Nb
noncomputable def orrnd (x k:Int):OrS:=orS [] []
noncomputable def yVC (x k:Int):List (List Nat × uU):=[]
set_option maxRecDepth 100000 in
theorem pxrnd (x k:Int):qXJ Tf (orrnd x k) (zW (yVC x k)) 60 9 [.n .i64 x,.n .i64 k] =
 (bif (decide (k=0)) then none
 else (bif (decide ((x.tmod k) < 0)) then some (.v (.n .i64 (vJJ .i64 ((x.tmod k) + k))),[])
 else some (.v (.n .i64 (x.tmod k)),[]))):=by kernel_rfl
theorem snd_rnd (x k:Int) (hk:0 < k∧k≤9223372036854775807):yZ Tryz.prog 9 [.n .i64 x,.n .i64 k] (.v (.n .i64 (x % k))):=by
 refine jX (N:=60) (LO:=zW (yVC x k)) qZH yQ (qZC (l:=[]) (m:=[]) trivial trivial) (fun p S hp => ?_) ?_
 ·refine jK (L:=qK Tf 9) (l:=(yVC x k)) (show AllP _ (yVC x k) from trivial) p S hp
 ·refine (pxrnd x k).trans ?_;have hk0:k ≠ 0:=by omega
  have h1:=Int.emod_nonneg x hk0;have h2:=Int.emod_lt_of_pos x hk.1;rw [vYH (show ¬ k=0 by omega),Int.tmod_eq_emod];by_cases h:0≤x ∨ k ∣ x
  ·rw [if_pos h,show ((0:Nat):Int)=0 from rfl,Int.sub_zero,vYH (show ¬ x % k < 0 by omega)];rfl
  ·rw [if_neg h,show ((k.natAbs:Nat):Int)=k by omega,vJQ (show x % k - k < 0 by omega),show vJJ .i64 (x % k - k + k)=x % k from by rw [show x % k - k + k=x % k by omega]; exact qG (by omega)];rfl
def crn:Int × Int→Prop:=fun t=>match t with | (_,k)=>0 < k∧k≤9223372036854775807
def ern:Int × Int→List PV:=fun t=>match t with | (x,k)=>[.n .i64 x,.n .i64 k]
noncomputable def rrn:Int × Int→Ret:=fun t=>match t with | (x,k)=>.v (.n .i64 (x % k))
def drn:List PV→Int × Int:=fun ps=>match ps with
 | [.n _ x,.n _ k]=>(x,k)
 | _=>(0,0)
noncomputable def o_rn:List PV→Option (Bool × Ret):=o_fm drn crn ern rrn
theorem ok_rn:zY Tryz.prog 9 o_rn:=zUE fun t h=>by
 obtain ⟨x,k⟩:=t;exact snd_rnd x k h
noncomputable def ornx (w m:Nat) (e:Nat→Int) (k:Int):OrS:=orS [(9,o_rn)] []
noncomputable def lsnx (w m:Nat) (e:Nat→Int) (k:Int):List (List Nat × uU):=[]
set_option maxRecDepth 100000 in
theorem pxnx (w m:Nat) (e:Nat→Int) (k:Int):zVX Tf (ornx w m e k) (zW (lsnx w m e k)) 60 20 [.p 1000000 0,.v (.n .i64 k)] [.lf w (fQ e),.n .i64 (m:Int)] =
 (bif (decide ((w:Int)≤(m:Int))) then some (.v (.t [.n .i64 0,.lf w (fQ e),.n .i64 (m:Int)]),[])
 else (bif (inB (vJJ .i64 ((vJJ .i64 ((m:Int) + 1)) - 1)) w) then (bif (gF1 crn ern ((e ((vJJ .i64 ((vJJ .i64 ((m:Int) + 1)) - 1))).toNat),k)) then some (.v (.t [.n .i64 ((e ((vJJ .i64 ((vJJ .i64 ((m:Int) + 1)) - 1))).toNat) % k),.lf w (fQ e),.n .i64 (vJJ .i64 ((m:Int) + 1))]),[])
 else none)
 else none)):=by kernel_rfl
theorem snd_nx (w m:Nat) (e:Nat→Int) (k:Int) (_:m≤w) (_:w≤9223372036854775807) (hk:0 < k∧k≤9223372036854775807):qHG Tryz.prog 20 [.p 1000000 0,.v (.n .i64 k)] [.lf w (fQ e),.n .i64 (m:Int)] (.n .i64 (nxV e w m k)) ([.lf w (fQ e),.n .i64 ((min (m + 1) w:Nat):Int)]):=by
 refine qGL (N:=60) (LO:=zW (lsnx w m e k)) qZH yQ (qZC (l:=[(9,o_rn)]) (m:=[]) ⟨ok_rn,trivial⟩ trivial) (fun p S hp => ?_) ?_
 ·refine jK (L:=qK Tf 20) (l:=(lsnx w m e k)) (show AllP _ (lsnx w m e k) from trivial) p S hp
 ·refine (pxnx w m e k).trans ?_;unfold nxV eW;by_cases h:m < w
  ·have h1:vJJ .i64 ((m:Int) + 1)=(m:Int) + 1:=qG (by omega);have h2:vJJ .i64 ((m:Int) + 1 - 1)=((m:Nat):Int):=by rw [qG (by omega)]; omega
   rw [vYH (show ¬ (w:Int)≤(m:Int) by omega),h1,h2,kZ h,toN,qHX (C:=crn) (t:=(_,k)) hk,show Nat.blt m w=true from by rw [Nat.blt_eq]; exact h,show min (m + 1) w=m + 1 by omega];rfl
  ·rw [vJQ (show (w:Int)≤(m:Int) by omega),show Nat.blt m w=false from by rw [Bool.eq_false_iff,ne_eq,Nat.blt_eq]; exact h,show min (m + 1) w=m by omega]
   simp
def cnx:Nat × Nat × (Nat→Int) × Int→Prop:=fun t=>match t with | (w,m,_,k)=>m≤w∧w≤9223372036854775807∧0 < k∧k≤9223372036854775807
def hnx:Nat × Nat × (Nat→Int) × Int→List HV:=fun t=>match t with | (_,_,_,k)=>[.p pid 0,.v (.n .i64 k)]
def enx:Nat × Nat × (Nat→Int) × Int→List PV:=fun t=>match t with | (w,m,e,_)=>[.lf w (fQ e),.n .i64 (m:Int)]
noncomputable def xnx:Nat × Nat × (Nat→Int) × Int→PV:=fun t=>match t with | (w,m,e,k)=>.n .i64 (nxV e w m k)
noncomputable def qnx:Nat × Nat × (Nat→Int) × Int→List PV:=fun t=>match t with | (w,m,e,_)=>[.lf w (fQ e),.n .i64 ((min (m + 1) w:Nat):Int)]
def dnx:List HV→List PV→Nat × Nat × (Nat→Int) × Int:=fun hs ps=>match hs,ps with
 | [_,.v (.n _ k)],[.lf w f,.n _ c]=>(w,c.toNat,unFQ f,k)
 | _,_=>(0,0,fun _=>0,0)
noncomputable def o_nx:List HV→List PV→Option (Bool × (PV × List PV)):=o_fb dnx cnx hnx enx xnx qnx
theorem yVK:yQF Tryz.prog 20 o_nx:=yHY fun t h=>by
 obtain ⟨w,m,e,k⟩:=t;exact snd_nx w m e k h.1 h.2.1 h.2.2
def kdF (x:Int):Int:=(bif (decide (x=0)) then 3 else (bif (decide ((x - 1)=0)) then 3 else (bif (decide (((x - 1) - 1)=0)) then 1 else (bif (decide ((((x - 1) - 1) - 1)=0)) then 2 else (bif (decide (((((x - 1) - 1) - 1) - 1)=0)) then 4 else (bif (decide ((((((x - 1) - 1) - 1) - 1) - 1)=0)) then 5 else (bif (decide (((((((x - 1) - 1) - 1) - 1) - 1) - 1)=0)) then 3 else 0)))))))
def abcB:ByteArray:=ByteArray.mk #[97,98,99,100,101,102,103,104,105,106]
def ltrI (i:Int):ByteArray:=abcB.extract i.toNat (vJJ .i64 (i + 1)).toNat
theorem lY {x:Int} (_:0≤x∧x < 5) : -65536≤vJJ .i64 (vJJ .i64 (x - 2) * 32768)∧vJJ .i64 (vJJ .i64 (x - 2) * 32768)≤65536:=by
 rw [show vJJ .i64 (x - 2)=x - 2 from qG (by omega),qG (by omega)]; omega
theorem lZ {x:Int} (_:0≤x∧x < 3) : -32768≤vJJ .i64 (vJJ .i64 (x - 1) * 32768)∧vJJ .i64 (vJJ .i64 (x - 1) * 32768)≤32768:=by
 rw [show vJJ .i64 (x - 1)=x - 1 from qG (by omega),qG (by omega)]; omega
theorem lLo {x:Int} (_:0≤x∧x < 3) : -131072≤vJJ .i64 (vJJ .i64 (0 - x) * 65536)∧vJJ .i64 (vJJ .i64 (0 - x) * 65536)≤0:=by
 rw [show vJJ .i64 (0 - x)=0 - x from qG (by omega),qG (by omega)]; omega
theorem lHi {x:Int} (_:0≤x∧x < 4):0≤vJJ .i64 (x * 32768)∧vJJ .i64 (x * 32768)≤98304:=by
 rw [qG (by omega)]; omega
theorem lLt {x:Int} (_:0≤x∧x < 5) : -32768≤vJJ .i64 ((vJJ .i64 (vJJ .i64 (0 - x) * 65536)).tdiv 8)∧vJJ .i64 ((vJJ .i64 (vJJ .i64 (0 - x) * 65536)).tdiv 8)≤0:=by
 have e:((0 - x) * 65536).tdiv 8 = -(x * 8192):=by
  rw [show (0 - x) * 65536 = -(x * 8192) * 8 by omega];exact Int.mul_tdiv_cancel _ (by decide)
 rw [show vJJ .i64 (0 - x)=0 - x from qG (by omega),show vJJ .i64 ((0 - x) * 65536)=(0 - x) * 65536 from qG (by omega),e,qG (by omega)]; omega
theorem lHt {x y:Int} (_:0≤x∧x < 4) (g:0≤y∧y < 3):0≤vJJ .i64 (vJJ .i64 ((vJJ .i64 (vJJ .i64 (1 + x) * 65536)).tdiv 8) + y)∧vJJ .i64 (vJJ .i64 ((vJJ .i64 (vJJ .i64 (1 + x) * 65536)).tdiv 8) + y)≤40000:=by
 have e:((1 + x) * 65536).tdiv 8=(1 + x) * 8192:=by
  rw [show (1 + x) * 65536=((1 + x) * 8192) * 8 by omega];exact Int.mul_tdiv_cancel _ (by decide)
 rw [show vJJ .i64 (1 + x)=1 + x from qG (by omega),show vJJ .i64 ((1 + x) * 65536)=(1 + x) * 65536 from qG (by omega),e,show vJJ .i64 ((1 + x) * 8192)=(1 + x) * 8192 from qG (by omega),qG (by omega)]; omega
theorem lW {x:Int} (_:0≤x∧x < 4):1≤vJJ .i64 (1 + x)∧vJJ .i64 (1 + x)≤4:=by rw [qG (by omega)]; omega
theorem lA {x:Int} (_:0≤x∧x < 3):65536≤vJJ .i64 (65536 + x)∧vJJ .i64 (65536 + x)≤65538:=by rw [qG (by omega)]; omega
theorem kdF_b (x:Int):0≤kdF x∧kdF x≤6:=by
 unfold kdF;simp only [Bool.cond_eq_ite]
 repeat' split
 all_goals omega
theorem qYU {k lo hi:Int} (_:0≤k∧k≤6) (h1:k=0→lo=0∧hi=0) (_: -524288≤lo∧hi≤524288) : -limK k≤lo∧hi≤limK k:=by
 unfold limK;split
 ·omega
 ·split
  ·omega
  ·have:=h1 (by omega)
   omega
def JM (i:Nat) (j:J):Prop:=j.name=ltrI i∧JF i j∧(-1000000≤j.lo∧j.hi≤1000000)
noncomputable def orjt:OrS:=orS [] [(20,o_nx)]
set_option maxRecDepth 100000 in
theorem pxjt (w m:Nat) (e:Nat→Int) (i:Int):zVX Tf orjt (zW []) 60 35 [.p 1000000 0,.v (.n .i64 i)] [.lf w (fQ e),.n .i64 (m:Int)] =
 (bif (inS (some i) (some (vJJ .i64 (i + 1))) 10) then (bif (gB1 cnx hnx enx (w,m,e,4)) then (bif (gB1 cnx hnx enx (w,(mA w m 1),e,3)) then (bif (gB1 cnx hnx enx (w,(mA w m 2),e,8)) then (bif (inB (nxV e w (mA w m 2) 8) 8 && true) then (bif (gB1 cnx hnx enx (w,(mA w m 3),e,4)) then (bif (decide ((nxV e w (mA w m 3) 4)=1)) then (bif (decide (0 < i)) then (bif (gB1 cnx hnx enx (w,(mA w m 4),e,5)) then (bif (gB1 cnx hnx enx (w,(mA w m 5),e,3)) then (bif (decide ((kdF (nxV e w (mA w m 2) 8))=0)) then some (.v (.t [.a [.s (ltrI i),.n .i64 (kdF (nxV e w (mA w m 2) 8)),.n .i64 (-1),.n .i64 131072,.n .i64 (vJJ .i64 ((vJJ .i64 ((nxV e w (mA w m 4) 5) - 2)) * 32768)),.n .i64 (vJJ .i64 ((vJJ .i64 ((nxV e w (mA w m 5) 3) - 1)) * 32768)),.n .i64 0,.n .i64 0,.n .i64 (vJJ .i64 (1 + (nxV e w m 4))),.n .i64 65536,.n .i64 (vJJ .i64 (65536 + (nxV e w (mA w m 1) 3))),.n .i64 327680],.lf w (fQ e),.n .i64 ((mA w m 6:Nat):Int)]),[])
 else (bif (decide ((kdF (nxV e w (mA w m 2) 8))=4)) then (bif (gB1 cnx hnx enx (w,(mA w m 6),e,3)) then (bif (gB1 cnx hnx enx (w,(mA w m 7),e,4)) then some (.v (.t [.a [.s (ltrI i),.n .i64 (kdF (nxV e w (mA w m 2) 8)),.n .i64 (-1),.n .i64 131072,.n .i64 (vJJ .i64 ((vJJ .i64 ((nxV e w (mA w m 4) 5) - 2)) * 32768)),.n .i64 (vJJ .i64 ((vJJ .i64 ((nxV e w (mA w m 5) 3) - 1)) * 32768)),.n .i64 (vJJ .i64 ((vJJ .i64 (0 - (nxV e w (mA w m 6) 3))) * 65536)),.n .i64 (vJJ .i64 ((nxV e w (mA w m 7) 4) * 32768)),.n .i64 (vJJ .i64 (1 + (nxV e w m 4))),.n .i64 65536,.n .i64 (vJJ .i64 (65536 + (nxV e w (mA w m 1) 3))),.n .i64 327680],.lf w (fQ e),.n .i64 ((mA w m 8:Nat):Int)]),[])
 else none)
 else none)
 else (bif (decide ((kdF (nxV e w (mA w m 2) 8))=5)) then (bif (gB1 cnx hnx enx (w,(mA w m 6),e,3)) then (bif (gB1 cnx hnx enx (w,(mA w m 7),e,4)) then some (.v (.t [.a [.s (ltrI i),.n .i64 (kdF (nxV e w (mA w m 2) 8)),.n .i64 (-1),.n .i64 131072,.n .i64 (vJJ .i64 ((vJJ .i64 ((nxV e w (mA w m 4) 5) - 2)) * 32768)),.n .i64 (vJJ .i64 ((vJJ .i64 ((nxV e w (mA w m 5) 3) - 1)) * 32768)),.n .i64 (vJJ .i64 ((vJJ .i64 (0 - (nxV e w (mA w m 6) 3))) * 65536)),.n .i64 (vJJ .i64 ((nxV e w (mA w m 7) 4) * 32768)),.n .i64 (vJJ .i64 (1 + (nxV e w m 4))),.n .i64 65536,.n .i64 (vJJ .i64 (65536 + (nxV e w (mA w m 1) 3))),.n .i64 327680],.lf w (fQ e),.n .i64 ((mA w m 8:Nat):Int)]),[])
 else none)
 else none)
 else (bif (gB1 cnx hnx enx (w,(mA w m 6),e,5)) then (bif (gB1 cnx hnx enx (w,(mA w m 7),e,4)) then (bif (gB1 cnx hnx enx (w,(mA w m 8),e,3)) then some (.v (.t [.a [.s (ltrI i),.n .i64 (kdF (nxV e w (mA w m 2) 8)),.n .i64 (-1),.n .i64 131072,.n .i64 (vJJ .i64 ((vJJ .i64 ((nxV e w (mA w m 4) 5) - 2)) * 32768)),.n .i64 (vJJ .i64 ((vJJ .i64 ((nxV e w (mA w m 5) 3) - 1)) * 32768)),.n .i64 (vJJ .i64 ((vJJ .i64 ((vJJ .i64 (0 - (nxV e w (mA w m 6) 5))) * 65536)).tdiv 8)),.n .i64 (vJJ .i64 ((vJJ .i64 ((vJJ .i64 ((vJJ .i64 (1 + (nxV e w (mA w m 7) 4))) * 65536)).tdiv 8)) + (nxV e w (mA w m 8) 3))),.n .i64 (vJJ .i64 (1 + (nxV e w m 4))),.n .i64 65536,.n .i64 (vJJ .i64 (65536 + (nxV e w (mA w m 1) 3))),.n .i64 327680],.lf w (fQ e),.n .i64 ((mA w m 9:Nat):Int)]),[])
 else none)
 else none)
 else none))))
 else none)
 else none)
 else (bif (decide ((kdF (nxV e w (mA w m 2) 8))=0)) then some (.v (.t [.a [.s (ltrI i),.n .i64 (kdF (nxV e w (mA w m 2) 8)),.n .i64 (-1),.n .i64 0,.n .i64 0,.n .i64 0,.n .i64 0,.n .i64 0,.n .i64 (vJJ .i64 (1 + (nxV e w m 4))),.n .i64 65536,.n .i64 (vJJ .i64 (65536 + (nxV e w (mA w m 1) 3))),.n .i64 327680],.lf w (fQ e),.n .i64 ((mA w m 4:Nat):Int)]),[])
 else (bif (decide ((kdF (nxV e w (mA w m 2) 8))=4)) then (bif (gB1 cnx hnx enx (w,(mA w m 4),e,3)) then (bif (gB1 cnx hnx enx (w,(mA w m 5),e,4)) then some (.v (.t [.a [.s (ltrI i),.n .i64 (kdF (nxV e w (mA w m 2) 8)),.n .i64 (-1),.n .i64 0,.n .i64 0,.n .i64 0,.n .i64 (vJJ .i64 ((vJJ .i64 (0 - (nxV e w (mA w m 4) 3))) * 65536)),.n .i64 (vJJ .i64 ((nxV e w (mA w m 5) 4) * 32768)),.n .i64 (vJJ .i64 (1 + (nxV e w m 4))),.n .i64 65536,.n .i64 (vJJ .i64 (65536 + (nxV e w (mA w m 1) 3))),.n .i64 327680],.lf w (fQ e),.n .i64 ((mA w m 6:Nat):Int)]),[])
 else none)
 else none)
 else (bif (decide ((kdF (nxV e w (mA w m 2) 8))=5)) then (bif (gB1 cnx hnx enx (w,(mA w m 4),e,3)) then (bif (gB1 cnx hnx enx (w,(mA w m 5),e,4)) then some (.v (.t [.a [.s (ltrI i),.n .i64 (kdF (nxV e w (mA w m 2) 8)),.n .i64 (-1),.n .i64 0,.n .i64 0,.n .i64 0,.n .i64 (vJJ .i64 ((vJJ .i64 (0 - (nxV e w (mA w m 4) 3))) * 65536)),.n .i64 (vJJ .i64 ((nxV e w (mA w m 5) 4) * 32768)),.n .i64 (vJJ .i64 (1 + (nxV e w m 4))),.n .i64 65536,.n .i64 (vJJ .i64 (65536 + (nxV e w (mA w m 1) 3))),.n .i64 327680],.lf w (fQ e),.n .i64 ((mA w m 6:Nat):Int)]),[])
 else none)
 else none)
 else (bif (gB1 cnx hnx enx (w,(mA w m 4),e,5)) then (bif (gB1 cnx hnx enx (w,(mA w m 5),e,4)) then (bif (gB1 cnx hnx enx (w,(mA w m 6),e,3)) then some (.v (.t [.a [.s (ltrI i),.n .i64 (kdF (nxV e w (mA w m 2) 8)),.n .i64 (-1),.n .i64 0,.n .i64 0,.n .i64 0,.n .i64 (vJJ .i64 ((vJJ .i64 ((vJJ .i64 (0 - (nxV e w (mA w m 4) 5))) * 65536)).tdiv 8)),.n .i64 (vJJ .i64 ((vJJ .i64 ((vJJ .i64 ((vJJ .i64 (1 + (nxV e w (mA w m 5) 4))) * 65536)).tdiv 8)) + (nxV e w (mA w m 6) 3))),.n .i64 (vJJ .i64 (1 + (nxV e w m 4))),.n .i64 65536,.n .i64 (vJJ .i64 (65536 + (nxV e w (mA w m 1) 3))),.n .i64 327680],.lf w (fQ e),.n .i64 ((mA w m 7:Nat):Int)]),[])
 else none)
 else none)
 else none)))))
 else (bif (decide (0 < i)) then (bif (gB1 cnx hnx enx (w,(mA w m 4),e,5)) then (bif (gB1 cnx hnx enx (w,(mA w m 5),e,3)) then (bif (decide ((kdF (nxV e w (mA w m 2) 8))=0)) then some (.v (.t [.a [.s (ltrI i),.n .i64 (kdF (nxV e w (mA w m 2) 8)),.n .i64 (vJJ .i64 (i - 1)),.n .i64 131072,.n .i64 (vJJ .i64 ((vJJ .i64 ((nxV e w (mA w m 4) 5) - 2)) * 32768)),.n .i64 (vJJ .i64 ((vJJ .i64 ((nxV e w (mA w m 5) 3) - 1)) * 32768)),.n .i64 0,.n .i64 0,.n .i64 (vJJ .i64 (1 + (nxV e w m 4))),.n .i64 65536,.n .i64 (vJJ .i64 (65536 + (nxV e w (mA w m 1) 3))),.n .i64 327680],.lf w (fQ e),.n .i64 ((mA w m 6:Nat):Int)]),[])
 else (bif (decide ((kdF (nxV e w (mA w m 2) 8))=4)) then (bif (gB1 cnx hnx enx (w,(mA w m 6),e,3)) then (bif (gB1 cnx hnx enx (w,(mA w m 7),e,4)) then some (.v (.t [.a [.s (ltrI i),.n .i64 (kdF (nxV e w (mA w m 2) 8)),.n .i64 (vJJ .i64 (i - 1)),.n .i64 131072,.n .i64 (vJJ .i64 ((vJJ .i64 ((nxV e w (mA w m 4) 5) - 2)) * 32768)),.n .i64 (vJJ .i64 ((vJJ .i64 ((nxV e w (mA w m 5) 3) - 1)) * 32768)),.n .i64 (vJJ .i64 ((vJJ .i64 (0 - (nxV e w (mA w m 6) 3))) * 65536)),.n .i64 (vJJ .i64 ((nxV e w (mA w m 7) 4) * 32768)),.n .i64 (vJJ .i64 (1 + (nxV e w m 4))),.n .i64 65536,.n .i64 (vJJ .i64 (65536 + (nxV e w (mA w m 1) 3))),.n .i64 327680],.lf w (fQ e),.n .i64 ((mA w m 8:Nat):Int)]),[])
 else none)
 else none)
 else (bif (decide ((kdF (nxV e w (mA w m 2) 8))=5)) then (bif (gB1 cnx hnx enx (w,(mA w m 6),e,3)) then (bif (gB1 cnx hnx enx (w,(mA w m 7),e,4)) then some (.v (.t [.a [.s (ltrI i),.n .i64 (kdF (nxV e w (mA w m 2) 8)),.n .i64 (vJJ .i64 (i - 1)),.n .i64 131072,.n .i64 (vJJ .i64 ((vJJ .i64 ((nxV e w (mA w m 4) 5) - 2)) * 32768)),.n .i64 (vJJ .i64 ((vJJ .i64 ((nxV e w (mA w m 5) 3) - 1)) * 32768)),.n .i64 (vJJ .i64 ((vJJ .i64 (0 - (nxV e w (mA w m 6) 3))) * 65536)),.n .i64 (vJJ .i64 ((nxV e w (mA w m 7) 4) * 32768)),.n .i64 (vJJ .i64 (1 + (nxV e w m 4))),.n .i64 65536,.n .i64 (vJJ .i64 (65536 + (nxV e w (mA w m 1) 3))),.n .i64 327680],.lf w (fQ e),.n .i64 ((mA w m 8:Nat):Int)]),[])
 else none)
 else none)
 else (bif (gB1 cnx hnx enx (w,(mA w m 6),e,5)) then (bif (gB1 cnx hnx enx (w,(mA w m 7),e,4)) then (bif (gB1 cnx hnx enx (w,(mA w m 8),e,3)) then some (.v (.t [.a [.s (ltrI i),.n .i64 (kdF (nxV e w (mA w m 2) 8)),.n .i64 (vJJ .i64 (i - 1)),.n .i64 131072,.n .i64 (vJJ .i64 ((vJJ .i64 ((nxV e w (mA w m 4) 5) - 2)) * 32768)),.n .i64 (vJJ .i64 ((vJJ .i64 ((nxV e w (mA w m 5) 3) - 1)) * 32768)),.n .i64 (vJJ .i64 ((vJJ .i64 ((vJJ .i64 (0 - (nxV e w (mA w m 6) 5))) * 65536)).tdiv 8)),.n .i64 (vJJ .i64 ((vJJ .i64 ((vJJ .i64 ((vJJ .i64 (1 + (nxV e w (mA w m 7) 4))) * 65536)).tdiv 8)) + (nxV e w (mA w m 8) 3))),.n .i64 (vJJ .i64 (1 + (nxV e w m 4))),.n .i64 65536,.n .i64 (vJJ .i64 (65536 + (nxV e w (mA w m 1) 3))),.n .i64 327680],.lf w (fQ e),.n .i64 ((mA w m 9:Nat):Int)]),[])
 else none)
 else none)
 else none))))
 else none)
 else none)
 else (bif (decide ((kdF (nxV e w (mA w m 2) 8))=0)) then some (.v (.t [.a [.s (ltrI i),.n .i64 (kdF (nxV e w (mA w m 2) 8)),.n .i64 (vJJ .i64 (i - 1)),.n .i64 0,.n .i64 0,.n .i64 0,.n .i64 0,.n .i64 0,.n .i64 (vJJ .i64 (1 + (nxV e w m 4))),.n .i64 65536,.n .i64 (vJJ .i64 (65536 + (nxV e w (mA w m 1) 3))),.n .i64 327680],.lf w (fQ e),.n .i64 ((mA w m 4:Nat):Int)]),[])
 else (bif (decide ((kdF (nxV e w (mA w m 2) 8))=4)) then (bif (gB1 cnx hnx enx (w,(mA w m 4),e,3)) then (bif (gB1 cnx hnx enx (w,(mA w m 5),e,4)) then some (.v (.t [.a [.s (ltrI i),.n .i64 (kdF (nxV e w (mA w m 2) 8)),.n .i64 (vJJ .i64 (i - 1)),.n .i64 0,.n .i64 0,.n .i64 0,.n .i64 (vJJ .i64 ((vJJ .i64 (0 - (nxV e w (mA w m 4) 3))) * 65536)),.n .i64 (vJJ .i64 ((nxV e w (mA w m 5) 4) * 32768)),.n .i64 (vJJ .i64 (1 + (nxV e w m 4))),.n .i64 65536,.n .i64 (vJJ .i64 (65536 + (nxV e w (mA w m 1) 3))),.n .i64 327680],.lf w (fQ e),.n .i64 ((mA w m 6:Nat):Int)]),[])
 else none)
 else none)
 else (bif (decide ((kdF (nxV e w (mA w m 2) 8))=5)) then (bif (gB1 cnx hnx enx (w,(mA w m 4),e,3)) then (bif (gB1 cnx hnx enx (w,(mA w m 5),e,4)) then some (.v (.t [.a [.s (ltrI i),.n .i64 (kdF (nxV e w (mA w m 2) 8)),.n .i64 (vJJ .i64 (i - 1)),.n .i64 0,.n .i64 0,.n .i64 0,.n .i64 (vJJ .i64 ((vJJ .i64 (0 - (nxV e w (mA w m 4) 3))) * 65536)),.n .i64 (vJJ .i64 ((nxV e w (mA w m 5) 4) * 32768)),.n .i64 (vJJ .i64 (1 + (nxV e w m 4))),.n .i64 65536,.n .i64 (vJJ .i64 (65536 + (nxV e w (mA w m 1) 3))),.n .i64 327680],.lf w (fQ e),.n .i64 ((mA w m 6:Nat):Int)]),[])
 else none)
 else none)
 else (bif (gB1 cnx hnx enx (w,(mA w m 4),e,5)) then (bif (gB1 cnx hnx enx (w,(mA w m 5),e,4)) then (bif (gB1 cnx hnx enx (w,(mA w m 6),e,3)) then some (.v (.t [.a [.s (ltrI i),.n .i64 (kdF (nxV e w (mA w m 2) 8)),.n .i64 (vJJ .i64 (i - 1)),.n .i64 0,.n .i64 0,.n .i64 0,.n .i64 (vJJ .i64 ((vJJ .i64 ((vJJ .i64 (0 - (nxV e w (mA w m 4) 5))) * 65536)).tdiv 8)),.n .i64 (vJJ .i64 ((vJJ .i64 ((vJJ .i64 ((vJJ .i64 (1 + (nxV e w (mA w m 5) 4))) * 65536)).tdiv 8)) + (nxV e w (mA w m 6) 3))),.n .i64 (vJJ .i64 (1 + (nxV e w m 4))),.n .i64 65536,.n .i64 (vJJ .i64 (65536 + (nxV e w (mA w m 1) 3))),.n .i64 327680],.lf w (fQ e),.n .i64 ((mA w m 7:Nat):Int)]),[])
 else none)
 else none)
 else none))))))
 else none)
 else none)
 else none)
 else none)
 else none)
 else none):=by kernel_rfl
theorem joint_ex (w m:Nat) (e:Nat→Int) (i:Nat) (hm:m≤w) (hw:w≤9223372036854775807) (_:i < 10):∃ (j:J) (m':Nat),(m'≤w∧JM i j)∧qHG Tryz.prog 35 [.p pid 0,.v (.n .i64 (i:Int))] [.lf w (fQ e),.n .i64 (m:Int)] (.a (jp j)) [.lf w (fQ e),.n .i64 (m':Int)]:=by
 have key:∃ (j:J) (m':Nat),(m'≤w∧JM i j)∧zVX Tf orjt (zW []) 60 35 [.p 1000000 0,.v (.n .i64 (i:Int))] [.lf w (fQ e),.n .i64 (m:Int)]=some (.v (.t [.a (jp j),.lf w (fQ e),.n .i64 (m':Int)]),[]):=by
  rw [pxjt w m e i];have hs:inS (some (i:Int)) (some (vJJ .i64 ((i:Int) + 1))) 10=true:=by
   rw [qG (by omega)];unfold inS loOf hiOf;simp only [vQJ,decide_eq_true_eq];omega
  have kb:=kdF_b (nxV e w (mA w m 2) 8);have k8:inB (nxV e w (mA w m 2) 8) 8=true:=by
   have:=qKB (e:=e) (w:=w) (m:=mA w m 2) (k:=8) (by decide)
   unfold inB;rw [vJQ this.1,vJQ (by omega)]; rfl
  simp only [hs,k8,vZJ,vYV,qQB (C:=cnx) (t:=(w,m,e,4)) ⟨hm,hw,by decide,by decide⟩,qQB (C:=cnx) (t:=(w,(mA w m 1),e,3)) ⟨kG hm 1,hw,by decide,by decide⟩,qQB (C:=cnx) (t:=(w,(mA w m 2),e,8)) ⟨kG hm 2,hw,by decide,by decide⟩,qQB (C:=cnx) (t:=(w,(mA w m 3),e,4)) ⟨kG hm 3,hw,by decide,by decide⟩,qQB (C:=cnx) (t:=(w,(mA w m 4),e,5)) ⟨kG hm 4,hw,by decide,by decide⟩,qQB (C:=cnx) (t:=(w,(mA w m 5),e,3)) ⟨kG hm 5,hw,by decide,by decide⟩,qQB (C:=cnx) (t:=(w,(mA w m 6),e,3)) ⟨kG hm 6,hw,by decide,by decide⟩,qQB (C:=cnx) (t:=(w,(mA w m 7),e,4)) ⟨kG hm 7,hw,by decide,by decide⟩,qQB (C:=cnx) (t:=(w,(mA w m 6),e,5)) ⟨kG hm 6,hw,by decide,by decide⟩,qQB (C:=cnx) (t:=(w,(mA w m 8),e,3)) ⟨kG hm 8,hw,by decide,by decide⟩,qQB (C:=cnx) (t:=(w,(mA w m 4),e,3)) ⟨kG hm 4,hw,by decide,by decide⟩,qQB (C:=cnx) (t:=(w,(mA w m 5),e,4)) ⟨kG hm 5,hw,by decide,by decide⟩];have b0:=qKB (e:=e) (w:=w) (m:=m) (k:=4) (by decide);have b1:=qKB (e:=e) (w:=w) (m:=mA w m 1) (k:=3) (by decide);have f0:=lW b0;have f1:=lA b1;have y4:=lY (qKB (e:=e) (w:=w) (m:=mA w m 4) (k:=5) (by decide));have z5:=lZ (qKB (e:=e) (w:=w) (m:=mA w m 5) (k:=3) (by decide));have lo6:=lLo (qKB (e:=e) (w:=w) (m:=mA w m 6) (k:=3) (by decide));have hi7:=lHi (qKB (e:=e) (w:=w) (m:=mA w m 7) (k:=4) (by decide));have lt6:=lLt (qKB (e:=e) (w:=w) (m:=mA w m 6) (k:=5) (by decide));have ht7:=lHt (qKB (e:=e) (w:=w) (m:=mA w m 7) (k:=4) (by decide)) (qKB (e:=e) (w:=w) (m:=mA w m 8) (k:=3) (by decide));have lo4:=lLo (qKB (e:=e) (w:=w) (m:=mA w m 4) (k:=3) (by decide));have hi5:=lHi (qKB (e:=e) (w:=w) (m:=mA w m 5) (k:=4) (by decide));have lt4:=lLt (qKB (e:=e) (w:=w) (m:=mA w m 4) (k:=5) (by decide));have ht5:=lHt (qKB (e:=e) (w:=w) (m:=mA w m 5) (k:=4) (by decide)) (qKB (e:=e) (w:=w) (m:=mA w m 6) (k:=3) (by decide));have hp:vJJ .i64 ((i:Int) - 1)=(i:Int) - 1:=qG (by omega);rw [hp];generalize kdF (nxV e w (mA w m 2) 8)=kd at kb ⊢;by_cases c1:(nxV e w (mA w m 3) 4)=1
  ·simp only [c1,decide_true,vYV];by_cases c2:(0:Int) < (i:Int)
   ·simp only [c2,decide_true,vYV];by_cases c3:kd=0
    ·simp only [c3,decide_true,vYV];exact ⟨⟨ltrI i,0,(-1),⟨131072,(vJJ .i64 ((vJJ .i64 ((nxV e w (mA w m 4) 5) - 2)) * 32768)),(vJJ .i64 ((vJJ .i64 ((nxV e w (mA w m 5) 3) - 1)) * 32768))⟩,0,0,(vJJ .i64 (1 + (nxV e w m 4))),65536,(vJJ .i64 (65536 + (nxV e w (mA w m 1) 3))),327680⟩,mA w m 6,⟨kG hm 6,rfl,⟨by dsimp only; omega,by dsimp only; omega,by dsimp only; omega,by dsimp only; omega,by dsimp only; omega,⟨by dsimp only; omega,qYU (by dsimp only; omega) (fun _=>⟨rfl,rfl⟩) (by dsimp only; omega)⟩,by dsimp only; omega,by dsimp only; omega,by dsimp only; omega,by dsimp only; omega⟩,by dsimp only; omega⟩,rfl⟩
    ·simp only [c3,decide_false,vYG];by_cases c4:kd=4
     ·simp only [c4,decide_true,vYV];exact ⟨⟨ltrI i,4,(-1),⟨131072,(vJJ .i64 ((vJJ .i64 ((nxV e w (mA w m 4) 5) - 2)) * 32768)),(vJJ .i64 ((vJJ .i64 ((nxV e w (mA w m 5) 3) - 1)) * 32768))⟩,(vJJ .i64 ((vJJ .i64 (0 - (nxV e w (mA w m 6) 3))) * 65536)),(vJJ .i64 ((nxV e w (mA w m 7) 4) * 32768)),(vJJ .i64 (1 + (nxV e w m 4))),65536,(vJJ .i64 (65536 + (nxV e w (mA w m 1) 3))),327680⟩,mA w m 8,⟨kG hm 8,rfl,⟨by dsimp only; omega,by dsimp only; omega,by dsimp only; omega,by dsimp only; omega,by dsimp only; omega,⟨by dsimp only; omega,qYU (by dsimp only; omega) (fun h=>absurd (show (4:Int)=0 from h) (by decide)) (by dsimp only; omega)⟩,by dsimp only; omega,by dsimp only; omega,by dsimp only; omega,by dsimp only; omega⟩,by dsimp only; omega⟩,rfl⟩
     ·simp only [c4,decide_false,vYG];by_cases c5:kd=5
      ·simp only [c5,decide_true,vYV];exact ⟨⟨ltrI i,5,(-1),⟨131072,(vJJ .i64 ((vJJ .i64 ((nxV e w (mA w m 4) 5) - 2)) * 32768)),(vJJ .i64 ((vJJ .i64 ((nxV e w (mA w m 5) 3) - 1)) * 32768))⟩,(vJJ .i64 ((vJJ .i64 (0 - (nxV e w (mA w m 6) 3))) * 65536)),(vJJ .i64 ((nxV e w (mA w m 7) 4) * 32768)),(vJJ .i64 (1 + (nxV e w m 4))),65536,(vJJ .i64 (65536 + (nxV e w (mA w m 1) 3))),327680⟩,mA w m 8,⟨kG hm 8,rfl,⟨by dsimp only; omega,by dsimp only; omega,by dsimp only; omega,by dsimp only; omega,by dsimp only; omega,⟨by dsimp only; omega,qYU (by dsimp only; omega) (fun h=>absurd (show (5:Int)=0 from h) (by decide)) (by dsimp only; omega)⟩,by dsimp only; omega,by dsimp only; omega,by dsimp only; omega,by dsimp only; omega⟩,by dsimp only; omega⟩,rfl⟩
      ·simp only [c5,decide_false,vYG];exact ⟨⟨ltrI i,kd,(-1),⟨131072,(vJJ .i64 ((vJJ .i64 ((nxV e w (mA w m 4) 5) - 2)) * 32768)),(vJJ .i64 ((vJJ .i64 ((nxV e w (mA w m 5) 3) - 1)) * 32768))⟩,(vJJ .i64 ((vJJ .i64 ((vJJ .i64 (0 - (nxV e w (mA w m 6) 5))) * 65536)).tdiv 8)),(vJJ .i64 ((vJJ .i64 ((vJJ .i64 ((vJJ .i64 (1 + (nxV e w (mA w m 7) 4))) * 65536)).tdiv 8)) + (nxV e w (mA w m 8) 3))),(vJJ .i64 (1 + (nxV e w m 4))),65536,(vJJ .i64 (65536 + (nxV e w (mA w m 1) 3))),327680⟩,mA w m 9,⟨kG hm 9,rfl,⟨by dsimp only; omega,by dsimp only; omega,by dsimp only; omega,by dsimp only; omega,by dsimp only; omega,⟨by dsimp only; omega,qYU (by dsimp only; omega) (fun h=>absurd h c3) (by dsimp only; omega)⟩,by dsimp only; omega,by dsimp only; omega,by dsimp only; omega,by dsimp only; omega⟩,by dsimp only; omega⟩,rfl⟩
   ·simp only [c2,decide_false,vYG];by_cases c6:kd=0
    ·simp only [c6,decide_true,vYV];exact ⟨⟨ltrI i,0,(-1),⟨0,0,0⟩,0,0,(vJJ .i64 (1 + (nxV e w m 4))),65536,(vJJ .i64 (65536 + (nxV e w (mA w m 1) 3))),327680⟩,mA w m 4,⟨kG hm 4,rfl,⟨by dsimp only; omega,by dsimp only; omega,by dsimp only; omega,by dsimp only; omega,by dsimp only; omega,⟨by dsimp only; omega,qYU (by dsimp only; omega) (fun _=>⟨rfl,rfl⟩) (by dsimp only; omega)⟩,by dsimp only; omega,by dsimp only; omega,by dsimp only; omega,by dsimp only; omega⟩,by dsimp only; omega⟩,rfl⟩
    ·simp only [c6,decide_false,vYG];by_cases c7:kd=4
     ·simp only [c7,decide_true,vYV];exact ⟨⟨ltrI i,4,(-1),⟨0,0,0⟩,(vJJ .i64 ((vJJ .i64 (0 - (nxV e w (mA w m 4) 3))) * 65536)),(vJJ .i64 ((nxV e w (mA w m 5) 4) * 32768)),(vJJ .i64 (1 + (nxV e w m 4))),65536,(vJJ .i64 (65536 + (nxV e w (mA w m 1) 3))),327680⟩,mA w m 6,⟨kG hm 6,rfl,⟨by dsimp only; omega,by dsimp only; omega,by dsimp only; omega,by dsimp only; omega,by dsimp only; omega,⟨by dsimp only; omega,qYU (by dsimp only; omega) (fun h=>absurd (show (4:Int)=0 from h) (by decide)) (by dsimp only; omega)⟩,by dsimp only; omega,by dsimp only; omega,by dsimp only; omega,by dsimp only; omega⟩,by dsimp only; omega⟩,rfl⟩
     ·simp only [c7,decide_false,vYG];by_cases c8:kd=5
      ·simp only [c8,decide_true,vYV];exact ⟨⟨ltrI i,5,(-1),⟨0,0,0⟩,(vJJ .i64 ((vJJ .i64 (0 - (nxV e w (mA w m 4) 3))) * 65536)),(vJJ .i64 ((nxV e w (mA w m 5) 4) * 32768)),(vJJ .i64 (1 + (nxV e w m 4))),65536,(vJJ .i64 (65536 + (nxV e w (mA w m 1) 3))),327680⟩,mA w m 6,⟨kG hm 6,rfl,⟨by dsimp only; omega,by dsimp only; omega,by dsimp only; omega,by dsimp only; omega,by dsimp only; omega,⟨by dsimp only; omega,qYU (by dsimp only; omega) (fun h=>absurd (show (5:Int)=0 from h) (by decide)) (by dsimp only; omega)⟩,by dsimp only; omega,by dsimp only; omega,by dsimp only; omega,by dsimp only; omega⟩,by dsimp only; omega⟩,rfl⟩
      ·simp only [c8,decide_false,vYG];exact ⟨⟨ltrI i,kd,(-1),⟨0,0,0⟩,(vJJ .i64 ((vJJ .i64 ((vJJ .i64 (0 - (nxV e w (mA w m 4) 5))) * 65536)).tdiv 8)),(vJJ .i64 ((vJJ .i64 ((vJJ .i64 ((vJJ .i64 (1 + (nxV e w (mA w m 5) 4))) * 65536)).tdiv 8)) + (nxV e w (mA w m 6) 3))),(vJJ .i64 (1 + (nxV e w m 4))),65536,(vJJ .i64 (65536 + (nxV e w (mA w m 1) 3))),327680⟩,mA w m 7,⟨kG hm 7,rfl,⟨by dsimp only; omega,by dsimp only; omega,by dsimp only; omega,by dsimp only; omega,by dsimp only; omega,⟨by dsimp only; omega,qYU (by dsimp only; omega) (fun h=>absurd h c6) (by dsimp only; omega)⟩,by dsimp only; omega,by dsimp only; omega,by dsimp only; omega,by dsimp only; omega⟩,by dsimp only; omega⟩,rfl⟩
  ·simp only [c1,decide_false,vYG];by_cases c9:(0:Int) < (i:Int)
   ·simp only [c9,decide_true,vYV];by_cases c10:kd=0
    ·simp only [c10,decide_true,vYV];exact ⟨⟨ltrI i,0,((i:Int) - 1),⟨131072,(vJJ .i64 ((vJJ .i64 ((nxV e w (mA w m 4) 5) - 2)) * 32768)),(vJJ .i64 ((vJJ .i64 ((nxV e w (mA w m 5) 3) - 1)) * 32768))⟩,0,0,(vJJ .i64 (1 + (nxV e w m 4))),65536,(vJJ .i64 (65536 + (nxV e w (mA w m 1) 3))),327680⟩,mA w m 6,⟨kG hm 6,rfl,⟨by dsimp only; omega,by dsimp only; omega,by dsimp only; omega,by dsimp only; omega,by dsimp only; omega,⟨by dsimp only; omega,qYU (by dsimp only; omega) (fun _=>⟨rfl,rfl⟩) (by dsimp only; omega)⟩,by dsimp only; omega,by dsimp only; omega,by dsimp only; omega,by dsimp only; omega⟩,by dsimp only; omega⟩,rfl⟩
    ·simp only [c10,decide_false,vYG];by_cases c11:kd=4
     ·simp only [c11,decide_true,vYV];exact ⟨⟨ltrI i,4,((i:Int) - 1),⟨131072,(vJJ .i64 ((vJJ .i64 ((nxV e w (mA w m 4) 5) - 2)) * 32768)),(vJJ .i64 ((vJJ .i64 ((nxV e w (mA w m 5) 3) - 1)) * 32768))⟩,(vJJ .i64 ((vJJ .i64 (0 - (nxV e w (mA w m 6) 3))) * 65536)),(vJJ .i64 ((nxV e w (mA w m 7) 4) * 32768)),(vJJ .i64 (1 + (nxV e w m 4))),65536,(vJJ .i64 (65536 + (nxV e w (mA w m 1) 3))),327680⟩,mA w m 8,⟨kG hm 8,rfl,⟨by dsimp only; omega,by dsimp only; omega,by dsimp only; omega,by dsimp only; omega,by dsimp only; omega,⟨by dsimp only; omega,qYU (by dsimp only; omega) (fun h=>absurd (show (4:Int)=0 from h) (by decide)) (by dsimp only; omega)⟩,by dsimp only; omega,by dsimp only; omega,by dsimp only; omega,by dsimp only; omega⟩,by dsimp only; omega⟩,rfl⟩
     ·simp only [c11,decide_false,vYG];by_cases c12:kd=5
      ·simp only [c12,decide_true,vYV];exact ⟨⟨ltrI i,5,((i:Int) - 1),⟨131072,(vJJ .i64 ((vJJ .i64 ((nxV e w (mA w m 4) 5) - 2)) * 32768)),(vJJ .i64 ((vJJ .i64 ((nxV e w (mA w m 5) 3) - 1)) * 32768))⟩,(vJJ .i64 ((vJJ .i64 (0 - (nxV e w (mA w m 6) 3))) * 65536)),(vJJ .i64 ((nxV e w (mA w m 7) 4) * 32768)),(vJJ .i64 (1 + (nxV e w m 4))),65536,(vJJ .i64 (65536 + (nxV e w (mA w m 1) 3))),327680⟩,mA w m 8,⟨kG hm 8,rfl,⟨by dsimp only; omega,by dsimp only; omega,by dsimp only; omega,by dsimp only; omega,by dsimp only; omega,⟨by dsimp only; omega,qYU (by dsimp only; omega) (fun h=>absurd (show (5:Int)=0 from h) (by decide)) (by dsimp only; omega)⟩,by dsimp only; omega,by dsimp only; omega,by dsimp only; omega,by dsimp only; omega⟩,by dsimp only; omega⟩,rfl⟩
      ·simp only [c12,decide_false,vYG];exact ⟨⟨ltrI i,kd,((i:Int) - 1),⟨131072,(vJJ .i64 ((vJJ .i64 ((nxV e w (mA w m 4) 5) - 2)) * 32768)),(vJJ .i64 ((vJJ .i64 ((nxV e w (mA w m 5) 3) - 1)) * 32768))⟩,(vJJ .i64 ((vJJ .i64 ((vJJ .i64 (0 - (nxV e w (mA w m 6) 5))) * 65536)).tdiv 8)),(vJJ .i64 ((vJJ .i64 ((vJJ .i64 ((vJJ .i64 (1 + (nxV e w (mA w m 7) 4))) * 65536)).tdiv 8)) + (nxV e w (mA w m 8) 3))),(vJJ .i64 (1 + (nxV e w m 4))),65536,(vJJ .i64 (65536 + (nxV e w (mA w m 1) 3))),327680⟩,mA w m 9,⟨kG hm 9,rfl,⟨by dsimp only; omega,by dsimp only; omega,by dsimp only; omega,by dsimp only; omega,by dsimp only; omega,⟨by dsimp only; omega,qYU (by dsimp only; omega) (fun h=>absurd h c10) (by dsimp only; omega)⟩,by dsimp only; omega,by dsimp only; omega,by dsimp only; omega,by dsimp only; omega⟩,by dsimp only; omega⟩,rfl⟩
   ·simp only [c9,decide_false,vYG];by_cases c13:kd=0
    ·simp only [c13,decide_true,vYV];exact ⟨⟨ltrI i,0,((i:Int) - 1),⟨0,0,0⟩,0,0,(vJJ .i64 (1 + (nxV e w m 4))),65536,(vJJ .i64 (65536 + (nxV e w (mA w m 1) 3))),327680⟩,mA w m 4,⟨kG hm 4,rfl,⟨by dsimp only; omega,by dsimp only; omega,by dsimp only; omega,by dsimp only; omega,by dsimp only; omega,⟨by dsimp only; omega,qYU (by dsimp only; omega) (fun _=>⟨rfl,rfl⟩) (by dsimp only; omega)⟩,by dsimp only; omega,by dsimp only; omega,by dsimp only; omega,by dsimp only; omega⟩,by dsimp only; omega⟩,rfl⟩
    ·simp only [c13,decide_false,vYG];by_cases c14:kd=4
     ·simp only [c14,decide_true,vYV];exact ⟨⟨ltrI i,4,((i:Int) - 1),⟨0,0,0⟩,(vJJ .i64 ((vJJ .i64 (0 - (nxV e w (mA w m 4) 3))) * 65536)),(vJJ .i64 ((nxV e w (mA w m 5) 4) * 32768)),(vJJ .i64 (1 + (nxV e w m 4))),65536,(vJJ .i64 (65536 + (nxV e w (mA w m 1) 3))),327680⟩,mA w m 6,⟨kG hm 6,rfl,⟨by dsimp only; omega,by dsimp only; omega,by dsimp only; omega,by dsimp only; omega,by dsimp only; omega,⟨by dsimp only; omega,qYU (by dsimp only; omega) (fun h=>absurd (show (4:Int)=0 from h) (by decide)) (by dsimp only; omega)⟩,by dsimp only; omega,by dsimp only; omega,by dsimp only; omega,by dsimp only; omega⟩,by dsimp only; omega⟩,rfl⟩
     ·simp only [c14,decide_false,vYG];by_cases c15:kd=5
      ·simp only [c15,decide_true,vYV];exact ⟨⟨ltrI i,5,((i:Int) - 1),⟨0,0,0⟩,(vJJ .i64 ((vJJ .i64 (0 - (nxV e w (mA w m 4) 3))) * 65536)),(vJJ .i64 ((nxV e w (mA w m 5) 4) * 32768)),(vJJ .i64 (1 + (nxV e w m 4))),65536,(vJJ .i64 (65536 + (nxV e w (mA w m 1) 3))),327680⟩,mA w m 6,⟨kG hm 6,rfl,⟨by dsimp only; omega,by dsimp only; omega,by dsimp only; omega,by dsimp only; omega,by dsimp only; omega,⟨by dsimp only; omega,qYU (by dsimp only; omega) (fun h=>absurd (show (5:Int)=0 from h) (by decide)) (by dsimp only; omega)⟩,by dsimp only; omega,by dsimp only; omega,by dsimp only; omega,by dsimp only; omega⟩,by dsimp only; omega⟩,rfl⟩
      ·simp only [c15,decide_false,vYG];exact ⟨⟨ltrI i,kd,((i:Int) - 1),⟨0,0,0⟩,(vJJ .i64 ((vJJ .i64 ((vJJ .i64 (0 - (nxV e w (mA w m 4) 5))) * 65536)).tdiv 8)),(vJJ .i64 ((vJJ .i64 ((vJJ .i64 ((vJJ .i64 (1 + (nxV e w (mA w m 5) 4))) * 65536)).tdiv 8)) + (nxV e w (mA w m 6) 3))),(vJJ .i64 (1 + (nxV e w m 4))),65536,(vJJ .i64 (65536 + (nxV e w (mA w m 1) 3))),327680⟩,mA w m 7,⟨kG hm 7,rfl,⟨by dsimp only; omega,by dsimp only; omega,by dsimp only; omega,by dsimp only; omega,by dsimp only; omega,⟨by dsimp only; omega,qYU (by dsimp only; omega) (fun h=>absurd h c13) (by dsimp only; omega)⟩,by dsimp only; omega,by dsimp only; omega,by dsimp only; omega,by dsimp only; omega⟩,by dsimp only; omega⟩,rfl⟩
 obtain ⟨j,m',h,hk⟩:=key;exact ⟨j,m',h,qGL qZH yQ (qZC (l:=[]) (m:=[(20,o_nx)]) trivial ⟨yVK,trivial⟩) (fun p S hp=>by cases hp) hk⟩
end Go.Proofs.YtfcofnclgajfeaaGreat.Sn
namespace Go.Proofs.YtfcofnclgajfeaaGreat.So
open Go.Rx Rt Go.Sx Go.RowKit Od Nb Sn
theorem sndB_res {f:Nat} {hs:List HV} {ps qs:List PV} {x y:PV} (hs':Same x y) (h:qHG Tryz.prog f hs ps x qs):qHG Tryz.prog f hs ps y qs :=
 ⟨h.1,fun w F b vals us ty h1 h2 h3 h4 h5 h6 h7 h8=>(h.2 w F b vals us ty h1 h2 h3 h4 h5 h6 h7 h8).mono fun _ w' ⟨v,F',us',ty',he,hg,f1,f2,hr,hq⟩=>⟨v,F',us',ty',he,hg,f1,f2,hs' F' w' v hr,hq⟩⟩
def cjt0 (t:Nat × Nat × (Nat→Int) × Nat):Prop:=t.2.1≤t.1∧t.1≤9223372036854775807∧t.2.2.2 < 10
theorem joint_all:∃ F:Nat × Nat × (Nat→Int) × Nat→J × Nat,∀ t,cjt0 t→((F t).2≤t.1∧JM t.2.2.2 (F t).1)∧qHG Tryz.prog 35 [.p pid 0,.v (.n .i64 (t.2.2.2:Int))] [.lf t.1 (fQ t.2.2.1),.n .i64 (t.2.1:Int)] (.a (jp (F t).1)) [.lf t.1 (fQ t.2.2.1),.n .i64 ((F t).2:Int)]:=by
 have each:∀ t:Nat × Nat × (Nat→Int) × Nat,∃ y:J × Nat,cjt0 t→(y.2≤t.1∧JM t.2.2.2 y.1)∧qHG Tryz.prog 35 [.p pid 0,.v (.n .i64 (t.2.2.2:Int))] [.lf t.1 (fQ t.2.2.1),.n .i64 (t.2.1:Int)] (.a (jp y.1)) [.lf t.1 (fQ t.2.2.1),.n .i64 (y.2:Int)]:=fun t=>by
  by_cases h:cjt0 t
  ·obtain ⟨j,m',h1,h2⟩:=joint_ex t.1 t.2.1 t.2.2.1 t.2.2.2 h.1 h.2.1 h.2.2;exact ⟨(j,m'),fun _=>⟨h1,h2⟩⟩
  ·exact ⟨(⟨ByteArray.empty,0,0,⟨0,0,0⟩,0,0,0,0,0,0⟩,0),fun h'=>absurd h' h⟩
 exact ⟨fun t=>Classical.choose (each t),fun t=>Classical.choose_spec (each t)⟩
noncomputable def jtF:Nat × Nat × (Nat→Int) × Nat→J × Nat:=Classical.choose joint_all
theorem yKU {t:Nat × Nat × (Nat→Int) × Nat} (h:cjt0 t):((jtF t).2≤t.1∧JM t.2.2.2 (jtF t).1)∧qHG Tryz.prog 35 [.p pid 0,.v (.n .i64 (t.2.2.2:Int))] [.lf t.1 (fQ t.2.2.1),.n .i64 (t.2.1:Int)] (.a (jp (jtF t).1)) [.lf t.1 (fQ t.2.2.1),.n .i64 ((jtF t).2:Int)]:=Classical.choose_spec joint_all t h
def cjt:Nat × Nat × (Nat→Int) × Int→Prop:=fun t=>match t with | (w,m,_,i)=>m≤w∧w≤9223372036854775807∧0≤i∧i < 10
def hjt:Nat × Nat × (Nat→Int) × Int→List HV:=fun t=>match t with | (_,_,_,i)=>[.p pid 0,.v (.n .i64 i)]
def ejt:Nat × Nat × (Nat→Int) × Int→List PV:=fun t=>match t with | (w,m,e,_)=>[.lf w (fQ e),.n .i64 (m:Int)]
noncomputable def xjt:Nat × Nat × (Nat→Int) × Int→PV:=fun t=>match t with | (w,m,e,i)=>.a (jp (jtF (w,m,e,i.toNat)).1)
noncomputable def qjt:Nat × Nat × (Nat→Int) × Int→List PV:=fun t=>match t with | (w,m,e,i)=>[.lf w (fQ e),.n .i64 (((jtF (w,m,e,i.toNat)).2:Nat):Int)]
def djt:List HV→List PV→Nat × Nat × (Nat→Int) × Int:=fun hs ps=>match hs,ps with
 | [_,.v (.n _ i)],[.lf w f,.n _ c]=>(w,c.toNat,unFQ f,i)
 | _,_=>(0,0,fun _=>0,0)
noncomputable def o_jt:List HV→List PV→Option (Bool × (PV × List PV)):=o_fb djt cjt hjt ejt xjt qjt
theorem ok_jt:yQF Tryz.prog 35 o_jt:=yHY fun t h=>by
 obtain ⟨w,m,e,i⟩:=t;exact (by
  have h1:=h.2.2.1;have h2:=h.2.2.2
  have:=(yKU (t:=(w,m,e,i.toNat)) ⟨h.1,h.2.1,(by show i.toNat < 10; omega)⟩).2
  dsimp only at this;rw [show ((i.toNat:Nat):Int)=i by omega] at this;exact this)
noncomputable def orRB:OrS:=orS [] [(20,o_nx),(35,o_jt)]
noncomputable def hRj (w:Nat) (e:Nat→Int) (n:Int) (m1:Nat) (i:Int) (m2:Nat) (r:Nat) (f:Nat→List PV):St:=⟨[(0,.p 1000000 0),(2,.p 2 0),(3,.p 3 0),(4,.v (.n .i64 n)),(5,.v (.n .i64 i))],[(1000000,.blk [.v (.lf w (fQ e)),.v (.n .i64 (m2:Int))]),(2,.blk [.nl,.nl]),(3,.blk [.o 21,.nl]),(21,.reg 64 12 (.fo r f))]⟩
set_option maxRecDepth 100000 in
theorem rdRj (G:St→Option (Ret × Mem)) (K:Cont) (w:Nat) (e:Nat→Int) (n:Int) (m1:Nat) (i:Int) (m2:Nat) (r:Nat) (f:Nat→List PV):stpT Tf 18 orRB 60 [] [0,1,0,1,1,1] K G (hRj w e n m1 i m2 r f) =
 (bif (decide (i < n)) then (bif (gB1 cjt hjt ejt (w,m2,e,i)) then (bif (decide (r + 1≤1000000)) then (G (hRj w e n m1 (vJJ .i64 (i + 1)) ((jtF (w,m2,e,(i).toNat)).2) (r + 1) (fun v=>jH (Nat.beq v r) [.s (jtF (w,m2,e,(i).toNat)).1.name,.n .i64 (jtF (w,m2,e,(i).toNat)).1.kind,.n .i64 (jtF (w,m2,e,(i).toNat)).1.parent,.n .i64 (jtF (w,m2,e,(i).toNat)).1.off.x,.n .i64 (jtF (w,m2,e,(i).toNat)).1.off.y,.n .i64 (jtF (w,m2,e,(i).toNat)).1.off.z,.n .i64 (jtF (w,m2,e,(i).toNat)).1.lo,.n .i64 (jtF (w,m2,e,(i).toNat)).1.hi,.n .i64 (jtF (w,m2,e,(i).toNat)).1.weight,.n .i64 (jtF (w,m2,e,(i).toNat)).1.speed,.n .i64 (jtF (w,m2,e,(i).toNat)).1.accel,.n .i64 (jtF (w,m2,e,(i).toNat)).1.torque] (f v))))
 else none)
 else none)
 else (K (.exit 0) ⟨[(0,.p 1000000 0),(2,.p 2 0),(3,.p 3 0),(4,.v (.n .i64 n))],[(1000000,.blk [.v (.lf w (fQ e)),.v (.n .i64 (m2:Int))]),(2,.blk [.nl,.nl]),(3,.blk [.o 21,.nl]),(21,.reg 64 12 (.fo r f))]⟩)):=by kernel_rfl
noncomputable def zRj (w:Nat) (e:Nat→Int) (n:Int) (m1:Nat):St:=⟨[(0,.p 1000000 0),(2,.p 2 0),(3,.p 3 0),(4,.v (.n .i64 n)),(5,.v (.n .i64 0))],[(1000000,.blk [.v (.lf w (fQ e)),.v (.n .i64 (m1:Int))]),(2,.blk [.nl,.nl]),(3,.blk [.nl,.nl])]⟩
set_option maxRecDepth 100000 in
theorem rzRj (G:St→Option (Ret × Mem)) (K:Cont) (w:Nat) (e:Nat→Int) (n:Int) (m1:Nat):stpT Tf 18 orRB 60 [] [0,1,0,1,1,1] K G (zRj w e n m1) =
 (bif (decide (0 < n)) then (bif (gB1 cjt hjt ejt (w,m1,e,0)) then (G (hRj w e n m1 1 ((jtF (w,m1,e,(0:Int).toNat)).2) 1 (fun _=>[.s (jtF (w,m1,e,(0:Int).toNat)).1.name,.n .i64 (jtF (w,m1,e,(0:Int).toNat)).1.kind,.n .i64 (jtF (w,m1,e,(0:Int).toNat)).1.parent,.n .i64 (jtF (w,m1,e,(0:Int).toNat)).1.off.x,.n .i64 (jtF (w,m1,e,(0:Int).toNat)).1.off.y,.n .i64 (jtF (w,m1,e,(0:Int).toNat)).1.off.z,.n .i64 (jtF (w,m1,e,(0:Int).toNat)).1.lo,.n .i64 (jtF (w,m1,e,(0:Int).toNat)).1.hi,.n .i64 (jtF (w,m1,e,(0:Int).toNat)).1.weight,.n .i64 (jtF (w,m1,e,(0:Int).toNat)).1.speed,.n .i64 (jtF (w,m1,e,(0:Int).toNat)).1.accel,.n .i64 (jtF (w,m1,e,(0:Int).toNat)).1.torque])))
 else none)
 else (K (.exit 0) ⟨[(0,.p 1000000 0),(2,.p 2 0),(3,.p 3 0),(4,.v (.n .i64 n))],[(1000000,.blk [.v (.lf w (fQ e)),.v (.n .i64 (m1:Int))]),(2,.blk [.nl,.nl]),(3,.blk [.nl,.nl])]⟩)):=by kernel_rfl
noncomputable def nxR (w:Nat) (e:Nat→Int) (i:Nat) (t:Nat × (Nat→List PV)):Nat × (Nat→List PV):=((jtF (w,t.1,e,i)).2,fun v=>jH (Nat.beq v i) (jp (jtF (w,t.1,e,i)).1) (t.2 v))
noncomputable def rjS (w:Nat) (e:Nat→Int) (n:Int) (m1:Nat):Nat × (Nat→List PV):=yYD (nxR w e) (n.toNat - 1) 1 ((jtF (w,m1,e,0)).2,fun _=>jp (jtF (w,m1,e,0)).1)
theorem nxR_ok {w:Nat} {e:Nat→Int} {m1:Nat} (_:m1≤w) (hw:w≤9223372036854775807):∀ (i:Nat) (t:Nat × (Nat→List PV)),i < 10→(t.1≤w∧∀ v,v < i→∃ j,t.2 v=jp j∧JM v j)→((nxR w e i t).1≤w∧∀ v,v < i + 1→∃ j,(nxR w e i t).2 v=jp j∧JM v j):=fun i t hi h=>by
 have hj:=(yKU (t:=(w,t.1,e,i)) ⟨h.1,hw,hi⟩).1;refine ⟨hj.1,fun v hv => ?_⟩;show ∃ j,jH (Nat.beq v i) _ (t.2 v)=jp j∧_;rw [uZ,qWE];by_cases e1:v=i
 ·subst e1;exact ⟨_,by rw [vJQ rfl]; rfl,hj.2⟩
 ·obtain ⟨j,h1,h2⟩:=h.2 v (by omega);exact ⟨j,by rw [vYH e1]; exact h1,h2⟩
theorem lpRj (K:Cont) (w:Nat) (e:Nat→Int) (n:Int) (m1:Nat) (hm:m1≤w) (hw:w≤9223372036854775807) (_:1≤n∧n≤9):LFT Tf 18 orRB 60 [] [0,1,0,1,1,1] K 60 (zRj w e n m1)=(K (.exit 0) ⟨[(0,.p 1000000 0),(2,.p 2 0),(3,.p 3 0),(4,.v (.n .i64 n))],[(1000000,.blk [.v (.lf w (fQ e)),.v (.n .i64 (((rjS w e n m1).1:Nat):Int))]),(2,.blk [.nl,.nl]),(3,.blk [.o 21,.nl]),(21,.reg 64 12 (.fo n.toNat (rjS w e n m1).2))]⟩):=by
 have hj:=(yKU (t:=(w,m1,e,0)) ⟨hm,hw,(by show 0 < 10; decide)⟩).1;refine (rzRj (LFT Tf 18 orRB 60 [] [0,1,0,1,1,1] K 59) K w e n m1).trans ?_;rw [vJQ (show 0 < n by omega),vYV,qQB (C:=cjt) (t:=(w,m1,e,0)) ⟨hm,hw,by decide,by decide⟩,vYV];refine (zXW (L:=LFT Tf 18 orRB 60 [] [0,1,0,1,1,1] K) (stp:=stpT Tf 18 orRB 60 [] [0,1,0,1,1,1] K) (fun _ _=>rfl) (fun (i:Nat) (t:Nat × (Nat→List PV))=>hRj w e n m1 (i:Int) t.1 i t.2) (fun i t=>t.1≤w∧∀ v,v < i→∃ j,t.2 v=jp j∧JM v j) (fun _ _=>true) (nxR w e) (c:=n.toNat) (fun t=>(K (.exit 0) ⟨[(0,.p 1000000 0),(2,.p 2 0),(3,.p 3 0),(4,.v (.n .i64 n))],[(1000000,.blk [.v (.lf w (fQ e)),.v (.n .i64 ((t.1:Nat):Int))]),(2,.blk [.nl,.nl]),(3,.blk [.o 21,.nl]),(21,.reg 64 12 (.fo n.toNat t.2))]⟩)) (fun _ _=>none) (fun G i t hi hv => ?_) (fun i t hi hv _=>nxR_ok hm hw i t (by omega) hv) (fun G t hv => ?_) (n.toNat - 1) 1 59 ((jtF (w,m1,e,0)).2,fun _=>jp (jtF (w,m1,e,0)).1) (by omega) (by omega) ⟨hj.1,fun v hv=>⟨_,rfl,(show v=0 by omega) ▸ hj.2⟩⟩).trans (qHE (n.toNat - 1) 1 _)
 ·refine (rdRj G K w e n m1 i t.1 i t.2).trans ?_;rw [vJQ (show (i:Int) < n by omega),vYV,qQB (C:=cjt) (t:=(w,t.1,e,(i:Int))) ⟨hv.1,hw,by omega,by omega⟩,vYV,vJQ (show i + 1≤1000000 by omega),vYV,qZQ (by omega)];rfl
 ·refine (rdRj G K w e n m1 (n.toNat:Int) t.1 n.toNat t.2).trans ?_;rw [vYH (show ¬ ((n.toNat:Nat):Int) < n by omega)];rfl
noncomputable def hRm (w:Nat) (e:Nat→Int) (n:Int) (m1 r1:Nat) (f1:Nat→List PV) (k0:Int) (k:Int) (m2:Nat) (r2:Nat) (g:Nat→List PV):St:=⟨[(0,.p 1000000 0),(2,.p 2 0),(3,.p 3 0),(4,.v (.n .i64 n)),(6,.v (.n .i64 k))],[(1000000,.blk [.v (.lf w (fQ e)),.v (.n .i64 (m2:Int))]),(2,.blk [.nl,.nl]),(3,.blk [.o 21,.o 46]),(21,.reg 64 12 (.fo r1 f1)),(46,.reg 81 5 (.fo r2 g))]⟩
set_option maxRecDepth 100000 in
theorem rdRm (G:St→Option (Ret × Mem)) (K:Cont) (w:Nat) (e:Nat→Int) (n:Int) (m1 r1:Nat) (f1:Nat→List PV) (k0:Int) (k:Int) (m2:Nat) (r2:Nat) (g:Nat→List PV):stpT Tf 18 orRB 60 [] [0,1,0,1,1,1,1] K G (hRm w e n m1 r1 f1 k0 k m2 r2 g) =
 (bif (decide (0 < k)) then (bif (gB1 cnx hnx enx (w,m2,e,n)) then (bif (gB1 cnx hnx enx (w,(mA w m2 1),e,9000)) then (bif (gB1 cnx hnx enx (w,(mA w m2 2),e,7)) then (bif (gB1 cnx hnx enx (w,(mA w m2 3),e,5)) then (bif (decide (r2 + 1≤1000000)) then (G (hRm w e n m1 r1 f1 k0 (vJJ .i64 (k - 1)) (mA w m2 4) (r2 + 1) (fun v=>jH (Nat.beq v r2) [.n .i64 (nxV e w m2 n),.n .i64 (vJJ .i64 (1 + (nxV e w (mA w m2 1) 9000))),.n .i64 (vJJ .i64 ((vJJ .i64 ((nxV e w (mA w m2 2) 7) - 3)) * 32768)),.n .i64 0,.n .i64 (vJJ .i64 ((vJJ .i64 ((nxV e w (mA w m2 3) 5) - 2)) * 32768))] (g v))))
 else none)
 else none)
 else none)
 else none)
 else none)
 else (K (.exit 2) ⟨[(2,.p 2 0),(3,.p 3 0)],[(1000000,.blk [.v (.lf w (fQ e)),.v (.n .i64 (m2:Int))]),(2,.blk [.nl,.nl]),(3,.blk [.o 21,.o 46]),(21,.reg 64 12 (.fo r1 f1)),(46,.reg 81 5 (.fo r2 g))]⟩)):=by kernel_rfl
noncomputable def zRm (w:Nat) (e:Nat→Int) (n:Int) (m1 r1:Nat) (f1:Nat→List PV) (k0:Int):St:=⟨[(0,.p 1000000 0),(2,.p 2 0),(3,.p 3 0),(4,.v (.n .i64 n)),(6,.v (.n .i64 k0))],[(1000000,.blk [.v (.lf w (fQ e)),.v (.n .i64 (m1:Int))]),(2,.blk [.nl,.nl]),(3,.blk [.o 21,.nl]),(21,.reg 64 12 (.fo r1 f1))]⟩
set_option maxRecDepth 100000 in
theorem rzRm (G:St→Option (Ret × Mem)) (K:Cont) (w:Nat) (e:Nat→Int) (n:Int) (m1 r1:Nat) (f1:Nat→List PV) (k0:Int):stpT Tf 18 orRB 60 [] [0,1,0,1,1,1,1] K G (zRm w e n m1 r1 f1 k0) =
 (bif (decide (0 < k0)) then (bif (gB1 cnx hnx enx (w,m1,e,n)) then (bif (gB1 cnx hnx enx (w,(mA w m1 1),e,9000)) then (bif (gB1 cnx hnx enx (w,(mA w m1 2),e,7)) then (bif (gB1 cnx hnx enx (w,(mA w m1 3),e,5)) then (G (hRm w e n m1 r1 f1 k0 (vJJ .i64 (k0 - 1)) (mA w m1 4) 1 (fun _=>[.n .i64 (nxV e w m1 n),.n .i64 (vJJ .i64 (1 + (nxV e w (mA w m1 1) 9000))),.n .i64 (vJJ .i64 ((vJJ .i64 ((nxV e w (mA w m1 2) 7) - 3)) * 32768)),.n .i64 0,.n .i64 (vJJ .i64 ((vJJ .i64 ((nxV e w (mA w m1 3) 5) - 2)) * 32768))])))
 else none)
 else none)
 else none)
 else none)
 else (K (.exit 2) ⟨[(2,.p 2 0),(3,.p 3 0)],[(1000000,.blk [.v (.lf w (fQ e)),.v (.n .i64 (m1:Int))]),(2,.blk [.nl,.nl]),(3,.blk [.o 21,.nl]),(21,.reg 64 12 (.fo r1 f1))]⟩)):=by kernel_rfl
noncomputable def msR (w:Nat) (e:Nat→Int) (n:Int) (m:Nat):Ms:=⟨nxV e w m n,vJJ .i64 (1 + (nxV e w (mA w m 1) 9000)),⟨vJJ .i64 ((vJJ .i64 ((nxV e w (mA w m 2) 7) - 3)) * 32768),0,vJJ .i64 ((vJJ .i64 ((nxV e w (mA w m 3) 5) - 2)) * 32768)⟩⟩
def MM (n:Int) (q:Ms):Prop:=(0≤q.link∧q.link < n)∧(1≤q.mass∧q.mass≤65536)∧(-4194304≤q.p.x∧q.p.x≤4194304)∧(-4194304≤q.p.y∧q.p.y≤4194304)∧(-4194304≤q.p.z∧q.p.z≤4194304)
theorem yXD {w:Nat} {e:Nat→Int} {n:Int} (_:1≤n) (m:Nat):MM n (msR w e n m):=by
 have b0:=qKB (e:=e) (w:=w) (m:=m) (k:=n) (by omega);have b1:=qKB (e:=e) (w:=w) (m:=mA w m 1) (k:=9000) (by decide);have b2:=qKB (e:=e) (w:=w) (m:=mA w m 2) (k:=7) (by decide);have b3:=qKB (e:=e) (w:=w) (m:=mA w m 3) (k:=5) (by decide);have h1:vJJ .i64 (1 + (nxV e w (mA w m 1) 9000))=1 + nxV e w (mA w m 1) 9000:=qG (by omega);have h2:vJJ .i64 ((vJJ .i64 ((nxV e w (mA w m 2) 7) - 3)) * 32768)=(nxV e w (mA w m 2) 7 - 3) * 32768:=by rw [show vJJ .i64 ((nxV e w (mA w m 2) 7) - 3)=nxV e w (mA w m 2) 7 - 3 from qG (by omega)]; exact qG (by omega)
 have h3:=lY b3;unfold MM msR;dsimp only;rw [h1,h2];omega
noncomputable def nxM (w:Nat) (e:Nat→Int) (n:Int) (i:Nat) (t:Nat × (Nat→List PV)):Nat × (Nat→List PV):=(mA w t.1 4,fun v=>jH (Nat.beq v i) (mp (msR w e n t.1)) (t.2 v))
noncomputable def rmS (w:Nat) (e:Nat→Int) (n:Int) (m1:Nat) (k0:Int):Nat × (Nat→List PV):=yYD (nxM w e n) (k0.toNat - 1) 1 (mA w m1 4,fun _=>mp (msR w e n m1))
theorem nxM_ok {w:Nat} {e:Nat→Int} {n:Int} (hn:1≤n):∀ (i:Nat) (t:Nat × (Nat→List PV)),(t.1≤w∧∀ v,v < i→∃ j,t.2 v=mp j∧MM n j)→((nxM w e n i t).1≤w∧∀ v,v < i + 1→∃ j,(nxM w e n i t).2 v=mp j∧MM n j):=fun i t h=>by
 refine ⟨kG h.1 4,fun v hv => ?_⟩;show ∃ j,jH (Nat.beq v i) _ (t.2 v)=mp j∧_;rw [uZ,qWE];by_cases e1:v=i
 ·subst e1;exact ⟨_,by rw [vJQ rfl]; rfl,yXD hn t.1⟩
 ·obtain ⟨j,h1,h2⟩:=h.2 v (by omega);exact ⟨j,by rw [vYH e1]; exact h1,h2⟩
theorem lpRm (K:Cont) (w:Nat) (e:Nat→Int) (n:Int) (m1 r1:Nat) (f1:Nat→List PV) (k0:Int) (hm:m1≤w) (hw:w≤9223372036854775807) (hn:1≤n∧n≤9) (_:0≤k0∧k0≤9):LFT Tf 18 orRB 60 [] [0,1,0,1,1,1,1] K 60 (zRm w e n m1 r1 f1 k0)=(bif decide (0 < k0) then (K (.exit 2) ⟨[(2,.p 2 0),(3,.p 3 0)],[(1000000,.blk [.v (.lf w (fQ e)),.v (.n .i64 (((rmS w e n m1 k0).1:Nat):Int))]),(2,.blk [.nl,.nl]),(3,.blk [.o 21,.o 46]),(21,.reg 64 12 (.fo r1 f1)),(46,.reg 81 5 (.fo (k0).toNat (rmS w e n m1 k0).2))]⟩) else (K (.exit 2) ⟨[(2,.p 2 0),(3,.p 3 0)],[(1000000,.blk [.v (.lf w (fQ e)),.v (.n .i64 ((m1:Nat):Int))]),(2,.blk [.nl,.nl]),(3,.blk [.o 21,.nl]),(21,.reg 64 12 (.fo r1 f1))]⟩)):=by
 refine (rzRm (LFT Tf 18 orRB 60 [] [0,1,0,1,1,1,1] K 59) K w e n m1 r1 f1 k0).trans ?_;by_cases h0:0 < k0
 ·rw [vJQ h0,vYV,qQB (C:=cnx) (t:=(w,m1,e,n)) ⟨hm,hw,by omega,by omega⟩,vYV,qQB (C:=cnx) (t:=(w,(mA w m1 1),e,9000)) ⟨kG hm 1,hw,by decide,by decide⟩,vYV,qQB (C:=cnx) (t:=(w,(mA w m1 2),e,7)) ⟨kG hm 2,hw,by decide,by decide⟩,vYV,qQB (C:=cnx) (t:=(w,(mA w m1 3),e,5)) ⟨kG hm 3,hw,by decide,by decide⟩,vYV];refine Eq.trans (b:=LFT Tf 18 orRB 60 [] [0,1,0,1,1,1,1] K 59 (hRm w e n m1 r1 f1 k0 (k0 - ((1:Nat):Int)) (mA w m1 4) 1 (fun _=>mp (msR w e n m1)))) ?_ ((zXW (L:=LFT Tf 18 orRB 60 [] [0,1,0,1,1,1,1] K) (stp:=stpT Tf 18 orRB 60 [] [0,1,0,1,1,1,1] K) (fun _ _=>rfl) (fun (i:Nat) (t:Nat × (Nat→List PV))=>hRm w e n m1 r1 f1 k0 (k0 - (i:Int)) t.1 i t.2) (fun i t=>t.1≤w∧∀ v,v < i→∃ j,t.2 v=mp j∧MM n j) (fun _ _=>true) (nxM w e n) (c:=k0.toNat) (fun t=>(K (.exit 2) ⟨[(2,.p 2 0),(3,.p 3 0)],[(1000000,.blk [.v (.lf w (fQ e)),.v (.n .i64 ((t.1:Nat):Int))]),(2,.blk [.nl,.nl]),(3,.blk [.o 21,.o 46]),(21,.reg 64 12 (.fo r1 f1)),(46,.reg 81 5 (.fo k0.toNat t.2))]⟩)) (fun _ _=>none) (fun G i t hi hv => ?_) (fun i t hi hv _=>nxM_ok hn.1 i t hv) (fun G t hv => ?_) (k0.toNat - 1) 1 59 (mA w m1 4,fun _=>mp (msR w e n m1)) (by omega) (by omega) ⟨kG hm 4,fun v hv=>⟨_,rfl,yXD hn.1 m1⟩⟩).trans (qHE (k0.toNat - 1) 1 _))
  ·rw [show vJJ .i64 (k0 - 1)=k0 - ((1:Nat):Int) from qG (by omega)];rfl
  ·refine (rdRm G K w e n m1 r1 f1 k0 (k0 - (i:Int)) t.1 i t.2).trans ?_;have ht:=hv.1;rw [vJQ (show 0 < k0 - (i:Int) by omega),vYV,qQB (C:=cnx) (t:=(w,t.1,e,n)) ⟨ht,hw,by omega,by omega⟩,vYV,qQB (C:=cnx) (t:=(w,(mA w t.1 1),e,9000)) ⟨kG ht 1,hw,by decide,by decide⟩,vYV,qQB (C:=cnx) (t:=(w,(mA w t.1 2),e,7)) ⟨kG ht 2,hw,by decide,by decide⟩,vYV,qQB (C:=cnx) (t:=(w,(mA w t.1 3),e,5)) ⟨kG ht 3,hw,by decide,by decide⟩,vYV,vJQ (show i + 1≤1000000 by omega),vYV,show vJJ .i64 (k0 - (i:Int) - 1)=k0 - ((i + 1:Nat):Int) from by rw [qG (by omega)]; omega];rfl
  ·refine (rdRm G K w e n m1 r1 f1 k0 (k0 - (k0.toNat:Int)) t.1 k0.toNat t.2).trans ?_;rw [vYH (show ¬ 0 < k0 - ((k0.toNat:Nat):Int) by omega)];rfl
 ·rw [vYH h0];rfl
theorem rjS_ok {w:Nat} {e:Nat→Int} {n:Int} {m1:Nat} (hm:m1≤w) (hw:w≤9223372036854775807) (_:1≤n∧n≤9):(rjS w e n m1).1≤w∧∀ v,v < n.toNat→∃ j,(rjS w e n m1).2 v=jp j∧JM v j:=by
 have hj:=(yKU (t:=(w,m1,e,0)) ⟨hm,hw,(by show 0 < 10; decide)⟩).1;exact zQA (Q:=fun i (t:Nat × (Nat→List PV))=>t.1≤w∧∀ v,v < i→∃ j,t.2 v=jp j∧JM v j) (c:=n.toNat) (fun i t hi h=>nxR_ok hm hw i t (by omega) h) (n.toNat - 1) 1 _ (by omega) ⟨hj.1,fun v hv=>⟨_,rfl,(show v=0 by omega) ▸ hj.2⟩⟩
theorem rmS_ok {w:Nat} {e:Nat→Int} {n:Int} {m1:Nat} {k0:Int} (hm:m1≤w) (hn:1≤n) (_:0 < k0):(rmS w e n m1 k0).1≤w∧∀ v,v < k0.toNat→∃ j,(rmS w e n m1 k0).2 v=mp j∧MM n j :=
 zQA (Q:=fun i (t:Nat × (Nat→List PV))=>t.1≤w∧∀ v,v < i→∃ j,t.2 v=mp j∧MM n j) (c:=k0.toNat) (fun i t hi h=>nxM_ok hn i t h) (k0.toNat - 1) 1 _ (by omega) ⟨kG hm 4,fun v hv=>⟨_,rfl,yXD hn m1⟩⟩
theorem pick_fn {α:Type} {n:Nat} {R:Nat→α→Prop} (d:α) (h:∀ v,v < n→∃ a,R v a):∃ g:Nat→α,∀ v,v < n→R v (g v):=by
 have each:∀ v,∃ a:α,v < n→R v a:=fun v=>by
  by_cases hv:v < n
  ·obtain ⟨a,ha⟩:=h v hv;exact ⟨a,fun _=>ha⟩
  ·exact ⟨d,fun h=>absurd h hv⟩
 exact ⟨fun v=>Classical.choose (each v),fun v=>Classical.choose_spec (each v)⟩
noncomputable def lsrb (w m:Nat) (e:Nat→Int):List (List Nat × uU):=[([0,1,0,1,1,1],sumF (fun t:Int × Nat=>(zRj w e t.1 t.2)) (fun σ=>(slI σ 4,(bkC σ 1000000 1).toNat)) (fun t K=>(bif (decide (t.2≤w∧w≤9223372036854775807) && decide (1≤t.1∧t.1≤9)) then (K (.exit 0) ⟨[(0,.p 1000000 0),(2,.p 2 0),(3,.p 3 0),(4,.v (.n .i64 t.1))],[(1000000,.blk [.v (.lf w (fQ e)),.v (.n .i64 (((rjS w e t.1 t.2).1:Nat):Int))]),(2,.blk [.nl,.nl]),(3,.blk [.o 21,.nl]),(21,.reg 64 12 (.fo (t.1).toNat (rjS w e t.1 t.2).2))]⟩) else none))),([0,1,0,1,1,1,1],sumF (fun t:Int × Nat × Nat × (Nat→List PV) × Int=>(zRm w e t.1 t.2.1 t.2.2.1 t.2.2.2.1 t.2.2.2.2)) (fun σ=>(slI σ 4,(bkC σ 1000000 1).toNat,rgN σ 21,rgF σ 21,slI σ 6)) (fun t K=>(bif (decide (t.2.1≤w∧w≤9223372036854775807) && decide ((1≤t.1∧t.1≤9)∧(0≤t.2.2.2.2∧t.2.2.2.2≤9))) then (bif decide (0 < t.2.2.2.2) then (K (.exit 2) ⟨[(2,.p 2 0),(3,.p 3 0)],[(1000000,.blk [.v (.lf w (fQ e)),.v (.n .i64 (((rmS w e t.1 t.2.1 t.2.2.2.2).1:Nat):Int))]),(2,.blk [.nl,.nl]),(3,.blk [.o 21,.o 46]),(21,.reg 64 12 (.fo t.2.2.1 t.2.2.2.1)),(46,.reg 81 5 (.fo (t.2.2.2.2).toNat (rmS w e t.1 t.2.1 t.2.2.2.2).2))]⟩) else (K (.exit 2) ⟨[(2,.p 2 0),(3,.p 3 0)],[(1000000,.blk [.v (.lf w (fQ e)),.v (.n .i64 ((t.2.1:Nat):Int))]),(2,.blk [.nl,.nl]),(3,.blk [.o 21,.nl]),(21,.reg 64 12 (.fo t.2.2.1 t.2.2.2.1))]⟩)) else none)))]
set_option maxRecDepth 100000 in
theorem pxrb (w m:Nat) (e:Nat→Int):zVX Tf orRB (zW (lsrb w m e)) 60 18 [.p 1000000 0] [.lf w (fQ e),.n .i64 (m:Int)] =
 (bif (gB1 cnx hnx enx (w,m,e,3)) then (bif (gSt (zRj w e (vJJ .i64 (1 + (nxV e w m 3))) (mA w m 1)) (zRj w e (vJJ .i64 (1 + (nxV e w m 3))) (mA w m 1))) then (bif (decide ((mA w m 1)≤w∧w≤9223372036854775807) && decide (1≤(vJJ .i64 (1 + (nxV e w m 3)))∧(vJJ .i64 (1 + (nxV e w m 3)))≤9)) then (bif (gB1 cnx hnx enx (w,((rjS w e (vJJ .i64 (1 + (nxV e w m 3))) (mA w m 1)).1),e,3)) then (bif (gSt (zRm w e (vJJ .i64 (1 + (nxV e w m 3))) (mA w ((rjS w e (vJJ .i64 (1 + (nxV e w m 3))) (mA w m 1)).1) 1) (((vJJ .i64 (1 + (nxV e w m 3)))).toNat) ((rjS w e (vJJ .i64 (1 + (nxV e w m 3))) (mA w m 1)).2) (nxV e w ((rjS w e (vJJ .i64 (1 + (nxV e w m 3))) (mA w m 1)).1) 3)) (zRm w e (vJJ .i64 (1 + (nxV e w m 3))) (mA w ((rjS w e (vJJ .i64 (1 + (nxV e w m 3))) (mA w m 1)).1) 1) (((vJJ .i64 (1 + (nxV e w m 3)))).toNat) ((rjS w e (vJJ .i64 (1 + (nxV e w m 3))) (mA w m 1)).2) (nxV e w ((rjS w e (vJJ .i64 (1 + (nxV e w m 3))) (mA w m 1)).1) 3))) then (bif (decide ((mA w ((rjS w e (vJJ .i64 (1 + (nxV e w m 3))) (mA w m 1)).1) 1)≤w∧w≤9223372036854775807) && decide ((1≤(vJJ .i64 (1 + (nxV e w m 3)))∧(vJJ .i64 (1 + (nxV e w m 3)))≤9)∧(0≤(nxV e w ((rjS w e (vJJ .i64 (1 + (nxV e w m 3))) (mA w m 1)).1) 3)∧(nxV e w ((rjS w e (vJJ .i64 (1 + (nxV e w m 3))) (mA w m 1)).1) 3)≤9))) then (bif (decide (0 < (nxV e w ((rjS w e (vJJ .i64 (1 + (nxV e w m 3))) (mA w m 1)).1) 3))) then some (.v (.t [.a [.lf (((vJJ .i64 (1 + (nxV e w m 3)))).toNat) ((rjS w e (vJJ .i64 (1 + (nxV e w m 3))) (mA w m 1)).2),.lf ((nxV e w ((rjS w e (vJJ .i64 (1 + (nxV e w m 3))) (mA w m 1)).1) 3)).toNat (rmS w e (vJJ .i64 (1 + (nxV e w m 3))) (mA w ((rjS w e (vJJ .i64 (1 + (nxV e w m 3))) (mA w m 1)).1) 1) (nxV e w ((rjS w e (vJJ .i64 (1 + (nxV e w m 3))) (mA w m 1)).1) 3)).2],.lf w (fQ e),.n .i64 (((rmS w e (vJJ .i64 (1 + (nxV e w m 3))) (mA w ((rjS w e (vJJ .i64 (1 + (nxV e w m 3))) (mA w m 1)).1) 1) (nxV e w ((rjS w e (vJJ .i64 (1 + (nxV e w m 3))) (mA w m 1)).1) 3)).1:Nat):Int)]),[])
 else some (.v (.t [.a [.lf (((vJJ .i64 (1 + (nxV e w m 3)))).toNat) ((rjS w e (vJJ .i64 (1 + (nxV e w m 3))) (mA w m 1)).2),.l []],.lf w (fQ e),.n .i64 (((mA w ((rjS w e (vJJ .i64 (1 + (nxV e w m 3))) (mA w m 1)).1) 1):Nat):Int)]),[]))
 else none)
 else none)
 else none)
 else none)
 else none)
 else none):=by kernel_rfl
theorem snd_rb (w m:Nat) (e:Nat→Int) (hm:m≤w) (hw:w≤9223372036854775807):qHG Tryz.prog 18 [.p 1000000 0] [.lf w (fQ e),.n .i64 (m:Int)] (bif decide (0 < (nxV e w ((rjS w e (vJJ .i64 (1 + (nxV e w m 3))) (mA w m 1)).1) 3)) then (.a [.lf ((vJJ .i64 (1 + (nxV e w m 3))).toNat) ((rjS w e (vJJ .i64 (1 + (nxV e w m 3))) (mA w m 1)).2),.lf ((nxV e w ((rjS w e (vJJ .i64 (1 + (nxV e w m 3))) (mA w m 1)).1) 3).toNat) ((rmS w e (vJJ .i64 (1 + (nxV e w m 3))) (mA w ((rjS w e (vJJ .i64 (1 + (nxV e w m 3))) (mA w m 1)).1) 1) (nxV e w ((rjS w e (vJJ .i64 (1 + (nxV e w m 3))) (mA w m 1)).1) 3)).2)]) else (.a [.lf ((vJJ .i64 (1 + (nxV e w m 3))).toNat) ((rjS w e (vJJ .i64 (1 + (nxV e w m 3))) (mA w m 1)).2),.l []])) ([.lf w (fQ e),.n .i64 (((bif decide (0 < (nxV e w ((rjS w e (vJJ .i64 (1 + (nxV e w m 3))) (mA w m 1)).1) 3)) then (rmS w e (vJJ .i64 (1 + (nxV e w m 3))) (mA w ((rjS w e (vJJ .i64 (1 + (nxV e w m 3))) (mA w m 1)).1) 1) (nxV e w ((rjS w e (vJJ .i64 (1 + (nxV e w m 3))) (mA w m 1)).1) 3)).1 else mA w ((rjS w e (vJJ .i64 (1 + (nxV e w m 3))) (mA w m 1)).1) 1):Nat):Int)]):=by
 refine qGL (N:=60) (LO:=zW (lsrb w m e)) qZH yQ (qZC (l:=[]) (m:=[(20,o_nx),(35,o_jt)]) trivial ⟨yVK,ok_jt,trivial⟩) (fun p S hp => ?_) ?_
 ·refine jK (L:=qK Tf 18) (l:=(lsrb w m e)) (show AllP _ (lsrb w m e) from ⟨?_,?_,trivial⟩) p S hp
  ·dsimp only;refine qVW (T:=Tf) (o:=orRB) (f:=18) (LO:=zW []) (p:=[0,1,0,1,1,1]) qVF ?_;intro t K r hr;obtain ⟨hg,hr⟩:=qQ hr;simp only [vQJ,decide_eq_true_eq] at hg;exact (lpRj K w e t.1 t.2 hg.1.1 hg.1.2 hg.2).trans hr
  ·dsimp only;refine qVW (T:=Tf) (o:=orRB) (f:=18) (LO:=zW []) (p:=[0,1,0,1,1,1,1]) qVF ?_;intro t K r hr;obtain ⟨hg,hr⟩:=qQ hr;simp only [vQJ,decide_eq_true_eq] at hg;exact (lpRm K w e t.1 t.2.1 t.2.2.1 t.2.2.2.1 t.2.2.2.2 hg.1.1 hg.1.2 hg.2.1 hg.2.2).trans hr
 ·refine (pxrb w m e).trans ?_;have b0:=qKB (e:=e) (w:=w) (m:=m) (k:=3) (by decide);have hN:(vJJ .i64 (1 + (nxV e w m 3)))=1 + nxV e w m 3:=qG (by omega);have hj:=rjS_ok (e:=e) (n:=(vJJ .i64 (1 + (nxV e w m 3)))) (kG hm 1) hw (by omega);have bk:=qKB (e:=e) (w:=w) (m:=(rjS w e (vJJ .i64 (1 + (nxV e w m 3))) (mA w m 1)).1) (k:=3) (by decide);simp only [jG,qQB (C:=cnx) (t:=(w,m,e,3)) ⟨hm,hw,by decide,by decide⟩,qQB (C:=cnx) (t:=(w,(rjS w e (vJJ .i64 (1 + (nxV e w m 3))) (mA w m 1)).1,e,3)) ⟨hj.1,hw,by decide,by decide⟩,vJQ (show mA w m 1≤w∧w≤9223372036854775807 from ⟨kG hm 1,hw⟩),vJQ (show 1≤(vJJ .i64 (1 + (nxV e w m 3)))∧(vJJ .i64 (1 + (nxV e w m 3)))≤9 by omega),vJQ (show mA w ((rjS w e (vJJ .i64 (1 + (nxV e w m 3))) (mA w m 1)).1) 1≤w∧w≤9223372036854775807 from ⟨kG hj.1 1,hw⟩),vJQ (show (1≤(vJJ .i64 (1 + (nxV e w m 3)))∧(vJJ .i64 (1 + (nxV e w m 3)))≤9)∧(0≤(nxV e w ((rjS w e (vJJ .i64 (1 + (nxV e w m 3))) (mA w m 1)).1) 3)∧(nxV e w ((rjS w e (vJJ .i64 (1 + (nxV e w m 3))) (mA w m 1)).1) 3)≤9) by omega),vZJ,vYV];cases decide (0 < (nxV e w ((rjS w e (vJJ .i64 (1 + (nxV e w m 3))) (mA w m 1)).1) 3)) <;> rfl
def robC (w:Nat) (js:Nat→J) (ms:Nat→Ms) (n k m':Nat):Prop:=m'≤w∧(1≤n∧n≤3)∧k≤2∧(∀ v,v < n→JM v (js v))∧∀ v,v < k→MM n (ms v)
theorem robot_ex (w m:Nat) (e:Nat→Int) (hm:m≤w) (hw:w≤9223372036854775807):∃ (js:Nat→J) (ms:Nat→Ms) (n k m':Nat),robC w js ms n k m'∧qHG Tryz.prog 18 [.p pid 0] [.lf w (fQ e),.n .i64 (m:Int)] (.a [.lf n (fJ js),.lf k (fM ms)]) [.lf w (fQ e),.n .i64 (m':Int)]:=by
 have h:=snd_rb w m e hm hw;have b0:=qKB (e:=e) (w:=w) (m:=m) (k:=3) (by decide);have hN:(vJJ .i64 (1 + (nxV e w m 3)))=1 + nxV e w m 3:=qG (by omega);have hj:=rjS_ok (e:=e) (n:=(vJJ .i64 (1 + (nxV e w m 3)))) (kG hm 1) hw (by omega);have bk:=qKB (e:=e) (w:=w) (m:=(rjS w e (vJJ .i64 (1 + (nxV e w m 3))) (mA w m 1)).1) (k:=3) (by decide);obtain ⟨js,hjs⟩:=pick_fn (⟨ByteArray.empty,0,0,⟨0,0,0⟩,0,0,0,0,0,0⟩:J) hj.2;by_cases h0:0 < (nxV e w ((rjS w e (vJJ .i64 (1 + (nxV e w m 3))) (mA w m 1)).1) 3)
 ·have hm2:=rmS_ok (w:=w) (e:=e) (n:=(vJJ .i64 (1 + (nxV e w m 3)))) (m1:=mA w ((rjS w e (vJJ .i64 (1 + (nxV e w m 3))) (mA w m 1)).1) 1) (k0:=(nxV e w ((rjS w e (vJJ .i64 (1 + (nxV e w m 3))) (mA w m 1)).1) 3)) (kG hj.1 1) (by omega) h0;obtain ⟨ms,hms⟩:=pick_fn (⟨0,0,⟨0,0,0⟩⟩:Ms) hm2.2;rw [vJQ h0] at h;exact ⟨js,ms,_,((nxV e w ((rjS w e (vJJ .i64 (1 + (nxV e w m 3))) (mA w m 1)).1) 3)).toNat,_,⟨hm2.1,by omega,by omega,fun v hv=>(hjs v hv).2,fun v hv=>by have:=(hms v hv).2; rw [show (((vJJ .i64 (1 + (nxV e w m 3))).toNat:Nat):Int)=(vJJ .i64 (1 + (nxV e w m 3))) by omega]; exact this⟩,sndB_res (Same.a (xs:=[_,_]) ⟨zYF fun v hv=>(hjs v hv).1,zYF fun v hv=>(hms v hv).1,trivial⟩) h⟩
 ·rw [vYH h0] at h;exact ⟨js,fun _=>⟨0,0,⟨0,0,0⟩⟩,_,0,_,⟨kG hj.1 1,by omega,by omega,fun v hv=>(hjs v hv).2,fun v hv=>absurd hv (by omega)⟩,sndB_res (Same.a (xs:=[_,_]) ⟨zYF fun v hv=>(hjs v hv).1,Same.lf rfl,trivial⟩) h⟩
end Go.Proofs.YtfcofnclgajfeaaGreat.So
namespace Go.Proofs.YtfcofnclgajfeaaGreat.Sq
open Go.Rx Rt Go.Sx Go.RowKit Od Nb Sn So
theorem choose_all {τ υ:Type} (d:υ) {C:τ→Prop} {R:τ→υ→Prop} (h:∀ t,C t→∃ y,R t y):∃ F:τ→υ,∀ t,C t→R t (F t):=by
 have each:∀ t,∃ y:υ,C t→R t y:=fun t=>by
  by_cases hc:C t
  ·obtain ⟨y,hy⟩:=h t hc;exact ⟨y,fun _=>hy⟩
  ·exact ⟨d,fun h'=>absurd h' hc⟩
 exact ⟨fun t=>Classical.choose (each t),fun t=>Classical.choose_spec (each t)⟩
def j00:J:=⟨ByteArray.empty,0,0,⟨0,0,0⟩,0,0,0,0,0,0⟩
def m00:Ms:=⟨0,0,⟨0,0,0⟩⟩
abbrev RbT:Type:=(Nat→J) × (Nat→Ms) × Nat × Nat × Nat
def rbC (t:Nat × Nat × (Nat→Int)):Prop:=t.2.1≤t.1∧t.1≤9223372036854775807
def rbR (t:Nat × Nat × (Nat→Int)) (y:RbT):Prop:=robC t.1 y.1 y.2.1 y.2.2.1 y.2.2.2.1 y.2.2.2.2∧qHG Tryz.prog 18 [.p pid 0] [.lf t.1 (fQ t.2.2),.n .i64 (t.2.1:Int)] (.a [.lf y.2.2.1 (fJ y.1),.lf y.2.2.2.1 (fM y.2.1)]) [.lf t.1 (fQ t.2.2),.n .i64 (y.2.2.2.2:Int)]
theorem rb_all:∃ F:Nat × Nat × (Nat→Int)→RbT,∀ t,rbC t→rbR t (F t):=choose_all (fun _=>j00,fun _=>m00,0,0,0) fun t h=>by
 obtain ⟨js,ms,n,k,m',h1,h2⟩:=robot_ex t.1 t.2.1 t.2.2 h.1 h.2;exact ⟨(js,ms,n,k,m'),h1,h2⟩
noncomputable def rbF:Nat × Nat × (Nat→Int)→RbT:=Classical.choose rb_all
theorem rbF_ok {t:Nat × Nat × (Nat→Int)} (h:rbC t):rbR t (rbF t):=Classical.choose_spec rb_all t h
def crb:Nat × Nat × (Nat→Int)→Prop:=fun t=>match t with | (w,m,_)=>m≤w∧w≤9223372036854775807
def hrb:Nat × Nat × (Nat→Int)→List HV:=fun t=>match t with | (_,_,_)=>[.p pid 0]
def erb:Nat × Nat × (Nat→Int)→List PV:=fun t=>match t with | (w,m,e)=>[.lf w (fQ e),.n .i64 (m:Int)]
noncomputable def xrb:Nat × Nat × (Nat→Int)→PV:=fun t=>match t with | (w,m,e)=>.a [.lf (rbF (w,m,e)).2.2.1 (fJ (rbF (w,m,e)).1),.lf (rbF (w,m,e)).2.2.2.1 (fM (rbF (w,m,e)).2.1)]
noncomputable def qrb:Nat × Nat × (Nat→Int)→List PV:=fun t=>match t with | (w,m,e)=>[.lf w (fQ e),.n .i64 (((rbF (w,m,e)).2.2.2.2:Nat):Int)]
def drb:List HV→List PV→Nat × Nat × (Nat→Int):=fun hs ps=>match hs,ps with
 | _,[.lf w f,.n _ c]=>(w,c.toNat,unFQ f)
 | _,_=>(0,0,fun _=>0)
noncomputable def o_rb:List HV→List PV→Option (Bool × (PV × List PV)):=o_fb drb crb hrb erb xrb qrb
theorem ok_rb:yQF Tryz.prog 18 o_rb:=yHY fun t h=>by
 obtain ⟨w,m,e⟩:=t;exact (rbF_ok (t:=(w,m,e)) h).2
noncomputable def orRob (w:Nat) (e:Nat→Int):OrS:=orS [] [(18,o_rb)]
noncomputable def yGQ (w:Nat) (e:Nat→Int):List (List Nat × uU):=[]
set_option maxRecDepth 100000 in
theorem pxRob (w:Nat) (e:Nat→Int):qXJ Tf (orRob w e) (zW (yGQ w e)) 60 7 [.lf w (fQ e)] =
 (bif (gB1 crb hrb erb (w,0,e)) then some (.v (.a [.lf (rbF (w,0,e)).2.2.1 (fJ (rbF (w,0,e)).1),.lf (rbF (w,0,e)).2.2.2.1 (fM (rbF (w,0,e)).2.1)]),[])
 else none):=by kernel_rfl
theorem snd_Rob (w:Nat) (e:Nat→Int) (hw:w≤9223372036854775807):yZ Tryz.prog 7 [.lf w (fQ e)] (.v (.a [.lf (rbF (w,0,e)).2.2.1 (fJ (rbF (w,0,e)).1),.lf (rbF (w,0,e)).2.2.2.1 (fM (rbF (w,0,e)).2.1)])):=by
 refine jX (N:=60) (LO:=zW (yGQ w e)) qZH yQ (qZC (l:=[]) (m:=[(18,o_rb)]) trivial ⟨ok_rb,trivial⟩) (fun p S hp => ?_) ?_
 ·refine jK (L:=qK Tf 7) (l:=(yGQ w e)) (show AllP _ (yGQ w e) from trivial) p S hp
 ·refine (pxRob w e).trans ?_;rw [qQB (C:=crb) (t:=(w,0,e)) ⟨Nat.zero_le _,hw⟩];rfl
noncomputable def orCg (w:Nat) (e:Nat→Int) (_:Nat→J) (_:Nat→Ms) (n m:Nat):OrS:=orS [] [(20,o_nx)]
noncomputable def hCg (w:Nat) (e:Nat→Int) (js:Nat→J) (ms:Nat→Ms) (n m:Nat) (i:Int) (m2:Nat) (r:Nat) (f:Nat→Int):St:=⟨[(2,.p 2 0),(5,.p 11 0),(6,.o 43),(7,.v (.n .i64 i))],[(2,.blk [.v (.lf n (fJ js)),.v (.lf m (fM ms))]),(11,.blk [.v (.lf w (fQ e)),.v (.n .i64 (m2:Int))]),(43,.reg 2 1 (.fo r (fun v=>[.n .i64 (f v)])))]⟩
set_option maxRecDepth 100000 in
theorem rdCg (G:St→Option (Ret × Mem)) (K:Cont) (w:Nat) (e:Nat→Int) (js:Nat→J) (ms:Nat→Ms) (n m:Nat) (i:Int) (m2:Nat) (r:Nat) (f:Nat→Int):stpT Tf 8 (orCg w e js ms n m) 60 [] [0,1,0,1,1,1] K G (hCg w e js ms n m i m2 r f) =
 (bif (decide (i < (n:Int))) then (bif (inB i n) then (bif (inB i n) then (bif (gB1 cnx hnx enx (w,m2,e,6)) then (bif (decide ((nxV e w m2 6)=0)) then (bif (decide (r + 1≤1000000)) then (G (hCg w e js ms n m (vJJ .i64 (i + 1)) (mA w m2 1) (r + 1) (fun v=>(bif (Nat.beq v r) then (js (i).toNat).lo else (f v)))))
 else none)
 else (bif (decide ((nxV e w m2 6)=1)) then (bif (decide (r + 1≤1000000)) then (G (hCg w e js ms n m (vJJ .i64 (i + 1)) (mA w m2 1) (r + 1) (fun v=>(bif (Nat.beq v r) then (js (i).toNat).hi else (f v)))))
 else none)
 else (bif (gB1 cnx hnx enx (w,(mA w m2 1),e,(vJJ .i64 ((vJJ .i64 ((js (i).toNat).hi - (js (i).toNat).lo)) + 1)))) then (bif (decide (r + 1≤1000000)) then (G (hCg w e js ms n m (vJJ .i64 (i + 1)) (mA w m2 2) (r + 1) (fun v=>(bif (Nat.beq v r) then (vJJ .i64 ((js (i).toNat).lo + (nxV e w (mA w m2 1) (vJJ .i64 ((vJJ .i64 ((js (i).toNat).hi - (js (i).toNat).lo)) + 1))))) else (f v)))))
 else none)
 else none)))
 else none)
 else none)
 else none)
 else (K (.exit 0) ⟨[(6,.o 43)],[(43,.reg 2 1 (.fo r (fun v=>[.n .i64 (f v)])))]⟩)):=by kernel_rfl
noncomputable def cfN (w:Nat) (e:Nat→Int) (js:Nat→J) (i:Nat) (t:Nat × (Nat→Int)):Nat × (Nat→Int) :=
 bif decide (nxV e w t.1 6=0) then (mA w t.1 1,fun v=>bif Nat.beq v i then (js i).lo else t.2 v) else bif decide (nxV e w t.1 6=1) then (mA w t.1 1,fun v=>bif Nat.beq v i then (js i).hi else t.2 v)
 else (mA w t.1 2,fun v=>bif Nat.beq v i then vJJ .i64 ((js i).lo + nxV e w (mA w t.1 1) (vJJ .i64 (vJJ .i64 ((js i).hi - (js i).lo) + 1))) else t.2 v)
def zJB (js:Nat→J) (n:Nat):Prop:=∀ v,v < n → -4194304≤(js v).lo∧(js v).lo≤(js v).hi∧(js v).hi≤4194304
theorem cfN_ok {w:Nat} {e:Nat→Int} {js:Nat→J} {n:Nat} (hj:zJB js n):∀ (i:Nat) (t:Nat × (Nat→Int)),i < n→(t.1≤w∧∀ v,v < i→(js v).lo≤t.2 v∧t.2 v≤(js v).hi)→((cfN w e js i t).1≤w∧∀ v,v < i + 1→(js v).lo≤(cfN w e js i t).2 v∧(cfN w e js i t).2 v≤(js v).hi):=fun i t hi h=>by
 obtain ⟨h1,h2,h3⟩:=hj i hi;have hD:vJJ .i64 (vJJ .i64 ((js i).hi - (js i).lo) + 1)=(js i).hi - (js i).lo + 1:=by rw [show vJJ .i64 ((js i).hi - (js i).lo)=(js i).hi - (js i).lo from qG (by omega)]; exact qG (by omega)
 have hb:=qKB (e:=e) (w:=w) (m:=mA w t.1 1) (k:=(js i).hi - (js i).lo + 1) (by omega);have key:∀ (x:Int) (m':Nat),m'≤w→((js i).lo≤x∧x≤(js i).hi)→(m'≤w∧∀ v,v < i + 1→(js v).lo≤(bif Nat.beq v i then x else t.2 v)∧(bif Nat.beq v i then x else t.2 v)≤(js v).hi):=fun x m' hm hx=>⟨hm,fun v hv=>by
  rw [qWE];by_cases e1:v=i
  ·subst e1;rw [vJQ rfl]; exact hx
  ·rw [vYH e1]; exact h.2 v (by omega)⟩
 unfold cfN;rw [hD];cases decide (nxV e w t.1 6=0) with
 | true=>exact key _ _ (kG h.1 1) (by omega)
 | false =>
  cases decide (nxV e w t.1 6=1) with
  | true=>exact key _ _ (kG h.1 1) (by omega)
  | false =>
   refine key _ _ (kG h.1 2) ?_;rw [qG (by omega)];omega
noncomputable def cfS (w:Nat) (e:Nat→Int) (js:Nat→J) (_:Nat→Ms) (n m:Nat):Nat × (Nat→Int):=yYD (cfN w e js) n 0 (0,fun _=>0)
theorem lpCg (K:Cont) (w:Nat) (e:Nat→Int) (js:Nat→J) (ms:Nat→Ms) (n m:Nat) (hw:w≤9223372036854775807) (_:n≤50) (hj:zJB js n):LFT Tf 8 (orCg w e js ms n m) 60 [] [0,1,0,1,1,1] K 60 (hCg w e js ms n m 0 0 0 (fun _=>0))=(K (.exit 0) ⟨[(6,.o 43)],[(43,.reg 2 1 (.fo n (fQ (cfS w e js ms n m).2)))]⟩):=by
 refine (zXW (L:=LFT Tf 8 (orCg w e js ms n m) 60 [] [0,1,0,1,1,1] K) (stp:=stpT Tf 8 (orCg w e js ms n m) 60 [] [0,1,0,1,1,1] K) (fun _ _=>rfl) (fun (i:Nat) (t:Nat × (Nat→Int))=>hCg w e js ms n m (i:Int) t.1 i t.2) (fun i t=>t.1≤w∧∀ v,v < i→(js v).lo≤t.2 v∧t.2 v≤(js v).hi) (fun _ _=>true) (cfN w e js) (c:=n) (fun t=>(K (.exit 0) ⟨[(6,.o 43)],[(43,.reg 2 1 (.fo n (fun v=>[.n .i64 (t.2 v)])))]⟩)) (fun _ _=>none) (fun G i t hi hv => ?_) (fun i t hi hv _=>cfN_ok hj i t hi hv) (fun G t hv => ?_) n 0 60 (0,fun _=>0) (by omega) (by omega) ⟨Nat.zero_le _,fun v hv=>absurd hv (by omega)⟩).trans (qHE n 0 _)
 ·refine (rdCg G K w e js ms n m i t.1 i t.2).trans ?_;obtain ⟨h1,h2,h3⟩:=hj i hi;have hD:vJJ .i64 (vJJ .i64 ((js i).hi - (js i).lo) + 1)=(js i).hi - (js i).lo + 1:=by rw [show vJJ .i64 ((js i).hi - (js i).lo)=(js i).hi - (js i).lo from qG (by omega)]; exact qG (by omega)
  simp only [vJQ (show (i:Int) < (n:Int) by omega),kZ hi,toN,qQB (C:=cnx) (t:=(w,t.1,e,6)) ⟨hv.1,hw,by decide,by decide⟩,vJQ (show i + 1≤1000000 by omega),qZQ (show i < 1000000 by omega),vYV];unfold cfN;cases decide (nxV e w t.1 6=0) with
  | true=>rfl
  | false =>
   cases decide (nxV e w t.1 6=1) with
   | true=>rfl
   | false =>
    have g2:gB1 cnx hnx enx (w,(mA w t.1 1),e,vJJ .i64 (vJJ .i64 ((js i).hi - (js i).lo) + 1))=true:=qQB ⟨kG hv.1 1,hw,by omega,by omega⟩;rw [g2];rfl
 ·refine (rdCg G K w e js ms n m n t.1 n t.2).trans ?_;rw [vYH (show ¬ (n:Int) < (n:Int) by omega)];rfl
noncomputable def yKK (w:Nat) (e:Nat→Int) (js:Nat→J) (ms:Nat→Ms) (n m:Nat):List (List Nat × uU):=[([0,1,0,1,1,1],sumF (fun _:Unit=>(hCg w e js ms n m 0 0 0 (fun _=>0))) (fun _=>()) (fun _ K=>(bif gP (w≤9223372036854775807∧n≤50∧zJB js n) then (K (.exit 0) ⟨[(6,.o 43)],[(43,.reg 2 1 (.fo n (fun v=>[.n .i64 ((cfS w e js ms n m).2 v)])))]⟩) else none)))]
set_option maxRecDepth 100000 in
theorem pxcfg0 (w:Nat) (e:Nat→Int) (js:Nat→J) (ms:Nat→Ms) (n m:Nat):qXJ Tf (orCg w e js ms n m) (zW (yKK w e js ms n m)) 60 8 [.a [.lf n (fJ js),.lf m (fM ms)],.lf w (fQ e)] =
 (bif (gSt (hCg w e js ms n m 0 0 0 (fun _=>0)) (hCg w e js ms n m 0 0 0 (fun _=>0))) then (bif (gP (w≤9223372036854775807∧n≤50∧zJB js n)) then some (.ow 2 1 (.fo n (fQ (cfS w e js ms n m).2)),[])
 else none)
 else none):=by kernel_rfl
theorem snd_cfg0 (w:Nat) (e:Nat→Int) (js:Nat→J) (ms:Nat→Ms) (n m:Nat) (hw:w≤9223372036854775807) (hn:n≤50) (hj:zJB js n):yZ Tryz.prog 8 [.a [.lf n (fJ js),.lf m (fM ms)],.lf w (fQ e)] (.ow 2 1 (.fo n (fQ (cfS w e js ms n m).2))):=by
 refine jX (N:=60) (LO:=zW (yKK w e js ms n m)) qZH yQ (qZC (l:=[]) (m:=[(20,o_nx)]) trivial ⟨yVK,trivial⟩) (fun p S hp => ?_) ?_
 ·refine jK (L:=qK Tf 8) (l:=(yKK w e js ms n m)) (show AllP _ (yKK w e js ms n m) from ⟨?_,trivial⟩) p S hp
  ·dsimp only;refine qVW (T:=Tf) (o:=(orCg w e js ms n m)) (f:=8) (LO:=zW []) (p:=[0,1,0,1,1,1]) qVF ?_;intro t K r hr;obtain ⟨hg,hr⟩:=qQ hr
   skip
   exact (lpCg K w e js ms n m (qYX hg).1 (qYX hg).2.1 (qYX hg).2.2).trans hr
 ·refine (pxcfg0 w e js ms n m).trans ?_;simp only [jG,yJZ (show w≤9223372036854775807∧n≤50∧zJB js n from ⟨hw,hn,hj⟩),vYV]
  all_goals rfl
theorem cfg_ex (w:Nat) (e:Nat→Int) (js:Nat→J) (ms:Nat→Ms) (n m:Nat) (hw:w≤9223372036854775807) (hn:n≤50) (hj:zJB js n):∃ q:Nat→Int,(∀ v,v < n→(js v).lo≤q v∧q v≤(js v).hi)∧yZ Tryz.prog 8 [.a [.lf n (fJ js),.lf m (fM ms)],.lf w (fQ e)] (.v (.lf n (fQ q))) :=
 ⟨_,(zQA (Q:=fun i (t:Nat × (Nat→Int))=>t.1≤w∧∀ v,v < i→(js v).lo≤t.2 v∧t.2 v≤(js v).hi) (c:=n) (fun i t hi h=>cfN_ok hj i t hi h) n 0 (0,fun _=>0) (by omega) ⟨Nat.zero_le _,fun v hv=>absurd hv (by omega)⟩).2,snd_ownF (snd_cfg0 w e js ms n m hw hn hj)⟩
end Go.Proofs.YtfcofnclgajfeaaGreat.Sq

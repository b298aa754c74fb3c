/- Part 14 of the texts behind the last one: rules and contracts. No condition. -/
import Derived.Test.YtbfcbojgnppacaaGreatMI13
open Bool renaming and_eq_true → vQJ, and_self → vZJ, true_and → vZH
open Go.IntKind renaming wrap → vJJ
namespace Go.Proofs.YtbfcbojgnppacaaGreat.Ue
open Go.Rx Rt Go.Sx Go.RowKit Od Oe Na Nb Nc Nd Nx Nf Ng Nj Nj2 Nl Nm Pa Pb Ta Tb Ua Ub Uc Ud
theorem aQ_val {pp qq:Nat→Int} {d j:Int} {v:Nat} (hd:0≤d∧d≤20) (_:0≤j∧j≤2 ^ d.toNat) (_: -4194304≤pp v∧pp v≤4194304) (_: -4194304≤qq v∧qq v≤4194304) (_: -1000000000≤(j * (qq v - pp v)) / 2 ^ d.toNat∧(j * (qq v - pp v)) / 2 ^ d.toNat≤1000000000):aQ pp qq d j v=pp v + (j * (qq v - pp v)) / 2 ^ d.toNat:=by
 obtain ⟨e,n1,n2⟩:=yUU hd;have e2:min d.toNat 64=d.toNat:=by omega
 rw [e2] at e;have h20:=two_pow (d:=d.toNat) (by omega);have hu:=mbd (a:=j) (b:=qq v - pp v) (by omega) (by omega);have eu:pU pp qq j v=j * (qq v - pp v):=by unfold pU; rw [qK (x:=qq v - pp v) (by omega),qK (by omega)]
 unfold aQ;rw [eu,e];rw [e] at n1 n2;generalize (2:Int) ^ d.toNat=n at *;generalize j * (qq v - pp v)=x at *;have hn:0 < n:=by omega
 have ix:In64 x:=by unfold In64; omega
 have tx:=qHY ix hn;unfold In64 at tx;rw [qK (x:=x.tdiv n) (by omega)];by_cases h:x.tmod n < 0
 ·have hf:=zQH hn h;rw [vJQ h,vYV,qK (floor_bnd ix hn h),hf,qK (by omega)]
 ·have hf:=zXF hn h;rw [vYH h,vYG,hf,qK (by omega)]
theorem jI_vals {pp qq:Nat→Int} {d j:Int} {v:Nat} (hd:0≤d∧d≤20) (hj:0≤j∧j < 2 ^ d.toNat) (hp : -4194304≤pp v∧pp v≤4194304) (hq : -4194304≤qq v∧qq v≤4194304) :
  -8388608≤(min (j * (qq v - pp v)) ((j + 1) * (qq v - pp v))) / 2 ^ d.toNat∧(min (j * (qq v - pp v)) ((j + 1) * (qq v - pp v))) / 2 ^ d.toNat≤8388608 ∧ -8388608≤(0 - max (j * (qq v - pp v)) ((j + 1) * (qq v - pp v))) / 2 ^ d.toNat∧(0 - max (j * (qq v - pp v)) ((j + 1) * (qq v - pp v))) / 2 ^ d.toNat≤8388608 ∧
  jLo pp qq d j v=pp v + (min (j * (qq v - pp v)) ((j + 1) * (qq v - pp v))) / 2 ^ d.toNat∧jHi pp qq d j v=pp v - (0 - max (j * (qq v - pp v)) ((j + 1) * (qq v - pp v))) / 2 ^ d.toNat:=by
 obtain ⟨e1,e2,b1,b2,b3,b4,b5⟩:=jI_val (pp:=pp) (qq:=qq) (i:=v) hd hj hp hq;have hN:(0:Int) < 2 ^ d.toNat:=Int.pow_pos (by decide);have hb:∀ z:Int,-8388608≤z∧z≤8388608 → -8388608 * 2 ^ d.toNat≤j * z∧j * z≤8388608 * 2 ^ d.toNat ∧ -8388608 * 2 ^ d.toNat≤(j + 1) * z∧(j + 1) * z≤8388608 * 2 ^ d.toNat:=fun z hz=>by
  have k1:∀ a:Int,0≤a→a≤2 ^ d.toNat → -8388608 * 2 ^ d.toNat≤a * z∧a * z≤8388608 * 2 ^ d.toNat:=fun a a0 a1=>by
   have q1:=Int.mul_le_mul_of_nonneg_left hz.2 a0;have q2:=Int.mul_le_mul_of_nonneg_left hz.1 a0;omega
  exact ⟨(k1 j hj.1 (by omega)).1,(k1 j hj.1 (by omega)).2,(k1 (j + 1) (by omega) (by omega)).1,(k1 (j + 1) (by omega) (by omega)).2⟩
 obtain ⟨z1,z2,z3,z4⟩:=hb (qq v - pp v) (by omega);obtain ⟨f1,f2,f3⟩:=fl_ce (x:=min (j * (qq v - pp v)) ((j + 1) * (qq v - pp v))) (y:=max (j * (qq v - pp v)) ((j + 1) * (qq v - pp v))) (A:=-8388608) (B:=8388608) hN (by omega) (by omega) (by omega);refine ⟨f1,by omega,by omega,by omega,?_,?_⟩
 ·unfold jLo;rw [b5,Int.fdiv_eq_ediv_of_nonneg _ (by omega),e1,qK (by omega)]
 ·unfold jHi;rw [b5,qK (x:=0 - pMx pp qq j v) (by omega),Int.fdiv_eq_ediv_of_nonneg _ (by omega),e2,qK (by omega)]
theorem yVG {d:Int} (_:0≤d) (_:d≤20):(2:Int) ^ d.toNat * tLen d=1048576∧1≤tLen d:=by
 obtain ⟨_,t2,_,t4,_⟩:=t_tab d.toNat (by omega);exact ⟨t4,t2⟩
theorem ed_scale {d:Int} (h0:0≤d) (h1:d≤20) (x:Int):x / 2 ^ d.toNat=(x * tLen d) / 1048576:=by
 obtain ⟨h2,h3⟩:=yVG h0 h1;rw [← h2,Int.mul_ediv_mul_of_pos_left _ _ (by omega)]
theorem inst_in {pp qq:Nat→Int} {d j e i:Int} {v:Nat} (hd:0≤d∧d≤20) (hj:0≤j∧j≤2 ^ d.toNat) (hk:OkPc e i) (ht:i * tLen e≤j * tLen d∧j * tLen d≤i * tLen e + tLen e) (hp : -4194304≤pp v∧pp v≤4194304) (hq : -4194304≤qq v∧qq v≤4194304):jLo pp qq e i v≤aQ pp qq d j v∧aQ pp qq d j v≤jHi pp qq e i v:=by
 obtain ⟨e0,e1,i0,i1⟩:=hk;obtain ⟨g1,g2,g3,g4,g5,g6⟩:=jI_vals (pp:=pp) (qq:=qq) (v:=v) ⟨e0,e1⟩ ⟨i0,i1⟩ hp hq;have sA:=ed_scale e0 e1;have sB:=ed_scale hd.1 hd.2;rw [sA] at g1 g2 g3 g4 g5 g6;have key:(min (i * (qq v - pp v)) ((i + 1) * (qq v - pp v))) * tLen e≤j * (qq v - pp v) * tLen d∧j * (qq v - pp v) * tLen d≤(max (i * (qq v - pp v)) ((i + 1) * (qq v - pp v))) * tLen e:=by
  have hA:=(yVG e0 e1).2;have c1:i * (qq v - pp v) * tLen e=(i * tLen e) * (qq v - pp v):=by rw [Int.mul_assoc,Int.mul_comm (qq v - pp v),← Int.mul_assoc]
  have c2:(i + 1) * (qq v - pp v) * tLen e=(i * tLen e + tLen e) * (qq v - pp v):=by rw [Int.mul_assoc,Int.mul_comm (qq v - pp v),← Int.mul_assoc,Int.add_mul,Int.one_mul]
  have c3:j * (qq v - pp v) * tLen d=(j * tLen d) * (qq v - pp v):=by rw [Int.mul_assoc,Int.mul_comm (qq v - pp v),← Int.mul_assoc]
  have m1:∀ a b:Int,(min a b) * tLen e=min (a * tLen e) (b * tLen e):=fun a b=>by
   rcases Int.le_total a b with h | h
   ·have:=Int.mul_le_mul_of_nonneg_right h (show 0≤tLen e by omega)
    rw [Int.min_eq_left h,Int.min_eq_left this]
   ·have:=Int.mul_le_mul_of_nonneg_right h (show 0≤tLen e by omega)
    rw [Int.min_eq_right h,Int.min_eq_right this]
  have m2:∀ a b:Int,(max a b) * tLen e=max (a * tLen e) (b * tLen e):=fun a b=>by
   rcases Int.le_total a b with h | h
   ·have:=Int.mul_le_mul_of_nonneg_right h (show 0≤tLen e by omega)
    rw [Int.max_eq_right h,Int.max_eq_right this]
   ·have:=Int.mul_le_mul_of_nonneg_right h (show 0≤tLen e by omega)
    rw [Int.max_eq_left h,Int.max_eq_left this]
  rw [m1,m2,c1,c2,c3];rcases Int.le_total 0 (qq v - pp v) with h | h
  ·have p1:=Int.mul_le_mul_of_nonneg_right ht.1 h;have p2:=Int.mul_le_mul_of_nonneg_right ht.2 h;omega
  ·have p1:=Int.mul_le_mul_of_nonpos_right ht.1 h;have p2:=Int.mul_le_mul_of_nonpos_right ht.2 h;omega
 have lo:=Int.ediv_le_ediv (show (0:Int) < 1048576 by decide) key.1;have hi:(j * (qq v - pp v) * tLen d) / 1048576 + ((0 - max (i * (qq v - pp v)) ((i + 1) * (qq v - pp v))) * tLen e) / 1048576≤0:=by
  have a1:=Int.ediv_mul_le (j * (qq v - pp v) * tLen d) (show (1048576:Int) ≠ 0 by decide);have a2:=Int.ediv_mul_le ((0 - max (i * (qq v - pp v)) ((i + 1) * (qq v - pp v))) * tLen e) (show (1048576:Int) ≠ 0 by decide);have a3:(0 - max (i * (qq v - pp v)) ((i + 1) * (qq v - pp v))) * tLen e = -((max (i * (qq v - pp v)) ((i + 1) * (qq v - pp v))) * tLen e):=by rw [Int.zero_sub,Int.neg_mul]
  rw [a3] at a2 ⊢;omega
 rw [aQ_val hd hj hp hq (by rw [sB]; omega),sB,g5,g6];omega
theorem seg_find {h:Int→Int→Bool} {a b:Nat} {pd pi:Nat→Int} {x y t:Int} (hs:Seg h a b pd pi x y) (_:a≤b) (_:x < y) (_:x≤t) (_:t≤y):∃ v,a≤v∧v < b∧OkPc (pd v) (pi v)∧h (pd v) (pi v)=true∧pi v * tLen (pd v)≤t∧t≤pi v * tLen (pd v) + tLen (pd v):=by
 obtain ⟨pl,p1,p2,p3⟩:=hs;have go:∀ k v,v + k=b→a≤v→v < b→pl v≤t→∃ v,a≤v∧v < b∧OkPc (pd v) (pi v)∧h (pd v) (pi v)=true∧pi v * tLen (pd v)≤t∧t≤pi v * tLen (pd v) + tLen (pd v):=by
  intro k;induction k with
  | zero=>intro v h1 _ h3; omega
  | succ k ih =>
   intro v h1 h2 h3 h4;obtain ⟨q1,q2,q3,q4⟩:=p3 v h2 h3;by_cases hc:t≤pl (v + 1)
   ·exact ⟨v,h2,h3,q1,q2,by omega,by omega⟩
   ·refine ih (v + 1) (by omega) (by omega) ?_ (by omega);rcases Nat.lt_or_ge (v + 1) b with h5 | h5
    ·exact h5
    ·have:v + 1=b:=by omega
     rw [this] at hc;omega
 refine go (b - a) a (by omega) (Nat.le_refl _) ?_ (by omega);rcases Nat.lt_or_ge a b with h5 | h5
 ·exact h5
 ·have:a=b:=by omega
  subst this;omega
section
variable {js:Nat→J} {ms:Nat→Ms} {n m:Nat} {cs:Nat→Cn} {c:Nat} {pp qq:Nat→Int} {k:Nat}
def Mdr (js:Nat→J) (n:Nat):Prop:=(1≤n∧n≤3)∧(∀ v,v < n→ZB (js v).off)∧∀ v,v < n → -1000000≤(js v).lo∧(js v).hi≤1000000
theorem pt_all (hr:Mdr js n) (hc:cErr js ms n m cs c=true) (hp:qIn js ms pp n m k=true) (hq:qIn js ms qq n m k=true) {d j e i:Int} (hd:0≤d∧d≤20) (hj:0≤j∧j≤2 ^ d.toNat) (hk:OkPc e i) (ht:i * tLen e≤j * tLen d∧j * tLen d≤i * tLen e + tLen e) :
  atB pp qq k k d j=true∧pIn js ms (ptA (aQ pp qq d j)) n m k=true∧smQ (aQ pp qq d j) k=true∧∀ u,u < c→(vI js (jI pp qq e i) n cs u).lo≤(vI js (ptA (aQ pp qq d j)) n cs u).lo∧(vI js (ptA (aQ pp qq d j)) n cs u).hi≤(vI js (jI pp qq e i) n cs u).hi∧(vI js (ptA (aQ pp qq d j)) n cs u).lo≤(vI js (ptA (aQ pp qq d j)) n cs u).hi:=by
 obtain ⟨r0,hn,p1⟩:=qUU hp;obtain ⟨_,_,q1⟩:=qUU hq;have hl:=rerr_lim r0;obtain ⟨h3,hz,hm⟩:=hr;subst hn;obtain ⟨w1,w2⟩:=yKK hp hq e i hk.1 hk.2.1 hk.2.2.1 hk.2.2.2;have within:∀ v,v < n→Iv.within (jI pp qq e i v) ⟨(js v).lo,(js v).hi⟩=true:=fun v hv=>jI_in ⟨hk.1,hk.2.1⟩ ⟨hk.2.2.1,hk.2.2.2⟩ (p1 v hv) (q1 v hv) (hl v hv)
 have inn:∀ v,v < n→jLo pp qq e i v≤aQ pp qq d j v∧aQ pp qq d j v≤jHi pp qq e i v:=fun v hv=>by
  have a:=p1 v hv;have b:=q1 v hv;have cc:=hl v hv;exact inst_in hd hj hk ht (by omega) (by omega)
 have bnd:∀ v,v < n→(js v).lo≤jLo pp qq e i v∧jLo pp qq e i v≤jHi pp qq e i v∧jHi pp qq e i v≤(js v).hi:=fun v hv=>by
  have:=within v hv
  unfold Iv.within Iv.valid jI at this;simp only [vQJ,decide_eq_true_eq] at this;omega
 have sm:∀ x:Nat→Int,(∀ v,v < n→(js v).lo≤x v∧x v≤(js v).hi)→smQ x n=true:=fun x hx=>allN_iff.2 fun v _ hv=>by
  have a:=hx v (by omega);have b:=hl v (by omega);rw [vYH (show ¬ x v < -2147483648 by omega),vYH (show ¬ 2147483648 < x v by omega)];rfl
 have ptl:∀ v,v < n→(js v).lo≤aQ pp qq d j v∧aQ pp qq d j v≤(js v).hi:=fun v hv=>by
  have a:=inn v hv;have b:=bnd v hv;omega
 refine ⟨?_,?_,sm _ ptl,fun u hu => ?_⟩
 ·obtain ⟨e1,_,_⟩:=yUU hd;have e2:min d.toNat 64=d.toNat:=by omega
  unfold atB mtB;rw [sm pp p1,sm qq q1,vJQ (show (n:Int)=(n:Int) from rfl),vJQ hd.1,vJQ hd.2,vJQ hj.1,e1,e2,vJQ hj.2];rfl
 ·unfold pIn insB;rw [vJQ r0,vJQ (show (n:Int)=(n:Int) from rfl),vZH,vZH];refine allN_iff.2 fun v _ hv => ?_
  have a:=ptl v (by omega);have b:=hl v (by omega);unfold Iv.within Iv.valid ptA;simp only [vQJ,decide_eq_true_eq];refine ⟨⟨⟨⟨⟨?_,?_⟩,?_⟩,⟨?_,?_⟩,?_⟩,?_⟩,?_⟩ <;> omega
 ·refine vI_mono h3 hz (fun v hv => ?_) (fun v hv => ?_) ((qKE hc).2.2 u hu)
  ·have a:=bnd v hv;have b:=hm v hv;exact ⟨by show -1000000≤jLo pp qq e i v; omega,a.2.1,by show jHi pp qq e i v≤1000000; omega⟩
  ·have a:=bnd v hv;have b:=inn v hv;have cc:=hl v hv;refine ⟨⟨?_,?_,?_⟩,⟨?_,a.2.1,?_⟩,b.1,b.2⟩
   ·show -2147483648≤aQ pp qq d j v; omega
   ·exact Int.le_refl _
   ·show aQ pp qq d j v≤2147483648; omega
   ·show -2147483648≤jLo pp qq e i v; omega
   ·show jHi pp qq e i v≤2147483648; omega
theorem inst_free (hr:Mdr js n) (hc:cErr js ms n m cs c=true) (hp:qIn js ms pp n m k=true) (hq:qIn js ms qq n m k=true) {cnt:Nat} {pd pi:Nat→Int} (hs:Seg (hE js ms n m cs c pp qq k) 0 cnt pd pi 0 1048576) {d j:Int} (hd:0≤d∧d≤20) (hj:0≤j∧j≤2 ^ d.toNat) :
  atB pp qq k k d j=true∧pIn js ms (ptA (aQ pp qq d j)) n m k=true∧smQ (aQ pp qq d j) k=true∧qGU cs (vI js (ptA (aQ pp qq d j)) n cs) c=true:=by
 obtain ⟨t1,t2⟩:=yVG hd.1 hd.2;have ht0:0≤j * tLen d:=Int.mul_nonneg hj.1 (by omega);have ht1:j * tLen d≤1048576:=by
  have:=Int.mul_le_mul_of_nonneg_right hj.2 (show 0≤tLen d by omega)
  omega
 obtain ⟨v,_,_,ok,hh,g1,g2⟩:=seg_find hs (Nat.zero_le _) (by decide) ht0 ht1;obtain ⟨a1,a2,a3,a4⟩:=pt_all hr hc hp hq hd hj ok ⟨g1,g2⟩;exact ⟨a1,a2,a3,hold_mono a4 hh⟩
theorem inst_coll (hr:Mdr js n) (hc:cErr js ms n m cs c=true) (hp:qIn js ms pp n m k=true) (hq:qIn js ms qq n m k=true) {a b:Int} (ok:OkPc a b) {u:Nat} (hu:u < c) (ho:outR (cs u) (vE js n cs pp qq a b u)=true) :
  atB pp qq k k a b=true∧pIn js ms (ptA (aQ pp qq a b)) n m k=true∧smQ (aQ pp qq a b) k=true∧qGU cs (vI js (ptA (aQ pp qq a b)) n cs) c=false:=by
 have hl:=(yVG ok.1 ok.2.1).2;obtain ⟨a1,a2,a3,a4⟩:=pt_all hr hc hp hq ⟨ok.1,ok.2.1⟩ ⟨ok.2.2.1,Int.le_of_lt ok.2.2.2⟩ ok ⟨Int.le_refl _,by omega⟩;exact ⟨a1,a2,a3,out_mono a4 (fun i hi=>by have:=((qKE hc).2.2 i hi); unfold COK at this; omega) hu ho⟩
end
end Go.Proofs.YtbfcbojgnppacaaGreat.Ue
namespace Go.Proofs.YtbfcbojgnppacaaGreat.Sn
open Go.Rx Rt Go.Sx Go.RowKit Od Nb
noncomputable def orrnd (x k:Int):OrS:=orS [] []
noncomputable def yGK (x k:Int):List (List Nat × kU):=[]
set_option maxRecDepth 100000 in
theorem pxrnd (x k:Int):qJE Tf (orrnd x k) (zW (yGK x k)) 60 10 [.n .i64 x,.n .i64 k] =
 (bif (decide (k=0)) then none
 else (bif (decide ((x.tmod k) < 0)) then some (.v (.n .i64 (vJJ .i64 ((x.tmod k) + k))),[])
 else some (.v (.n .i64 (x.tmod k)),[]))):=by kernel_rfl
theorem snd_rnd (x k:Int) (hk:0 < k∧k≤9223372036854775807):zH Tryz.prog 10 [.n .i64 x,.n .i64 k] (.v (.n .i64 (x % k))):=by
 refine yV (N:=60) (LO:=zW (yGK x k)) qQC yZ (qQE (l:=[]) (m:=[]) trivial trivial) (fun p S hp => ?_) ?_
 ·refine yX (L:=qG Tf 10) (l:=(yGK x k)) (show AllP _ (yGK x k) from trivial) p S hp
 ·refine (pxrnd x k).trans ?_;have hk0:k ≠ 0:=by omega
  have h1:=Int.emod_nonneg x hk0;have h2:=Int.emod_lt_of_pos x hk.1;rw [vYH (show ¬ k=0 by omega),Int.tmod_eq_emod];by_cases h:0≤x ∨ k ∣ x
  ·rw [if_pos h,show ((0:Nat):Int)=0 from rfl,Int.sub_zero,vYH (show ¬ x % k < 0 by omega)];rfl
  ·rw [if_neg h,show ((k.natAbs:Nat):Int)=k by omega,vJQ (show x % k - k < 0 by omega),show vJJ .i64 (x % k - k + k)=x % k from by rw [show x % k - k + k=x % k by omega]; exact qK (by omega)];rfl
def crn:Int × Int→Prop:=fun t=>match t with | (_,k)=>0 < k∧k≤9223372036854775807
def ern:Int × Int→List PV:=fun t=>match t with | (x,k)=>[.n .i64 x,.n .i64 k]
noncomputable def rrn:Int × Int→Ret:=fun t=>match t with | (x,k)=>.v (.n .i64 (x % k))
def drn:List PV→Int × Int:=fun ps=>match ps with
 | [.n _ x,.n _ k]=>(x,k)
 | _=>(0,0)
noncomputable def o_rn:List PV→Option (Bool × Ret):=o_fm drn crn ern rrn
theorem ok_rn:zY Tryz.prog 10 o_rn:=zUL fun t h=>by
 obtain ⟨x,k⟩:=t;exact snd_rnd x k h
noncomputable def ornx (w m:Nat) (e:Nat→Int) (k:Int):OrS:=orS [(10,o_rn)] []
noncomputable def lsnx (w m:Nat) (e:Nat→Int) (k:Int):List (List Nat × kU):=[]
set_option maxRecDepth 100000 in
theorem pxnx (w m:Nat) (e:Nat→Int) (k:Int):zVB Tf (ornx w m e k) (zW (lsnx w m e k)) 60 25 [.p 1000000 0,.v (.n .i64 k)] [.lf w (fQ e),.n .i64 (m:Int)] =
 (bif (decide ((w:Int)≤(m:Int))) then some (.v (.t [.n .i64 0,.lf w (fQ e),.n .i64 (m:Int)]),[])
 else (bif (inB (vJJ .i64 ((vJJ .i64 ((m:Int) + 1)) - 1)) w) then (bif (gF1 crn ern ((e ((vJJ .i64 ((vJJ .i64 ((m:Int) + 1)) - 1))).toNat),k)) then some (.v (.t [.n .i64 ((e ((vJJ .i64 ((vJJ .i64 ((m:Int) + 1)) - 1))).toNat) % k),.lf w (fQ e),.n .i64 (vJJ .i64 ((m:Int) + 1))]),[])
 else none)
 else none)):=by kernel_rfl
theorem snd_nx (w m:Nat) (e:Nat→Int) (k:Int) (_:m≤w) (_:w≤9223372036854775807) (hk:0 < k∧k≤9223372036854775807):qHZ Tryz.prog 25 [.p 1000000 0,.v (.n .i64 k)] [.lf w (fQ e),.n .i64 (m:Int)] (.n .i64 (nxV e w m k)) ([.lf w (fQ e),.n .i64 ((min (m + 1) w:Nat):Int)]):=by
 refine qGG (N:=60) (LO:=zW (lsnx w m e k)) qQC yZ (qQE (l:=[(10,o_rn)]) (m:=[]) ⟨ok_rn,trivial⟩ trivial) (fun p S hp => ?_) ?_
 ·refine yX (L:=qG Tf 25) (l:=(lsnx w m e k)) (show AllP _ (lsnx w m e k) from trivial) p S hp
 ·refine (pxnx w m e k).trans ?_;unfold nxV eW;by_cases h:m < w
  ·have h1:vJJ .i64 ((m:Int) + 1)=(m:Int) + 1:=qK (by omega);have h2:vJJ .i64 ((m:Int) + 1 - 1)=((m:Nat):Int):=by rw [qK (by omega)]; omega
   rw [vYH (show ¬ (w:Int)≤(m:Int) by omega),h1,h2,uJ h,toN,qXZ (C:=crn) (t:=(_,k)) hk,show Nat.blt m w=true from by rw [Nat.blt_eq]; exact h,show min (m + 1) w=m + 1 by omega];rfl
  ·rw [vJQ (show (w:Int)≤(m:Int) by omega),show Nat.blt m w=false from by rw [Bool.eq_false_iff,ne_eq,Nat.blt_eq]; exact h,show min (m + 1) w=m by omega]
   simp
def cnx:Nat × Nat × (Nat→Int) × Int→Prop:=fun t=>match t with | (w,m,_,k)=>m≤w∧w≤9223372036854775807∧0 < k∧k≤9223372036854775807
def hnx:Nat × Nat × (Nat→Int) × Int→List HV:=fun t=>match t with | (_,_,_,k)=>[.p pid 0,.v (.n .i64 k)]
def enx:Nat × Nat × (Nat→Int) × Int→List PV:=fun t=>match t with | (w,m,e,_)=>[.lf w (fQ e),.n .i64 (m:Int)]
noncomputable def xnx:Nat × Nat × (Nat→Int) × Int→PV:=fun t=>match t with | (w,m,e,k)=>.n .i64 (nxV e w m k)
noncomputable def qnx:Nat × Nat × (Nat→Int) × Int→List PV:=fun t=>match t with | (w,m,e,_)=>[.lf w (fQ e),.n .i64 ((min (m + 1) w:Nat):Int)]
def dnx:List HV→List PV→Nat × Nat × (Nat→Int) × Int:=fun hs ps=>match hs,ps with
 | [_,.v (.n _ k)],[.lf w f,.n _ c]=>(w,c.toNat,unFQ f,k)
 | _,_=>(0,0,fun _=>0,0)
noncomputable def o_nx:List HV→List PV→Option (Bool × (PV × List PV)):=o_fb dnx cnx hnx enx xnx qnx
theorem yVD:yZX Tryz.prog 25 o_nx:=yHL fun t h=>by
 obtain ⟨w,m,e,k⟩:=t;exact snd_nx w m e k h.1 h.2.1 h.2.2
def kdF (x:Int):Int:=(bif (decide (x=0)) then 3 else (bif (decide ((x - 1)=0)) then 3 else (bif (decide (((x - 1) - 1)=0)) then 1 else (bif (decide ((((x - 1) - 1) - 1)=0)) then 2 else (bif (decide (((((x - 1) - 1) - 1) - 1)=0)) then 4 else (bif (decide ((((((x - 1) - 1) - 1) - 1) - 1)=0)) then 5 else (bif (decide (((((((x - 1) - 1) - 1) - 1) - 1) - 1)=0)) then 3 else 0)))))))
def abcB:ByteArray:=ByteArray.mk #[97,98,99,100,101,102,103,104,105,106]
def ltrI (i:Int):ByteArray:=abcB.extract i.toNat (vJJ .i64 (i + 1)).toNat
theorem lY {x:Int} (h:0≤x∧x < 5) : -65536≤vJJ .i64 (vJJ .i64 (x - 2) * 32768)∧vJJ .i64 (vJJ .i64 (x - 2) * 32768)≤65536:=by
 rw [show vJJ .i64 (x - 2)=x - 2 from qK (by omega),qK (by omega)]; omega
theorem lZ {x:Int} (h:0≤x∧x < 3) : -32768≤vJJ .i64 (vJJ .i64 (x - 1) * 32768)∧vJJ .i64 (vJJ .i64 (x - 1) * 32768)≤32768:=by
 rw [show vJJ .i64 (x - 1)=x - 1 from qK (by omega),qK (by omega)]; omega
theorem lLo {x:Int} (h:0≤x∧x < 3) : -131072≤vJJ .i64 (vJJ .i64 (0 - x) * 65536)∧vJJ .i64 (vJJ .i64 (0 - x) * 65536)≤0:=by
 rw [show vJJ .i64 (0 - x)=0 - x from qK (by omega),qK (by omega)]; omega
theorem lHi {x:Int} (h:0≤x∧x < 4):0≤vJJ .i64 (x * 32768)∧vJJ .i64 (x * 32768)≤98304:=by
 rw [qK (by omega)]; omega
theorem lLt {x:Int} (h:0≤x∧x < 5) : -32768≤vJJ .i64 ((vJJ .i64 (vJJ .i64 (0 - x) * 65536)).tdiv 8)∧vJJ .i64 ((vJJ .i64 (vJJ .i64 (0 - x) * 65536)).tdiv 8)≤0:=by
 have e:((0 - x) * 65536).tdiv 8 = -(x * 8192):=by
  rw [show (0 - x) * 65536 = -(x * 8192) * 8 by omega];exact Int.mul_tdiv_cancel _ (by decide)
 rw [show vJJ .i64 (0 - x)=0 - x from qK (by omega),show vJJ .i64 ((0 - x) * 65536)=(0 - x) * 65536 from qK (by omega),e,qK (by omega)]; omega
theorem lHt {x y:Int} (h:0≤x∧x < 4) (g:0≤y∧y < 3):0≤vJJ .i64 (vJJ .i64 ((vJJ .i64 (vJJ .i64 (1 + x) * 65536)).tdiv 8) + y)∧vJJ .i64 (vJJ .i64 ((vJJ .i64 (vJJ .i64 (1 + x) * 65536)).tdiv 8) + y)≤40000:=by
 have e:((1 + x) * 65536).tdiv 8=(1 + x) * 8192:=by
  rw [show (1 + x) * 65536=((1 + x) * 8192) * 8 by omega];exact Int.mul_tdiv_cancel _ (by decide)
 rw [show vJJ .i64 (1 + x)=1 + x from qK (by omega),show vJJ .i64 ((1 + x) * 65536)=(1 + x) * 65536 from qK (by omega),e,show vJJ .i64 ((1 + x) * 8192)=(1 + x) * 8192 from qK (by omega),qK (by omega)]; omega
theorem lW {x:Int} (h:0≤x∧x < 4):1≤vJJ .i64 (1 + x)∧vJJ .i64 (1 + x)≤4:=by rw [qK (by omega)]; omega
theorem lA {x:Int} (h:0≤x∧x < 3):65536≤vJJ .i64 (65536 + x)∧vJJ .i64 (65536 + x)≤65538:=by rw [qK (by omega)]; omega
theorem kdF_b (x:Int):0≤kdF x∧kdF x≤6:=by
 unfold kdF;simp only [Bool.cond_eq_ite]
 repeat' split
 all_goals omega
theorem qZE {k lo hi:Int} (_:0≤k∧k≤6) (h1:k=0→lo=0∧hi=0) (_: -524288≤lo∧hi≤524288) : -limK k≤lo∧hi≤limK k:=by
 unfold limK;split
 ·omega
 ·split
  ·omega
  ·have:=h1 (by omega)
   omega
def JM (i:Nat) (j:J):Prop:=j.name=ltrI i∧JF i j∧(-1000000≤j.lo∧j.hi≤1000000)
noncomputable def orjt:OrS:=orS [] [(25,o_nx)]
set_option maxRecDepth 100000 in
theorem pxjt (w m:Nat) (e:Nat→Int) (i:Int):zVB Tf orjt (zW []) 60 46 [.p 1000000 0,.v (.n .i64 i)] [.lf w (fQ e),.n .i64 (m:Int)] =
 (bif (inS (some i) (some (vJJ .i64 (i + 1))) 10) then (bif (gB1 cnx hnx enx (w,m,e,4)) then (bif (gB1 cnx hnx enx (w,(mA w m 1),e,3)) then (bif (gB1 cnx hnx enx (w,(mA w m 2),e,8)) then (bif (inB (nxV e w (mA w m 2) 8) 8 && true) then (bif (gB1 cnx hnx enx (w,(mA w m 3),e,4)) then (bif (decide ((nxV e w (mA w m 3) 4)=1)) then (bif (decide (0 < i)) then (bif (gB1 cnx hnx enx (w,(mA w m 4),e,5)) then (bif (gB1 cnx hnx enx (w,(mA w m 5),e,3)) then (bif (decide ((kdF (nxV e w (mA w m 2) 8))=0)) then some (.v (.t [.a [.s (ltrI i),.n .i64 (kdF (nxV e w (mA w m 2) 8)),.n .i64 (-1),.n .i64 131072,.n .i64 (vJJ .i64 ((vJJ .i64 ((nxV e w (mA w m 4) 5) - 2)) * 32768)),.n .i64 (vJJ .i64 ((vJJ .i64 ((nxV e w (mA w m 5) 3) - 1)) * 32768)),.n .i64 0,.n .i64 0,.n .i64 (vJJ .i64 (1 + (nxV e w m 4))),.n .i64 65536,.n .i64 (vJJ .i64 (65536 + (nxV e w (mA w m 1) 3))),.n .i64 327680],.lf w (fQ e),.n .i64 ((mA w m 6:Nat):Int)]),[])
 else (bif (decide ((kdF (nxV e w (mA w m 2) 8))=4)) then (bif (gB1 cnx hnx enx (w,(mA w m 6),e,3)) then (bif (gB1 cnx hnx enx (w,(mA w m 7),e,4)) then some (.v (.t [.a [.s (ltrI i),.n .i64 (kdF (nxV e w (mA w m 2) 8)),.n .i64 (-1),.n .i64 131072,.n .i64 (vJJ .i64 ((vJJ .i64 ((nxV e w (mA w m 4) 5) - 2)) * 32768)),.n .i64 (vJJ .i64 ((vJJ .i64 ((nxV e w (mA w m 5) 3) - 1)) * 32768)),.n .i64 (vJJ .i64 ((vJJ .i64 (0 - (nxV e w (mA w m 6) 3))) * 65536)),.n .i64 (vJJ .i64 ((nxV e w (mA w m 7) 4) * 32768)),.n .i64 (vJJ .i64 (1 + (nxV e w m 4))),.n .i64 65536,.n .i64 (vJJ .i64 (65536 + (nxV e w (mA w m 1) 3))),.n .i64 327680],.lf w (fQ e),.n .i64 ((mA w m 8:Nat):Int)]),[])
 else none)
 else none)
 else (bif (decide ((kdF (nxV e w (mA w m 2) 8))=5)) then (bif (gB1 cnx hnx enx (w,(mA w m 6),e,3)) then (bif (gB1 cnx hnx enx (w,(mA w m 7),e,4)) then some (.v (.t [.a [.s (ltrI i),.n .i64 (kdF (nxV e w (mA w m 2) 8)),.n .i64 (-1),.n .i64 131072,.n .i64 (vJJ .i64 ((vJJ .i64 ((nxV e w (mA w m 4) 5) - 2)) * 32768)),.n .i64 (vJJ .i64 ((vJJ .i64 ((nxV e w (mA w m 5) 3) - 1)) * 32768)),.n .i64 (vJJ .i64 ((vJJ .i64 (0 - (nxV e w (mA w m 6) 3))) * 65536)),.n .i64 (vJJ .i64 ((nxV e w (mA w m 7) 4) * 32768)),.n .i64 (vJJ .i64 (1 + (nxV e w m 4))),.n .i64 65536,.n .i64 (vJJ .i64 (65536 + (nxV e w (mA w m 1) 3))),.n .i64 327680],.lf w (fQ e),.n .i64 ((mA w m 8:Nat):Int)]),[])
 else none)
 else none)
 else (bif (gB1 cnx hnx enx (w,(mA w m 6),e,5)) then (bif (gB1 cnx hnx enx (w,(mA w m 7),e,4)) then (bif (gB1 cnx hnx enx (w,(mA w m 8),e,3)) then some (.v (.t [.a [.s (ltrI i),.n .i64 (kdF (nxV e w (mA w m 2) 8)),.n .i64 (-1),.n .i64 131072,.n .i64 (vJJ .i64 ((vJJ .i64 ((nxV e w (mA w m 4) 5) - 2)) * 32768)),.n .i64 (vJJ .i64 ((vJJ .i64 ((nxV e w (mA w m 5) 3) - 1)) * 32768)),.n .i64 (vJJ .i64 ((vJJ .i64 ((vJJ .i64 (0 - (nxV e w (mA w m 6) 5))) * 65536)).tdiv 8)),.n .i64 (vJJ .i64 ((vJJ .i64 ((vJJ .i64 ((vJJ .i64 (1 + (nxV e w (mA w m 7) 4))) * 65536)).tdiv 8)) + (nxV e w (mA w m 8) 3))),.n .i64 (vJJ .i64 (1 + (nxV e w m 4))),.n .i64 65536,.n .i64 (vJJ .i64 (65536 + (nxV e w (mA w m 1) 3))),.n .i64 327680],.lf w (fQ e),.n .i64 ((mA w m 9:Nat):Int)]),[])
 else none)
 else none)
 else none))))
 else none)
 else none)
 else (bif (decide ((kdF (nxV e w (mA w m 2) 8))=0)) then some (.v (.t [.a [.s (ltrI i),.n .i64 (kdF (nxV e w (mA w m 2) 8)),.n .i64 (-1),.n .i64 0,.n .i64 0,.n .i64 0,.n .i64 0,.n .i64 0,.n .i64 (vJJ .i64 (1 + (nxV e w m 4))),.n .i64 65536,.n .i64 (vJJ .i64 (65536 + (nxV e w (mA w m 1) 3))),.n .i64 327680],.lf w (fQ e),.n .i64 ((mA w m 4:Nat):Int)]),[])
 else (bif (decide ((kdF (nxV e w (mA w m 2) 8))=4)) then (bif (gB1 cnx hnx enx (w,(mA w m 4),e,3)) then (bif (gB1 cnx hnx enx (w,(mA w m 5),e,4)) then some (.v (.t [.a [.s (ltrI i),.n .i64 (kdF (nxV e w (mA w m 2) 8)),.n .i64 (-1),.n .i64 0,.n .i64 0,.n .i64 0,.n .i64 (vJJ .i64 ((vJJ .i64 (0 - (nxV e w (mA w m 4) 3))) * 65536)),.n .i64 (vJJ .i64 ((nxV e w (mA w m 5) 4) * 32768)),.n .i64 (vJJ .i64 (1 + (nxV e w m 4))),.n .i64 65536,.n .i64 (vJJ .i64 (65536 + (nxV e w (mA w m 1) 3))),.n .i64 327680],.lf w (fQ e),.n .i64 ((mA w m 6:Nat):Int)]),[])
 else none)
 else none)
 else (bif (decide ((kdF (nxV e w (mA w m 2) 8))=5)) then (bif (gB1 cnx hnx enx (w,(mA w m 4),e,3)) then (bif (gB1 cnx hnx enx (w,(mA w m 5),e,4)) then some (.v (.t [.a [.s (ltrI i),.n .i64 (kdF (nxV e w (mA w m 2) 8)),.n .i64 (-1),.n .i64 0,.n .i64 0,.n .i64 0,.n .i64 (vJJ .i64 ((vJJ .i64 (0 - (nxV e w (mA w m 4) 3))) * 65536)),.n .i64 (vJJ .i64 ((nxV e w (mA w m 5) 4) * 32768)),.n .i64 (vJJ .i64 (1 + (nxV e w m 4))),.n .i64 65536,.n .i64 (vJJ .i64 (65536 + (nxV e w (mA w m 1) 3))),.n .i64 327680],.lf w (fQ e),.n .i64 ((mA w m 6:Nat):Int)]),[])
 else none)
 else none)
 else (bif (gB1 cnx hnx enx (w,(mA w m 4),e,5)) then (bif (gB1 cnx hnx enx (w,(mA w m 5),e,4)) then (bif (gB1 cnx hnx enx (w,(mA w m 6),e,3)) then some (.v (.t [.a [.s (ltrI i),.n .i64 (kdF (nxV e w (mA w m 2) 8)),.n .i64 (-1),.n .i64 0,.n .i64 0,.n .i64 0,.n .i64 (vJJ .i64 ((vJJ .i64 ((vJJ .i64 (0 - (nxV e w (mA w m 4) 5))) * 65536)).tdiv 8)),.n .i64 (vJJ .i64 ((vJJ .i64 ((vJJ .i64 ((vJJ .i64 (1 + (nxV e w (mA w m 5) 4))) * 65536)).tdiv 8)) + (nxV e w (mA w m 6) 3))),.n .i64 (vJJ .i64 (1 + (nxV e w m 4))),.n .i64 65536,.n .i64 (vJJ .i64 (65536 + (nxV e w (mA w m 1) 3))),.n .i64 327680],.lf w (fQ e),.n .i64 ((mA w m 7:Nat):Int)]),[])
 else none)
 else none)
 else none)))))
 else (bif (decide (0 < i)) then (bif (gB1 cnx hnx enx (w,(mA w m 4),e,5)) then (bif (gB1 cnx hnx enx (w,(mA w m 5),e,3)) then (bif (decide ((kdF (nxV e w (mA w m 2) 8))=0)) then some (.v (.t [.a [.s (ltrI i),.n .i64 (kdF (nxV e w (mA w m 2) 8)),.n .i64 (vJJ .i64 (i - 1)),.n .i64 131072,.n .i64 (vJJ .i64 ((vJJ .i64 ((nxV e w (mA w m 4) 5) - 2)) * 32768)),.n .i64 (vJJ .i64 ((vJJ .i64 ((nxV e w (mA w m 5) 3) - 1)) * 32768)),.n .i64 0,.n .i64 0,.n .i64 (vJJ .i64 (1 + (nxV e w m 4))),.n .i64 65536,.n .i64 (vJJ .i64 (65536 + (nxV e w (mA w m 1) 3))),.n .i64 327680],.lf w (fQ e),.n .i64 ((mA w m 6:Nat):Int)]),[])
 else (bif (decide ((kdF (nxV e w (mA w m 2) 8))=4)) then (bif (gB1 cnx hnx enx (w,(mA w m 6),e,3)) then (bif (gB1 cnx hnx enx (w,(mA w m 7),e,4)) then some (.v (.t [.a [.s (ltrI i),.n .i64 (kdF (nxV e w (mA w m 2) 8)),.n .i64 (vJJ .i64 (i - 1)),.n .i64 131072,.n .i64 (vJJ .i64 ((vJJ .i64 ((nxV e w (mA w m 4) 5) - 2)) * 32768)),.n .i64 (vJJ .i64 ((vJJ .i64 ((nxV e w (mA w m 5) 3) - 1)) * 32768)),.n .i64 (vJJ .i64 ((vJJ .i64 (0 - (nxV e w (mA w m 6) 3))) * 65536)),.n .i64 (vJJ .i64 ((nxV e w (mA w m 7) 4) * 32768)),.n .i64 (vJJ .i64 (1 + (nxV e w m 4))),.n .i64 65536,.n .i64 (vJJ .i64 (65536 + (nxV e w (mA w m 1) 3))),.n .i64 327680],.lf w (fQ e),.n .i64 ((mA w m 8:Nat):Int)]),[])
 else none)
 else none)
 else (bif (decide ((kdF (nxV e w (mA w m 2) 8))=5)) then (bif (gB1 cnx hnx enx (w,(mA w m 6),e,3)) then (bif (gB1 cnx hnx enx (w,(mA w m 7),e,4)) then some (.v (.t [.a [.s (ltrI i),.n .i64 (kdF (nxV e w (mA w m 2) 8)),.n .i64 (vJJ .i64 (i - 1)),.n .i64 131072,.n .i64 (vJJ .i64 ((vJJ .i64 ((nxV e w (mA w m 4) 5) - 2)) * 32768)),.n .i64 (vJJ .i64 ((vJJ .i64 ((nxV e w (mA w m 5) 3) - 1)) * 32768)),.n .i64 (vJJ .i64 ((vJJ .i64 (0 - (nxV e w (mA w m 6) 3))) * 65536)),.n .i64 (vJJ .i64 ((nxV e w (mA w m 7) 4) * 32768)),.n .i64 (vJJ .i64 (1 + (nxV e w m 4))),.n .i64 65536,.n .i64 (vJJ .i64 (65536 + (nxV e w (mA w m 1) 3))),.n .i64 327680],.lf w (fQ e),.n .i64 ((mA w m 8:Nat):Int)]),[])
 else none)
 else none)
 else (bif (gB1 cnx hnx enx (w,(mA w m 6),e,5)) then (bif (gB1 cnx hnx enx (w,(mA w m 7),e,4)) then (bif (gB1 cnx hnx enx (w,(mA w m 8),e,3)) then some (.v (.t [.a [.s (ltrI i),.n .i64 (kdF (nxV e w (mA w m 2) 8)),.n .i64 (vJJ .i64 (i - 1)),.n .i64 131072,.n .i64 (vJJ .i64 ((vJJ .i64 ((nxV e w (mA w m 4) 5) - 2)) * 32768)),.n .i64 (vJJ .i64 ((vJJ .i64 ((nxV e w (mA w m 5) 3) - 1)) * 32768)),.n .i64 (vJJ .i64 ((vJJ .i64 ((vJJ .i64 (0 - (nxV e w (mA w m 6) 5))) * 65536)).tdiv 8)),.n .i64 (vJJ .i64 ((vJJ .i64 ((vJJ .i64 ((vJJ .i64 (1 + (nxV e w (mA w m 7) 4))) * 65536)).tdiv 8)) + (nxV e w (mA w m 8) 3))),.n .i64 (vJJ .i64 (1 + (nxV e w m 4))),.n .i64 65536,.n .i64 (vJJ .i64 (65536 + (nxV e w (mA w m 1) 3))),.n .i64 327680],.lf w (fQ e),.n .i64 ((mA w m 9:Nat):Int)]),[])
 else none)
 else none)
 else none))))
 else none)
 else none)
 else (bif (decide ((kdF (nxV e w (mA w m 2) 8))=0)) then some (.v (.t [.a [.s (ltrI i),.n .i64 (kdF (nxV e w (mA w m 2) 8)),.n .i64 (vJJ .i64 (i - 1)),.n .i64 0,.n .i64 0,.n .i64 0,.n .i64 0,.n .i64 0,.n .i64 (vJJ .i64 (1 + (nxV e w m 4))),.n .i64 65536,.n .i64 (vJJ .i64 (65536 + (nxV e w (mA w m 1) 3))),.n .i64 327680],.lf w (fQ e),.n .i64 ((mA w m 4:Nat):Int)]),[])
 else (bif (decide ((kdF (nxV e w (mA w m 2) 8))=4)) then (bif (gB1 cnx hnx enx (w,(mA w m 4),e,3)) then (bif (gB1 cnx hnx enx (w,(mA w m 5),e,4)) then some (.v (.t [.a [.s (ltrI i),.n .i64 (kdF (nxV e w (mA w m 2) 8)),.n .i64 (vJJ .i64 (i - 1)),.n .i64 0,.n .i64 0,.n .i64 0,.n .i64 (vJJ .i64 ((vJJ .i64 (0 - (nxV e w (mA w m 4) 3))) * 65536)),.n .i64 (vJJ .i64 ((nxV e w (mA w m 5) 4) * 32768)),.n .i64 (vJJ .i64 (1 + (nxV e w m 4))),.n .i64 65536,.n .i64 (vJJ .i64 (65536 + (nxV e w (mA w m 1) 3))),.n .i64 327680],.lf w (fQ e),.n .i64 ((mA w m 6:Nat):Int)]),[])
 else none)
 else none)
 else (bif (decide ((kdF (nxV e w (mA w m 2) 8))=5)) then (bif (gB1 cnx hnx enx (w,(mA w m 4),e,3)) then (bif (gB1 cnx hnx enx (w,(mA w m 5),e,4)) then some (.v (.t [.a [.s (ltrI i),.n .i64 (kdF (nxV e w (mA w m 2) 8)),.n .i64 (vJJ .i64 (i - 1)),.n .i64 0,.n .i64 0,.n .i64 0,.n .i64 (vJJ .i64 ((vJJ .i64 (0 - (nxV e w (mA w m 4) 3))) * 65536)),.n .i64 (vJJ .i64 ((nxV e w (mA w m 5) 4) * 32768)),.n .i64 (vJJ .i64 (1 + (nxV e w m 4))),.n .i64 65536,.n .i64 (vJJ .i64 (65536 + (nxV e w (mA w m 1) 3))),.n .i64 327680],.lf w (fQ e),.n .i64 ((mA w m 6:Nat):Int)]),[])
 else none)
 else none)
 else (bif (gB1 cnx hnx enx (w,(mA w m 4),e,5)) then (bif (gB1 cnx hnx enx (w,(mA w m 5),e,4)) then (bif (gB1 cnx hnx enx (w,(mA w m 6),e,3)) then some (.v (.t [.a [.s (ltrI i),.n .i64 (kdF (nxV e w (mA w m 2) 8)),.n .i64 (vJJ .i64 (i - 1)),.n .i64 0,.n .i64 0,.n .i64 0,.n .i64 (vJJ .i64 ((vJJ .i64 ((vJJ .i64 (0 - (nxV e w (mA w m 4) 5))) * 65536)).tdiv 8)),.n .i64 (vJJ .i64 ((vJJ .i64 ((vJJ .i64 ((vJJ .i64 (1 + (nxV e w (mA w m 5) 4))) * 65536)).tdiv 8)) + (nxV e w (mA w m 6) 3))),.n .i64 (vJJ .i64 (1 + (nxV e w m 4))),.n .i64 65536,.n .i64 (vJJ .i64 (65536 + (nxV e w (mA w m 1) 3))),.n .i64 327680],.lf w (fQ e),.n .i64 ((mA w m 7:Nat):Int)]),[])
 else none)
 else none)
 else none))))))
 else none)
 else none)
 else none)
 else none)
 else none)
 else none):=by kernel_rfl
theorem joint_ex (w m:Nat) (e:Nat→Int) (i:Nat) (hm:m≤w) (hw:w≤9223372036854775807) (hi:i < 10):∃ (j:J) (m':Nat),(m'≤w∧JM i j)∧qHZ Tryz.prog 46 [.p pid 0,.v (.n .i64 (i:Int))] [.lf w (fQ e),.n .i64 (m:Int)] (.a (jp j)) [.lf w (fQ e),.n .i64 (m':Int)]:=by
 have key:∃ (j:J) (m':Nat),(m'≤w∧JM i j)∧zVB Tf orjt (zW []) 60 46 [.p 1000000 0,.v (.n .i64 (i:Int))] [.lf w (fQ e),.n .i64 (m:Int)]=some (.v (.t [.a (jp j),.lf w (fQ e),.n .i64 (m':Int)]),[]):=by
  rw [pxjt w m e i];have hs:inS (some (i:Int)) (some (vJJ .i64 ((i:Int) + 1))) 10=true:=by
   rw [qK (by omega)];unfold inS loOf hiOf;simp only [vQJ,decide_eq_true_eq];omega
  have kb:=kdF_b (nxV e w (mA w m 2) 8);have k8:inB (nxV e w (mA w m 2) 8) 8=true:=by
   have:=qJI (e:=e) (w:=w) (m:=mA w m 2) (k:=8) (by decide)
   unfold inB;rw [vJQ this.1,vJQ (by omega)]; rfl
  simp only [hs,k8,vZJ,vYV,qQH (C:=cnx) (t:=(w,m,e,4)) ⟨hm,hw,by decide,by decide⟩,qQH (C:=cnx) (t:=(w,(mA w m 1),e,3)) ⟨kJ hm 1,hw,by decide,by decide⟩,qQH (C:=cnx) (t:=(w,(mA w m 2),e,8)) ⟨kJ hm 2,hw,by decide,by decide⟩,qQH (C:=cnx) (t:=(w,(mA w m 3),e,4)) ⟨kJ hm 3,hw,by decide,by decide⟩,qQH (C:=cnx) (t:=(w,(mA w m 4),e,5)) ⟨kJ hm 4,hw,by decide,by decide⟩,qQH (C:=cnx) (t:=(w,(mA w m 5),e,3)) ⟨kJ hm 5,hw,by decide,by decide⟩,qQH (C:=cnx) (t:=(w,(mA w m 6),e,3)) ⟨kJ hm 6,hw,by decide,by decide⟩,qQH (C:=cnx) (t:=(w,(mA w m 7),e,4)) ⟨kJ hm 7,hw,by decide,by decide⟩,qQH (C:=cnx) (t:=(w,(mA w m 6),e,5)) ⟨kJ hm 6,hw,by decide,by decide⟩,qQH (C:=cnx) (t:=(w,(mA w m 8),e,3)) ⟨kJ hm 8,hw,by decide,by decide⟩,qQH (C:=cnx) (t:=(w,(mA w m 4),e,3)) ⟨kJ hm 4,hw,by decide,by decide⟩,qQH (C:=cnx) (t:=(w,(mA w m 5),e,4)) ⟨kJ hm 5,hw,by decide,by decide⟩];have b0:=qJI (e:=e) (w:=w) (m:=m) (k:=4) (by decide);have b1:=qJI (e:=e) (w:=w) (m:=mA w m 1) (k:=3) (by decide);have f0:=lW b0;have f1:=lA b1;have y4:=lY (qJI (e:=e) (w:=w) (m:=mA w m 4) (k:=5) (by decide));have z5:=lZ (qJI (e:=e) (w:=w) (m:=mA w m 5) (k:=3) (by decide));have lo6:=lLo (qJI (e:=e) (w:=w) (m:=mA w m 6) (k:=3) (by decide));have hi7:=lHi (qJI (e:=e) (w:=w) (m:=mA w m 7) (k:=4) (by decide));have lt6:=lLt (qJI (e:=e) (w:=w) (m:=mA w m 6) (k:=5) (by decide));have ht7:=lHt (qJI (e:=e) (w:=w) (m:=mA w m 7) (k:=4) (by decide)) (qJI (e:=e) (w:=w) (m:=mA w m 8) (k:=3) (by decide));have lo4:=lLo (qJI (e:=e) (w:=w) (m:=mA w m 4) (k:=3) (by decide));have hi5:=lHi (qJI (e:=e) (w:=w) (m:=mA w m 5) (k:=4) (by decide));have lt4:=lLt (qJI (e:=e) (w:=w) (m:=mA w m 4) (k:=5) (by decide));have ht5:=lHt (qJI (e:=e) (w:=w) (m:=mA w m 5) (k:=4) (by decide)) (qJI (e:=e) (w:=w) (m:=mA w m 6) (k:=3) (by decide));have hp:vJJ .i64 ((i:Int) - 1)=(i:Int) - 1:=qK (by omega);rw [hp];generalize kdF (nxV e w (mA w m 2) 8)=kd at kb ⊢;by_cases c1:(nxV e w (mA w m 3) 4)=1
  ·simp only [c1,decide_true,vYV];by_cases c2:(0:Int) < (i:Int)
   ·simp only [c2,decide_true,vYV];by_cases c3:kd=0
    ·simp only [c3,decide_true,vYV];exact ⟨⟨ltrI i,0,(-1),⟨131072,(vJJ .i64 ((vJJ .i64 ((nxV e w (mA w m 4) 5) - 2)) * 32768)),(vJJ .i64 ((vJJ .i64 ((nxV e w (mA w m 5) 3) - 1)) * 32768))⟩,0,0,(vJJ .i64 (1 + (nxV e w m 4))),65536,(vJJ .i64 (65536 + (nxV e w (mA w m 1) 3))),327680⟩,mA w m 6,⟨kJ hm 6,rfl,⟨by dsimp only; omega,by dsimp only; omega,by dsimp only; omega,by dsimp only; omega,by dsimp only; omega,⟨by dsimp only; omega,qZE (by dsimp only; omega) (fun _=>⟨rfl,rfl⟩) (by dsimp only; omega)⟩,by dsimp only; omega,by dsimp only; omega,by dsimp only; omega,by dsimp only; omega⟩,by dsimp only; omega⟩,rfl⟩
    ·simp only [c3,decide_false,vYG];by_cases c4:kd=4
     ·simp only [c4,decide_true,vYV];exact ⟨⟨ltrI i,4,(-1),⟨131072,(vJJ .i64 ((vJJ .i64 ((nxV e w (mA w m 4) 5) - 2)) * 32768)),(vJJ .i64 ((vJJ .i64 ((nxV e w (mA w m 5) 3) - 1)) * 32768))⟩,(vJJ .i64 ((vJJ .i64 (0 - (nxV e w (mA w m 6) 3))) * 65536)),(vJJ .i64 ((nxV e w (mA w m 7) 4) * 32768)),(vJJ .i64 (1 + (nxV e w m 4))),65536,(vJJ .i64 (65536 + (nxV e w (mA w m 1) 3))),327680⟩,mA w m 8,⟨kJ hm 8,rfl,⟨by dsimp only; omega,by dsimp only; omega,by dsimp only; omega,by dsimp only; omega,by dsimp only; omega,⟨by dsimp only; omega,qZE (by dsimp only; omega) (fun h=>absurd (show (4:Int)=0 from h) (by decide)) (by dsimp only; omega)⟩,by dsimp only; omega,by dsimp only; omega,by dsimp only; omega,by dsimp only; omega⟩,by dsimp only; omega⟩,rfl⟩
     ·simp only [c4,decide_false,vYG];by_cases c5:kd=5
      ·simp only [c5,decide_true,vYV];exact ⟨⟨ltrI i,5,(-1),⟨131072,(vJJ .i64 ((vJJ .i64 ((nxV e w (mA w m 4) 5) - 2)) * 32768)),(vJJ .i64 ((vJJ .i64 ((nxV e w (mA w m 5) 3) - 1)) * 32768))⟩,(vJJ .i64 ((vJJ .i64 (0 - (nxV e w (mA w m 6) 3))) * 65536)),(vJJ .i64 ((nxV e w (mA w m 7) 4) * 32768)),(vJJ .i64 (1 + (nxV e w m 4))),65536,(vJJ .i64 (65536 + (nxV e w (mA w m 1) 3))),327680⟩,mA w m 8,⟨kJ hm 8,rfl,⟨by dsimp only; omega,by dsimp only; omega,by dsimp only; omega,by dsimp only; omega,by dsimp only; omega,⟨by dsimp only; omega,qZE (by dsimp only; omega) (fun h=>absurd (show (5:Int)=0 from h) (by decide)) (by dsimp only; omega)⟩,by dsimp only; omega,by dsimp only; omega,by dsimp only; omega,by dsimp only; omega⟩,by dsimp only; omega⟩,rfl⟩
      ·simp only [c5,decide_false,vYG];exact ⟨⟨ltrI i,kd,(-1),⟨131072,(vJJ .i64 ((vJJ .i64 ((nxV e w (mA w m 4) 5) - 2)) * 32768)),(vJJ .i64 ((vJJ .i64 ((nxV e w (mA w m 5) 3) - 1)) * 32768))⟩,(vJJ .i64 ((vJJ .i64 ((vJJ .i64 (0 - (nxV e w (mA w m 6) 5))) * 65536)).tdiv 8)),(vJJ .i64 ((vJJ .i64 ((vJJ .i64 ((vJJ .i64 (1 + (nxV e w (mA w m 7) 4))) * 65536)).tdiv 8)) + (nxV e w (mA w m 8) 3))),(vJJ .i64 (1 + (nxV e w m 4))),65536,(vJJ .i64 (65536 + (nxV e w (mA w m 1) 3))),327680⟩,mA w m 9,⟨kJ hm 9,rfl,⟨by dsimp only; omega,by dsimp only; omega,by dsimp only; omega,by dsimp only; omega,by dsimp only; omega,⟨by dsimp only; omega,qZE (by dsimp only; omega) (fun h=>absurd h c3) (by dsimp only; omega)⟩,by dsimp only; omega,by dsimp only; omega,by dsimp only; omega,by dsimp only; omega⟩,by dsimp only; omega⟩,rfl⟩
   ·simp only [c2,decide_false,vYG];by_cases c6:kd=0
    ·simp only [c6,decide_true,vYV];exact ⟨⟨ltrI i,0,(-1),⟨0,0,0⟩,0,0,(vJJ .i64 (1 + (nxV e w m 4))),65536,(vJJ .i64 (65536 + (nxV e w (mA w m 1) 3))),327680⟩,mA w m 4,⟨kJ hm 4,rfl,⟨by dsimp only; omega,by dsimp only; omega,by dsimp only; omega,by dsimp only; omega,by dsimp only; omega,⟨by dsimp only; omega,qZE (by dsimp only; omega) (fun _=>⟨rfl,rfl⟩) (by dsimp only; omega)⟩,by dsimp only; omega,by dsimp only; omega,by dsimp only; omega,by dsimp only; omega⟩,by dsimp only; omega⟩,rfl⟩
    ·simp only [c6,decide_false,vYG];by_cases c7:kd=4
     ·simp only [c7,decide_true,vYV];exact ⟨⟨ltrI i,4,(-1),⟨0,0,0⟩,(vJJ .i64 ((vJJ .i64 (0 - (nxV e w (mA w m 4) 3))) * 65536)),(vJJ .i64 ((nxV e w (mA w m 5) 4) * 32768)),(vJJ .i64 (1 + (nxV e w m 4))),65536,(vJJ .i64 (65536 + (nxV e w (mA w m 1) 3))),327680⟩,mA w m 6,⟨kJ hm 6,rfl,⟨by dsimp only; omega,by dsimp only; omega,by dsimp only; omega,by dsimp only; omega,by dsimp only; omega,⟨by dsimp only; omega,qZE (by dsimp only; omega) (fun h=>absurd (show (4:Int)=0 from h) (by decide)) (by dsimp only; omega)⟩,by dsimp only; omega,by dsimp only; omega,by dsimp only; omega,by dsimp only; omega⟩,by dsimp only; omega⟩,rfl⟩
     ·simp only [c7,decide_false,vYG];by_cases c8:kd=5
      ·simp only [c8,decide_true,vYV];exact ⟨⟨ltrI i,5,(-1),⟨0,0,0⟩,(vJJ .i64 ((vJJ .i64 (0 - (nxV e w (mA w m 4) 3))) * 65536)),(vJJ .i64 ((nxV e w (mA w m 5) 4) * 32768)),(vJJ .i64 (1 + (nxV e w m 4))),65536,(vJJ .i64 (65536 + (nxV e w (mA w m 1) 3))),327680⟩,mA w m 6,⟨kJ hm 6,rfl,⟨by dsimp only; omega,by dsimp only; omega,by dsimp only; omega,by dsimp only; omega,by dsimp only; omega,⟨by dsimp only; omega,qZE (by dsimp only; omega) (fun h=>absurd (show (5:Int)=0 from h) (by decide)) (by dsimp only; omega)⟩,by dsimp only; omega,by dsimp only; omega,by dsimp only; omega,by dsimp only; omega⟩,by dsimp only; omega⟩,rfl⟩
      ·simp only [c8,decide_false,vYG];exact ⟨⟨ltrI i,kd,(-1),⟨0,0,0⟩,(vJJ .i64 ((vJJ .i64 ((vJJ .i64 (0 - (nxV e w (mA w m 4) 5))) * 65536)).tdiv 8)),(vJJ .i64 ((vJJ .i64 ((vJJ .i64 ((vJJ .i64 (1 + (nxV e w (mA w m 5) 4))) * 65536)).tdiv 8)) + (nxV e w (mA w m 6) 3))),(vJJ .i64 (1 + (nxV e w m 4))),65536,(vJJ .i64 (65536 + (nxV e w (mA w m 1) 3))),327680⟩,mA w m 7,⟨kJ hm 7,rfl,⟨by dsimp only; omega,by dsimp only; omega,by dsimp only; omega,by dsimp only; omega,by dsimp only; omega,⟨by dsimp only; omega,qZE (by dsimp only; omega) (fun h=>absurd h c6) (by dsimp only; omega)⟩,by dsimp only; omega,by dsimp only; omega,by dsimp only; omega,by dsimp only; omega⟩,by dsimp only; omega⟩,rfl⟩
  ·simp only [c1,decide_false,vYG];by_cases c9:(0:Int) < (i:Int)
   ·simp only [c9,decide_true,vYV];by_cases c10:kd=0
    ·simp only [c10,decide_true,vYV];exact ⟨⟨ltrI i,0,((i:Int) - 1),⟨131072,(vJJ .i64 ((vJJ .i64 ((nxV e w (mA w m 4) 5) - 2)) * 32768)),(vJJ .i64 ((vJJ .i64 ((nxV e w (mA w m 5) 3) - 1)) * 32768))⟩,0,0,(vJJ .i64 (1 + (nxV e w m 4))),65536,(vJJ .i64 (65536 + (nxV e w (mA w m 1) 3))),327680⟩,mA w m 6,⟨kJ hm 6,rfl,⟨by dsimp only; omega,by dsimp only; omega,by dsimp only; omega,by dsimp only; omega,by dsimp only; omega,⟨by dsimp only; omega,qZE (by dsimp only; omega) (fun _=>⟨rfl,rfl⟩) (by dsimp only; omega)⟩,by dsimp only; omega,by dsimp only; omega,by dsimp only; omega,by dsimp only; omega⟩,by dsimp only; omega⟩,rfl⟩
    ·simp only [c10,decide_false,vYG];by_cases c11:kd=4
     ·simp only [c11,decide_true,vYV];exact ⟨⟨ltrI i,4,((i:Int) - 1),⟨131072,(vJJ .i64 ((vJJ .i64 ((nxV e w (mA w m 4) 5) - 2)) * 32768)),(vJJ .i64 ((vJJ .i64 ((nxV e w (mA w m 5) 3) - 1)) * 32768))⟩,(vJJ .i64 ((vJJ .i64 (0 - (nxV e w (mA w m 6) 3))) * 65536)),(vJJ .i64 ((nxV e w (mA w m 7) 4) * 32768)),(vJJ .i64 (1 + (nxV e w m 4))),65536,(vJJ .i64 (65536 + (nxV e w (mA w m 1) 3))),327680⟩,mA w m 8,⟨kJ hm 8,rfl,⟨by dsimp only; omega,by dsimp only; omega,by dsimp only; omega,by dsimp only; omega,by dsimp only; omega,⟨by dsimp only; omega,qZE (by dsimp only; omega) (fun h=>absurd (show (4:Int)=0 from h) (by decide)) (by dsimp only; omega)⟩,by dsimp only; omega,by dsimp only; omega,by dsimp only; omega,by dsimp only; omega⟩,by dsimp only; omega⟩,rfl⟩
     ·simp only [c11,decide_false,vYG];by_cases c12:kd=5
      ·simp only [c12,decide_true,vYV];exact ⟨⟨ltrI i,5,((i:Int) - 1),⟨131072,(vJJ .i64 ((vJJ .i64 ((nxV e w (mA w m 4) 5) - 2)) * 32768)),(vJJ .i64 ((vJJ .i64 ((nxV e w (mA w m 5) 3) - 1)) * 32768))⟩,(vJJ .i64 ((vJJ .i64 (0 - (nxV e w (mA w m 6) 3))) * 65536)),(vJJ .i64 ((nxV e w (mA w m 7) 4) * 32768)),(vJJ .i64 (1 + (nxV e w m 4))),65536,(vJJ .i64 (65536 + (nxV e w (mA w m 1) 3))),327680⟩,mA w m 8,⟨kJ hm 8,rfl,⟨by dsimp only; omega,by dsimp only; omega,by dsimp only; omega,by dsimp only; omega,by dsimp only; omega,⟨by dsimp only; omega,qZE (by dsimp only; omega) (fun h=>absurd (show (5:Int)=0 from h) (by decide)) (by dsimp only; omega)⟩,by dsimp only; omega,by dsimp only; omega,by dsimp only; omega,by dsimp only; omega⟩,by dsimp only; omega⟩,rfl⟩
      ·simp only [c12,decide_false,vYG];exact ⟨⟨ltrI i,kd,((i:Int) - 1),⟨131072,(vJJ .i64 ((vJJ .i64 ((nxV e w (mA w m 4) 5) - 2)) * 32768)),(vJJ .i64 ((vJJ .i64 ((nxV e w (mA w m 5) 3) - 1)) * 32768))⟩,(vJJ .i64 ((vJJ .i64 ((vJJ .i64 (0 - (nxV e w (mA w m 6) 5))) * 65536)).tdiv 8)),(vJJ .i64 ((vJJ .i64 ((vJJ .i64 ((vJJ .i64 (1 + (nxV e w (mA w m 7) 4))) * 65536)).tdiv 8)) + (nxV e w (mA w m 8) 3))),(vJJ .i64 (1 + (nxV e w m 4))),65536,(vJJ .i64 (65536 + (nxV e w (mA w m 1) 3))),327680⟩,mA w m 9,⟨kJ hm 9,rfl,⟨by dsimp only; omega,by dsimp only; omega,by dsimp only; omega,by dsimp only; omega,by dsimp only; omega,⟨by dsimp only; omega,qZE (by dsimp only; omega) (fun h=>absurd h c10) (by dsimp only; omega)⟩,by dsimp only; omega,by dsimp only; omega,by dsimp only; omega,by dsimp only; omega⟩,by dsimp only; omega⟩,rfl⟩
   ·simp only [c9,decide_false,vYG];by_cases c13:kd=0
    ·simp only [c13,decide_true,vYV];exact ⟨⟨ltrI i,0,((i:Int) - 1),⟨0,0,0⟩,0,0,(vJJ .i64 (1 + (nxV e w m 4))),65536,(vJJ .i64 (65536 + (nxV e w (mA w m 1) 3))),327680⟩,mA w m 4,⟨kJ hm 4,rfl,⟨by dsimp only; omega,by dsimp only; omega,by dsimp only; omega,by dsimp only; omega,by dsimp only; omega,⟨by dsimp only; omega,qZE (by dsimp only; omega) (fun _=>⟨rfl,rfl⟩) (by dsimp only; omega)⟩,by dsimp only; omega,by dsimp only; omega,by dsimp only; omega,by dsimp only; omega⟩,by dsimp only; omega⟩,rfl⟩
    ·simp only [c13,decide_false,vYG];by_cases c14:kd=4
     ·simp only [c14,decide_true,vYV];exact ⟨⟨ltrI i,4,((i:Int) - 1),⟨0,0,0⟩,(vJJ .i64 ((vJJ .i64 (0 - (nxV e w (mA w m 4) 3))) * 65536)),(vJJ .i64 ((nxV e w (mA w m 5) 4) * 32768)),(vJJ .i64 (1 + (nxV e w m 4))),65536,(vJJ .i64 (65536 + (nxV e w (mA w m 1) 3))),327680⟩,mA w m 6,⟨kJ hm 6,rfl,⟨by dsimp only; omega,by dsimp only; omega,by dsimp only; omega,by dsimp only; omega,by dsimp only; omega,⟨by dsimp only; omega,qZE (by dsimp only; omega) (fun h=>absurd (show (4:Int)=0 from h) (by decide)) (by dsimp only; omega)⟩,by dsimp only; omega,by dsimp only; omega,by dsimp only; omega,by dsimp only; omega⟩,by dsimp only; omega⟩,rfl⟩
     ·simp only [c14,decide_false,vYG];by_cases c15:kd=5
      ·simp only [c15,decide_true,vYV];exact ⟨⟨ltrI i,5,((i:Int) - 1),⟨0,0,0⟩,(vJJ .i64 ((vJJ .i64 (0 - (nxV e w (mA w m 4) 3))) * 65536)),(vJJ .i64 ((nxV e w (mA w m 5) 4) * 32768)),(vJJ .i64 (1 + (nxV e w m 4))),65536,(vJJ .i64 (65536 + (nxV e w (mA w m 1) 3))),327680⟩,mA w m 6,⟨kJ hm 6,rfl,⟨by dsimp only; omega,by dsimp only; omega,by dsimp only; omega,by dsimp only; omega,by dsimp only; omega,⟨by dsimp only; omega,qZE (by dsimp only; omega) (fun h=>absurd (show (5:Int)=0 from h) (by decide)) (by dsimp only; omega)⟩,by dsimp only; omega,by dsimp only; omega,by dsimp only; omega,by dsimp only; omega⟩,by dsimp only; omega⟩,rfl⟩
      ·simp only [c15,decide_false,vYG];exact ⟨⟨ltrI i,kd,((i:Int) - 1),⟨0,0,0⟩,(vJJ .i64 ((vJJ .i64 ((vJJ .i64 (0 - (nxV e w (mA w m 4) 5))) * 65536)).tdiv 8)),(vJJ .i64 ((vJJ .i64 ((vJJ .i64 ((vJJ .i64 (1 + (nxV e w (mA w m 5) 4))) * 65536)).tdiv 8)) + (nxV e w (mA w m 6) 3))),(vJJ .i64 (1 + (nxV e w m 4))),65536,(vJJ .i64 (65536 + (nxV e w (mA w m 1) 3))),327680⟩,mA w m 7,⟨kJ hm 7,rfl,⟨by dsimp only; omega,by dsimp only; omega,by dsimp only; omega,by dsimp only; omega,by dsimp only; omega,⟨by dsimp only; omega,qZE (by dsimp only; omega) (fun h=>absurd h c13) (by dsimp only; omega)⟩,by dsimp only; omega,by dsimp only; omega,by dsimp only; omega,by dsimp only; omega⟩,by dsimp only; omega⟩,rfl⟩
 obtain ⟨j,m',h,hk⟩:=key;exact ⟨j,m',h,qGG qQC yZ (qQE (l:=[]) (m:=[(25,o_nx)]) trivial ⟨yVD,trivial⟩) (fun p S hp=>by cases hp) hk⟩
end Go.Proofs.YtbfcbojgnppacaaGreat.Sn
namespace Go.Proofs.YtbfcbojgnppacaaGreat.So
open Go.Rx Rt Go.Sx Go.RowKit Od Nb Sn
theorem sndB_res {f:Nat} {hs:List HV} {ps qs:List PV} {x y:PV} (hs':Same x y) (h:qHZ Tryz.prog f hs ps x qs):qHZ Tryz.prog f hs ps y qs :=
 ⟨h.1,fun w F b vals us ty h1 h2 h3 h4 h5 h6 h7 h8=>(h.2 w F b vals us ty h1 h2 h3 h4 h5 h6 h7 h8).mono fun _ w' ⟨v,F',us',ty',he,hg,f1,f2,hr,hq⟩=>⟨v,F',us',ty',he,hg,f1,f2,hs' F' w' v hr,hq⟩⟩
def cjt0 (t:Nat × Nat × (Nat→Int) × Nat):Prop:=t.2.1≤t.1∧t.1≤9223372036854775807∧t.2.2.2 < 10
theorem joint_all:∃ F:Nat × Nat × (Nat→Int) × Nat→J × Nat,∀ t,cjt0 t→((F t).2≤t.1∧JM t.2.2.2 (F t).1)∧qHZ Tryz.prog 46 [.p pid 0,.v (.n .i64 (t.2.2.2:Int))] [.lf t.1 (fQ t.2.2.1),.n .i64 (t.2.1:Int)] (.a (jp (F t).1)) [.lf t.1 (fQ t.2.2.1),.n .i64 ((F t).2:Int)]:=by
 have each:∀ t:Nat × Nat × (Nat→Int) × Nat,∃ y:J × Nat,cjt0 t→(y.2≤t.1∧JM t.2.2.2 y.1)∧qHZ Tryz.prog 46 [.p pid 0,.v (.n .i64 (t.2.2.2:Int))] [.lf t.1 (fQ t.2.2.1),.n .i64 (t.2.1:Int)] (.a (jp y.1)) [.lf t.1 (fQ t.2.2.1),.n .i64 (y.2:Int)]:=fun t=>by
  by_cases h:cjt0 t
  ·obtain ⟨j,m',h1,h2⟩:=joint_ex t.1 t.2.1 t.2.2.1 t.2.2.2 h.1 h.2.1 h.2.2;exact ⟨(j,m'),fun _=>⟨h1,h2⟩⟩
  ·exact ⟨(⟨ByteArray.empty,0,0,⟨0,0,0⟩,0,0,0,0,0,0⟩,0),fun h'=>absurd h' h⟩
 exact ⟨fun t=>Classical.choose (each t),fun t=>Classical.choose_spec (each t)⟩
noncomputable def jtF:Nat × Nat × (Nat→Int) × Nat→J × Nat:=Classical.choose joint_all
theorem yKG {t:Nat × Nat × (Nat→Int) × Nat} (h:cjt0 t):((jtF t).2≤t.1∧JM t.2.2.2 (jtF t).1)∧qHZ Tryz.prog 46 [.p pid 0,.v (.n .i64 (t.2.2.2:Int))] [.lf t.1 (fQ t.2.2.1),.n .i64 (t.2.1:Int)] (.a (jp (jtF t).1)) [.lf t.1 (fQ t.2.2.1),.n .i64 ((jtF t).2:Int)]:=Classical.choose_spec joint_all t h
def cjt:Nat × Nat × (Nat→Int) × Int→Prop:=fun t=>match t with | (w,m,_,i)=>m≤w∧w≤9223372036854775807∧0≤i∧i < 10
def hjt:Nat × Nat × (Nat→Int) × Int→List HV:=fun t=>match t with | (_,_,_,i)=>[.p pid 0,.v (.n .i64 i)]
def ejt:Nat × Nat × (Nat→Int) × Int→List PV:=fun t=>match t with | (w,m,e,_)=>[.lf w (fQ e),.n .i64 (m:Int)]
noncomputable def xjt:Nat × Nat × (Nat→Int) × Int→PV:=fun t=>match t with | (w,m,e,i)=>.a (jp (jtF (w,m,e,i.toNat)).1)
noncomputable def qjt:Nat × Nat × (Nat→Int) × Int→List PV:=fun t=>match t with | (w,m,e,i)=>[.lf w (fQ e),.n .i64 (((jtF (w,m,e,i.toNat)).2:Nat):Int)]
def djt:List HV→List PV→Nat × Nat × (Nat→Int) × Int:=fun hs ps=>match hs,ps with
 | [_,.v (.n _ i)],[.lf w f,.n _ c]=>(w,c.toNat,unFQ f,i)
 | _,_=>(0,0,fun _=>0,0)
noncomputable def o_jt:List HV→List PV→Option (Bool × (PV × List PV)):=o_fb djt cjt hjt ejt xjt qjt
theorem ok_jt:yZX Tryz.prog 46 o_jt:=yHL fun t h=>by
 obtain ⟨w,m,e,i⟩:=t;exact (by
  have h1:=h.2.2.1;have h2:=h.2.2.2
  have:=(yKG (t:=(w,m,e,i.toNat)) ⟨h.1,h.2.1,(by show i.toNat < 10; omega)⟩).2
  dsimp only at this;rw [show ((i.toNat:Nat):Int)=i by omega] at this;exact this)
noncomputable def orRB:OrS:=orS [] [(25,o_nx),(46,o_jt)]
noncomputable def hRj (w:Nat) (e:Nat→Int) (n:Int) (m1:Nat) (i:Int) (m2:Nat) (r:Nat) (f:Nat→List PV):St:=⟨[(0,.p 1000000 0),(2,.p 2 0),(3,.p 3 0),(4,.v (.n .i64 n)),(5,.v (.n .i64 i))],[(1000000,.blk [.v (.lf w (fQ e)),.v (.n .i64 (m2:Int))]),(2,.blk [.nl,.nl]),(3,.blk [.o 21,.nl]),(21,.reg 70 12 (.fo r f))]⟩
set_option maxRecDepth 100000 in
theorem rdRj (G:St→Option (Ret × Mem)) (K:Cont) (w:Nat) (e:Nat→Int) (n:Int) (m1:Nat) (i:Int) (m2:Nat) (r:Nat) (f:Nat→List PV):stpT Tf 23 orRB 60 [] [0,1,0,1,1,1] K G (hRj w e n m1 i m2 r f) =
 (bif (decide (i < n)) then (bif (gB1 cjt hjt ejt (w,m2,e,i)) then (bif (decide (r + 1≤1000000)) then (G (hRj w e n m1 (vJJ .i64 (i + 1)) ((jtF (w,m2,e,(i).toNat)).2) (r + 1) (fun v=>jV (Nat.beq v r) [.s (jtF (w,m2,e,(i).toNat)).1.name,.n .i64 (jtF (w,m2,e,(i).toNat)).1.kind,.n .i64 (jtF (w,m2,e,(i).toNat)).1.parent,.n .i64 (jtF (w,m2,e,(i).toNat)).1.off.x,.n .i64 (jtF (w,m2,e,(i).toNat)).1.off.y,.n .i64 (jtF (w,m2,e,(i).toNat)).1.off.z,.n .i64 (jtF (w,m2,e,(i).toNat)).1.lo,.n .i64 (jtF (w,m2,e,(i).toNat)).1.hi,.n .i64 (jtF (w,m2,e,(i).toNat)).1.weight,.n .i64 (jtF (w,m2,e,(i).toNat)).1.speed,.n .i64 (jtF (w,m2,e,(i).toNat)).1.accel,.n .i64 (jtF (w,m2,e,(i).toNat)).1.torque] (f v))))
 else none)
 else none)
 else (K (.exit 0) ⟨[(0,.p 1000000 0),(2,.p 2 0),(3,.p 3 0),(4,.v (.n .i64 n))],[(1000000,.blk [.v (.lf w (fQ e)),.v (.n .i64 (m2:Int))]),(2,.blk [.nl,.nl]),(3,.blk [.o 21,.nl]),(21,.reg 70 12 (.fo r f))]⟩)):=by kernel_rfl
noncomputable def zRj (w:Nat) (e:Nat→Int) (n:Int) (m1:Nat):St:=⟨[(0,.p 1000000 0),(2,.p 2 0),(3,.p 3 0),(4,.v (.n .i64 n)),(5,.v (.n .i64 0))],[(1000000,.blk [.v (.lf w (fQ e)),.v (.n .i64 (m1:Int))]),(2,.blk [.nl,.nl]),(3,.blk [.nl,.nl])]⟩
set_option maxRecDepth 100000 in
theorem rzRj (G:St→Option (Ret × Mem)) (K:Cont) (w:Nat) (e:Nat→Int) (n:Int) (m1:Nat):stpT Tf 23 orRB 60 [] [0,1,0,1,1,1] K G (zRj w e n m1) =
 (bif (decide (0 < n)) then (bif (gB1 cjt hjt ejt (w,m1,e,0)) then (G (hRj w e n m1 1 ((jtF (w,m1,e,(0:Int).toNat)).2) 1 (fun _=>[.s (jtF (w,m1,e,(0:Int).toNat)).1.name,.n .i64 (jtF (w,m1,e,(0:Int).toNat)).1.kind,.n .i64 (jtF (w,m1,e,(0:Int).toNat)).1.parent,.n .i64 (jtF (w,m1,e,(0:Int).toNat)).1.off.x,.n .i64 (jtF (w,m1,e,(0:Int).toNat)).1.off.y,.n .i64 (jtF (w,m1,e,(0:Int).toNat)).1.off.z,.n .i64 (jtF (w,m1,e,(0:Int).toNat)).1.lo,.n .i64 (jtF (w,m1,e,(0:Int).toNat)).1.hi,.n .i64 (jtF (w,m1,e,(0:Int).toNat)).1.weight,.n .i64 (jtF (w,m1,e,(0:Int).toNat)).1.speed,.n .i64 (jtF (w,m1,e,(0:Int).toNat)).1.accel,.n .i64 (jtF (w,m1,e,(0:Int).toNat)).1.torque])))
 else none)
 else (K (.exit 0) ⟨[(0,.p 1000000 0),(2,.p 2 0),(3,.p 3 0),(4,.v (.n .i64 n))],[(1000000,.blk [.v (.lf w (fQ e)),.v (.n .i64 (m1:Int))]),(2,.blk [.nl,.nl]),(3,.blk [.nl,.nl])]⟩)):=by kernel_rfl
noncomputable def nxR (w:Nat) (e:Nat→Int) (i:Nat) (t:Nat × (Nat→List PV)):Nat × (Nat→List PV):=((jtF (w,t.1,e,i)).2,fun v=>jV (Nat.beq v i) (jp (jtF (w,t.1,e,i)).1) (t.2 v))
noncomputable def rjS (w:Nat) (e:Nat→Int) (n:Int) (m1:Nat):Nat × (Nat→List PV):=yJQ (nxR w e) (n.toNat - 1) 1 ((jtF (w,m1,e,0)).2,fun _=>jp (jtF (w,m1,e,0)).1)
theorem nxR_ok {w:Nat} {e:Nat→Int} {m1:Nat} (_:m1≤w) (hw:w≤9223372036854775807):∀ (i:Nat) (t:Nat × (Nat→List PV)),i < 10→(t.1≤w∧∀ v,v < i→∃ j,t.2 v=jp j∧JM v j)→((nxR w e i t).1≤w∧∀ v,v < i + 1→∃ j,(nxR w e i t).2 v=jp j∧JM v j):=fun i t hi h=>by
 have hj:=(yKG (t:=(w,t.1,e,i)) ⟨h.1,hw,hi⟩).1;refine ⟨hj.1,fun v hv => ?_⟩;show ∃ j,jV (Nat.beq v i) _ (t.2 v)=jp j∧_;rw [kV,qKF];by_cases e1:v=i
 ·subst e1;exact ⟨_,by rw [vJQ rfl]; rfl,hj.2⟩
 ·obtain ⟨j,h1,h2⟩:=h.2 v (by omega);exact ⟨j,by rw [vYH e1]; exact h1,h2⟩
theorem lpRj (K:Cont) (w:Nat) (e:Nat→Int) (n:Int) (m1:Nat) (hm:m1≤w) (hw:w≤9223372036854775807) (_:1≤n∧n≤9):LFT Tf 23 orRB 60 [] [0,1,0,1,1,1] K 60 (zRj w e n m1)=(K (.exit 0) ⟨[(0,.p 1000000 0),(2,.p 2 0),(3,.p 3 0),(4,.v (.n .i64 n))],[(1000000,.blk [.v (.lf w (fQ e)),.v (.n .i64 (((rjS w e n m1).1:Nat):Int))]),(2,.blk [.nl,.nl]),(3,.blk [.o 21,.nl]),(21,.reg 70 12 (.fo n.toNat (rjS w e n m1).2))]⟩):=by
 have hj:=(yKG (t:=(w,m1,e,0)) ⟨hm,hw,(by show 0 < 10; decide)⟩).1;refine (rzRj (LFT Tf 23 orRB 60 [] [0,1,0,1,1,1] K 59) K w e n m1).trans ?_;rw [vJQ (show 0 < n by omega),vYV,qQH (C:=cjt) (t:=(w,m1,e,0)) ⟨hm,hw,by decide,by decide⟩,vYV];refine (zQQ (L:=LFT Tf 23 orRB 60 [] [0,1,0,1,1,1] K) (stp:=stpT Tf 23 orRB 60 [] [0,1,0,1,1,1] K) (fun _ _=>rfl) (fun (i:Nat) (t:Nat × (Nat→List PV))=>hRj w e n m1 (i:Int) t.1 i t.2) (fun i t=>t.1≤w∧∀ v,v < i→∃ j,t.2 v=jp j∧JM v j) (fun _ _=>true) (nxR w e) (c:=n.toNat) (fun t=>(K (.exit 0) ⟨[(0,.p 1000000 0),(2,.p 2 0),(3,.p 3 0),(4,.v (.n .i64 n))],[(1000000,.blk [.v (.lf w (fQ e)),.v (.n .i64 ((t.1:Nat):Int))]),(2,.blk [.nl,.nl]),(3,.blk [.o 21,.nl]),(21,.reg 70 12 (.fo n.toNat t.2))]⟩)) (fun _ _=>none) (fun G i t hi hv => ?_) (fun i t hi hv _=>nxR_ok hm hw i t (by omega) hv) (fun G t hv => ?_) (n.toNat - 1) 1 59 ((jtF (w,m1,e,0)).2,fun _=>jp (jtF (w,m1,e,0)).1) (by omega) (by omega) ⟨hj.1,fun v hv=>⟨_,rfl,(show v=0 by omega) ▸ hj.2⟩⟩).trans (qUD (n.toNat - 1) 1 _)
 ·refine (rdRj G K w e n m1 i t.1 i t.2).trans ?_;rw [vJQ (show (i:Int) < n by omega),vYV,qQH (C:=cjt) (t:=(w,t.1,e,(i:Int))) ⟨hv.1,hw,by omega,by omega⟩,vYV,vJQ (show i + 1≤1000000 by omega),vYV,qYK (by omega)];rfl
 ·refine (rdRj G K w e n m1 (n.toNat:Int) t.1 n.toNat t.2).trans ?_;rw [vYH (show ¬ ((n.toNat:Nat):Int) < n by omega)];rfl
noncomputable def hRm (w:Nat) (e:Nat→Int) (n:Int) (m1 r1:Nat) (f1:Nat→List PV) (k0:Int) (k:Int) (m2:Nat) (r2:Nat) (g:Nat→List PV):St:=⟨[(0,.p 1000000 0),(2,.p 2 0),(3,.p 3 0),(4,.v (.n .i64 n)),(6,.v (.n .i64 k))],[(1000000,.blk [.v (.lf w (fQ e)),.v (.n .i64 (m2:Int))]),(2,.blk [.nl,.nl]),(3,.blk [.o 21,.o 46]),(21,.reg 70 12 (.fo r1 f1)),(46,.reg 95 5 (.fo r2 g))]⟩
set_option maxRecDepth 100000 in
theorem rdRm (G:St→Option (Ret × Mem)) (K:Cont) (w:Nat) (e:Nat→Int) (n:Int) (m1 r1:Nat) (f1:Nat→List PV) (k0:Int) (k:Int) (m2:Nat) (r2:Nat) (g:Nat→List PV):stpT Tf 23 orRB 60 [] [0,1,0,1,1,1,1] K G (hRm w e n m1 r1 f1 k0 k m2 r2 g) =
 (bif (decide (0 < k)) then (bif (gB1 cnx hnx enx (w,m2,e,n)) then (bif (gB1 cnx hnx enx (w,(mA w m2 1),e,9000)) then (bif (gB1 cnx hnx enx (w,(mA w m2 2),e,7)) then (bif (gB1 cnx hnx enx (w,(mA w m2 3),e,5)) then (bif (decide (r2 + 1≤1000000)) then (G (hRm w e n m1 r1 f1 k0 (vJJ .i64 (k - 1)) (mA w m2 4) (r2 + 1) (fun v=>jV (Nat.beq v r2) [.n .i64 (nxV e w m2 n),.n .i64 (vJJ .i64 (1 + (nxV e w (mA w m2 1) 9000))),.n .i64 (vJJ .i64 ((vJJ .i64 ((nxV e w (mA w m2 2) 7) - 3)) * 32768)),.n .i64 0,.n .i64 (vJJ .i64 ((vJJ .i64 ((nxV e w (mA w m2 3) 5) - 2)) * 32768))] (g v))))
 else none)
 else none)
 else none)
 else none)
 else none)
 else (K (.exit 2) ⟨[(2,.p 2 0),(3,.p 3 0)],[(1000000,.blk [.v (.lf w (fQ e)),.v (.n .i64 (m2:Int))]),(2,.blk [.nl,.nl]),(3,.blk [.o 21,.o 46]),(21,.reg 70 12 (.fo r1 f1)),(46,.reg 95 5 (.fo r2 g))]⟩)):=by kernel_rfl
noncomputable def zRm (w:Nat) (e:Nat→Int) (n:Int) (m1 r1:Nat) (f1:Nat→List PV) (k0:Int):St:=⟨[(0,.p 1000000 0),(2,.p 2 0),(3,.p 3 0),(4,.v (.n .i64 n)),(6,.v (.n .i64 k0))],[(1000000,.blk [.v (.lf w (fQ e)),.v (.n .i64 (m1:Int))]),(2,.blk [.nl,.nl]),(3,.blk [.o 21,.nl]),(21,.reg 70 12 (.fo r1 f1))]⟩
set_option maxRecDepth 100000 in
theorem rzRm (G:St→Option (Ret × Mem)) (K:Cont) (w:Nat) (e:Nat→Int) (n:Int) (m1 r1:Nat) (f1:Nat→List PV) (k0:Int):stpT Tf 23 orRB 60 [] [0,1,0,1,1,1,1] K G (zRm w e n m1 r1 f1 k0) =
 (bif (decide (0 < k0)) then (bif (gB1 cnx hnx enx (w,m1,e,n)) then (bif (gB1 cnx hnx enx (w,(mA w m1 1),e,9000)) then (bif (gB1 cnx hnx enx (w,(mA w m1 2),e,7)) then (bif (gB1 cnx hnx enx (w,(mA w m1 3),e,5)) then (G (hRm w e n m1 r1 f1 k0 (vJJ .i64 (k0 - 1)) (mA w m1 4) 1 (fun _=>[.n .i64 (nxV e w m1 n),.n .i64 (vJJ .i64 (1 + (nxV e w (mA w m1 1) 9000))),.n .i64 (vJJ .i64 ((vJJ .i64 ((nxV e w (mA w m1 2) 7) - 3)) * 32768)),.n .i64 0,.n .i64 (vJJ .i64 ((vJJ .i64 ((nxV e w (mA w m1 3) 5) - 2)) * 32768))])))
 else none)
 else none)
 else none)
 else none)
 else (K (.exit 2) ⟨[(2,.p 2 0),(3,.p 3 0)],[(1000000,.blk [.v (.lf w (fQ e)),.v (.n .i64 (m1:Int))]),(2,.blk [.nl,.nl]),(3,.blk [.o 21,.nl]),(21,.reg 70 12 (.fo r1 f1))]⟩)):=by kernel_rfl
noncomputable def msR (w:Nat) (e:Nat→Int) (n:Int) (m:Nat):Ms:=⟨nxV e w m n,vJJ .i64 (1 + (nxV e w (mA w m 1) 9000)),⟨vJJ .i64 ((vJJ .i64 ((nxV e w (mA w m 2) 7) - 3)) * 32768),0,vJJ .i64 ((vJJ .i64 ((nxV e w (mA w m 3) 5) - 2)) * 32768)⟩⟩
def MM (n:Int) (q:Ms):Prop:=(0≤q.link∧q.link < n)∧(1≤q.mass∧q.mass≤65536)∧(-4194304≤q.p.x∧q.p.x≤4194304)∧(-4194304≤q.p.y∧q.p.y≤4194304)∧(-4194304≤q.p.z∧q.p.z≤4194304)
theorem yWQ {w:Nat} {e:Nat→Int} {n:Int} (_:1≤n) (m:Nat):MM n (msR w e n m):=by
 have b0:=qJI (e:=e) (w:=w) (m:=m) (k:=n) (by omega);have b1:=qJI (e:=e) (w:=w) (m:=mA w m 1) (k:=9000) (by decide);have b2:=qJI (e:=e) (w:=w) (m:=mA w m 2) (k:=7) (by decide);have b3:=qJI (e:=e) (w:=w) (m:=mA w m 3) (k:=5) (by decide);have h1:vJJ .i64 (1 + (nxV e w (mA w m 1) 9000))=1 + nxV e w (mA w m 1) 9000:=qK (by omega);have h2:vJJ .i64 ((vJJ .i64 ((nxV e w (mA w m 2) 7) - 3)) * 32768)=(nxV e w (mA w m 2) 7 - 3) * 32768:=by rw [show vJJ .i64 ((nxV e w (mA w m 2) 7) - 3)=nxV e w (mA w m 2) 7 - 3 from qK (by omega)]; exact qK (by omega)
 have h3:=lY b3;unfold MM msR;dsimp only;rw [h1,h2];omega
noncomputable def nxM (w:Nat) (e:Nat→Int) (n:Int) (i:Nat) (t:Nat × (Nat→List PV)):Nat × (Nat→List PV):=(mA w t.1 4,fun v=>jV (Nat.beq v i) (mp (msR w e n t.1)) (t.2 v))
noncomputable def rmS (w:Nat) (e:Nat→Int) (n:Int) (m1:Nat) (k0:Int):Nat × (Nat→List PV):=yJQ (nxM w e n) (k0.toNat - 1) 1 (mA w m1 4,fun _=>mp (msR w e n m1))
theorem nxM_ok {w:Nat} {e:Nat→Int} {n:Int} (hn:1≤n):∀ (i:Nat) (t:Nat × (Nat→List PV)),(t.1≤w∧∀ v,v < i→∃ j,t.2 v=mp j∧MM n j)→((nxM w e n i t).1≤w∧∀ v,v < i + 1→∃ j,(nxM w e n i t).2 v=mp j∧MM n j):=fun i t h=>by
 refine ⟨kJ h.1 4,fun v hv => ?_⟩;show ∃ j,jV (Nat.beq v i) _ (t.2 v)=mp j∧_;rw [kV,qKF];by_cases e1:v=i
 ·subst e1;exact ⟨_,by rw [vJQ rfl]; rfl,yWQ hn t.1⟩
 ·obtain ⟨j,h1,h2⟩:=h.2 v (by omega);exact ⟨j,by rw [vYH e1]; exact h1,h2⟩
theorem lpRm (K:Cont) (w:Nat) (e:Nat→Int) (n:Int) (m1 r1:Nat) (f1:Nat→List PV) (k0:Int) (hm:m1≤w) (hw:w≤9223372036854775807) (hn:1≤n∧n≤9) (_:0≤k0∧k0≤9):LFT Tf 23 orRB 60 [] [0,1,0,1,1,1,1] K 60 (zRm w e n m1 r1 f1 k0)=(bif decide (0 < k0) then (K (.exit 2) ⟨[(2,.p 2 0),(3,.p 3 0)],[(1000000,.blk [.v (.lf w (fQ e)),.v (.n .i64 (((rmS w e n m1 k0).1:Nat):Int))]),(2,.blk [.nl,.nl]),(3,.blk [.o 21,.o 46]),(21,.reg 70 12 (.fo r1 f1)),(46,.reg 95 5 (.fo (k0).toNat (rmS w e n m1 k0).2))]⟩) else (K (.exit 2) ⟨[(2,.p 2 0),(3,.p 3 0)],[(1000000,.blk [.v (.lf w (fQ e)),.v (.n .i64 ((m1:Nat):Int))]),(2,.blk [.nl,.nl]),(3,.blk [.o 21,.nl]),(21,.reg 70 12 (.fo r1 f1))]⟩)):=by
 refine (rzRm (LFT Tf 23 orRB 60 [] [0,1,0,1,1,1,1] K 59) K w e n m1 r1 f1 k0).trans ?_;by_cases h0:0 < k0
 ·rw [vJQ h0,vYV,qQH (C:=cnx) (t:=(w,m1,e,n)) ⟨hm,hw,by omega,by omega⟩,vYV,qQH (C:=cnx) (t:=(w,(mA w m1 1),e,9000)) ⟨kJ hm 1,hw,by decide,by decide⟩,vYV,qQH (C:=cnx) (t:=(w,(mA w m1 2),e,7)) ⟨kJ hm 2,hw,by decide,by decide⟩,vYV,qQH (C:=cnx) (t:=(w,(mA w m1 3),e,5)) ⟨kJ hm 3,hw,by decide,by decide⟩,vYV];refine Eq.trans (b:=LFT Tf 23 orRB 60 [] [0,1,0,1,1,1,1] K 59 (hRm w e n m1 r1 f1 k0 (k0 - ((1:Nat):Int)) (mA w m1 4) 1 (fun _=>mp (msR w e n m1)))) ?_ ((zQQ (L:=LFT Tf 23 orRB 60 [] [0,1,0,1,1,1,1] K) (stp:=stpT Tf 23 orRB 60 [] [0,1,0,1,1,1,1] K) (fun _ _=>rfl) (fun (i:Nat) (t:Nat × (Nat→List PV))=>hRm w e n m1 r1 f1 k0 (k0 - (i:Int)) t.1 i t.2) (fun i t=>t.1≤w∧∀ v,v < i→∃ j,t.2 v=mp j∧MM n j) (fun _ _=>true) (nxM w e n) (c:=k0.toNat) (fun t=>(K (.exit 2) ⟨[(2,.p 2 0),(3,.p 3 0)],[(1000000,.blk [.v (.lf w (fQ e)),.v (.n .i64 ((t.1:Nat):Int))]),(2,.blk [.nl,.nl]),(3,.blk [.o 21,.o 46]),(21,.reg 70 12 (.fo r1 f1)),(46,.reg 95 5 (.fo k0.toNat t.2))]⟩)) (fun _ _=>none) (fun G i t hi hv => ?_) (fun i t hi hv _=>nxM_ok hn.1 i t hv) (fun G t hv => ?_) (k0.toNat - 1) 1 59 (mA w m1 4,fun _=>mp (msR w e n m1)) (by omega) (by omega) ⟨kJ hm 4,fun v hv=>⟨_,rfl,yWQ hn.1 m1⟩⟩).trans (qUD (k0.toNat - 1) 1 _))
  ·rw [show vJJ .i64 (k0 - 1)=k0 - ((1:Nat):Int) from qK (by omega)];rfl
  ·refine (rdRm G K w e n m1 r1 f1 k0 (k0 - (i:Int)) t.1 i t.2).trans ?_;have ht:=hv.1;rw [vJQ (show 0 < k0 - (i:Int) by omega),vYV,qQH (C:=cnx) (t:=(w,t.1,e,n)) ⟨ht,hw,by omega,by omega⟩,vYV,qQH (C:=cnx) (t:=(w,(mA w t.1 1),e,9000)) ⟨kJ ht 1,hw,by decide,by decide⟩,vYV,qQH (C:=cnx) (t:=(w,(mA w t.1 2),e,7)) ⟨kJ ht 2,hw,by decide,by decide⟩,vYV,qQH (C:=cnx) (t:=(w,(mA w t.1 3),e,5)) ⟨kJ ht 3,hw,by decide,by decide⟩,vYV,vJQ (show i + 1≤1000000 by omega),vYV,show vJJ .i64 (k0 - (i:Int) - 1)=k0 - ((i + 1:Nat):Int) from by rw [qK (by omega)]; omega];rfl
  ·refine (rdRm G K w e n m1 r1 f1 k0 (k0 - (k0.toNat:Int)) t.1 k0.toNat t.2).trans ?_;rw [vYH (show ¬ 0 < k0 - ((k0.toNat:Nat):Int) by omega)];rfl
 ·rw [vYH h0];rfl
theorem rjS_ok {w:Nat} {e:Nat→Int} {n:Int} {m1:Nat} (hm:m1≤w) (hw:w≤9223372036854775807) (_:1≤n∧n≤9):(rjS w e n m1).1≤w∧∀ v,v < n.toNat→∃ j,(rjS w e n m1).2 v=jp j∧JM v j:=by
 have hj:=(yKG (t:=(w,m1,e,0)) ⟨hm,hw,(by show 0 < 10; decide)⟩).1;exact zQU (Q:=fun i (t:Nat × (Nat→List PV))=>t.1≤w∧∀ v,v < i→∃ j,t.2 v=jp j∧JM v j) (c:=n.toNat) (fun i t hi h=>nxR_ok hm hw i t (by omega) h) (n.toNat - 1) 1 _ (by omega) ⟨hj.1,fun v hv=>⟨_,rfl,(show v=0 by omega) ▸ hj.2⟩⟩
theorem rmS_ok {w:Nat} {e:Nat→Int} {n:Int} {m1:Nat} {k0:Int} (hm:m1≤w) (hn:1≤n) (_:0 < k0):(rmS w e n m1 k0).1≤w∧∀ v,v < k0.toNat→∃ j,(rmS w e n m1 k0).2 v=mp j∧MM n j :=
 zQU (Q:=fun i (t:Nat × (Nat→List PV))=>t.1≤w∧∀ v,v < i→∃ j,t.2 v=mp j∧MM n j) (c:=k0.toNat) (fun i t hi h=>nxM_ok hn i t h) (k0.toNat - 1) 1 _ (by omega) ⟨kJ hm 4,fun v hv=>⟨_,rfl,yWQ hn m1⟩⟩
theorem pick_fn {α:Type} {n:Nat} {R:Nat→α→Prop} (d:α) (h:∀ v,v < n→∃ a,R v a):∃ g:Nat→α,∀ v,v < n→R v (g v):=by
 have each:∀ v,∃ a:α,v < n→R v a:=fun v=>by
  by_cases hv:v < n
  ·obtain ⟨a,ha⟩:=h v hv;exact ⟨a,fun _=>ha⟩
  ·exact ⟨d,fun h=>absurd h hv⟩
 exact ⟨fun v=>Classical.choose (each v),fun v=>Classical.choose_spec (each v)⟩
noncomputable def lsrb (w m:Nat) (e:Nat→Int):List (List Nat × kU):=[([0,1,0,1,1,1],sumF (fun t:Int × Nat=>(zRj w e t.1 t.2)) (fun σ=>(slI σ 4,(bkC σ 1000000 1).toNat)) (fun t K=>(bif (decide (t.2≤w∧w≤9223372036854775807) && decide (1≤t.1∧t.1≤9)) then (K (.exit 0) ⟨[(0,.p 1000000 0),(2,.p 2 0),(3,.p 3 0),(4,.v (.n .i64 t.1))],[(1000000,.blk [.v (.lf w (fQ e)),.v (.n .i64 (((rjS w e t.1 t.2).1:Nat):Int))]),(2,.blk [.nl,.nl]),(3,.blk [.o 21,.nl]),(21,.reg 70 12 (.fo (t.1).toNat (rjS w e t.1 t.2).2))]⟩) else none))),([0,1,0,1,1,1,1],sumF (fun t:Int × Nat × Nat × (Nat→List PV) × Int=>(zRm w e t.1 t.2.1 t.2.2.1 t.2.2.2.1 t.2.2.2.2)) (fun σ=>(slI σ 4,(bkC σ 1000000 1).toNat,rgN σ 21,rgF σ 21,slI σ 6)) (fun t K=>(bif (decide (t.2.1≤w∧w≤9223372036854775807) && decide ((1≤t.1∧t.1≤9)∧(0≤t.2.2.2.2∧t.2.2.2.2≤9))) then (bif decide (0 < t.2.2.2.2) then (K (.exit 2) ⟨[(2,.p 2 0),(3,.p 3 0)],[(1000000,.blk [.v (.lf w (fQ e)),.v (.n .i64 (((rmS w e t.1 t.2.1 t.2.2.2.2).1:Nat):Int))]),(2,.blk [.nl,.nl]),(3,.blk [.o 21,.o 46]),(21,.reg 70 12 (.fo t.2.2.1 t.2.2.2.1)),(46,.reg 95 5 (.fo (t.2.2.2.2).toNat (rmS w e t.1 t.2.1 t.2.2.2.2).2))]⟩) else (K (.exit 2) ⟨[(2,.p 2 0),(3,.p 3 0)],[(1000000,.blk [.v (.lf w (fQ e)),.v (.n .i64 ((t.2.1:Nat):Int))]),(2,.blk [.nl,.nl]),(3,.blk [.o 21,.nl]),(21,.reg 70 12 (.fo t.2.2.1 t.2.2.2.1))]⟩)) else none)))]
set_option maxRecDepth 100000 in
theorem pxrb (w m:Nat) (e:Nat→Int):zVB Tf orRB (zW (lsrb w m e)) 60 23 [.p 1000000 0] [.lf w (fQ e),.n .i64 (m:Int)] =
 (bif (gB1 cnx hnx enx (w,m,e,3)) then (bif (gSt (zRj w e (vJJ .i64 (1 + (nxV e w m 3))) (mA w m 1)) (zRj w e (vJJ .i64 (1 + (nxV e w m 3))) (mA w m 1))) then (bif (decide ((mA w m 1)≤w∧w≤9223372036854775807) && decide (1≤(vJJ .i64 (1 + (nxV e w m 3)))∧(vJJ .i64 (1 + (nxV e w m 3)))≤9)) then (bif (gB1 cnx hnx enx (w,((rjS w e (vJJ .i64 (1 + (nxV e w m 3))) (mA w m 1)).1),e,3)) then (bif (gSt (zRm w e (vJJ .i64 (1 + (nxV e w m 3))) (mA w ((rjS w e (vJJ .i64 (1 + (nxV e w m 3))) (mA w m 1)).1) 1) (((vJJ .i64 (1 + (nxV e w m 3)))).toNat) ((rjS w e (vJJ .i64 (1 + (nxV e w m 3))) (mA w m 1)).2) (nxV e w ((rjS w e (vJJ .i64 (1 + (nxV e w m 3))) (mA w m 1)).1) 3)) (zRm w e (vJJ .i64 (1 + (nxV e w m 3))) (mA w ((rjS w e (vJJ .i64 (1 + (nxV e w m 3))) (mA w m 1)).1) 1) (((vJJ .i64 (1 + (nxV e w m 3)))).toNat) ((rjS w e (vJJ .i64 (1 + (nxV e w m 3))) (mA w m 1)).2) (nxV e w ((rjS w e (vJJ .i64 (1 + (nxV e w m 3))) (mA w m 1)).1) 3))) then (bif (decide ((mA w ((rjS w e (vJJ .i64 (1 + (nxV e w m 3))) (mA w m 1)).1) 1)≤w∧w≤9223372036854775807) && decide ((1≤(vJJ .i64 (1 + (nxV e w m 3)))∧(vJJ .i64 (1 + (nxV e w m 3)))≤9)∧(0≤(nxV e w ((rjS w e (vJJ .i64 (1 + (nxV e w m 3))) (mA w m 1)).1) 3)∧(nxV e w ((rjS w e (vJJ .i64 (1 + (nxV e w m 3))) (mA w m 1)).1) 3)≤9))) then (bif (decide (0 < (nxV e w ((rjS w e (vJJ .i64 (1 + (nxV e w m 3))) (mA w m 1)).1) 3))) then some (.v (.t [.a [.lf (((vJJ .i64 (1 + (nxV e w m 3)))).toNat) ((rjS w e (vJJ .i64 (1 + (nxV e w m 3))) (mA w m 1)).2),.lf ((nxV e w ((rjS w e (vJJ .i64 (1 + (nxV e w m 3))) (mA w m 1)).1) 3)).toNat (rmS w e (vJJ .i64 (1 + (nxV e w m 3))) (mA w ((rjS w e (vJJ .i64 (1 + (nxV e w m 3))) (mA w m 1)).1) 1) (nxV e w ((rjS w e (vJJ .i64 (1 + (nxV e w m 3))) (mA w m 1)).1) 3)).2],.lf w (fQ e),.n .i64 (((rmS w e (vJJ .i64 (1 + (nxV e w m 3))) (mA w ((rjS w e (vJJ .i64 (1 + (nxV e w m 3))) (mA w m 1)).1) 1) (nxV e w ((rjS w e (vJJ .i64 (1 + (nxV e w m 3))) (mA w m 1)).1) 3)).1:Nat):Int)]),[])
 else some (.v (.t [.a [.lf (((vJJ .i64 (1 + (nxV e w m 3)))).toNat) ((rjS w e (vJJ .i64 (1 + (nxV e w m 3))) (mA w m 1)).2),.l []],.lf w (fQ e),.n .i64 (((mA w ((rjS w e (vJJ .i64 (1 + (nxV e w m 3))) (mA w m 1)).1) 1):Nat):Int)]),[]))
 else none)
 else none)
 else none)
 else none)
 else none)
 else none):=by kernel_rfl
theorem snd_rb (w m:Nat) (e:Nat→Int) (hm:m≤w) (hw:w≤9223372036854775807):qHZ Tryz.prog 23 [.p 1000000 0] [.lf w (fQ e),.n .i64 (m:Int)] (bif decide (0 < (nxV e w ((rjS w e (vJJ .i64 (1 + (nxV e w m 3))) (mA w m 1)).1) 3)) then (.a [.lf ((vJJ .i64 (1 + (nxV e w m 3))).toNat) ((rjS w e (vJJ .i64 (1 + (nxV e w m 3))) (mA w m 1)).2),.lf ((nxV e w ((rjS w e (vJJ .i64 (1 + (nxV e w m 3))) (mA w m 1)).1) 3).toNat) ((rmS w e (vJJ .i64 (1 + (nxV e w m 3))) (mA w ((rjS w e (vJJ .i64 (1 + (nxV e w m 3))) (mA w m 1)).1) 1) (nxV e w ((rjS w e (vJJ .i64 (1 + (nxV e w m 3))) (mA w m 1)).1) 3)).2)]) else (.a [.lf ((vJJ .i64 (1 + (nxV e w m 3))).toNat) ((rjS w e (vJJ .i64 (1 + (nxV e w m 3))) (mA w m 1)).2),.l []])) ([.lf w (fQ e),.n .i64 (((bif decide (0 < (nxV e w ((rjS w e (vJJ .i64 (1 + (nxV e w m 3))) (mA w m 1)).1) 3)) then (rmS w e (vJJ .i64 (1 + (nxV e w m 3))) (mA w ((rjS w e (vJJ .i64 (1 + (nxV e w m 3))) (mA w m 1)).1) 1) (nxV e w ((rjS w e (vJJ .i64 (1 + (nxV e w m 3))) (mA w m 1)).1) 3)).1 else mA w ((rjS w e (vJJ .i64 (1 + (nxV e w m 3))) (mA w m 1)).1) 1):Nat):Int)]):=by
 refine qGG (N:=60) (LO:=zW (lsrb w m e)) qQC yZ (qQE (l:=[]) (m:=[(25,o_nx),(46,o_jt)]) trivial ⟨yVD,ok_jt,trivial⟩) (fun p S hp => ?_) ?_
 ·refine yX (L:=qG Tf 23) (l:=(lsrb w m e)) (show AllP _ (lsrb w m e) from ⟨?_,?_,trivial⟩) p S hp
  ·dsimp only;refine qXW (T:=Tf) (o:=orRB) (f:=23) (LO:=zW []) (p:=[0,1,0,1,1,1]) qWU ?_;intro t K r hr;obtain ⟨hg,hr⟩:=qQ hr;simp only [vQJ,decide_eq_true_eq] at hg;exact (lpRj K w e t.1 t.2 hg.1.1 hg.1.2 hg.2).trans hr
  ·dsimp only;refine qXW (T:=Tf) (o:=orRB) (f:=23) (LO:=zW []) (p:=[0,1,0,1,1,1,1]) qWU ?_;intro t K r hr;obtain ⟨hg,hr⟩:=qQ hr;simp only [vQJ,decide_eq_true_eq] at hg;exact (lpRm K w e t.1 t.2.1 t.2.2.1 t.2.2.2.1 t.2.2.2.2 hg.1.1 hg.1.2 hg.2.1 hg.2.2).trans hr
 ·refine (pxrb w m e).trans ?_;have b0:=qJI (e:=e) (w:=w) (m:=m) (k:=3) (by decide);have hN:(vJJ .i64 (1 + (nxV e w m 3)))=1 + nxV e w m 3:=qK (by omega);have hj:=rjS_ok (e:=e) (n:=(vJJ .i64 (1 + (nxV e w m 3)))) (kJ hm 1) hw (by omega);have bk:=qJI (e:=e) (w:=w) (m:=(rjS w e (vJJ .i64 (1 + (nxV e w m 3))) (mA w m 1)).1) (k:=3) (by decide);simp only [kX,qQH (C:=cnx) (t:=(w,m,e,3)) ⟨hm,hw,by decide,by decide⟩,qQH (C:=cnx) (t:=(w,(rjS w e (vJJ .i64 (1 + (nxV e w m 3))) (mA w m 1)).1,e,3)) ⟨hj.1,hw,by decide,by decide⟩,vJQ (show mA w m 1≤w∧w≤9223372036854775807 from ⟨kJ hm 1,hw⟩),vJQ (show 1≤(vJJ .i64 (1 + (nxV e w m 3)))∧(vJJ .i64 (1 + (nxV e w m 3)))≤9 by omega),vJQ (show mA w ((rjS w e (vJJ .i64 (1 + (nxV e w m 3))) (mA w m 1)).1) 1≤w∧w≤9223372036854775807 from ⟨kJ hj.1 1,hw⟩),vJQ (show (1≤(vJJ .i64 (1 + (nxV e w m 3)))∧(vJJ .i64 (1 + (nxV e w m 3)))≤9)∧(0≤(nxV e w ((rjS w e (vJJ .i64 (1 + (nxV e w m 3))) (mA w m 1)).1) 3)∧(nxV e w ((rjS w e (vJJ .i64 (1 + (nxV e w m 3))) (mA w m 1)).1) 3)≤9) by omega),vZJ,vYV];cases decide (0 < (nxV e w ((rjS w e (vJJ .i64 (1 + (nxV e w m 3))) (mA w m 1)).1) 3)) <;> rfl
def robC (w:Nat) (js:Nat→J) (ms:Nat→Ms) (n k m':Nat):Prop:=m'≤w∧(1≤n∧n≤3)∧k≤2∧(∀ v,v < n→JM v (js v))∧∀ v,v < k→MM n (ms v)
theorem robot_ex (w m:Nat) (e:Nat→Int) (hm:m≤w) (hw:w≤9223372036854775807):∃ (js:Nat→J) (ms:Nat→Ms) (n k m':Nat),robC w js ms n k m'∧qHZ Tryz.prog 23 [.p pid 0] [.lf w (fQ e),.n .i64 (m:Int)] (.a [.lf n (fJ js),.lf k (fM ms)]) [.lf w (fQ e),.n .i64 (m':Int)]:=by
 have h:=snd_rb w m e hm hw;have b0:=qJI (e:=e) (w:=w) (m:=m) (k:=3) (by decide);have hN:(vJJ .i64 (1 + (nxV e w m 3)))=1 + nxV e w m 3:=qK (by omega);have hj:=rjS_ok (e:=e) (n:=(vJJ .i64 (1 + (nxV e w m 3)))) (kJ hm 1) hw (by omega);have bk:=qJI (e:=e) (w:=w) (m:=(rjS w e (vJJ .i64 (1 + (nxV e w m 3))) (mA w m 1)).1) (k:=3) (by decide);obtain ⟨js,hjs⟩:=pick_fn (⟨ByteArray.empty,0,0,⟨0,0,0⟩,0,0,0,0,0,0⟩:J) hj.2;by_cases h0:0 < (nxV e w ((rjS w e (vJJ .i64 (1 + (nxV e w m 3))) (mA w m 1)).1) 3)
 ·have hm2:=rmS_ok (w:=w) (e:=e) (n:=(vJJ .i64 (1 + (nxV e w m 3)))) (m1:=mA w ((rjS w e (vJJ .i64 (1 + (nxV e w m 3))) (mA w m 1)).1) 1) (k0:=(nxV e w ((rjS w e (vJJ .i64 (1 + (nxV e w m 3))) (mA w m 1)).1) 3)) (kJ hj.1 1) (by omega) h0;obtain ⟨ms,hms⟩:=pick_fn (⟨0,0,⟨0,0,0⟩⟩:Ms) hm2.2;rw [vJQ h0] at h;exact ⟨js,ms,_,((nxV e w ((rjS w e (vJJ .i64 (1 + (nxV e w m 3))) (mA w m 1)).1) 3)).toNat,_,⟨hm2.1,by omega,by omega,fun v hv=>(hjs v hv).2,fun v hv=>by have:=(hms v hv).2; rw [show (((vJJ .i64 (1 + (nxV e w m 3))).toNat:Nat):Int)=(vJJ .i64 (1 + (nxV e w m 3))) by omega]; exact this⟩,sndB_res (Same.a (xs:=[_,_]) ⟨zXG fun v hv=>(hjs v hv).1,zXG fun v hv=>(hms v hv).1,trivial⟩) h⟩
 ·rw [vYH h0] at h;exact ⟨js,fun _=>⟨0,0,⟨0,0,0⟩⟩,_,0,_,⟨kJ hj.1 1,by omega,by omega,fun v hv=>(hjs v hv).2,fun v hv=>absurd hv (by omega)⟩,sndB_res (Same.a (xs:=[_,_]) ⟨zXG fun v hv=>(hjs v hv).1,Same.lf rfl,trivial⟩) h⟩
end Go.Proofs.YtbfcbojgnppacaaGreat.So
namespace Go.Proofs.YtbfcbojgnppacaaGreat.Sq
open Go.Rx Rt Go.Sx Go.RowKit Od Nb Sn So
theorem choose_all {τ υ:Type} (d:υ) {C:τ→Prop} {R:τ→υ→Prop} (h:∀ t,C t→∃ y,R t y):∃ F:τ→υ,∀ t,C t→R t (F t):=by
 have each:∀ t,∃ y:υ,C t→R t y:=fun t=>by
  by_cases hc:C t
  ·obtain ⟨y,hy⟩:=h t hc;exact ⟨y,fun _=>hy⟩
  ·exact ⟨d,fun h'=>absurd h' hc⟩
 exact ⟨fun t=>Classical.choose (each t),fun t=>Classical.choose_spec (each t)⟩
def j00:J:=⟨ByteArray.empty,0,0,⟨0,0,0⟩,0,0,0,0,0,0⟩
def m00:Ms:=⟨0,0,⟨0,0,0⟩⟩
abbrev RbT:Type:=(Nat→J) × (Nat→Ms) × Nat × Nat × Nat
def rbC (t:Nat × Nat × (Nat→Int)):Prop:=t.2.1≤t.1∧t.1≤9223372036854775807
def rbR (t:Nat × Nat × (Nat→Int)) (y:RbT):Prop:=robC t.1 y.1 y.2.1 y.2.2.1 y.2.2.2.1 y.2.2.2.2∧qHZ Tryz.prog 23 [.p pid 0] [.lf t.1 (fQ t.2.2),.n .i64 (t.2.1:Int)] (.a [.lf y.2.2.1 (fJ y.1),.lf y.2.2.2.1 (fM y.2.1)]) [.lf t.1 (fQ t.2.2),.n .i64 (y.2.2.2.2:Int)]
theorem rb_all:∃ F:Nat × Nat × (Nat→Int)→RbT,∀ t,rbC t→rbR t (F t):=choose_all (fun _=>j00,fun _=>m00,0,0,0) fun t h=>by
 obtain ⟨js,ms,n,k,m',h1,h2⟩:=robot_ex t.1 t.2.1 t.2.2 h.1 h.2;exact ⟨(js,ms,n,k,m'),h1,h2⟩
noncomputable def rbF:Nat × Nat × (Nat→Int)→RbT:=Classical.choose rb_all
theorem rbF_ok {t:Nat × Nat × (Nat→Int)} (h:rbC t):rbR t (rbF t):=Classical.choose_spec rb_all t h
def crb:Nat × Nat × (Nat→Int)→Prop:=fun t=>match t with | (w,m,_)=>m≤w∧w≤9223372036854775807
def hrb:Nat × Nat × (Nat→Int)→List HV:=fun t=>match t with | (_,_,_)=>[.p pid 0]
def erb:Nat × Nat × (Nat→Int)→List PV:=fun t=>match t with | (w,m,e)=>[.lf w (fQ e),.n .i64 (m:Int)]
noncomputable def xrb:Nat × Nat × (Nat→Int)→PV:=fun t=>match t with | (w,m,e)=>.a [.lf (rbF (w,m,e)).2.2.1 (fJ (rbF (w,m,e)).1),.lf (rbF (w,m,e)).2.2.2.1 (fM (rbF (w,m,e)).2.1)]
noncomputable def qrb:Nat × Nat × (Nat→Int)→List PV:=fun t=>match t with | (w,m,e)=>[.lf w (fQ e),.n .i64 (((rbF (w,m,e)).2.2.2.2:Nat):Int)]
def drb:List HV→List PV→Nat × Nat × (Nat→Int):=fun hs ps=>match hs,ps with
 | _,[.lf w f,.n _ c]=>(w,c.toNat,unFQ f)
 | _,_=>(0,0,fun _=>0)
noncomputable def o_rb:List HV→List PV→Option (Bool × (PV × List PV)):=o_fb drb crb hrb erb xrb qrb
theorem ok_rb:yZX Tryz.prog 23 o_rb:=yHL fun t h=>by
 obtain ⟨w,m,e⟩:=t;exact (rbF_ok (t:=(w,m,e)) h).2
noncomputable def orRob (w:Nat) (e:Nat→Int):OrS:=orS [] [(23,o_rb)]
noncomputable def yGI (w:Nat) (e:Nat→Int):List (List Nat × kU):=[]
set_option maxRecDepth 100000 in
theorem pxRob (w:Nat) (e:Nat→Int):qJE Tf (orRob w e) (zW (yGI w e)) 60 8 [.lf w (fQ e)] =
 (bif (gB1 crb hrb erb (w,0,e)) then some (.v (.a [.lf (rbF (w,0,e)).2.2.1 (fJ (rbF (w,0,e)).1),.lf (rbF (w,0,e)).2.2.2.1 (fM (rbF (w,0,e)).2.1)]),[])
 else none):=by kernel_rfl
theorem snd_Rob (w:Nat) (e:Nat→Int) (hw:w≤9223372036854775807):zH Tryz.prog 8 [.lf w (fQ e)] (.v (.a [.lf (rbF (w,0,e)).2.2.1 (fJ (rbF (w,0,e)).1),.lf (rbF (w,0,e)).2.2.2.1 (fM (rbF (w,0,e)).2.1)])):=by
 refine yV (N:=60) (LO:=zW (yGI w e)) qQC yZ (qQE (l:=[]) (m:=[(23,o_rb)]) trivial ⟨ok_rb,trivial⟩) (fun p S hp => ?_) ?_
 ·refine yX (L:=qG Tf 8) (l:=(yGI w e)) (show AllP _ (yGI w e) from trivial) p S hp
 ·refine (pxRob w e).trans ?_;rw [qQH (C:=crb) (t:=(w,0,e)) ⟨Nat.zero_le _,hw⟩];rfl
noncomputable def orCg (w:Nat) (e:Nat→Int) (js:Nat→J) (ms:Nat→Ms) (n m:Nat):OrS:=orS [] [(25,o_nx)]
noncomputable def hCg (w:Nat) (e:Nat→Int) (js:Nat→J) (ms:Nat→Ms) (n m:Nat) (i:Int) (m2:Nat) (r:Nat) (f:Nat→Int):St:=⟨[(2,.p 2 0),(5,.p 11 0),(6,.o 43),(7,.v (.n .i64 i))],[(2,.blk [.v (.lf n (fJ js)),.v (.lf m (fM ms))]),(11,.blk [.v (.lf w (fQ e)),.v (.n .i64 (m2:Int))]),(43,.reg 2 1 (.fo r (fun v=>[.n .i64 (f v)])))]⟩
set_option maxRecDepth 100000 in
theorem rdCg (G:St→Option (Ret × Mem)) (K:Cont) (w:Nat) (e:Nat→Int) (js:Nat→J) (ms:Nat→Ms) (n m:Nat) (i:Int) (m2:Nat) (r:Nat) (f:Nat→Int):stpT Tf 9 (orCg w e js ms n m) 60 [] [0,1,0,1,1,1] K G (hCg w e js ms n m i m2 r f) =
 (bif (decide (i < (n:Int))) then (bif (inB i n) then (bif (inB i n) then (bif (gB1 cnx hnx enx (w,m2,e,6)) then (bif (decide ((nxV e w m2 6)=0)) then (bif (decide (r + 1≤1000000)) then (G (hCg w e js ms n m (vJJ .i64 (i + 1)) (mA w m2 1) (r + 1) (fun v=>(bif (Nat.beq v r) then (js (i).toNat).lo else (f v)))))
 else none)
 else (bif (decide ((nxV e w m2 6)=1)) then (bif (decide (r + 1≤1000000)) then (G (hCg w e js ms n m (vJJ .i64 (i + 1)) (mA w m2 1) (r + 1) (fun v=>(bif (Nat.beq v r) then (js (i).toNat).hi else (f v)))))
 else none)
 else (bif (gB1 cnx hnx enx (w,(mA w m2 1),e,(vJJ .i64 ((vJJ .i64 ((js (i).toNat).hi - (js (i).toNat).lo)) + 1)))) then (bif (decide (r + 1≤1000000)) then (G (hCg w e js ms n m (vJJ .i64 (i + 1)) (mA w m2 2) (r + 1) (fun v=>(bif (Nat.beq v r) then (vJJ .i64 ((js (i).toNat).lo + (nxV e w (mA w m2 1) (vJJ .i64 ((vJJ .i64 ((js (i).toNat).hi - (js (i).toNat).lo)) + 1))))) else (f v)))))
 else none)
 else none)))
 else none)
 else none)
 else none)
 else (K (.exit 0) ⟨[(6,.o 43)],[(43,.reg 2 1 (.fo r (fun v=>[.n .i64 (f v)])))]⟩)):=by kernel_rfl
noncomputable def cfN (w:Nat) (e:Nat→Int) (js:Nat→J) (i:Nat) (t:Nat × (Nat→Int)):Nat × (Nat→Int) :=
 bif decide (nxV e w t.1 6=0) then (mA w t.1 1,fun v=>bif Nat.beq v i then (js i).lo else t.2 v) else bif decide (nxV e w t.1 6=1) then (mA w t.1 1,fun v=>bif Nat.beq v i then (js i).hi else t.2 v)
 else (mA w t.1 2,fun v=>bif Nat.beq v i then vJJ .i64 ((js i).lo + nxV e w (mA w t.1 1) (vJJ .i64 (vJJ .i64 ((js i).hi - (js i).lo) + 1))) else t.2 v)
def zJG (js:Nat→J) (n:Nat):Prop:=∀ v,v < n → -4194304≤(js v).lo∧(js v).lo≤(js v).hi∧(js v).hi≤4194304
theorem cfN_ok {w:Nat} {e:Nat→Int} {js:Nat→J} {n:Nat} (hj:zJG js n):∀ (i:Nat) (t:Nat × (Nat→Int)),i < n→(t.1≤w∧∀ v,v < i→(js v).lo≤t.2 v∧t.2 v≤(js v).hi)→((cfN w e js i t).1≤w∧∀ v,v < i + 1→(js v).lo≤(cfN w e js i t).2 v∧(cfN w e js i t).2 v≤(js v).hi):=fun i t hi h=>by
 obtain ⟨h1,h2,h3⟩:=hj i hi;have hD:vJJ .i64 (vJJ .i64 ((js i).hi - (js i).lo) + 1)=(js i).hi - (js i).lo + 1:=by rw [show vJJ .i64 ((js i).hi - (js i).lo)=(js i).hi - (js i).lo from qK (by omega)]; exact qK (by omega)
 have hb:=qJI (e:=e) (w:=w) (m:=mA w t.1 1) (k:=(js i).hi - (js i).lo + 1) (by omega);have key:∀ (x:Int) (m':Nat),m'≤w→((js i).lo≤x∧x≤(js i).hi)→(m'≤w∧∀ v,v < i + 1→(js v).lo≤(bif Nat.beq v i then x else t.2 v)∧(bif Nat.beq v i then x else t.2 v)≤(js v).hi):=fun x m' hm hx=>⟨hm,fun v hv=>by
  rw [qKF];by_cases e1:v=i
  ·subst e1;rw [vJQ rfl]; exact hx
  ·rw [vYH e1]; exact h.2 v (by omega)⟩
 unfold cfN;rw [hD];cases decide (nxV e w t.1 6=0) with
 | true=>exact key _ _ (kJ h.1 1) (by omega)
 | false =>
  cases decide (nxV e w t.1 6=1) with
  | true=>exact key _ _ (kJ h.1 1) (by omega)
  | false =>
   refine key _ _ (kJ h.1 2) ?_;rw [qK (by omega)];omega
noncomputable def cfS (w:Nat) (e:Nat→Int) (js:Nat→J) (ms:Nat→Ms) (n m:Nat):Nat × (Nat→Int):=yJQ (cfN w e js) n 0 (0,fun _=>0)
theorem lpCg (K:Cont) (w:Nat) (e:Nat→Int) (js:Nat→J) (ms:Nat→Ms) (n m:Nat) (hw:w≤9223372036854775807) (_:n≤50) (hj:zJG js n):LFT Tf 9 (orCg w e js ms n m) 60 [] [0,1,0,1,1,1] K 60 (hCg w e js ms n m 0 0 0 (fun _=>0))=(K (.exit 0) ⟨[(6,.o 43)],[(43,.reg 2 1 (.fo n (fQ (cfS w e js ms n m).2)))]⟩):=by
 refine (zQQ (L:=LFT Tf 9 (orCg w e js ms n m) 60 [] [0,1,0,1,1,1] K) (stp:=stpT Tf 9 (orCg w e js ms n m) 60 [] [0,1,0,1,1,1] K) (fun _ _=>rfl) (fun (i:Nat) (t:Nat × (Nat→Int))=>hCg w e js ms n m (i:Int) t.1 i t.2) (fun i t=>t.1≤w∧∀ v,v < i→(js v).lo≤t.2 v∧t.2 v≤(js v).hi) (fun _ _=>true) (cfN w e js) (c:=n) (fun t=>(K (.exit 0) ⟨[(6,.o 43)],[(43,.reg 2 1 (.fo n (fun v=>[.n .i64 (t.2 v)])))]⟩)) (fun _ _=>none) (fun G i t hi hv => ?_) (fun i t hi hv _=>cfN_ok hj i t hi hv) (fun G t hv => ?_) n 0 60 (0,fun _=>0) (by omega) (by omega) ⟨Nat.zero_le _,fun v hv=>absurd hv (by omega)⟩).trans (qUD n 0 _)
 ·refine (rdCg G K w e js ms n m i t.1 i t.2).trans ?_;obtain ⟨h1,h2,h3⟩:=hj i hi;have hD:vJJ .i64 (vJJ .i64 ((js i).hi - (js i).lo) + 1)=(js i).hi - (js i).lo + 1:=by rw [show vJJ .i64 ((js i).hi - (js i).lo)=(js i).hi - (js i).lo from qK (by omega)]; exact qK (by omega)
  simp only [vJQ (show (i:Int) < (n:Int) by omega),uJ hi,toN,qQH (C:=cnx) (t:=(w,t.1,e,6)) ⟨hv.1,hw,by decide,by decide⟩,vJQ (show i + 1≤1000000 by omega),qYK (show i < 1000000 by omega),vYV];unfold cfN;cases decide (nxV e w t.1 6=0) with
  | true=>rfl
  | false =>
   cases decide (nxV e w t.1 6=1) with
   | true=>rfl
   | false =>
    have g2:gB1 cnx hnx enx (w,(mA w t.1 1),e,vJJ .i64 (vJJ .i64 ((js i).hi - (js i).lo) + 1))=true:=qQH ⟨kJ hv.1 1,hw,by omega,by omega⟩;rw [g2];rfl
 ·refine (rdCg G K w e js ms n m n t.1 n t.2).trans ?_;rw [vYH (show ¬ (n:Int) < (n:Int) by omega)];rfl
noncomputable def yKV (w:Nat) (e:Nat→Int) (js:Nat→J) (ms:Nat→Ms) (n m:Nat):List (List Nat × kU):=[([0,1,0,1,1,1],sumF (fun _:Unit=>(hCg w e js ms n m 0 0 0 (fun _=>0))) (fun _=>()) (fun _ K=>(bif gP (w≤9223372036854775807∧n≤50∧zJG js n) then (K (.exit 0) ⟨[(6,.o 43)],[(43,.reg 2 1 (.fo n (fun v=>[.n .i64 ((cfS w e js ms n m).2 v)])))]⟩) else none)))]
set_option maxRecDepth 100000 in
theorem pxcfg0 (w:Nat) (e:Nat→Int) (js:Nat→J) (ms:Nat→Ms) (n m:Nat):qJE Tf (orCg w e js ms n m) (zW (yKV w e js ms n m)) 60 9 [.a [.lf n (fJ js),.lf m (fM ms)],.lf w (fQ e)] =
 (bif (gSt (hCg w e js ms n m 0 0 0 (fun _=>0)) (hCg w e js ms n m 0 0 0 (fun _=>0))) then (bif (gP (w≤9223372036854775807∧n≤50∧zJG js n)) then some (.ow 2 1 (.fo n (fQ (cfS w e js ms n m).2)),[])
 else none)
 else none):=by kernel_rfl
theorem snd_cfg0 (w:Nat) (e:Nat→Int) (js:Nat→J) (ms:Nat→Ms) (n m:Nat) (hw:w≤9223372036854775807) (hn:n≤50) (hj:zJG js n):zH Tryz.prog 9 [.a [.lf n (fJ js),.lf m (fM ms)],.lf w (fQ e)] (.ow 2 1 (.fo n (fQ (cfS w e js ms n m).2))):=by
 refine yV (N:=60) (LO:=zW (yKV w e js ms n m)) qQC yZ (qQE (l:=[]) (m:=[(25,o_nx)]) trivial ⟨yVD,trivial⟩) (fun p S hp => ?_) ?_
 ·refine yX (L:=qG Tf 9) (l:=(yKV w e js ms n m)) (show AllP _ (yKV w e js ms n m) from ⟨?_,trivial⟩) p S hp
  ·dsimp only;refine qXW (T:=Tf) (o:=(orCg w e js ms n m)) (f:=9) (LO:=zW []) (p:=[0,1,0,1,1,1]) qWU ?_;intro t K r hr;obtain ⟨hg,hr⟩:=qQ hr
   skip
   exact (lpCg K w e js ms n m (qQG hg).1 (qQG hg).2.1 (qQG hg).2.2).trans hr
 ·refine (pxcfg0 w e js ms n m).trans ?_;simp only [kX,zXD (show w≤9223372036854775807∧n≤50∧zJG js n from ⟨hw,hn,hj⟩),vYV]
  all_goals rfl
theorem cfg_ex (w:Nat) (e:Nat→Int) (js:Nat→J) (ms:Nat→Ms) (n m:Nat) (hw:w≤9223372036854775807) (hn:n≤50) (hj:zJG js n):∃ q:Nat→Int,(∀ v,v < n→(js v).lo≤q v∧q v≤(js v).hi)∧zH Tryz.prog 9 [.a [.lf n (fJ js),.lf m (fM ms)],.lf w (fQ e)] (.v (.lf n (fQ q))) :=
 ⟨_,(zQU (Q:=fun i (t:Nat × (Nat→Int))=>t.1≤w∧∀ v,v < i→(js v).lo≤t.2 v∧t.2 v≤(js v).hi) (c:=n) (fun i t hi h=>cfN_ok hj i t hi h) n 0 (0,fun _=>0) (by omega) ⟨Nat.zero_le _,fun v hv=>absurd hv (by omega)⟩).2,snd_ownF (snd_cfg0 w e js ms n m hw hn hj)⟩
end Go.Proofs.YtbfcbojgnppacaaGreat.Sq
namespace Go.Proofs.YtbfcbojgnppacaaGreat.Sr
open Go.Rx Rt Go.Sx Go.RowKit Od Nb Oe Na Nc Nd Pa Sn So Sq
theorem snd_nrm (a b c:Int):zH Tryz.prog 29 [.n .i64 a,.n .i64 b,.n .i64 c] (.v (.a (z3C (nrm a b c)))):=qX yH yZ (OrL.ok yVK) (sp_mNormal a b c)
def cnr:Int × Int × Int→Prop:=fun _=>True
noncomputable def o_nr:List PV→Option (Bool × Ret):=o_fm (fun ps=>match ps with | [.n _ a,.n _ b,.n _ c]=>(a,b,c) | _=>(0,0,0)) cnr (fun t=>[.n .i64 t.1,.n .i64 t.2.1,.n .i64 t.2.2]) (fun t=>.v (.a [.n .i64 (nrm t.1 t.2.1 t.2.2).x,.n .i64 (nrm t.1 t.2.1 t.2.2).y,.n .i64 (nrm t.1 t.2.1 t.2.2).z]))
theorem ok_nr:zY Tryz.prog 29 o_nr:=zUL fun t _=>snd_nrm t.1 t.2.1 t.2.2
noncomputable def gnr (a b c:Int):Bool:=gF1 cnr (fun t=>[.n .i64 t.1,.n .i64 t.2.1,.n .i64 t.2.2]) (a,b,c)
theorem gnr_t (a b c:Int):gnr a b c=true:=qXZ trivial
noncomputable def orCs (w:Nat) (e:Nat→Int) (js:Nat→J) (ms:Nat→Ms) (n m:Nat) (j:Nat):OrS:=orS [(29,o_nr)] [(25,o_nx)]
noncomputable def hCs (w:Nat) (e:Nat→Int) (js:Nat→J) (ms:Nat→Ms) (n m:Nat) (j:Nat) (i:Int) (m2:Nat) (r:Nat) (f:Nat→List PV):St:=⟨[(1,.v (.n .i64 i)),(3,.p 3 0),(7,.p 11 0),(8,.o 64)],[(3,.blk [.v (.lf n (fJ js)),.v (.lf m (fM ms))]),(11,.blk [.v (.lf w (fQ e)),.v (.n .i64 (m2:Int))]),(64,.reg 60 10 (.fo r f))]⟩
set_option maxRecDepth 100000 in
theorem rdCs (G:St→Option (Ret × Mem)) (K:Cont) (w:Nat) (e:Nat→Int) (js:Nat→J) (ms:Nat→Ms) (n m:Nat) (j:Nat) (i:Int) (m2:Nat) (r:Nat) (f:Nat→List PV):stpT Tf 12 (orCs w e js ms n m j) 60 [] [0,0,1,1,1] K G (hCs w e js ms n m j i m2 r f) =
 (bif (decide (0 < i)) then (bif (gB1 cnx hnx enx (w,m2,e,2)) then (bif (gB1 cnx hnx enx (w,(mA w m2 1),e,(n:Int))) then (bif (gB1 cnx hnx enx (w,(mA w m2 2),e,9)) then (bif (gB1 cnx hnx enx (w,(mA w m2 3),e,5)) then (bif (gB1 cnx hnx enx (w,(mA w m2 4),e,5)) then (bif (gB1 cnx hnx enx (w,(mA w m2 5),e,4096)) then (bif (gB1 cnx hnx enx (w,(mA w m2 6),e,4096)) then (bif (gB1 cnx hnx enx (w,(mA w m2 7),e,4096)) then (bif (gnr (nxV e w (mA w m2 5) 4096) (nxV e w (mA w m2 6) 4096) (nxV e w (mA w m2 7) 4096)) then (bif (gB1 cnx hnx enx (w,(mA w m2 8),e,121)) then (bif (gB1 cnx hnx enx (w,(mA w m2 9),e,90)) then (bif (gB1 cnx hnx enx (w,(mA w m2 10),e,24)) then (bif (decide ((nxV e w (mA w m2 10) 24)=1)) then (bif (gB1 cnx hnx enx (w,(mA w m2 11),e,9)) then (bif (decide (r + 1≤1000000)) then (G (hCs w e js ms n m j (vJJ .i64 (i - 1)) (mA w m2 12) (r + 1) (fun v=>jV (Nat.beq v r) [.n .i64 (nxV e w m2 2),.n .i64 (vJJ .i64 ((nxV e w (mA w m2 11) 9) - 3)),.n .i64 (vJJ .i64 ((vJJ .i64 ((vJJ .i64 ((nxV e w (mA w m2 2) 9) - 4)) * 65536)).tdiv 2)),.n .i64 (vJJ .i64 ((vJJ .i64 ((nxV e w (mA w m2 3) 5) - 2)) * 65536)),.n .i64 (vJJ .i64 ((vJJ .i64 ((vJJ .i64 ((nxV e w (mA w m2 4) 5) - 2)) * 65536)).tdiv 2)),.n .i64 (nrm (nxV e w (mA w m2 5) 4096) (nxV e w (mA w m2 6) 4096) (nxV e w (mA w m2 7) 4096)).x,.n .i64 (nrm (nxV e w (mA w m2 5) 4096) (nxV e w (mA w m2 6) 4096) (nxV e w (mA w m2 7) 4096)).y,.n .i64 (nrm (nxV e w (mA w m2 5) 4096) (nxV e w (mA w m2 6) 4096) (nxV e w (mA w m2 7) 4096)).z,.n .i64 (vJJ .i64 ((vJJ .i64 ((nxV e w (mA w m2 8) 121) - 60)) * 65536)),.n .i64 (vJJ .i64 ((vJJ .i64 ((vJJ .i64 ((nxV e w (mA w m2 8) 121) - 60)) * 65536)) + (vJJ .i64 ((nxV e w (mA w m2 9) 90) * 65536))))] (f v))))
 else none)
 else none)
 else (bif (decide (r + 1≤1000000)) then (G (hCs w e js ms n m j (vJJ .i64 (i - 1)) (mA w m2 11) (r + 1) (fun v=>jV (Nat.beq v r) [.n .i64 (nxV e w m2 2),.n .i64 (nxV e w (mA w m2 1) (n:Int)),.n .i64 (vJJ .i64 ((vJJ .i64 ((vJJ .i64 ((nxV e w (mA w m2 2) 9) - 4)) * 65536)).tdiv 2)),.n .i64 (vJJ .i64 ((vJJ .i64 ((nxV e w (mA w m2 3) 5) - 2)) * 65536)),.n .i64 (vJJ .i64 ((vJJ .i64 ((vJJ .i64 ((nxV e w (mA w m2 4) 5) - 2)) * 65536)).tdiv 2)),.n .i64 (nrm (nxV e w (mA w m2 5) 4096) (nxV e w (mA w m2 6) 4096) (nxV e w (mA w m2 7) 4096)).x,.n .i64 (nrm (nxV e w (mA w m2 5) 4096) (nxV e w (mA w m2 6) 4096) (nxV e w (mA w m2 7) 4096)).y,.n .i64 (nrm (nxV e w (mA w m2 5) 4096) (nxV e w (mA w m2 6) 4096) (nxV e w (mA w m2 7) 4096)).z,.n .i64 (vJJ .i64 ((vJJ .i64 ((nxV e w (mA w m2 8) 121) - 60)) * 65536)),.n .i64 (vJJ .i64 ((vJJ .i64 ((vJJ .i64 ((nxV e w (mA w m2 8) 121) - 60)) * 65536)) + (vJJ .i64 ((nxV e w (mA w m2 9) 90) * 65536))))] (f v))))
 else none))
 else none)
 else none)
 else none)
 else none)
 else none)
 else none)
 else none)
 else none)
 else none)
 else none)
 else none)
 else none)
 else (K (.exit 0) ⟨[(8,.o 64)],[(64,.reg 60 10 (.fo r f))]⟩)):=by kernel_rfl
noncomputable def cnQ (w:Nat) (e:Nat→Int) (n m2:Nat):Cn × Nat:=(bif (decide ((nxV e w (mA w m2 10) 24)=1)) then (⟨(nxV e w m2 2),(vJJ .i64 ((nxV e w (mA w m2 11) 9) - 3)),⟨(vJJ .i64 ((vJJ .i64 ((vJJ .i64 ((nxV e w (mA w m2 2) 9) - 4)) * 65536)).tdiv 2)),(vJJ .i64 ((vJJ .i64 ((nxV e w (mA w m2 3) 5) - 2)) * 65536)),(vJJ .i64 ((vJJ .i64 ((vJJ .i64 ((nxV e w (mA w m2 4) 5) - 2)) * 65536)).tdiv 2))⟩,⟨(nrm (nxV e w (mA w m2 5) 4096) (nxV e w (mA w m2 6) 4096) (nxV e w (mA w m2 7) 4096)).x,(nrm (nxV e w (mA w m2 5) 4096) (nxV e w (mA w m2 6) 4096) (nxV e w (mA w m2 7) 4096)).y,(nrm (nxV e w (mA w m2 5) 4096) (nxV e w (mA w m2 6) 4096) (nxV e w (mA w m2 7) 4096)).z⟩,(vJJ .i64 ((vJJ .i64 ((nxV e w (mA w m2 8) 121) - 60)) * 65536)),(vJJ .i64 ((vJJ .i64 ((vJJ .i64 ((nxV e w (mA w m2 8) 121) - 60)) * 65536)) + (vJJ .i64 ((nxV e w (mA w m2 9) 90) * 65536))))⟩,(mA w m2 12)) else (⟨(nxV e w m2 2),(nxV e w (mA w m2 1) (n:Int)),⟨(vJJ .i64 ((vJJ .i64 ((vJJ .i64 ((nxV e w (mA w m2 2) 9) - 4)) * 65536)).tdiv 2)),(vJJ .i64 ((vJJ .i64 ((nxV e w (mA w m2 3) 5) - 2)) * 65536)),(vJJ .i64 ((vJJ .i64 ((vJJ .i64 ((nxV e w (mA w m2 4) 5) - 2)) * 65536)).tdiv 2))⟩,⟨(nrm (nxV e w (mA w m2 5) 4096) (nxV e w (mA w m2 6) 4096) (nxV e w (mA w m2 7) 4096)).x,(nrm (nxV e w (mA w m2 5) 4096) (nxV e w (mA w m2 6) 4096) (nxV e w (mA w m2 7) 4096)).y,(nrm (nxV e w (mA w m2 5) 4096) (nxV e w (mA w m2 6) 4096) (nxV e w (mA w m2 7) 4096)).z⟩,(vJJ .i64 ((vJJ .i64 ((nxV e w (mA w m2 8) 121) - 60)) * 65536)),(vJJ .i64 ((vJJ .i64 ((vJJ .i64 ((nxV e w (mA w m2 8) 121) - 60)) * 65536)) + (vJJ .i64 ((nxV e w (mA w m2 9) 90) * 65536))))⟩,(mA w m2 11)))
noncomputable def csS (w:Nat) (e:Nat→Int) (n:Nat):Nat→Nat→Nat→(Nat→List PV)→Nat→List PV
 | 0,_,_,f=>f
 | p + 1,m2,r,f=>csS w e n p (cnQ w e n m2).2 (r + 1) (fun v=>jV (Nat.beq v r) (cp (cnQ w e n m2).1) (f v))
theorem csS_ex (w:Nat) (e:Nat→Int) (n:Nat):∀ (p m2 r:Nat) (f:Nat→List PV) (c0:Nat→Cn),(∀ v,v < r→f v=cp (c0 v))→∃ cs:Nat→Cn,∀ v,v < r + p→csS w e n p m2 r f v=cp (cs v)
 | 0,_,r,f,c0,h=>⟨c0,h⟩
 | p + 1,m2,r,f,c0,h=>by
  obtain ⟨cs,hc⟩:=csS_ex w e n p (cnQ w e n m2).2 (r + 1) (fun v=>jV (Nat.beq v r) (cp (cnQ w e n m2).1) (f v)) (fun v=>if v=r then (cnQ w e n m2).1 else c0 v) fun v hv=>by
   show jV _ _ _=_;rw [kV,qKF];by_cases q:v=r
   ·rw [vJQ q,if_pos q]; rfl
   ·rw [vYH q,if_neg q]; exact h v (by omega)
  exact ⟨cs,fun v hv=>hc v (by omega)⟩
theorem cnQ_le {w:Nat} {e:Nat→Int} {n m2:Nat} (hm:m2≤w):(cnQ w e n m2).2≤w:=by
 unfold cnQ;cases decide ((nxV e w (mA w m2 10) 24)=1)
 ·exact kJ hm _
 ·exact kJ hm _
theorem lpCs (K:Cont) (w:Nat) (e:Nat→Int) (js:Nat→J) (ms:Nat→Ms) (n m:Nat) (j:Nat) (hw:w≤9223372036854775807) (hn:1≤n∧n≤50):∀ (q p m2 r:Nat) (f:Nat→List PV),p < q→p≤50→r + p≤1000→m2≤w→LFT Tf 12 (orCs w e js ms n m j) 60 [] [0,0,1,1,1] K q (hCs w e js ms n m j (p:Int) m2 r f)=(K (.exit 0) ⟨[(8,.o 64)],[(64,.reg 60 10 (.fo (r + p) (csS w e n p m2 r f)))]⟩)
 | 0,p,m2,r,f,h,_,_,_=>absurd h (by omega)
 | q + 1,0,m2,r,f,_,_,_,hm=>by
  refine (rdCs (LFT Tf 12 (orCs w e js ms n m j) 60 [] [0,0,1,1,1] K q) K w e js ms n m j ((0:Nat):Int) m2 r f).trans ?_;rw [vYH (show ¬ (0:Int) < ((0:Nat):Int) by omega)];rfl
 | q + 1,p + 1,m2,r,f,hp,h5,hr,hm=>by
  refine (rdCs (LFT Tf 12 (orCs w e js ms n m j) 60 [] [0,0,1,1,1] K q) K w e js ms n m j ((p + 1:Nat):Int) m2 r f).trans ?_;have wr:vJJ .i64 (((p + 1:Nat):Int) - 1)=(p:Int):=by rw [qK (by omega)]; omega
  simp only [vJQ (show (0:Int) < ((p + 1:Nat):Int) by omega),wr,gnr_t,vJQ (show r + 1≤1000000 by omega),qQH (C:=cnx) (t:=(w,m2,e,2)) ⟨hm,hw,by omega,by omega⟩,qQH (C:=cnx) (t:=(w,(mA w m2 1),e,(n:Int))) ⟨kJ hm 1,hw,by omega,by omega⟩,qQH (C:=cnx) (t:=(w,(mA w m2 2),e,9)) ⟨kJ hm 2,hw,by omega,by omega⟩,qQH (C:=cnx) (t:=(w,(mA w m2 3),e,5)) ⟨kJ hm 3,hw,by omega,by omega⟩,qQH (C:=cnx) (t:=(w,(mA w m2 4),e,5)) ⟨kJ hm 4,hw,by omega,by omega⟩,qQH (C:=cnx) (t:=(w,(mA w m2 5),e,4096)) ⟨kJ hm 5,hw,by omega,by omega⟩,qQH (C:=cnx) (t:=(w,(mA w m2 6),e,4096)) ⟨kJ hm 6,hw,by omega,by omega⟩,qQH (C:=cnx) (t:=(w,(mA w m2 7),e,4096)) ⟨kJ hm 7,hw,by omega,by omega⟩,qQH (C:=cnx) (t:=(w,(mA w m2 8),e,121)) ⟨kJ hm 8,hw,by omega,by omega⟩,qQH (C:=cnx) (t:=(w,(mA w m2 9),e,90)) ⟨kJ hm 9,hw,by omega,by omega⟩,qQH (C:=cnx) (t:=(w,(mA w m2 10),e,24)) ⟨kJ hm 10,hw,by omega,by omega⟩,qQH (C:=cnx) (t:=(w,(mA w m2 11),e,9)) ⟨kJ hm 11,hw,by omega,by omega⟩,vYV];have ih:=lpCs K w e js ms n m j hw hn q p (cnQ w e n m2).2 (r + 1) (fun v=>jV (Nat.beq v r) (cp (cnQ w e n m2).1) (f v)) (by omega) (by omega) (by omega) (cnQ_le hm);rw [show r + 1 + p=r + (p + 1) by omega] at ih;refine Eq.trans ?_ ih;unfold cnQ;cases decide ((nxV e w (mA w m2 10) 24)=1) with
  | false=>rfl
  | true=>rfl
theorem lqCs (K:Cont) (w:Nat) (e:Nat→Int) (js:Nat→J) (ms:Nat→Ms) (n m:Nat) (j:Nat) (hw:w≤9223372036854775807) (hn:1≤n∧n≤50) (hj:j≤50):LFT Tf 12 (orCs w e js ms n m j) 60 [] [0,0,1,1,1] K 60 (hCs w e js ms n m j (j:Int) 0 0 (fun _=>[.n .i64 0,.n .i64 0,.n .i64 0,.n .i64 0,.n .i64 0,.n .i64 0,.n .i64 0,.n .i64 0,.n .i64 0,.n .i64 0]))=(K (.exit 0) ⟨[(8,.o 64)],[(64,.reg 60 10 (.fo j (csS w e n j 0 0 (fun _=>[.n .i64 0,.n .i64 0,.n .i64 0,.n .i64 0,.n .i64 0,.n .i64 0,.n .i64 0,.n .i64 0,.n .i64 0,.n .i64 0]))))]⟩):=by
 have h:=lpCs K w e js ms n m j hw hn 60 j 0 0 (fun _=>[.n .i64 0,.n .i64 0,.n .i64 0,.n .i64 0,.n .i64 0,.n .i64 0,.n .i64 0,.n .i64 0,.n .i64 0,.n .i64 0]) (by omega) hj (by omega) (Nat.zero_le _);rw [Nat.zero_add] at h;exact h
noncomputable def yGB (w:Nat) (e:Nat→Int) (js:Nat→J) (ms:Nat→Ms) (n m:Nat) (j:Nat):List (List Nat × kU):=[([0,0,1,1,1],sumF (fun _:Unit=>(hCs w e js ms n m j (j:Int) 0 0 (fun _=>[.n .i64 0,.n .i64 0,.n .i64 0,.n .i64 0,.n .i64 0,.n .i64 0,.n .i64 0,.n .i64 0,.n .i64 0,.n .i64 0]))) (fun _=>()) (fun _ K=>(bif gP (w≤9223372036854775807∧(1≤n∧n≤50)∧j≤50) then (K (.exit 0) ⟨[(8,.o 64)],[(64,.reg 60 10 (.fo j (csS w e n j 0 0 (fun _=>[.n .i64 0,.n .i64 0,.n .i64 0,.n .i64 0,.n .i64 0,.n .i64 0,.n .i64 0,.n .i64 0,.n .i64 0,.n .i64 0]))))]⟩) else none)))]
set_option maxRecDepth 100000 in
theorem pxcs0 (w:Nat) (e:Nat→Int) (js:Nat→J) (ms:Nat→Ms) (n m:Nat) (j:Nat):qJE Tf (orCs w e js ms n m j) (zW (yGB w e js ms n m j)) 60 12 [.a [.lf n (fJ js),.lf m (fM ms)],.n .i64 (j:Int),.lf w (fQ e)] =
 (bif (gSt (hCs w e js ms n m j (j:Int) 0 0 (fun _=>[.n .i64 0,.n .i64 0,.n .i64 0,.n .i64 0,.n .i64 0,.n .i64 0,.n .i64 0,.n .i64 0,.n .i64 0,.n .i64 0])) (hCs w e js ms n m j (j:Int) 0 0 (fun _=>[.n .i64 0,.n .i64 0,.n .i64 0,.n .i64 0,.n .i64 0,.n .i64 0,.n .i64 0,.n .i64 0,.n .i64 0,.n .i64 0]))) then (bif (gP (w≤9223372036854775807∧(1≤n∧n≤50)∧j≤50)) then some (.ow 60 10 (.fo j (csS w e n j 0 0 (fun _=>[.n .i64 0,.n .i64 0,.n .i64 0,.n .i64 0,.n .i64 0,.n .i64 0,.n .i64 0,.n .i64 0,.n .i64 0,.n .i64 0]))),[])
 else none)
 else none):=by kernel_rfl
theorem snd_cs0 (w:Nat) (e:Nat→Int) (js:Nat→J) (ms:Nat→Ms) (n m:Nat) (j:Nat) (hw:w≤9223372036854775807) (hn:1≤n∧n≤50) (hj:j≤50):zH Tryz.prog 12 [.a [.lf n (fJ js),.lf m (fM ms)],.n .i64 (j:Int),.lf w (fQ e)] (.ow 60 10 (.fo j (csS w e n j 0 0 (fun _=>[.n .i64 0,.n .i64 0,.n .i64 0,.n .i64 0,.n .i64 0,.n .i64 0,.n .i64 0,.n .i64 0,.n .i64 0,.n .i64 0])))):=by
 refine yV (N:=60) (LO:=zW (yGB w e js ms n m j)) qQC yZ (qQE (l:=[(29,o_nr)]) (m:=[(25,o_nx)]) ⟨ok_nr,trivial⟩ ⟨yVD,trivial⟩) (fun p S hp => ?_) ?_
 ·refine yX (L:=qG Tf 12) (l:=(yGB w e js ms n m j)) (show AllP _ (yGB w e js ms n m j) from ⟨?_,trivial⟩) p S hp
  ·dsimp only;refine qXW (T:=Tf) (o:=(orCs w e js ms n m j)) (f:=12) (LO:=zW []) (p:=[0,0,1,1,1]) qWU ?_;intro t K r hr;obtain ⟨hg,hr⟩:=qQ hr
   skip
   exact (lqCs K w e js ms n m j (qQG hg).1 (qQG hg).2.1 (qQG hg).2.2).trans hr
 ·refine (pxcs0 w e js ms n m j).trans ?_;simp only [kX,zXD (show w≤9223372036854775807∧(1≤n∧n≤50)∧j≤50 from ⟨hw,hn,hj⟩),vYV]
  all_goals rfl
theorem cons_ex (w:Nat) (e:Nat→Int) (js:Nat→J) (ms:Nat→Ms) (n m:Nat) (j:Nat) (hw:w≤9223372036854775807) (hn:1≤n∧n≤50) (hj:j≤50):∃ cs:Nat→Cn,zH Tryz.prog 12 [.a [.lf n (fJ js),.lf m (fM ms)],.n .i64 (j:Int),.lf w (fQ e)] (.ow 60 10 (.fo j (fC cs))):=by
 obtain ⟨cs,hc⟩:=csS_ex w e n j 0 0 (fun _=>[.n .i64 0,.n .i64 0,.n .i64 0,.n .i64 0,.n .i64 0,.n .i64 0,.n .i64 0,.n .i64 0,.n .i64 0,.n .i64 0]) (fun _=>⟨0,0,⟨0,0,0⟩,⟨0,0,0⟩,0,0⟩) (fun v hv=>absurd hv (by omega));exact ⟨cs,snd_owF (fun v hv=>hc v (by omega)) (snd_cs0 w e js ms n m j hw hn hj)⟩
theorem yZI {P:Program} {fn e sz:Nat} {f:Nat→List PV} {n:Nat} {rows:List (List PV)} {ps:List PV} (h:rows=(List.range n).map f) (hs:zH P fn ps (.ow e sz (.fo n f))):zH P fn ps (.ow e sz (.l rows)):=by
 subst h;refine ⟨hs.1,fun w F vals hF hal=>(hs.2 w F vals hF hal).mono ?_⟩
 rintro en w' ⟨v,F',he,hg,f1,f2,ad,c,vr,h1,h2,h3,h4,h5,h6,h7⟩
 refine ⟨v,F',he,hg,f1,f2,ad,c,vr,?_,h2,h3,h4,h5,?_,h7⟩
 ·rw [h1]; simp [Rows.len]
 ·simpa [Rows.len] using h6
noncomputable def orwd0 (w:Nat) (e:Nat→Int) (js:Nat→J) (ms:Nat→Ms) (n m:Nat) (cs:Nat→Cn):OrS:=orS [(12,o_cr [.a [.lf n (fJ js),.lf m (fM ms)],.n .i64 0,.lf w (fQ e)] (.ow 60 10 (.l [])))] []
noncomputable def yGZ (w:Nat) (e:Nat→Int) (js:Nat→J) (ms:Nat→Ms) (n m:Nat) (cs:Nat→Cn):List (List Nat × kU):=[]
set_option maxRecDepth 100000 in
theorem pxwd0 (w:Nat) (e:Nat→Int) (js:Nat→J) (ms:Nat→Ms) (n m:Nat) (cs:Nat→Cn):qJE Tf (orwd0 w e js ms n m cs) (zW (yGZ w e js ms n m cs)) 60 13 [.a [.lf n (fJ js),.lf m (fM ms)],.n .i64 0,.lf w (fQ e)] =
 (bif (g1 [.a [.lf n (fJ js),.lf m (fM ms)],.n .i64 0,.lf w (fQ e)]) then some (.ow 60 10 (.l []),[])
 else none):=by kernel_rfl
theorem snd_wd0 (w:Nat) (e:Nat→Int) (js:Nat→J) (ms:Nat→Ms) (n m:Nat) (cs:Nat→Cn) (hc:zH Tryz.prog 12 [.a [.lf n (fJ js),.lf m (fM ms)],.n .i64 0,.lf w (fQ e)] (.ow 60 10 (.l []))):zH Tryz.prog 13 [.a [.lf n (fJ js),.lf m (fM ms)],.n .i64 0,.lf w (fQ e)] (.ow 60 10 (.l [])):=by
 refine yV (N:=60) (LO:=zW (yGZ w e js ms n m cs)) qQC yZ (qQE (l:=[(12,o_cr [.a [.lf n (fJ js),.lf m (fM ms)],.n .i64 0,.lf w (fQ e)] (.ow 60 10 (.l [])))]) (m:=[]) ⟨qQI hc,trivial⟩ trivial) (fun p S hp => ?_) ?_
 ·refine yX (L:=qG Tf 13) (l:=(yGZ w e js ms n m cs)) (show AllP _ (yGZ w e js ms n m cs) from trivial) p S hp
 ·refine (pxwd0 w e js ms n m cs).trans ?_;rw [g1_t];rfl
noncomputable def orwd1 (w:Nat) (e:Nat→Int) (js:Nat→J) (ms:Nat→Ms) (n m:Nat) (cs:Nat→Cn):OrS:=orS [(12,o_cr [.a [.lf n (fJ js),.lf m (fM ms)],.n .i64 1,.lf w (fQ e)] (.ow 60 10 (.l [cp (cs 0)])))] []
noncomputable def yGQ (w:Nat) (e:Nat→Int) (js:Nat→J) (ms:Nat→Ms) (n m:Nat) (cs:Nat→Cn):List (List Nat × kU):=[]
set_option maxRecDepth 100000 in
theorem pxwd1 (w:Nat) (e:Nat→Int) (js:Nat→J) (ms:Nat→Ms) (n m:Nat) (cs:Nat→Cn):qJE Tf (orwd1 w e js ms n m cs) (zW (yGQ w e js ms n m cs)) 60 13 [.a [.lf n (fJ js),.lf m (fM ms)],.n .i64 1,.lf w (fQ e)] =
 (bif (g1 [.a [.lf n (fJ js),.lf m (fM ms)],.n .i64 1,.lf w (fQ e)]) then some (.ow 60 10 (.l [[.n .i64 (cs 0).kind,.n .i64 (cs 0).link,.n .i64 (cs 0).p.x,.n .i64 (cs 0).p.y,.n .i64 (cs 0).p.z,.n .i64 (cs 0).n.x,.n .i64 (cs 0).n.y,.n .i64 (cs 0).n.z,.n .i64 (vJJ .i64 ((cs 0).lo - 16777216)),.n .i64 (vJJ .i64 ((cs 0).hi + 16777216))]]),[])
 else none):=by kernel_rfl
theorem snd_wd1 (w:Nat) (e:Nat→Int) (js:Nat→J) (ms:Nat→Ms) (n m:Nat) (cs:Nat→Cn) (hc:zH Tryz.prog 12 [.a [.lf n (fJ js),.lf m (fM ms)],.n .i64 1,.lf w (fQ e)] (.ow 60 10 (.l [cp (cs 0)]))):zH Tryz.prog 13 [.a [.lf n (fJ js),.lf m (fM ms)],.n .i64 1,.lf w (fQ e)] (.ow 60 10 (.l [cp ⟨(cs 0).kind,(cs 0).link,(cs 0).p,(cs 0).n,vJJ .i64 ((cs 0).lo - 16777216),vJJ .i64 ((cs 0).hi + 16777216)⟩])):=by
 refine yV (N:=60) (LO:=zW (yGQ w e js ms n m cs)) qQC yZ (qQE (l:=[(12,o_cr [.a [.lf n (fJ js),.lf m (fM ms)],.n .i64 1,.lf w (fQ e)] (.ow 60 10 (.l [cp (cs 0)])))]) (m:=[]) ⟨qQI hc,trivial⟩ trivial) (fun p S hp => ?_) ?_
 ·refine yX (L:=qG Tf 13) (l:=(yGQ w e js ms n m cs)) (show AllP _ (yGQ w e js ms n m cs) from trivial) p S hp
 ·refine (pxwd1 w e js ms n m cs).trans ?_;rw [g1_t];rfl
noncomputable def orwd2 (w:Nat) (e:Nat→Int) (js:Nat→J) (ms:Nat→Ms) (n m:Nat) (cs:Nat→Cn):OrS:=orS [(12,o_cr [.a [.lf n (fJ js),.lf m (fM ms)],.n .i64 2,.lf w (fQ e)] (.ow 60 10 (.l [cp (cs 0),cp (cs 1)])))] []
noncomputable def yVL (w:Nat) (e:Nat→Int) (js:Nat→J) (ms:Nat→Ms) (n m:Nat) (cs:Nat→Cn):List (List Nat × kU):=[]
set_option maxRecDepth 100000 in
theorem pxwd2 (w:Nat) (e:Nat→Int) (js:Nat→J) (ms:Nat→Ms) (n m:Nat) (cs:Nat→Cn):qJE Tf (orwd2 w e js ms n m cs) (zW (yVL w e js ms n m cs)) 60 13 [.a [.lf n (fJ js),.lf m (fM ms)],.n .i64 2,.lf w (fQ e)] =
 (bif (g1 [.a [.lf n (fJ js),.lf m (fM ms)],.n .i64 2,.lf w (fQ e)]) then some (.ow 60 10 (.l [[.n .i64 (cs 0).kind,.n .i64 (cs 0).link,.n .i64 (cs 0).p.x,.n .i64 (cs 0).p.y,.n .i64 (cs 0).p.z,.n .i64 (cs 0).n.x,.n .i64 (cs 0).n.y,.n .i64 (cs 0).n.z,.n .i64 (vJJ .i64 ((cs 0).lo - 16777216)),.n .i64 (vJJ .i64 ((cs 0).hi + 16777216))],[.n .i64 (cs 1).kind,.n .i64 (cs 1).link,.n .i64 (cs 1).p.x,.n .i64 (cs 1).p.y,.n .i64 (cs 1).p.z,.n .i64 (cs 1).n.x,.n .i64 (cs 1).n.y,.n .i64 (cs 1).n.z,.n .i64 (vJJ .i64 ((cs 1).lo - 16777216)),.n .i64 (vJJ .i64 ((cs 1).hi + 16777216))]]),[])
 else none):=by kernel_rfl
theorem snd_wd2 (w:Nat) (e:Nat→Int) (js:Nat→J) (ms:Nat→Ms) (n m:Nat) (cs:Nat→Cn) (hc:zH Tryz.prog 12 [.a [.lf n (fJ js),.lf m (fM ms)],.n .i64 2,.lf w (fQ e)] (.ow 60 10 (.l [cp (cs 0),cp (cs 1)]))):zH Tryz.prog 13 [.a [.lf n (fJ js),.lf m (fM ms)],.n .i64 2,.lf w (fQ e)] (.ow 60 10 (.l [cp ⟨(cs 0).kind,(cs 0).link,(cs 0).p,(cs 0).n,vJJ .i64 ((cs 0).lo - 16777216),vJJ .i64 ((cs 0).hi + 16777216)⟩,cp ⟨(cs 1).kind,(cs 1).link,(cs 1).p,(cs 1).n,vJJ .i64 ((cs 1).lo - 16777216),vJJ .i64 ((cs 1).hi + 16777216)⟩])):=by
 refine yV (N:=60) (LO:=zW (yVL w e js ms n m cs)) qQC yZ (qQE (l:=[(12,o_cr [.a [.lf n (fJ js),.lf m (fM ms)],.n .i64 2,.lf w (fQ e)] (.ow 60 10 (.l [cp (cs 0),cp (cs 1)])))]) (m:=[]) ⟨qQI hc,trivial⟩ trivial) (fun p S hp => ?_) ?_
 ·refine yX (L:=qG Tf 13) (l:=(yVL w e js ms n m cs)) (show AllP _ (yVL w e js ms n m cs) from trivial) p S hp
 ·refine (pxwd2 w e js ms n m cs).trans ?_;rw [g1_t];rfl
theorem wide_ex (w:Nat) (e:Nat→Int) (js:Nat→J) (ms:Nat→Ms) (n m:Nat) (j:Nat) (hw:w≤9223372036854775807) (hn:1≤n∧n≤50) (hj:j < 3):∃ cs:Nat→Cn,zH Tryz.prog 13 [.a [.lf n (fJ js),.lf m (fM ms)],.n .i64 (j:Int),.lf w (fQ e)] (.v (.lf j (fC cs))):=by
 obtain ⟨cs,hc⟩:=cons_ex w e js ms n m j hw hn (by omega);refine ⟨fun v=>⟨(cs v).kind,(cs v).link,(cs v).p,(cs v).n,vJJ .i64 ((cs v).lo - 16777216),vJJ .i64 ((cs v).hi + 16777216)⟩,?_⟩
 match j,hj,hc with
 | 0,_,hc=>exact qXV (Same.lf rfl) (zVW (snd_wd0 w e js ms n m cs (yZI rfl hc)))
 | 1,_,hc=>exact qXV (Same.lf rfl) (zVW (snd_wd1 w e js ms n m cs (yZI rfl hc)))
 | 2,_,hc=>exact qXV (Same.lf rfl) (zVW (snd_wd2 w e js ms n m cs (yZI rfl hc)))
end Go.Proofs.YtbfcbojgnppacaaGreat.Sr

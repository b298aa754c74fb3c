/- Part 13 of the texts behind the last one: rules and contracts. No condition. -/
import Derived.Test.YtbfcbojgnppacaaGreatMI12
open Option.some renaming injEq → vQZ
open Prod.mk renaming injEq → vQY
open Bool renaming and_eq_true → vQJ, and_self → vZJ, true_and → vZH
open List renaming getElem?_eq_getElem → vQK, mem_of_getElem? → vQG, getElem?_map → vZY, getD_eq_getElem?_getD → vZG
open Go.IntKind renaming wrap → vJJ
namespace Go.Proofs.YtbfcbojgnppacaaGreat.Ta
open Go.Rx Rt Go.Sx Go.RowKit Od Oe Na Nb Nc Nd Nx Nf Ng Nj Nj2 Nl Nm Pa Pb
theorem gs_nil {F:Nat→Prop} {w:World} {e sz:Nat} {f:Nat→List PV} {v:Value} (h0:0 < sz) (h:RP F w .zs v):GsR F w none (.gs e sz (.lf 0 f)) v:=by
 cases h;refine ⟨.fo 0 f,0,[],rfl,rfl,h0,Al.nil,fun _ h=>(List.not_mem_nil h).elim,fun _ h=>(List.not_mem_nil h).elim,?_⟩;exact ⟨by simp [Rows.len],.inl ⟨rfl,rfl⟩⟩
theorem zs_l {F:Nat→Prop} {w:World} {v:Value} (h:RP F w .zs v):RP F w (.l []) v:=by
 cases h;constructor
theorem q_in {P:Program} {g:Nat} {hs:List HV} {ps ps0 ps':List PV} {x:PV} (h:∀ F w A us,Al (GsR F w A) ps us→∃ A0,(A0=A ∨ A0=none)∧Al (GsR F w A0) ps0 us) (ho:oneG ps0=true) (hq:qHQ P g hs ps0 x ps'):qHQ P g hs ps x ps':=by
 refine ⟨hq.1,fun w F b A vals us ty h1 h2 h3 h4 _ h6 h7 h8 h9 h10 => ?_⟩;obtain ⟨A0,hA,hal⟩:=h F w A us h6;have sub:∀ k,A0.map (·.block)=some k→A.map (·.block)=some k:=fun k hk=>by
  rcases hA with rfl | rfl
  ·exact hk
  ·cases hk
 refine (hq.2 w F b A0 vals us ty h1 h2 h3 h4 ho hal h7 (fun k hk=>h8 k (sub k hk)) h9 h10).mono ?_
 rintro en w' ⟨v,F',us',ty',A',e1,e2,e3,e4,e5,e6,e7,e8,e9⟩
 refine ⟨v,F',us',ty',A',e1,⟨e2.os,e2.tape,e2.output,e2.size,fun k hk hn=>e2.block k hk fun hh=>hn (hh.imp id (sub k))⟩,e3,fun k hk => ?_,e5,e6,e7,e8,fun k hk => ?_⟩
 ·exact (e4 k hk).imp id fun hh=>hh.imp id (sub k)
 ·obtain ⟨d1,d2,d3,d4⟩:=e9 k hk;exact ⟨d1,d2,d3,d4.imp id (sub k)⟩
theorem yHF {P:Program} {g:Nat} {hs:List HV} {ps ps' ps1:List PV} {x:PV} (h:∀ F w A us,Al (GsR F w A) ps' us→∃ A0,(A0=A ∨ A0=none)∧Al (GsR F w A0) ps1 us) (hq:qHQ P g hs ps x ps'):qHQ P g hs ps x ps1:=by
 refine ⟨hq.1,fun w F b A vals us ty h1 h2 h3 h4 h5 h6 h7 h8 h9 h10 => ?_⟩;refine (hq.2 w F b A vals us ty h1 h2 h3 h4 h5 h6 h7 h8 h9 h10).mono ?_
 rintro en w' ⟨v,F',us',ty',A',e1,e2,e3,e4,e5,e6,e7,e8,e9⟩
 obtain ⟨A0,hA,hal⟩:=h F' w' A' us' e7;refine ⟨v,F',us',ty',A0,e1,e2,e3,e4,e5,e6,hal,e8,fun k hk => ?_⟩;rcases hA with rfl | rfl
 ·exact e9 k hk
 ·cases hk
theorem al_map {α β:Type} {R R':α→β→Prop}:∀ {xs xs':List α} {ys:List β},Al R xs ys→xs.length=xs'.length→(∀ (i:Nat) (x x':α) (y:β),xs[i]? = some x→xs'[i]? = some x'→R x y→R' x' y)→Al R' xs' ys:=fun {xs xs' ys} h hl hi =>
 ⟨by rw [← hl]; exact h.1,fun i x' y hx hy=>by
  have hlt:i < xs.length:=by rw [hl]; exact (List.getElem?_eq_some_iff.1 hx).1
  exact hi i xs[i] x' y (vQK hlt) hx (h.2 i _ y (vQK hlt) hy)⟩
theorem jQK (js:Nat→J) (ms:Nat→Ms) (n m:Nat) (cs:Nat→Cn) (c:Nat) (pp qq:Nat→Int) (k:Nat) (D:Int) (s:Exs) (F:Nat→Prop) (w:World) (A:Option Addr) (us:List Value) (hs:s.1=0) (h:Al (GsR F w A) (cZ js ms n m cs c pp qq k D s) us):∃ A0,(A0=A ∨ A0=none)∧Al (GsR F w A0) (cE js ms n m cs c pp qq k D s) us:=by
 obtain ⟨cnt,pd,pi,kd,ad,ai,pr⟩:=s;cases hs;refine ⟨none,.inr rfl,al_map h rfl fun i x x' y hx hx' hr => ?_⟩
 match i,hx,hx' with
 | 0,hx,hx'=>cases hx; cases hx'; exact hr
 | 1,hx,hx'=>cases hx; cases hx'; exact hr
 | 2,hx,hx'=>cases hx; cases hx'; exact hr
 | 3,hx,hx'=>cases hx; cases hx'; exact hr
 | 4,hx,hx'=>cases hx; cases hx'; exact hr
 | 5,hx,hx'=>cases hx; cases hx'; exact hr
 | 6,hx,hx'=>cases hx; cases hx'; exact hr
 | 7,hx,hx'=>cases hx; cases hx'; exact gs_nil (by decide) hr
 | 8,hx,hx'=>cases hx; cases hx'; exact hr
 | 9,hx,hx'=>cases hx; cases hx'; exact hr
 | 10,hx,hx'=>cases hx; cases hx'; exact hr
 | 11,hx,hx'=>cases hx; cases hx'; exact hr
 | 12,hx,hx'=>cases hx; cases hx'; exact hr
 | 13,hx,hx'=>cases hx; cases hx'; exact hr
theorem two_pow {d:Nat} (h:d≤20):(2:Int) ^ d≤1048576:=by
 have:∀ e:Nat,e < 21→(2:Int) ^ e≤1048576:=by decide
 exact this d (by omega)
theorem snd_ex1 (js:Nat→J) (ms:Nat→Ms) (n m:Nat) (cs:Nat→Cn) (c:Nat) (pp qq:Nat→Int) (k:Nat) (D:Int) (_:D≤20) (hk:k≤16) (hc:cErr js ms n m cs c=true) (hc8:c≤50) (x:Nat) (d i:Int) (E:Int→Int→Exs→Bool × Exs) (hE0:∀ t,cex x d t→qHQ Tryz.prog 35 (hex t) (eex js ms n m cs c pp qq k D t) (xex E t) (qex js ms n m cs c pp qq k D E t)) (s:Exs) (_:d + x≤D) (_:d + x=D)
  (h0:0≤d) (hi0:0≤i) (hi1:i < 2 ^ d.toNat) (hp:pcB pp qq k k d i=true∧pIn js ms (jI pp qq d i) n m k=true) (hEx:d < D→∃ y,x=y + 1∧E=exE js ms n m cs c pp qq k y):qHQ Tryz.prog 35 [.p 1000000 0,.v (.n .i64 d),.v (.n .i64 i)] (cE js ms n m cs c pp qq k D s) (.b (exE js ms n m cs c pp qq k x d i s).1) (cE js ms n m cs c pp qq k D (exE js ms n m cs c pp qq k x d i s).2):=by
 obtain ⟨cnt,pd,pi,kd,ad,ai,pr⟩:=s;have hok:OneOkBq Tryz.prog 35 (o_ex js ms n m cs c pp qq k D x d E) (Tf.gq 35):=by
  rw [show Tf.gq 35=true by kernel_rfl];exact ok_fq hE0
 have key:∀ y ps',zVB Tf (orex js ms n m cs c pp qq k D x d i E) (zW []) 60 35 [.p 1000000 0,.v (.n .i64 d),.v (.n .i64 i)] (cE js ms n m cs c pp qq k D (cnt,pd,pi,kd,ad,ai,pr))=some (.v (.t (y :: ps')),[])→qHQ Tryz.prog 35 [.p 1000000 0,.v (.n .i64 d),.v (.n .i64 i)] (cE js ms n m cs c pp qq k D (cnt,pd,pi,kd,ad,ai,pr)) y ps':=fun y ps' h=>by
  refine runBX_soundQ (N:=60) (LO:=zW []) qQC yZ (qQE (l:=[(37,o_lk [.lf k (fQ pp),.lf k (fQ qq),.n .i64 d,.n .i64 i] ((pcB pp qq k k d i && decide (k≤16))) (.v (.t [.lf k (fB (jI pp qq d i)),.b true]))),(39,o_lk [.a [.lf n (fJ js),.lf m (fM ms)],.lf c (fC cs),.lf k (fB (jI pp qq d i))] (((cErr js ms n m cs c) && pIn js ms (jI pp qq d i) n m k)) (.v (.lf c (fB (vE js n cs pp qq d i))))),(43,o_lk [.lf c (fC cs),.lf c (fB (vE js n cs pp qq d i))] ((decide (c≤50))) (.v (.b (hE js ms n m cs c pp qq k d i)))),(53,o_lk [.lf c (fC cs),.lf c (fB (vE js n cs pp qq d i))] ((decide (c≤50))) (.v (.t [.n .i64 (yE js ms n m cs c pp qq k d i),.b (bE js ms n m cs c pp qq k d i)])))]) (m:=[(35,o_ex js ms n m cs c pp qq k D x d E)]) ⟨zJC fun h => ?_,zJC fun h => ?_,zJC fun _ => ?_,zJC fun _ => ?_,trivial⟩ ⟨hok,trivial⟩) (fun p S hp => ?_) h
  ·rw [vQJ] at h
   have:=snd_ppc pp qq k k d i (vJZ h.2) (by omega)
   rw [h.1] at this;exact this
  ·rw [vQJ] at h;exact zKI js ms (jI pp qq d i) n m k cs c h.1 h.2
  ·exact zVV cs (vE js n cs pp qq d i) c hc8
  ·exact snd_brkn cs (vE js n cs pp qq d i) c hc8
  ·exact yX (L:=qG Tf 35) (l:=[]) (show AllP _ [] from trivial) p S hp
 have tr:=pxex js ms n m cs c pp qq k D x d i E cnt pd pi kd ad ai pr;have g1':(pcB pp qq k k d i && decide (k≤16))=true:=by rw [hp.1,vJQ hk]; rfl
 have g2':((cErr js ms n m cs c) && pIn js ms (jI pp qq d i) n m k)=true:=by rw [hc,hp.2]; rfl
 simp only [g1_t,g1',g2',vJQ hc8,vZJ,vYV] at tr;unfold exE exR;by_cases h1:4096≤cnt
 ·rw [if_pos h1];rw [vJQ (show (4096:Int)≤(cnt:Int) by omega)] at tr;exact yHF (fun F w A us=>jQK js ms n m cs c pp qq k D _ F w A us rfl) (key _ _ tr)
 rw [if_neg h1];rw [vYH (show ¬ (4096:Int)≤(cnt:Int) by omega)] at tr;by_cases h2:hE js ms n m cs c pp qq k d i=true
 ·rw [if_pos h2];rw [h2,vJQ (show cnt + 1≤1000000 by omega)] at tr;exact key _ _ tr
 rw [if_neg h2];rw [Bool.eq_false_iff.2 h2] at tr;by_cases h3:bE js ms n m cs c pp qq k d i=true
 ·rw [if_pos h3];rw [h3] at tr;exact yHF (fun F w A us=>jQK js ms n m cs c pp qq k D _ F w A us rfl) (key _ _ tr)
 rw [if_neg h3];rw [Bool.eq_false_iff.2 h3] at tr;by_cases h4:d < D
 ·obtain ⟨y,rfl,rfl⟩:=hEx h4;have p1:=two_pow (d:=(d + 1).toNat) (by omega);have hq:(2:Int) ^ (d + 1).toNat=2 * 2 ^ d.toNat:=by rw [show (d + 1).toNat=d.toNat + 1 by omega,Int.pow_succ]; omega
  have w1:vJJ .i64 (d + 1)=d + 1:=qK (by omega);have w2:vJJ .i64 (2 * i)=2 * i:=qK (by omega);have w3:vJJ .i64 (2 * i + 1)=2 * i + 1:=qK (by omega);rw [vJQ h4,w1,w2,w3,qQH (C:=cex (y + 1) d) (t:=(d + 1,2 * i,(cnt,pd,pi,kd,ad,ai,pr))) ⟨rfl,by show 0≤2 * i; omega,by show 2 * i < _; omega⟩] at tr;simp only [vYV] at tr;show qHQ _ _ _ _ (.b (if (exE js ms n m cs c pp qq k y (d + 1) (2 * i) (cnt,pd,pi,kd,ad,ai,pr)).1=true then exE js ms n m cs c pp qq k y (d + 1) (2 * i + 1) (exE js ms n m cs c pp qq k y (d + 1) (2 * i) (cnt,pd,pi,kd,ad,ai,pr)).2 else exE js ms n m cs c pp qq k y (d + 1) (2 * i) (cnt,pd,pi,kd,ad,ai,pr)).1) (cE js ms n m cs c pp qq k D (if (exE js ms n m cs c pp qq k y (d + 1) (2 * i) (cnt,pd,pi,kd,ad,ai,pr)).1=true then exE js ms n m cs c pp qq k y (d + 1) (2 * i + 1) (exE js ms n m cs c pp qq k y (d + 1) (2 * i) (cnt,pd,pi,kd,ad,ai,pr)).2 else exE js ms n m cs c pp qq k y (d + 1) (2 * i) (cnt,pd,pi,kd,ad,ai,pr)).2);by_cases h5:(exE js ms n m cs c pp qq k y (d + 1) (2 * i) (cnt,pd,pi,kd,ad,ai,pr)).1=true
  ·rw [if_pos h5];rw [h5,qQH (C:=cex (y + 1) d) (t:=(d + 1,2 * i + 1,(exE js ms n m cs c pp qq k y (d + 1) (2 * i) (cnt,pd,pi,kd,ad,ai,pr)).2)) ⟨rfl,by show 0≤2 * i + 1; omega,by show 2 * i + 1 < _; omega⟩] at tr;simp only [vYV] at tr;cases h6:(exE js ms n m cs c pp qq k y (d + 1) (2 * i + 1) (exE js ms n m cs c pp qq k y (d + 1) (2 * i) (cnt,pd,pi,kd,ad,ai,pr)).2).1 with
   | true=>rw [h6] at tr; exact key _ _ tr
   | false=>rw [h6] at tr; exact key _ _ tr
  ·rw [if_neg h5];rw [Bool.eq_false_iff.2 h5] at tr;rw [Bool.eq_false_iff.2 h5];exact key _ _ tr
 ·rw [vYH h4] at tr;have hx0:x=0:=by omega
  subst hx0;exact yHF (fun F w A us=>jQK js ms n m cs c pp qq k D _ F w A us rfl) (key _ _ tr)
theorem snd_ex (js:Nat→J) (ms:Nat→Ms) (n m:Nat) (cs:Nat→Cn) (c:Nat) (pp qq:Nat→Int) (k:Nat) (D:Int) (hD:D≤20) (hk:k≤16) (hc:cErr js ms n m cs c=true) (hp:∀ d i,0≤d→d≤20→0≤i→i < 2 ^ d.toNat→pcB pp qq k k d i=true∧pIn js ms (jI pp qq d i) n m k=true) :
  ∀ (x:Nat) (d i:Int) (s:Exs),d + x=D→0≤d→0≤i→i < 2 ^ d.toNat→qHQ Tryz.prog 35 [.p 1000000 0,.v (.n .i64 d),.v (.n .i64 i)] (cE js ms n m cs c pp qq k D s) (.b (exE js ms n m cs c pp qq k x d i s).1) (cE js ms n m cs c pp qq k D (exE js ms n m cs c pp qq k x d i s).2):=by
 have hc8:c≤50:=by have:=(qKE hc).2.1; omega
 intro x;induction x with
 | zero =>
  intro d i s hd h0 hi0 hi1;refine snd_ex1 js ms n m cs c pp qq k D hD hk hc hc8 0 d i (exE js ms n m cs c pp qq k 0) (fun t h=>h.elim) s (by omega) (by omega) h0 hi0 hi1 (hp d i h0 (by omega) hi0 hi1) (fun h=>absurd h (by omega))
 | succ x ih =>
  intro d i s hd h0 hi0 hi1;have hq:(2:Int) ^ (d + 1).toNat=2 * 2 ^ d.toNat:=by rw [show (d + 1).toNat=d.toNat + 1 by omega,Int.pow_succ]; omega
  refine snd_ex1 js ms n m cs c pp qq k D hD hk hc hc8 (x + 1) d i (exE js ms n m cs c pp qq k x) (fun t h => ?_) s (by omega) (by omega) h0 hi0 hi1 (hp d i h0 (by omega) hi0 hi1) (fun _=>⟨x,rfl,rfl⟩);obtain ⟨h1,h2,h3⟩:=h;rw [show hex t=[.p 1000000 0,.v (.n .i64 t.1),.v (.n .i64 t.2.1)] from rfl];exact ih t.1 t.2.1 t.2.2 (by omega) (by omega) h2 (by rw [h1]; exact h3)
end Go.Proofs.YtbfcbojgnppacaaGreat.Ta
namespace Go.Proofs.YtbfcbojgnppacaaGreat.Tb
open Go.Rx Rt Go.Sx Go.RowKit Od Oe Na Nb Nc Nd Nx Nf Ng Nj Nj2 Nl Nm Pa Pb Ta
theorem bz {c:Bool} {x y:Int} (h:(bif c then x else y)=0) (hx:x ≠ 0):c=false∧y=0:=by
 cases c with
 | true=>exact absurd h hx
 | false=>exact ⟨rfl,h⟩
theorem cj_lim {i:Int} {j:J} (h:cjT (fun e=>e) i j=0) : -4194304≤j.lo∧j.lo≤j.hi∧j.hi≤4194304:=by
 unfold cjT at h
 iterate 10 obtain ⟨_,h⟩:=bz h (by decide)
 by_cases k0:j.kind=0
 ·rw [vJQ k0,vYV] at h;obtain ⟨a,h⟩:=bz h (by decide);obtain ⟨b,h⟩:=bz h (by decide);obtain ⟨c,h⟩:=bz h (by decide);have a:=vJY a;have b:=vJY b;have c:=vJY c;omega
 rw [vYH k0,vYG] at h;by_cases k1:j.kind=1
 ·rw [vJQ k1,vYV] at h;obtain ⟨a,h⟩:=bz h (by decide);obtain ⟨b,h⟩:=bz h (by decide);obtain ⟨c,h⟩:=bz h (by decide);have a:=vJY a;have b:=vJY b;have c:=vJY c;omega
 rw [vYH k1,vYG] at h;by_cases k2:j.kind=2
 ·rw [vJQ k2,vYV] at h;obtain ⟨a,h⟩:=bz h (by decide);obtain ⟨b,h⟩:=bz h (by decide);obtain ⟨c,h⟩:=bz h (by decide);have a:=vJY a;have b:=vJY b;have c:=vJY c;omega
 rw [vYH k2,vYG] at h;by_cases k3:j.kind=3
 ·rw [vJQ k3,vYV] at h;obtain ⟨a,h⟩:=bz h (by decide);obtain ⟨b,h⟩:=bz h (by decide);obtain ⟨c,h⟩:=bz h (by decide);have a:=vJY a;have b:=vJY b;have c:=vJY c;omega
 rw [vYH k3,vYG] at h;obtain ⟨a,h⟩:=bz h (by decide);obtain ⟨b,h⟩:=bz h (by decide);obtain ⟨c,h⟩:=bz h (by decide);have a:=vJY a;have b:=vJY b;have c:=vJY c;omega
theorem rerr_lim {js:Nat→J} {ms:Nat→Ms} {n m:Nat} (h:rErr js ms n m=0):∀ i,i < n → -4194304≤(js i).lo∧(js i).lo≤(js i).hi∧(js i).hi≤4194304:=fun i hi =>
 cj_lim (jerr_cj (yWU (rerr_je h) i (Nat.zero_le _) (by omega)))
theorem fl_ce {x y N A B:Int} (hN:0 < N) (_:x≤y) (h1:A * N≤x) (_:y≤B * N):A≤x / N∧x / N ≤ -((0 - y) / N) ∧ -((0 - y) / N)≤B:=by
 have a1:=Int.ediv_mul_le x (show N ≠ 0 by omega);have a2:=Int.ediv_mul_le (0 - y) (show N ≠ 0 by omega);have a3:A≤x / N:=(Int.le_ediv_iff_mul_le hN).2 h1;have a4 : -B≤(0 - y) / N:=(Int.le_ediv_iff_mul_le hN).2 (by rw [Int.neg_mul]; omega);refine ⟨a3,?_,by omega⟩;have a5:(x / N + (0 - y) / N) * N≤0:=by rw [Int.add_mul]; omega
 have a6:x / N + (0 - y) / N≤0:=Int.not_lt.1 fun h=>by
  have:=Int.mul_pos h hN
  omega
 omega
theorem jI_val {pp qq:Nat→Int} {d j:Int} {i:Nat} (hd:0≤d∧d≤20) (hj:0≤j∧j < 2 ^ d.toNat) (_: -4194304≤pp i∧pp i≤4194304) (_: -4194304≤qq i∧qq i≤4194304) :
  pMn pp qq j i=min (j * (qq i - pp i)) ((j + 1) * (qq i - pp i))∧pMx pp qq j i=max (j * (qq i - pp i)) ((j + 1) * (qq i - pp i)) ∧ -4503599627370496≤pMn pp qq j i∧pMn pp qq j i≤pMx pp qq j i∧pMx pp qq j i≤4503599627370496∧(2:Int) ^ d.toNat≤1048576∧min d.toNat 64=d.toNat:=by
 obtain ⟨e,n1,n2⟩:=yUU hd;obtain ⟨n,rfl⟩:∃ n:Nat,d=(n:Int):=⟨d.toNat,by omega⟩
 obtain ⟨p1,p2,p3,p4⟩:=pN_pow n (by omega);rw [Int.toNat_natCast] at hj ⊢;have hu:=mbd (a:=j) (b:=qq i - pp i) (by omega) (by omega);have hw:=mbd (a:=j + 1) (b:=qq i - pp i) (by omega) (by omega);have eu:pU pp qq j i=j * (qq i - pp i):=by unfold pU; rw [qK (x:=qq i - pp i) (by omega),qK (by omega)]
 have ew:pW pp qq j i=(j + 1) * (qq i - pp i):=by unfold pW; rw [qK (x:=qq i - pp i) (by omega),qK (x:=j + 1) (by omega),qK (by omega)]
 unfold pMn pMx;rw [eu,ew];refine ⟨rfl,rfl,?_,?_,?_,p3,p4⟩ <;> omega
theorem jI_in {pp qq:Nat→Int} {d j lo hi:Int} {i:Nat} (hd:0≤d∧d≤20) (hj:0≤j∧j < 2 ^ d.toNat) (_:lo≤pp i∧pp i≤hi) (_:lo≤qq i∧qq i≤hi) (_: -4194304≤lo∧lo≤hi∧hi≤4194304):Iv.within (jI pp qq d j i) ⟨lo,hi⟩=true:=by
 obtain ⟨e1,e2,b1,b2,b3,b4,b5⟩:=jI_val (pp:=pp) (qq:=qq) (i:=i) hd hj (by omega) (by omega);have key:∃ A B,A * 2 ^ d.toNat≤pMn pp qq j i∧pMx pp qq j i≤B * 2 ^ d.toNat∧lo≤pp i + A∧pp i + B≤hi:=by
  rw [e1,e2];by_cases h:0≤qq i - pp i
  ·have g1:0≤j * (qq i - pp i):=Int.mul_nonneg hj.1 h;have g2:(j + 1) * (qq i - pp i)≤2 ^ d.toNat * (qq i - pp i):=Int.mul_le_mul_of_nonneg_right (by omega) h;have g3:(j + 1) * (qq i - pp i)=j * (qq i - pp i) + (qq i - pp i):=by rw [Int.add_mul,Int.one_mul]
   refine ⟨0,qq i - pp i,by omega,?_,by omega,by omega⟩;rw [Int.mul_comm (qq i - pp i)]; omega
  ·have g1:j * (qq i - pp i)≤0:=Int.mul_nonpos_of_nonneg_of_nonpos hj.1 (by omega);have g2:2 ^ d.toNat * (qq i - pp i)≤(j + 1) * (qq i - pp i):=Int.mul_le_mul_of_nonpos_right (by omega) (by omega);have g3:(j + 1) * (qq i - pp i)=j * (qq i - pp i) + (qq i - pp i):=by rw [Int.add_mul,Int.one_mul]
   refine ⟨qq i - pp i,0,?_,by omega,by omega,by omega⟩;rw [Int.mul_comm (qq i - pp i)]; omega
 obtain ⟨A,B,k1,k2,k3,k4⟩:=key;have hN:(0:Int) < 2 ^ d.toNat:=Int.pow_pos (by decide);obtain ⟨f1,f2,f3⟩:=fl_ce hN b2 k1 k2;have el:jLo pp qq d j i=pp i + pMn pp qq j i / 2 ^ d.toNat:=by
  unfold jLo;rw [b5,Int.fdiv_eq_ediv_of_nonneg _ (by omega),qK (by omega)]
 have eh:jHi pp qq d j i=pp i - (0 - pMx pp qq j i) / 2 ^ d.toNat:=by
  unfold jHi;rw [b5,qK (x:=0 - pMx pp qq j i) (by omega),Int.fdiv_eq_ediv_of_nonneg _ (by omega),qK (by omega)]
 unfold Iv.within Iv.valid jI;simp only [el,eh,vQJ,decide_eq_true_eq];refine ⟨⟨⟨⟨⟨?_,?_⟩,?_⟩,⟨?_,?_⟩,?_⟩,?_⟩,?_⟩ <;> omega
theorem yKK {js:Nat→J} {ms:Nat→Ms} {n m:Nat} {pp qq:Nat→Int} {k:Nat} (hp:qIn js ms pp n m k=true) (hq:qIn js ms qq n m k=true) (d i:Int) (h0:0≤d) (h1:d≤20) (h2:0≤i) (h3:i < 2 ^ d.toNat):pcB pp qq k k d i=true∧pIn js ms (jI pp qq d i) n m k=true:=by
 obtain ⟨r0,hn,p1⟩:=qUU hp;obtain ⟨_,_,q1⟩:=qUU hq;have hl:=rerr_lim r0;subst hn;have sm:∀ x:Nat→Int,(∀ v,v < n→(js v).lo≤x v∧x v≤(js v).hi)→smQ x n=true:=fun x hx=>allN_iff.2 fun v _ hv=>by
  have a:=hx v (by omega);have b:=hl v (by omega);rw [vYH (show ¬ x v < -2147483648 by omega),vYH (show ¬ 2147483648 < x v by omega)];rfl
 constructor
 ·obtain ⟨e,_,_⟩:=yUU ⟨h0,h1⟩;have e2:min d.toNat 64=d.toNat:=by omega
  unfold pcB mtB;rw [sm pp p1,sm qq q1,vJQ (show (n:Int)=(n:Int) from rfl),vJQ h0,vJQ h1,vJQ h2,e,e2,vJQ h3];rfl
 ·unfold pIn insB;rw [vJQ r0,vJQ (show (n:Int)=(n:Int) from rfl),vZH,vZH];exact allN_iff.2 fun v _ hv=>jI_in ⟨h0,h1⟩ ⟨h2,h3⟩ (p1 v (by omega)) (q1 v (by omega)) (hl v (by omega))
noncomputable def o_in (js:Nat→J) (ms:Nat→Ms) (n m:Nat):List PV→Option (Bool × Ret):=fun ps=>match ps with
 | [_,.lf k f]=>some (gEq (.t ps) (.t [.a [.lf n (fJ js),.lf m (fM ms)],.lf k (fQ (unFQ f))]),.v (.b (qIn js ms (unFQ f) n m k)))
 | _=>none
theorem yVE (js:Nat→J) (ms:Nat→Ms) (n m:Nat):zY Tryz.prog 34 (o_in js ms n m):=by
 intro ps q hh;unfold o_in at hh;split at hh
 ·simp only [vQZ,vQY] at hh;obtain ⟨hg,rfl⟩:=hh
  have:=zQV hg
  simp only [PV.t.injEq] at this;rw [this];exact snd_qIn js ms _ n m _
 ·cases hh
def cP (js:Nat→J) (ms:Nat→Ms) (n m:Nat) (cs:Nat→Cn) (c:Nat) (pp qq:Nat→Int) (k:Nat) (l:Nat) (D:Int):List PV:=[.lf n (fJ js),.lf m (fM ms),.lf c (fC cs),.lf k (fQ pp),.lf l (fQ qq),.n .i64 D,.n .i64 0,.zs,.n .i64 0,.n .i64 0,.zs,.n .i64 0,.zs,.zs]
theorem cp_ce (js:Nat→J) (ms:Nat→Ms) (n m:Nat) (cs:Nat→Cn) (c:Nat) (pp qq:Nat→Int) (k:Nat) (D:Int) (F:Nat→Prop) (w:World) (A:Option Addr) (us:List Value) (h:Al (GsR F w A) (cP js ms n m cs c pp qq k k D) us):∃ A0,(A0=A ∨ A0=none)∧Al (GsR F w A0) (cE js ms n m cs c pp qq k D (0,z0,z0,0,0,0,0)) us:=by
 refine ⟨none,.inr rfl,al_map h rfl fun i x x' y hx hx' hr => ?_⟩
 match i,hx,hx' with
 | 0,hx,hx'=>cases hx; cases hx'; exact hr
 | 1,hx,hx'=>cases hx; cases hx'; exact hr
 | 2,hx,hx'=>cases hx; cases hx'; exact hr
 | 3,hx,hx'=>cases hx; cases hx'; exact hr
 | 4,hx,hx'=>cases hx; cases hx'; exact hr
 | 5,hx,hx'=>cases hx; cases hx'; exact hr
 | 6,hx,hx'=>cases hx; cases hx'; exact hr
 | 7,hx,hx'=>cases hx; cases hx'; exact gs_nil (by decide) hr
 | 8,hx,hx'=>cases hx; cases hx'; exact hr
 | 9,hx,hx'=>cases hx; cases hx'; exact hr
 | 10,hx,hx'=>cases hx; cases hx'; exact zs_l hr
 | 11,hx,hx'=>cases hx; cases hx'; exact hr
 | 12,hx,hx'=>cases hx; cases hx'; exact hr
 | 13,hx,hx'=>cases hx; cases hx'; exact hr
noncomputable def exP (js:Nat→J) (ms:Nat→Ms) (n m:Nat) (cs:Nat→Cn) (c:Nat) (pp qq:Nat→Int) (k:Nat) (D:Int):Bool × Exs:=exE js ms n m cs c pp qq k D.toNat 0 0 (0,z0,z0,0,0,0,0)
theorem snd_ex0 (js:Nat→J) (ms:Nat→Ms) (n m:Nat) (cs:Nat→Cn) (c:Nat) (pp qq:Nat→Int) (k:Nat) (D:Int) (hD:0≤D∧D≤20) (hc:cErr js ms n m cs c=true) (hp:qIn js ms pp n m k=true) (hq:qIn js ms qq n m k=true):qHQ Tryz.prog 35 [.p 1000000 0,.v (.n .i64 0),.v (.n .i64 0)] (cP js ms n m cs c pp qq k k D) (.b (exP js ms n m cs c pp qq k D).1) (cE js ms n m cs c pp qq k D (exP js ms n m cs c pp qq k D).2):=by
 have hk:=yQV (qUU hp).1;have hkn:=(qUU hp).2.1;exact q_in (fun F w A us=>cp_ce js ms n m cs c pp qq k D F w A us) rfl (snd_ex js ms n m cs c pp qq k D hD.2 (by omega) hc (yKK hp hq) D.toNat 0 0 (0,z0,z0,0,0,0,0) (by omega) (by omega) (by omega) (by decide))
noncomputable def o_xp (js:Nat→J) (ms:Nat→Ms) (n m:Nat) (cs:Nat→Cn) (c:Nat) (pp qq:Nat→Int) (k:Nat) (l:Nat) (D:Int):List HV→List PV→Option (Bool × (PV × List PV)):=o_fb (fun _ _=>()) (fun _=>(0≤D∧D≤20)∧cErr js ms n m cs c=true∧qIn js ms pp n m k=true∧qIn js ms qq n m l=true) (fun _=>[.p 1000000 0,.v (.n .i64 0),.v (.n .i64 0)]) (fun _=>cP js ms n m cs c pp qq k l D) (fun _=>.b (exP js ms n m cs c pp qq k D).1) (fun _=>cE js ms n m cs c pp qq k D (exP js ms n m cs c pp qq k D).2)
theorem ok_xp (js:Nat→J) (ms:Nat→Ms) (n m:Nat) (cs:Nat→Cn) (c:Nat) (pp qq:Nat→Int) (k:Nat) (l:Nat) (D:Int):OneOkBq Tryz.prog 35 (o_xp js ms n m cs c pp qq k l D) (Tf.gq 35):=by
 rw [show Tf.gq 35=true by kernel_rfl];refine ok_fq fun _ h => ?_
 have e:l=k:=by rw [← (qUU h.2.2.1).2.1,← (qUU h.2.2.2).2.1]
 subst e;exact snd_ex0 js ms n m cs c pp qq l D h.1 h.2.1 h.2.2.1 h.2.2.2
noncomputable def gxp (js:Nat→J) (ms:Nat→Ms) (n m:Nat) (cs:Nat→Cn) (c:Nat) (pp qq:Nat→Int) (k:Nat) (l:Nat) (D:Int):Bool:=gB1 (fun _:Unit=>(0≤D∧D≤20)∧cErr js ms n m cs c=true∧qIn js ms pp n m k=true∧qIn js ms qq n m l=true) (fun _=>[.p 1000000 0,.v (.n .i64 0),.v (.n .i64 0)]) (fun _=>cP js ms n m cs c pp qq k l D) ()
def rE (s:Exs):PV:=.a [.n .i64 s.2.2.2.1,.lf s.1 (p3 s.2.1 s.2.2.1),.n .i64 s.2.2.2.2.1,.n .i64 s.2.2.2.2.2.1,.l [],.n .i64 s.2.2.2.2.2.2,.l [],.l []]
def okE (js:Nat→J) (ms:Nat→Ms) (n m:Nat) (cs:Nat→Cn) (c:Nat) (pp qq:Nat→Int) (k:Nat) (l:Nat) (D:Int):Bool:=(cErr js ms n m cs c) && (qIn js ms pp n m k && (qIn js ms qq n m l && (decide (0≤D) && decide (D≤20))))
noncomputable def prE (js:Nat→J) (ms:Nat→Ms) (n m:Nat) (cs:Nat→Cn) (c:Nat) (pp qq:Nat→Int) (k:Nat) (l:Nat) (D:Int):Exs:=bif okE js ms n m cs c pp qq k l D then (bif (exP js ms n m cs c pp qq k D).1 then ((exP js ms n m cs c pp qq k D).2.1,(exP js ms n m cs c pp qq k D).2.2.1,(exP js ms n m cs c pp qq k D).2.2.2.1,1,(exP js ms n m cs c pp qq k D).2.2.2.2.2) else (exP js ms n m cs c pp qq k D).2) else (0,z0,z0,0,0,0,0)
noncomputable def orpr (js:Nat→J) (ms:Nat→Ms) (n m:Nat) (cs:Nat→Cn) (c:Nat) (pp qq:Nat→Int) (k:Nat) (l:Nat) (D:Int):OrS:=orS [(33,o_cr [.a [.lf n (fJ js),.lf m (fM ms)],.lf c (fC cs)] (.v (.b (cErr js ms n m cs c)))),(34,o_in js ms n m)] [(35,o_xp js ms n m cs c pp qq k l D)]
set_option maxRecDepth 100000 in
theorem pxpr (js:Nat→J) (ms:Nat→Ms) (n m:Nat) (cs:Nat→Cn) (c:Nat) (pp qq:Nat→Int) (k:Nat) (l:Nat) (D:Int):qJE Tf (orpr js ms n m cs c pp qq k l D) (zW []) 60 16 [.a [.lf n (fJ js),.lf m (fM ms)],.lf c (fC cs),.lf k (fQ pp),.lf l (fQ qq),.n .i64 D] =
 (bif (g1 [.a [.lf n (fJ js),.lf m (fM ms)],.lf c (fC cs)]) then (bif (cErr js ms n m cs c) then (bif (g1 [.a [.lf n (fJ js),.lf m (fM ms)],.lf k (fQ pp)]) then (bif (qIn js ms pp n m k) then (bif (g1 [.a [.lf n (fJ js),.lf m (fM ms)],.lf l (fQ qq)]) then (bif (qIn js ms qq n m l) then (bif (decide (D < 0)) then some (.v (.a [.n .i64 0,.l [],.n .i64 0,.n .i64 0,.l [],.n .i64 0,.l [],.l []]),[])
 else (bif (decide (20 < D)) then some (.v (.a [.n .i64 0,.l [],.n .i64 0,.n .i64 0,.l [],.n .i64 0,.l [],.l []]),[])
 else (bif (gxp js ms n m cs c pp qq k l D) then (bif (exP js ms n m cs c pp qq k D).1 then some (.v (.a [.n .i64 1,.lf (exP js ms n m cs c pp qq k D).2.1 (fun v=>[.n .i64 ((exP js ms n m cs c pp qq k D).2.2.1 v),.n .i64 ((exP js ms n m cs c pp qq k D).2.2.2.1 v),.l []]),.n .i64 (exP js ms n m cs c pp qq k D).2.2.2.2.2.1,.n .i64 (exP js ms n m cs c pp qq k D).2.2.2.2.2.2.1,.l [],.n .i64 (exP js ms n m cs c pp qq k D).2.2.2.2.2.2.2,.l [],.l []]),[])
 else some (.v (.a [.n .i64 (exP js ms n m cs c pp qq k D).2.2.2.2.1,.lf (exP js ms n m cs c pp qq k D).2.1 (fun v=>[.n .i64 ((exP js ms n m cs c pp qq k D).2.2.1 v),.n .i64 ((exP js ms n m cs c pp qq k D).2.2.2.1 v),.l []]),.n .i64 (exP js ms n m cs c pp qq k D).2.2.2.2.2.1,.n .i64 (exP js ms n m cs c pp qq k D).2.2.2.2.2.2.1,.l [],.n .i64 (exP js ms n m cs c pp qq k D).2.2.2.2.2.2.2,.l [],.l []]),[]))
 else none)))
 else some (.v (.a [.n .i64 0,.l [],.n .i64 0,.n .i64 0,.l [],.n .i64 0,.l [],.l []]),[]))
 else none)
 else some (.v (.a [.n .i64 0,.l [],.n .i64 0,.n .i64 0,.l [],.n .i64 0,.l [],.l []]),[]))
 else none)
 else some (.v (.a [.n .i64 0,.l [],.n .i64 0,.n .i64 0,.l [],.n .i64 0,.l [],.l []]),[]))
 else none):=by kernel_rfl
theorem snd_pr0 (js:Nat→J) (ms:Nat→Ms) (n m:Nat) (cs:Nat→Cn) (c:Nat) (pp qq:Nat→Int) (k:Nat) (l:Nat) (D:Int):zH Tryz.prog 16 [.a [.lf n (fJ js),.lf m (fM ms)],.lf c (fC cs),.lf k (fQ pp),.lf l (fQ qq),.n .i64 D] (bif okE js ms n m cs c pp qq k l D then .v (rE (prE js ms n m cs c pp qq k l D)) else .v (.a [.n .i64 0,.l [],.n .i64 0,.n .i64 0,.l [],.n .i64 0,.l [],.l []])):=by
 refine yV (N:=60) (LO:=zW []) qQC yZ (qQE (l:=[(33,o_cr [.a [.lf n (fJ js),.lf m (fM ms)],.lf c (fC cs)] (.v (.b (cErr js ms n m cs c)))),(34,o_in js ms n m)]) (m:=[(35,o_xp js ms n m cs c pp qq k l D)]) ⟨qQI (yQJ js ms n m cs c),yVE js ms n m,trivial⟩ ⟨ok_xp js ms n m cs c pp qq k l D,trivial⟩) (fun p S hp=>yX (L:=qG Tf 16) (l:=[]) (show AllP _ [] from trivial) p S hp) ?_;refine (pxpr js ms n m cs c pp qq k l D).trans ?_;simp only [g1_t,vYV];unfold prE okE;cases hc:(cErr js ms n m cs c) with
 | false=>rfl
 | true =>
  cases hp:qIn js ms pp n m k with
  | false=>rfl
  | true =>
   cases hq:qIn js ms qq n m l with
   | false=>rfl
   | true =>
    by_cases h0:D < 0
    ·rw [vJQ h0,vYH (show ¬ 0≤D by omega)]; rfl
    ·by_cases h1:20 < D
     ·rw [vYH h0,vJQ h1,vYH (show ¬ D≤20 by omega),Bool.and_false]; rfl
     ·rw [vYH h0,vYH h1,vJQ (show D≤20 by omega),vJQ (show 0≤D by omega),show gxp js ms n m cs c pp qq k l D=true from qQH ⟨⟨by omega,by omega⟩,hc,hp,hq⟩];cases (exP js ms n m cs c pp qq k D).1 <;> rfl
theorem snd_pr (js:Nat→J) (ms:Nat→Ms) (n m:Nat) (cs:Nat→Cn) (c:Nat) (pp qq:Nat→Int) (k:Nat) (l:Nat) (D:Int):zH Tryz.prog 16 [.a [.lf n (fJ js),.lf m (fM ms)],.lf c (fC cs),.lf k (fQ pp),.lf l (fQ qq),.n .i64 D] (.v (rE (prE js ms n m cs c pp qq k l D))):=by
 have h:=snd_pr0 js ms n m cs c pp qq k l D;cases hk:okE js ms n m cs c pp qq k l D with
 | true=>rw [hk] at h; exact h
 | false =>
  rw [hk] at h;unfold prE;rw [hk];exact qXV (Same.a (xs:=[_,_,_,_,_,_,_,_]) ⟨Same.refl _,Same.lf rfl,Same.refl _,Same.refl _,Same.refl _,Same.refl _,Same.refl _,Same.refl _,trivial⟩) h
end Go.Proofs.YtbfcbojgnppacaaGreat.Tb
namespace Go.Proofs.YtbfcbojgnppacaaGreat.Uc
open Go.Rx Rt Go.Sx Go.RowKit Od Oe Na Nb Nc Nd Nx Nf Ng Nj Nj2 Nl Nm Pa Pb Ta Tb
def tLen (d:Int):Int:=2 ^ (20 - d.toNat)
def OkPc (d i:Int):Prop:=0≤d∧d≤20∧0≤i∧i < 2 ^ d.toNat
def Seg (h:Int→Int→Bool) (a b:Nat) (pd pi:Nat→Int) (x y:Int):Prop:=∃ pl:Nat→Int,pl a=x∧pl b=y∧∀ v,a≤v→v < b→OkPc (pd v) (pi v)∧h (pd v) (pi v)=true∧pi v * tLen (pd v)=pl v∧pl (v + 1)=pl v + tLen (pd v)
theorem Seg.trans {h:Int→Int→Bool} {a b c:Nat} {pd pi:Nat→Int} {x y z:Int} (hab:a≤b) (h1:Seg h a b pd pi x y) (h2:Seg h b c pd pi y z) (_:b≤c):Seg h a c pd pi x z:=by
 obtain ⟨p,p1,p2,p3⟩:=h1;obtain ⟨q,q1,q2,q3⟩:=h2;refine ⟨fun v=>if v≤b then p v else q v,by simp only [if_pos hab]; exact p1,?_,fun v hv hc => ?_⟩
 ·by_cases e:c≤b
  ·have:c=b:=by omega
   subst this;simp only [Nat.le_refl,if_true];rw [p2,← q1,q2]
  ·simp only [if_neg e]; exact q2
 ·by_cases e:v < b
  ·obtain ⟨r1,r2,r3,r4⟩:=p3 v hv e;refine ⟨r1,r2,?_,?_⟩
   ·simp only [if_pos (show v≤b by omega)]; exact r3
   ·simp only [if_pos (show v≤b by omega),if_pos (show v + 1≤b by omega)]; exact r4
  ·obtain ⟨r1,r2,r3,r4⟩:=q3 v (by omega) hc;have e0:(if v≤b then p v else q v)=q v:=by
    by_cases e1:v=b
    ·subst e1; rw [if_pos (Nat.le_refl _),p2,q1]
    ·rw [if_neg (by omega)]
   refine ⟨r1,r2,?_,?_⟩
   ·show _=(if v≤b then p v else q v); rw [e0]; exact r3
   ·show (if v + 1≤b then p (v + 1) else q (v + 1))=(if v≤b then p v else q v) + _;rw [e0,if_neg (show ¬ v + 1≤b by omega)]; exact r4
theorem Seg.congr {h:Int→Int→Bool} {a b:Nat} {pd pi pd' pi':Nat→Int} {x y:Int} (e:∀ v,v < b→pd' v=pd v∧pi' v=pi v) (h1:Seg h a b pd pi x y):Seg h a b pd' pi' x y:=by
 obtain ⟨p,p1,p2,p3⟩:=h1;refine ⟨p,p1,p2,fun v hv hb => ?_⟩;rw [(e v hb).1,(e v hb).2];exact p3 v hv hb
theorem Seg.one {h:Int→Int→Bool} {a:Nat} {pd pi:Nat→Int} (k:OkPc (pd a) (pi a)) (hh:h (pd a) (pi a)=true):Seg h a (a + 1) pd pi (pi a * tLen (pd a)) (pi a * tLen (pd a) + tLen (pd a)) :=
 ⟨fun v=>if v=a then pi a * tLen (pd a) else pi a * tLen (pd a) + tLen (pd a),by simp,by simp,fun v h1 h2=>by
  obtain rfl:v=a:=by omega
  exact ⟨k,hh,by simp,by simp⟩⟩
theorem tLen_half {d:Int} (_:0≤d) (_:d < 20):tLen d=2 * tLen (d + 1):=by
 unfold tLen;rw [show (d + 1).toNat=d.toNat + 1 by omega,show 20 - d.toNat=(20 - (d.toNat + 1)) + 1 by omega,Int.pow_succ]; omega
def ExEnd (h b:Int→Int→Bool) (y:Int→Int→Int) (D d i:Int) (s:Exs) (r:Bool × Exs):Prop :=
 (r.1=true∧s.1≤r.2.1∧(∀ v,v < s.1→r.2.2.1 v=s.2.1 v∧r.2.2.2.1 v=s.2.2.1 v)∧Seg h s.1 r.2.1 r.2.2.1 r.2.2.2.1 (i * tLen d) (i * tLen d + tLen d)∧r.2.2.2.2=s.2.2.2) ∨
 (r.1=false∧∃ a c:Int,OkPc a c∧(r.2=(0,z0,z0,0,a,c,0) ∨ (b a c=true∧r.2=(0,z0,z0,2,a,c,y a c))))
theorem exR_end (h b:Int→Int→Bool) (y:Int→Int→Int) {D:Int} (_:D≤20):∀ (x:Nat) (d i:Int) (s:Exs),d + x=D→OkPc d i→ExEnd h b y D d i s (exR h b y x d i s):=by
 have base:∀ (x:Nat) (d i:Int) (s:Exs),OkPc d i→(4096≤s.1 ∨ h d i=true ∨ b d i=true)→ExEnd h b y D d i s (exR h b y x d i s):=fun x d i s ok hh=>by
  have e:exR h b y x d i s=if 4096≤s.1 then (false,0,z0,z0,0,d,i,0) else if h d i=true then (true,s.1 + 1,(fun v=>bif Nat.beq v s.1 then d else s.2.1 v),(fun v=>bif Nat.beq v s.1 then i else s.2.2.1 v),s.2.2.2) else (false,0,z0,z0,2,d,i,y d i):=by
   rw [exR.eq_def];dsimp only;by_cases c1:4096≤s.1
   ·rw [if_pos c1,if_pos c1]
   ·rw [if_neg c1,if_neg c1];by_cases c2:h d i=true
    ·rw [if_pos c2,if_pos c2]
    ·rw [if_neg c2,if_neg c2,if_pos (hh.resolve_left c1 |>.resolve_left c2)]
  rw [e];by_cases c1:4096≤s.1
  ·rw [if_pos c1];exact .inr ⟨rfl,d,i,ok,.inl rfl⟩
  rw [if_neg c1];by_cases c2:h d i=true
  ·rw [if_pos c2];refine .inl ⟨rfl,Nat.le_succ _,fun v hv=>⟨?_,?_⟩,?_,rfl⟩
   ·show (bif Nat.beq v s.1 then d else s.2.1 v)=_; rw [qKF,vYH (by omega)]; rfl
   ·show (bif Nat.beq v s.1 then i else s.2.2.1 v)=_; rw [qKF,vYH (by omega)]; rfl
   ·have q:=Seg.one (h:=h) (a:=s.1) (pd:=fun v=>bif Nat.beq v s.1 then d else s.2.1 v) (pi:=fun v=>bif Nat.beq v s.1 then i else s.2.2.1 v);simp only [qKF,decide_true,vYV] at q;have q':=q ok c2
    simpa only [qKF] using q'
  ·rw [if_neg c2];exact .inr ⟨rfl,d,i,ok,.inr ⟨(hh.resolve_left c1).resolve_left c2,rfl⟩⟩
 intro x;induction x with
 | zero =>
  intro d i s hd ok;by_cases c:4096≤s.1 ∨ h d i=true ∨ b d i=true
  ·exact base 0 d i s ok c
  ·rw [exR,if_neg (fun k=>c (.inl k)),if_neg (fun k=>c (.inr (.inl k))),if_neg (fun k=>c (.inr (.inr k)))];exact .inr ⟨rfl,d,i,ok,.inl rfl⟩
 | succ x ih =>
  intro d i s hd ok;by_cases c:4096≤s.1 ∨ h d i=true ∨ b d i=true
  ·exact base (x + 1) d i s ok c
  ·rw [exR,if_neg (fun k=>c (.inl k)),if_neg (fun k=>c (.inr (.inl k))),if_neg (fun k=>c (.inr (.inr k)))];obtain ⟨d0,d1,i0,i1⟩:=ok;have hq:(2:Int) ^ (d + 1).toNat=2 * 2 ^ d.toNat:=by rw [show (d + 1).toNat=d.toNat + 1 by omega,Int.pow_succ]; omega
   have tl:=tLen_half d0 (by omega);have g1:=ih (d + 1) (2 * i) s (by omega) ⟨by omega,by omega,by omega,by omega⟩;rcases g1 with ⟨a1,a2,a3,a4,a5⟩ | ⟨a1,a,c,a2,a3⟩
   ·rw [if_pos a1];have g2:=ih (d + 1) (2 * i + 1) (exR h b y x (d + 1) (2 * i) s).2 (by omega) ⟨by omega,by omega,by omega,by omega⟩;rcases g2 with ⟨b1,b2,b3,b4,b5⟩ | ⟨b1,a,c,b2,b3⟩
    ·refine .inl ⟨b1,Nat.le_trans a2 b2,fun v hv => ?_,?_,b5.trans a5⟩
     ·have k1:=b3 v (by omega);have k2:=a3 v hv;exact ⟨k1.1.trans k2.1,k1.2.trans k2.2⟩
     ·have e1:2 * i * tLen (d + 1)=i * tLen d:=by rw [tl,Int.mul_comm 2 i,Int.mul_assoc]
      have e2:(2 * i + 1) * tLen (d + 1)=i * tLen d + tLen (d + 1):=by rw [Int.add_mul,e1,Int.one_mul]
      rw [e1] at a4;rw [e2] at b4;have e3:i * tLen d + tLen (d + 1) + tLen (d + 1)=i * tLen d + tLen d:=by omega
      rw [e3] at b4;exact (a4.congr fun v hv=>b3 v hv).trans a2 b4 b2
    ·exact .inr ⟨b1,a,c,b2,b3⟩
   ·rw [if_neg (by rw [a1]; decide)];exact .inr ⟨a1,a,c,a2,a3⟩
end Go.Proofs.YtbfcbojgnppacaaGreat.Uc
namespace Go.Proofs.YtbfcbojgnppacaaGreat.Ub
open Go.Rx Rt Go.Sx Go.RowKit Od Oe Na Nb Nc Nd Nx Nf Ng Nj Nj2 Nl Nm Pa Pb Ta Tb Uc
noncomputable def orTi (_:Nat) (pd pi pl:Nat→Int):OrS:=orS [] []
noncomputable def hTi (cnt:Nat) (pd pi pl:Nat→Int) (s:Int) (i:Int):St:=⟨[(1,.p 1 0),(4,.v (.n .i64 s)),(9,.v (.lf cnt (p3 pd pi))),(10,.v (.n .i64 (cnt:Int))),(11,.v (.n .i64 i))],[(1,.blk [.nl,.nl,.nl,.nl,.nl,.nl,.v (.lf cnt (p3 pd pi))])]⟩
set_option maxRecDepth 100000 in
theorem rdTi (G:St→Option (Ret × Mem)) (K:Cont) (cnt:Nat) (pd pi pl:Nat→Int) (s:Int) (i:Int):stpT Tf 94 (orTi cnt pd pi pl) 5000 [] [0,1,0,1,1] K G (hTi cnt pd pi pl s i) =
 (bif (decide (i < (cnt:Int))) then (bif (inB i cnt) then (bif (decide (i=4096)) then (K .ret ⟨[(1,.p 1 0),(2,.v (.n .i64 i)),(3,.v (.n .i64 2001)),(4,.v (.n .i64 s))],[(1,.blk [.nl,.nl,.nl,.nl,.nl,.nl,.v (.lf cnt (p3 pd pi))])]⟩)
 else (bif (decide ((pd (i).toNat) < 0)) then (K .ret ⟨[(1,.p 1 0),(2,.v (.n .i64 i)),(3,.v (.n .i64 2001)),(4,.v (.n .i64 s))],[(1,.blk [.nl,.nl,.nl,.nl,.nl,.nl,.v (.lf cnt (p3 pd pi))])]⟩)
 else (bif (decide (20 < (pd (i).toNat))) then (K .ret ⟨[(1,.p 1 0),(2,.v (.n .i64 i)),(3,.v (.n .i64 2001)),(4,.v (.n .i64 s))],[(1,.blk [.nl,.nl,.nl,.nl,.nl,.nl,.v (.lf cnt (p3 pd pi))])]⟩)
 else (bif (decide ((pi (i).toNat) < 0)) then (K .ret ⟨[(1,.p 1 0),(2,.v (.n .i64 i)),(3,.v (.n .i64 2001)),(4,.v (.n .i64 s))],[(1,.blk [.nl,.nl,.nl,.nl,.nl,.nl,.v (.lf cnt (p3 pd pi))])]⟩)
 else (bif (decide (0≤(pd (i).toNat))) then (bif (decide ((vJJ .i64 (1 * 2 ^ (min (pd (i).toNat).toNat 64)))≤(pi (i).toNat))) then (K .ret ⟨[(1,.p 1 0),(2,.v (.n .i64 i)),(3,.v (.n .i64 2001)),(4,.v (.n .i64 s))],[(1,.blk [.nl,.nl,.nl,.nl,.nl,.nl,.v (.lf cnt (p3 pd pi))])]⟩)
 else (bif (decide (0≤(pd (i).toNat))) then (bif (!decide ((vJJ .i64 ((pi (i).toNat) * ((1048576:Int).fdiv (2 ^ (min (pd (i).toNat).toNat 64)))))=s)) then (K .ret ⟨[(1,.p 1 0),(2,.v (.n .i64 i)),(3,.v (.n .i64 2001)),(4,.v (.n .i64 s))],[(1,.blk [.nl,.nl,.nl,.nl,.nl,.nl,.v (.lf cnt (p3 pd pi))])]⟩)
 else (G (hTi cnt pd pi pl (vJJ .i64 (s + ((1048576:Int).fdiv (2 ^ (min (pd (i).toNat).toNat 64))))) (vJJ .i64 (i + 1)))))
 else none))
 else none)))))
 else none)
 else (K (.exit 0) ⟨[(1,.p 1 0),(4,.v (.n .i64 s))],[(1,.blk [.nl,.nl,.nl,.nl,.nl,.nl,.v (.lf cnt (p3 pd pi))])]⟩)):=by kernel_rfl
def TilP (cnt:Nat) (pd pi pl:Nat→Int):Prop:=cnt≤4096∧pl 0=0∧pl cnt=1048576∧∀ v,v < cnt→OkPc (pd v) (pi v)∧pi v * tLen (pd v)=pl v∧pl (v + 1)=pl v + tLen (pd v)
theorem t_tab:∀ n:Nat,n < 21→(1048576:Int).fdiv (2 ^ n)=2 ^ (20 - n)∧(1:Int)≤2 ^ (20 - n)∧(2:Int) ^ (20 - n)≤1048576∧(2:Int) ^ n * 2 ^ (20 - n)=1048576∧vJJ .i64 (1 * 2 ^ n)=2 ^ n∧min n 64=n:=by decide
theorem tLen_b {d i:Int} (h:OkPc d i):(1048576:Int).fdiv (2 ^ (min d.toNat 64))=tLen d∧1≤tLen d∧tLen d≤1048576∧0≤i * tLen d∧i * tLen d + tLen d≤1048576∧vJJ .i64 (1 * 2 ^ (min d.toNat 64))=2 ^ d.toNat:=by
 obtain ⟨h0,h1,h2,h3⟩:=h;obtain ⟨t1,t2,t3,t4,t5,t6⟩:=t_tab d.toNat (by omega);unfold tLen;rw [t6];have k1:0≤i * 2 ^ (20 - d.toNat):=Int.mul_nonneg h2 (by omega);have k2:(i + 1) * 2 ^ (20 - d.toNat)≤2 ^ d.toNat * 2 ^ (20 - d.toNat):=Int.mul_le_mul_of_nonneg_right (by omega) (by omega);rw [Int.add_mul,Int.one_mul,t4] at k2;exact ⟨t1,t2,t3,k1,k2,t5⟩
theorem lpTi (K:Cont) (cnt:Nat) (pd pi pl:Nat→Int) (h:TilP cnt pd pi pl):LFT Tf 94 (orTi cnt pd pi pl) 5000 [] [0,1,0,1,1] K 5000 (hTi cnt pd pi pl 0 0)=(K (.exit 0) ⟨[(1,.p 1 0),(4,.v (.n .i64 (pl cnt)))],[(1,.blk [.nl,.nl,.nl,.nl,.nl,.nl,.v (.lf cnt (p3 pd pi))])]⟩):=by
 obtain ⟨hc,h0,h1,hp⟩:=h;have key:LFT Tf 94 (orTi cnt pd pi pl) 5000 [] [0,1,0,1,1] K 5000 (hTi cnt pd pi pl (pl 0) ((0:Nat):Int))=(K (.exit 0) ⟨[(1,.p 1 0),(4,.v (.n .i64 (pl cnt)))],[(1,.blk [.nl,.nl,.nl,.nl,.nl,.nl,.v (.lf cnt (p3 pd pi))])]⟩):=by
  refine (zQQ (L:=LFT Tf 94 (orTi cnt pd pi pl) 5000 [] [0,1,0,1,1] K) (stp:=stpT Tf 94 (orTi cnt pd pi pl) 5000 [] [0,1,0,1,1] K) (fun _ _=>rfl) (fun (i:Nat) (_:Unit)=>hTi cnt pd pi pl (pl i) (i:Int)) (fun _ _=>True) (fun _ _=>true) (fun _ _=>()) (c:=cnt) (fun _=>(K (.exit 0) ⟨[(1,.p 1 0),(4,.v (.n .i64 (pl cnt)))],[(1,.blk [.nl,.nl,.nl,.nl,.nl,.nl,.v (.lf cnt (p3 pd pi))])]⟩)) (fun _ _=>none) (fun G i f hi _ => ?_) (fun _ _ _ _ _=>trivial) (fun G f _ => ?_) cnt 0 5000 () (by omega) (by omega) trivial).trans (qUD cnt 0 _)
  ·refine (rdTi G K cnt pd pi pl (pl i) i).trans ?_;obtain ⟨ok,e1,e2⟩:=hp i hi;obtain ⟨b1,b2,b3,b4,b5,b6⟩:=tLen_b ok;obtain ⟨o1,o2,o3,o4⟩:=ok;have w1:vJJ .i64 (pi i * tLen (pd i))=pl i:=by rw [← e1]; exact qK (by omega)
   have w2:vJJ .i64 (pl i + tLen (pd i))=pl (i + 1):=by rw [e2]; exact qK (by omega)
   simp only [vJQ (show (i:Int) < (cnt:Int) by omega),uJ hi,vYH (show ¬ (i:Int)=4096 by omega),toN,vYH (show ¬ pd i < 0 by omega),vYH (show ¬ 20 < pd i by omega),vYH (show ¬ pi i < 0 by omega),vJQ o1,b1,b6,vYH (show ¬ (2:Int) ^ (pd i).toNat≤pi i by omega),w1,w2,decide_true,Bool.not_true,qYK (show i < 1000000 by omega),vYV,vYG]
  ·refine (rdTi G K cnt pd pi pl (pl cnt) cnt).trans ?_;rw [vYH (show ¬ (cnt:Int) < (cnt:Int) by omega)];rfl
 rw [h0] at key;exact key
noncomputable def yGJ (cnt:Nat) (pd pi pl:Nat→Int):List (List Nat × kU):=[([0,1,0,1,1],sumF (fun _:Unit=>(hTi cnt pd pi pl 0 0)) (fun _=>()) (fun _ K=>(bif gP (TilP cnt pd pi pl) then (K (.exit 0) ⟨[(1,.p 1 0),(4,.v (.n .i64 (pl cnt)))],[(1,.blk [.nl,.nl,.nl,.nl,.nl,.nl,.v (.lf cnt (p3 pd pi))])]⟩) else none)))]
set_option maxRecDepth 100000 in
theorem pxtil (cnt:Nat) (pd pi pl:Nat→Int):qJE Tf (orTi cnt pd pi pl) (zW (yGJ cnt pd pi pl)) 5000 94 [.a [.zs,.zs,.zs,.zs,.zs,.zs,.lf cnt (p3 pd pi)]] =
 (bif (gSt (hTi cnt pd pi pl 0 0) (hTi cnt pd pi pl 0 0)) then (bif (gP (TilP cnt pd pi pl)) then (bif (!decide ((pl cnt)=1048576)) then some (.v (.t [.n .i64 (cnt:Int),.n .i64 2001]),[])
 else some (.v (.t [.n .i64 0,.n .i64 0]),[]))
 else none)
 else none):=by kernel_rfl
theorem snd_til (cnt:Nat) (pd pi pl:Nat→Int) (h:TilP cnt pd pi pl):zH Tryz.prog 94 [.a [.zs,.zs,.zs,.zs,.zs,.zs,.lf cnt (p3 pd pi)]] (.v (.t [.n .i64 0,.n .i64 0])):=by
 refine yV (N:=5000) (LO:=zW (yGJ cnt pd pi pl)) qQC yZ (qQE (l:=[]) (m:=[]) trivial trivial) (fun p S hp => ?_) ?_
 ·refine yX (L:=qG Tf 94) (l:=(yGJ cnt pd pi pl)) (show AllP _ (yGJ cnt pd pi pl) from ⟨?_,trivial⟩) p S hp
  ·dsimp only;refine qXW (T:=Tf) (o:=(orTi cnt pd pi pl)) (f:=94) (LO:=zW []) (p:=[0,1,0,1,1]) qWU ?_;intro t K r hr;obtain ⟨hg,hr⟩:=qQ hr
   skip
   exact (lpTi K cnt pd pi pl (qQG hg)).trans hr
 ·refine (pxtil cnt pd pi pl).trans ?_;simp only [kX,zXD h,h.2.2.1,decide_true,Bool.not_true,vYV,vYG]
  all_goals rfl
noncomputable def ortls (cnt:Nat) (pd pi pl:Nat→Int):OrS:=orS [(94,o_lk [.a [.zs,.zs,.zs,.zs,.zs,.zs,.lf cnt (p3 pd pi)]] (gP (TilP cnt pd pi pl)) (.v (.t [.n .i64 0,.n .i64 0])))] []
noncomputable def yGY (_:Nat) (pd pi pl:Nat→Int):List (List Nat × kU):=[]
set_option maxRecDepth 100000 in
theorem pxtls (cnt:Nat) (pd pi pl:Nat→Int):qJE Tf (ortls cnt pd pi pl) (zW (yGY cnt pd pi pl)) 5000 62 [.lf cnt (p3 pd pi)] =
 (bif (g1 [.a [.zs,.zs,.zs,.zs,.zs,.zs,.lf cnt (p3 pd pi)]] && (gP (TilP cnt pd pi pl))) then some (.v (.b true),[])
 else none):=by kernel_rfl
theorem snd_tls (cnt:Nat) (pd pi pl:Nat→Int) (h:TilP cnt pd pi pl):zH Tryz.prog 62 [.lf cnt (p3 pd pi)] (.v (.b true)):=by
 refine yV (N:=5000) (LO:=zW (yGY cnt pd pi pl)) qQC yZ (qQE (l:=[(94,o_lk [.a [.zs,.zs,.zs,.zs,.zs,.zs,.lf cnt (p3 pd pi)]] (gP (TilP cnt pd pi pl)) (.v (.t [.n .i64 0,.n .i64 0])))]) (m:=[]) ⟨zJC (fun h=>snd_til cnt pd pi pl (qQG h)),trivial⟩ trivial) (fun p S hp => ?_) ?_
 ·refine yX (L:=qG Tf 62) (l:=(yGY cnt pd pi pl)) (show AllP _ (yGY cnt pd pi pl) from trivial) p S hp
 ·refine (pxtls cnt pd pi pl).trans ?_;simp only [g1_t,zXD h,vZJ,vYV]
def unFB (f:Nat→List PV):Nat→Iv:=fun v=>match f v with
 | [.n _ a,.n _ b]=>⟨a,b⟩
 | _=>⟨0,0⟩
def cqq (pp qq:Nat→Int) (k:Nat):Int × Int→Prop:=fun t=>k≤16∧pcB pp qq k k t.1 t.2=true
def eqq (pp qq:Nat→Int) (k:Nat):Int × Int→List PV:=fun t=>[.lf k (fQ pp),.lf k (fQ qq),.n .i64 t.1,.n .i64 t.2]
noncomputable def o_qq (pp qq:Nat→Int) (k:Nat):List PV→Option (Bool × Ret):=o_fm (fun ps=>match ps with | [_,_,.n _ d,.n _ i]=>(d,i) | _=>(0,0)) (cqq pp qq k) (eqq pp qq k) (fun t=>.v (.t [.lf k (fB (jI pp qq t.1 t.2)),.b true]))
theorem ok_qq (pp qq:Nat→Int) (k:Nat):zY Tryz.prog 37 (o_qq pp qq k):=zUL fun t h=>by
 have:=snd_ppc pp qq k k t.1 t.2 h.1 (Nat.le_trans h.1 (by decide))
 rw [h.2] at this;exact this
def cvl (js:Nat→J) (ms:Nat→Ms) (n m:Nat) (cs:Nat→Cn) (c:Nat) (pp qq:Nat→Int) (k:Nat):(Nat→Iv)→Prop:=fun bx=>cErr js ms n m cs c=true∧pIn js ms bx n m k=true
def evl (js:Nat→J) (ms:Nat→Ms) (n m:Nat) (cs:Nat→Cn) (c:Nat) (pp qq:Nat→Int) (k:Nat):(Nat→Iv)→List PV:=fun bx=>[.a [.lf n (fJ js),.lf m (fM ms)],.lf c (fC cs),.lf k (fB bx)]
noncomputable def o_vl (js:Nat→J) (ms:Nat→Ms) (n m:Nat) (cs:Nat→Cn) (c:Nat) (pp qq:Nat→Int) (k:Nat):List PV→Option (Bool × Ret):=o_fm (fun ps=>match ps with | [_,_,.lf _ f]=>unFB f | _=>fun _=>⟨0,0⟩) (cvl js ms n m cs c pp qq k) (evl js ms n m cs c pp qq k) (fun bx=>.v (.lf c (fB (vI js bx n cs))))
theorem ok_vl (js:Nat→J) (ms:Nat→Ms) (n m:Nat) (cs:Nat→Cn) (c:Nat) (pp qq:Nat→Int) (k:Nat):zY Tryz.prog 39 (o_vl js ms n m cs c pp qq k):=zUL fun bx h=>zKI js ms bx n m k cs c h.1 h.2
def chl (cs:Nat→Cn) (c:Nat):(Nat→Iv)→Prop:=fun _=>c≤50
def ehl (cs:Nat→Cn) (c:Nat):(Nat→Iv)→List PV:=fun v=>[.lf c (fC cs),.lf c (fB v)]
noncomputable def o_hl (cs:Nat→Cn) (c:Nat):List PV→Option (Bool × Ret):=o_fm (fun ps=>match ps with | [_,.lf _ f]=>unFB f | _=>fun _=>⟨0,0⟩) (chl cs c) (ehl cs c) (fun v=>.v (.b (qGU cs v c)))
theorem ok_hl (cs:Nat→Cn) (c:Nat):zY Tryz.prog 43 (o_hl cs c):=zUL fun v h=>zVV cs v c h
noncomputable def orPv (js:Nat→J) (ms:Nat→Ms) (n m:Nat) (cs:Nat→Cn) (c:Nat) (pp qq:Nat→Int) (k:Nat) (cnt:Nat) (pd pi pl:Nat→Int):OrS:=orS [(62,o_lk [.lf cnt (p3 pd pi)] (gP (TilP cnt pd pi pl)) (.v (.b true))),(37,o_qq pp qq k),(39,o_vl js ms n m cs c pp qq k),(43,o_hl cs c)] []
noncomputable def hPv (js:Nat→J) (ms:Nat→Ms) (n m:Nat) (cs:Nat→Cn) (c:Nat) (pp qq:Nat→Int) (k:Nat) (cnt:Nat) (pd pi pl:Nat→Int) (i:Int):St:=⟨[(1,.v (.lf c (fC cs))),(2,.v (.lf k (fQ pp))),(3,.v (.lf k (fQ qq))),(5,.p 5 0),(18,.v (.lf cnt (p3 pd pi))),(19,.v (.n .i64 (cnt:Int))),(20,.v (.n .i64 i))],[(5,.blk [.v (.lf n (fJ js)),.v (.lf m (fM ms))])]⟩
set_option maxRecDepth 100000 in
theorem rdPv (G:St→Option (Ret × Mem)) (K:Cont) (js:Nat→J) (ms:Nat→Ms) (n m:Nat) (cs:Nat→Cn) (c:Nat) (pp qq:Nat→Int) (k:Nat) (cnt:Nat) (pd pi pl:Nat→Int) (i:Int):stpT Tf 36 (orPv js ms n m cs c pp qq k cnt pd pi pl) 5000 [] [0,1,0,1,1] K G (hPv js ms n m cs c pp qq k cnt pd pi pl i) =
 (bif (decide (i < (cnt:Int))) then (bif (inB i cnt) then (bif (gF1 (cqq pp qq k) (eqq pp qq k) ((pd (i).toNat),(pi (i).toNat))) then (bif (gF1 (cvl js ms n m cs c pp qq k) (evl js ms n m cs c pp qq k) (jI pp qq (pd (i).toNat) (pi (i).toNat))) then (bif (gF1 (chl cs c) (ehl cs c) (vE js n cs pp qq (pd (i).toNat) (pi (i).toNat))) then (bif (hE js ms n m cs c pp qq k (pd (i).toNat) (pi (i).toNat)) then (G (hPv js ms n m cs c pp qq k cnt pd pi pl (vJJ .i64 (i + 1))))
 else (K .ret ⟨[(10,.v (.b false))],[]⟩))
 else none)
 else none)
 else none)
 else none)
 else (K (.exit 0) ⟨[],[]⟩)):=by kernel_rfl
def PrvP (js:Nat→J) (ms:Nat→Ms) (n m:Nat) (cs:Nat→Cn) (c:Nat) (pp qq:Nat→Int) (k:Nat) (cnt:Nat) (pd pi pl:Nat→Int):Prop:=TilP cnt pd pi pl∧k≤16∧c≤50∧cErr js ms n m cs c=true∧∀ v,v < cnt→pcB pp qq k k (pd v) (pi v)=true∧pIn js ms (jI pp qq (pd v) (pi v)) n m k=true∧hE js ms n m cs c pp qq k (pd v) (pi v)=true
theorem lpPv (K:Cont) (js:Nat→J) (ms:Nat→Ms) (n m:Nat) (cs:Nat→Cn) (c:Nat) (pp qq:Nat→Int) (k:Nat) (cnt:Nat) (pd pi pl:Nat→Int) (h:PrvP js ms n m cs c pp qq k cnt pd pi pl):LFT Tf 36 (orPv js ms n m cs c pp qq k cnt pd pi pl) 5000 [] [0,1,0,1,1] K 5000 (hPv js ms n m cs c pp qq k cnt pd pi pl 0)=(K (.exit 0) ⟨[],[]⟩):=by
 obtain ⟨ht,hk,hc,he,hp⟩:=h;have hcn:=ht.1;refine (zQQ (L:=LFT Tf 36 (orPv js ms n m cs c pp qq k cnt pd pi pl) 5000 [] [0,1,0,1,1] K) (stp:=stpT Tf 36 (orPv js ms n m cs c pp qq k cnt pd pi pl) 5000 [] [0,1,0,1,1] K) (fun _ _=>rfl) (fun (i:Nat) (_:Unit)=>hPv js ms n m cs c pp qq k cnt pd pi pl (i:Int)) (fun _ _=>True) (fun _ _=>true) (fun _ _=>()) (c:=cnt) (fun _=>(K (.exit 0) ⟨[],[]⟩)) (fun _ _=>none) (fun G i f hi _ => ?_) (fun _ _ _ _ _=>trivial) (fun G f _ => ?_) cnt 0 5000 () (by omega) (by omega) trivial).trans (qUD cnt 0 _)
 ·refine (rdPv G K js ms n m cs c pp qq k cnt pd pi pl i).trans ?_;obtain ⟨p1,p2,p3⟩:=hp i hi;simp only [vJQ (show (i:Int) < (cnt:Int) by omega),uJ hi,toN,qXZ (C:=cqq pp qq k) (t:=(pd i,pi i)) ⟨hk,p1⟩,qXZ (C:=cvl js ms n m cs c pp qq k) (t:=jI pp qq (pd i) (pi i)) ⟨he,p2⟩,qXZ (C:=chl cs c) (t:=vE js n cs pp qq (pd i) (pi i)) hc,p3,qYK (show i < 1000000 by omega),vYV,vYG]
 ·refine (rdPv G K js ms n m cs c pp qq k cnt pd pi pl cnt).trans ?_;rw [vYH (show ¬ (cnt:Int) < (cnt:Int) by omega)];rfl
noncomputable def yGU (js:Nat→J) (ms:Nat→Ms) (n m:Nat) (cs:Nat→Cn) (c:Nat) (pp qq:Nat→Int) (k:Nat) (cnt:Nat) (pd pi pl:Nat→Int):List (List Nat × kU):=[([0,1,0,1,1],sumF (fun _:Unit=>(hPv js ms n m cs c pp qq k cnt pd pi pl 0)) (fun _=>()) (fun _ K=>(bif gP (PrvP js ms n m cs c pp qq k cnt pd pi pl) then (K (.exit 0) ⟨[],[]⟩) else none)))]
set_option maxRecDepth 100000 in
theorem pxpvs (js:Nat→J) (ms:Nat→Ms) (n m:Nat) (cs:Nat→Cn) (c:Nat) (pp qq:Nat→Int) (k:Nat) (cnt:Nat) (pd pi pl:Nat→Int):qJE Tf (orPv js ms n m cs c pp qq k cnt pd pi pl) (zW (yGU js ms n m cs c pp qq k cnt pd pi pl)) 5000 36 [.a [.lf n (fJ js),.lf m (fM ms)],.lf c (fC cs),.lf k (fQ pp),.lf k (fQ qq),.lf cnt (p3 pd pi)] =
 (bif (g1 [.lf cnt (p3 pd pi)] && (gP (TilP cnt pd pi pl))) then (bif (gSt (hPv js ms n m cs c pp qq k cnt pd pi pl 0) (hPv js ms n m cs c pp qq k cnt pd pi pl 0)) then (bif (gP (PrvP js ms n m cs c pp qq k cnt pd pi pl)) then some (.v (.b true),[])
 else none)
 else none)
 else none):=by kernel_rfl
theorem snd_pvs (js:Nat→J) (ms:Nat→Ms) (n m:Nat) (cs:Nat→Cn) (c:Nat) (pp qq:Nat→Int) (k:Nat) (cnt:Nat) (pd pi pl:Nat→Int) (h:PrvP js ms n m cs c pp qq k cnt pd pi pl):zH Tryz.prog 36 [.a [.lf n (fJ js),.lf m (fM ms)],.lf c (fC cs),.lf k (fQ pp),.lf k (fQ qq),.lf cnt (p3 pd pi)] (.v (.b true)):=by
 refine yV (N:=5000) (LO:=zW (yGU js ms n m cs c pp qq k cnt pd pi pl)) qQC yZ (qQE (l:=[(62,o_lk [.lf cnt (p3 pd pi)] (gP (TilP cnt pd pi pl)) (.v (.b true))),(37,o_qq pp qq k),(39,o_vl js ms n m cs c pp qq k),(43,o_hl cs c)]) (m:=[]) ⟨zJC (fun h=>snd_tls cnt pd pi pl (qQG h)),ok_qq pp qq k,ok_vl js ms n m cs c pp qq k,ok_hl cs c,trivial⟩ trivial) (fun p S hp => ?_) ?_
 ·refine yX (L:=qG Tf 36) (l:=(yGU js ms n m cs c pp qq k cnt pd pi pl)) (show AllP _ (yGU js ms n m cs c pp qq k cnt pd pi pl) from ⟨?_,trivial⟩) p S hp
  ·dsimp only;refine qXW (T:=Tf) (o:=(orPv js ms n m cs c pp qq k cnt pd pi pl)) (f:=36) (LO:=zW []) (p:=[0,1,0,1,1]) qWU ?_;intro t K r hr;obtain ⟨hg,hr⟩:=qQ hr
   skip
   exact (lpPv K js ms n m cs c pp qq k cnt pd pi pl (qQG hg)).trans hr
 ·refine (pxpvs js ms n m cs c pp qq k cnt pd pi pl).trans ?_;simp only [g1_t,kX,zXD h,zXD h.1,vZJ,vYV]
  all_goals rfl
noncomputable def orac1 (js:Nat→J) (ms:Nat→Ms) (n m:Nat) (cs:Nat→Cn) (c:Nat) (pp qq:Nat→Int) (k:Nat) (cnt:Nat) (pd pi pl:Nat→Int):OrS:=orS [(33,o_cr [.a [.lf n (fJ js),.lf m (fM ms)],.lf c (fC cs)] (.v (.b (cErr js ms n m cs c)))),(34,o_in js ms n m),(36,o_lk [.a [.lf n (fJ js),.lf m (fM ms)],.lf c (fC cs),.lf k (fQ pp),.lf k (fQ qq),.lf cnt (p3 pd pi)] (gP (PrvP js ms n m cs c pp qq k cnt pd pi pl)) (.v (.b true)))] []
noncomputable def yGE (js:Nat→J) (ms:Nat→Ms) (n m:Nat) (cs:Nat→Cn) (c:Nat) (pp qq:Nat→Int) (k:Nat) (_:Nat) (pd pi pl:Nat→Int):List (List Nat × kU):=[]
set_option maxRecDepth 100000 in
theorem pxac1 (js:Nat→J) (ms:Nat→Ms) (n m:Nat) (cs:Nat→Cn) (c:Nat) (pp qq:Nat→Int) (k:Nat) (cnt:Nat) (pd pi pl:Nat→Int):qJE Tf (orac1 js ms n m cs c pp qq k cnt pd pi pl) (zW (yGE js ms n m cs c pp qq k cnt pd pi pl)) 5000 17 [.a [.lf n (fJ js),.lf m (fM ms)],.lf c (fC cs),.lf k (fQ pp),.lf k (fQ qq),.a [.n .i64 1,.lf cnt (p3 pd pi),.n .i64 0,.n .i64 0,.l [],.n .i64 0,.l [],.l []]] =
 (bif (g1 [.a [.lf n (fJ js),.lf m (fM ms)],.lf c (fC cs)]) then (bif (cErr js ms n m cs c) then (bif (g1 [.a [.lf n (fJ js),.lf m (fM ms)],.lf k (fQ pp)]) then (bif (qIn js ms pp n m k) then (bif (g1 [.a [.lf n (fJ js),.lf m (fM ms)],.lf k (fQ qq)]) then (bif (qIn js ms qq n m k) then (bif (g1 [.a [.lf n (fJ js),.lf m (fM ms)],.lf c (fC cs),.lf k (fQ pp),.lf k (fQ qq),.lf cnt (p3 pd pi)] && (gP (PrvP js ms n m cs c pp qq k cnt pd pi pl))) then some (.v (.b true),[])
 else none)
 else some (.v (.b false),[]))
 else none)
 else some (.v (.b false),[]))
 else none)
 else some (.v (.b false),[]))
 else none):=by kernel_rfl
theorem snd_ac1 (js:Nat→J) (ms:Nat→Ms) (n m:Nat) (cs:Nat→Cn) (c:Nat) (pp qq:Nat→Int) (k:Nat) (cnt:Nat) (pd pi pl:Nat→Int) (h:PrvP js ms n m cs c pp qq k cnt pd pi pl) (hp:qIn js ms pp n m k=true) (hq:qIn js ms qq n m k=true):zH Tryz.prog 17 [.a [.lf n (fJ js),.lf m (fM ms)],.lf c (fC cs),.lf k (fQ pp),.lf k (fQ qq),.a [.n .i64 1,.lf cnt (p3 pd pi),.n .i64 0,.n .i64 0,.l [],.n .i64 0,.l [],.l []]] (.v (.b true)):=by
 refine yV (N:=5000) (LO:=zW (yGE js ms n m cs c pp qq k cnt pd pi pl)) qQC yZ (qQE (l:=[(33,o_cr [.a [.lf n (fJ js),.lf m (fM ms)],.lf c (fC cs)] (.v (.b (cErr js ms n m cs c)))),(34,o_in js ms n m),(36,o_lk [.a [.lf n (fJ js),.lf m (fM ms)],.lf c (fC cs),.lf k (fQ pp),.lf k (fQ qq),.lf cnt (p3 pd pi)] (gP (PrvP js ms n m cs c pp qq k cnt pd pi pl)) (.v (.b true)))]) (m:=[]) ⟨qQI (yQJ js ms n m cs c),yVE js ms n m,zJC (fun h=>snd_pvs js ms n m cs c pp qq k cnt pd pi pl (qQG h)),trivial⟩ trivial) (fun p S hp => ?_) ?_
 ·refine yX (L:=qG Tf 17) (l:=(yGE js ms n m cs c pp qq k cnt pd pi pl)) (show AllP _ (yGE js ms n m cs c pp qq k cnt pd pi pl) from trivial) p S hp
 ·refine (pxac1 js ms n m cs c pp qq k cnt pd pi pl).trans ?_;simp only [g1_t,zXD h,h.2.2.2.1,hp,hq,vZJ,vYV]
noncomputable def orac2 (js:Nat→J) (ms:Nat→Ms) (n m:Nat) (cs:Nat→Cn) (c:Nat) (pp qq:Nat→Int) (k:Nat) (a b _:Int):OrS:=orS [(33,o_cr [.a [.lf n (fJ js),.lf m (fM ms)],.lf c (fC cs)] (.v (.b (cErr js ms n m cs c)))),(34,o_in js ms n m),(37,o_qq pp qq k),(39,o_vl js ms n m cs c pp qq k)] []
noncomputable def yGD (js:Nat→J) (ms:Nat→Ms) (n m:Nat) (cs:Nat→Cn) (c:Nat) (pp qq:Nat→Int) (k:Nat) (a b _:Int):List (List Nat × kU):=[]
set_option maxRecDepth 100000 in
theorem pxac2 (js:Nat→J) (ms:Nat→Ms) (n m:Nat) (cs:Nat→Cn) (c:Nat) (pp qq:Nat→Int) (k:Nat) (a b pr:Int):qJE Tf (orac2 js ms n m cs c pp qq k a b pr) (zW (yGD js ms n m cs c pp qq k a b pr)) 5000 17 [.a [.lf n (fJ js),.lf m (fM ms)],.lf c (fC cs),.lf k (fQ pp),.lf k (fQ qq),.a [.n .i64 2,.lf 0 (p3 z0 z0),.n .i64 a,.n .i64 b,.l [],.n .i64 pr,.l [],.l []]] =
 (bif (g1 [.a [.lf n (fJ js),.lf m (fM ms)],.lf c (fC cs)]) then (bif (cErr js ms n m cs c) then (bif (g1 [.a [.lf n (fJ js),.lf m (fM ms)],.lf k (fQ pp)]) then (bif (qIn js ms pp n m k) then (bif (g1 [.a [.lf n (fJ js),.lf m (fM ms)],.lf k (fQ qq)]) then (bif (qIn js ms qq n m k) then (bif (gF1 (cqq pp qq k) (eqq pp qq k) (a,b)) then (bif (decide (0 < (0:Int))) then some (.v (.b false),[])
 else (bif (decide (pr < 0)) then some (.v (.b false),[])
 else (bif (decide ((c:Int)≤pr)) then some (.v (.b false),[])
 else (bif (inB pr c) then (bif (gF1 (cvl js ms n m cs c pp qq k) (evl js ms n m cs c pp qq k) (jI pp qq a b)) then (bif (inB pr c) then (bif (decide ((vE js n cs pp qq a b (pr).toNat).hi < (cs (pr).toNat).lo)) then some (.v (.b true),[])
 else (bif (decide ((cs (pr).toNat).hi < (vE js n cs pp qq a b (pr).toNat).lo)) then some (.v (.b true),[])
 else some (.v (.b false),[])))
 else none)
 else none)
 else none))))
 else none)
 else some (.v (.b false),[]))
 else none)
 else some (.v (.b false),[]))
 else none)
 else some (.v (.b false),[]))
 else none):=by kernel_rfl
theorem snd_ac2 (js:Nat→J) (ms:Nat→Ms) (n m:Nat) (cs:Nat→Cn) (c:Nat) (pp qq:Nat→Int) (k:Nat) (a b pr:Int) (he:(cErr js ms n m cs c)=true) (hp:qIn js ms pp n m k=true) (hq:qIn js ms qq n m k=true) (hk:k≤16) (h1:pcB pp qq k k a b=true) (h2:pIn js ms (jI pp qq a b) n m k=true) (h3:0≤pr) (_:pr < c) (ho:outR (cs pr.toNat) (vE js n cs pp qq a b pr.toNat)=true):zH Tryz.prog 17 [.a [.lf n (fJ js),.lf m (fM ms)],.lf c (fC cs),.lf k (fQ pp),.lf k (fQ qq),.a [.n .i64 2,.lf 0 (p3 z0 z0),.n .i64 a,.n .i64 b,.l [],.n .i64 pr,.l [],.l []]] (.v (.b true)):=by
 refine yV (N:=5000) (LO:=zW (yGD js ms n m cs c pp qq k a b pr)) qQC yZ (qQE (l:=[(33,o_cr [.a [.lf n (fJ js),.lf m (fM ms)],.lf c (fC cs)] (.v (.b (cErr js ms n m cs c)))),(34,o_in js ms n m),(37,o_qq pp qq k),(39,o_vl js ms n m cs c pp qq k)]) (m:=[]) ⟨qQI (yQJ js ms n m cs c),yVE js ms n m,ok_qq pp qq k,ok_vl js ms n m cs c pp qq k,trivial⟩ trivial) (fun p S hp => ?_) ?_
 ·refine yX (L:=qG Tf 17) (l:=(yGD js ms n m cs c pp qq k a b pr)) (show AllP _ (yGD js ms n m cs c pp qq k a b pr) from trivial) p S hp
 ·refine (pxac2 js ms n m cs c pp qq k a b pr).trans ?_;have hb:inB pr c=true:=by unfold inB; rw [vJQ h3,vJQ (show pr.toNat < c by omega)]; rfl
  unfold outR at ho;simp only [g1_t,he,hp,hq,qXZ (C:=cqq pp qq k) (t:=(a,b)) ⟨hk,h1⟩,qXZ (C:=cvl js ms n m cs c pp qq k) (t:=jI pp qq a b) ⟨he,h2⟩,hb,vYH (show ¬ pr < 0 by omega),vYH (show ¬ (c:Int)≤pr by omega),show ¬ (0:Int) < ((0:Nat):Int) from by decide,vYV,vYG,decide_false];cases hx:decide ((vE js n cs pp qq a b pr.toNat).hi < (cs pr.toNat).lo) with
  | true=>rfl
  | false =>
   rw [hx,Bool.false_or] at ho;simp only [ho,Int.lt_irrefl,decide_false,vYV,vYG]
noncomputable def orac0 (js:Nat→J) (ms:Nat→Ms) (n m:Nat) (cs:Nat→Cn) (c:Nat) (pp qq:Nat→Int) (k:Nat) (l:Nat) (a b:Int):OrS:=orS [(33,o_cr [.a [.lf n (fJ js),.lf m (fM ms)],.lf c (fC cs)] (.v (.b (cErr js ms n m cs c)))),(34,o_in js ms n m)] []
noncomputable def yGF (js:Nat→J) (ms:Nat→Ms) (n m:Nat) (cs:Nat→Cn) (c:Nat) (pp qq:Nat→Int) (k:Nat) (l:Nat) (a b:Int):List (List Nat × kU):=[]
set_option maxRecDepth 100000 in
theorem pxac0 (js:Nat→J) (ms:Nat→Ms) (n m:Nat) (cs:Nat→Cn) (c:Nat) (pp qq:Nat→Int) (k:Nat) (l:Nat) (a b:Int):qJE Tf (orac0 js ms n m cs c pp qq k l a b) (zW (yGF js ms n m cs c pp qq k l a b)) 5000 17 [.a [.lf n (fJ js),.lf m (fM ms)],.lf c (fC cs),.lf k (fQ pp),.lf l (fQ qq),.a [.n .i64 0,.lf 0 (p3 z0 z0),.n .i64 a,.n .i64 b,.l [],.n .i64 0,.l [],.l []]] =
 (bif (g1 [.a [.lf n (fJ js),.lf m (fM ms)],.lf c (fC cs)]) then (bif (cErr js ms n m cs c) then (bif (g1 [.a [.lf n (fJ js),.lf m (fM ms)],.lf k (fQ pp)]) then (bif (qIn js ms pp n m k) then (bif (g1 [.a [.lf n (fJ js),.lf m (fM ms)],.lf l (fQ qq)]) then (bif (qIn js ms qq n m l) then some (.v (.b false),[])
 else some (.v (.b false),[]))
 else none)
 else some (.v (.b false),[]))
 else none)
 else some (.v (.b false),[]))
 else none):=by kernel_rfl
theorem snd_ac0 (js:Nat→J) (ms:Nat→Ms) (n m:Nat) (cs:Nat→Cn) (c:Nat) (pp qq:Nat→Int) (k:Nat) (l:Nat) (a b:Int):zH Tryz.prog 17 [.a [.lf n (fJ js),.lf m (fM ms)],.lf c (fC cs),.lf k (fQ pp),.lf l (fQ qq),.a [.n .i64 0,.lf 0 (p3 z0 z0),.n .i64 a,.n .i64 b,.l [],.n .i64 0,.l [],.l []]] (.v (.b false)):=by
 refine yV (N:=5000) (LO:=zW (yGF js ms n m cs c pp qq k l a b)) qQC yZ (qQE (l:=[(33,o_cr [.a [.lf n (fJ js),.lf m (fM ms)],.lf c (fC cs)] (.v (.b (cErr js ms n m cs c)))),(34,o_in js ms n m)]) (m:=[]) ⟨qQI (yQJ js ms n m cs c),yVE js ms n m,trivial⟩ trivial) (fun p S hp => ?_) ?_
 ·refine yX (L:=qG Tf 17) (l:=(yGF js ms n m cs c pp qq k l a b)) (show AllP _ (yGF js ms n m cs c pp qq k l a b) from trivial) p S hp
 ·refine (pxac0 js ms n m cs c pp qq k l a b).trans ?_;simp only [g1_t,vYV];cases (cErr js ms n m cs c) <;> cases qIn js ms pp n m k <;> cases qIn js ms qq n m l <;> rfl
end Go.Proofs.YtbfcbojgnppacaaGreat.Ub
namespace Go.Proofs.YtbfcbojgnppacaaGreat.Ua
open Go.Rx Rt Go.Sx Go.RowKit Od Na Nb Nc Nx Nl Nm Pa
def aQ (pp qq:Nat→Int) (d j:Int) (i:Nat):Int:=vJJ .i64 (pp i + bif decide ((pU pp qq j i).tmod (pN d) < 0) then vJJ .i64 (vJJ .i64 ((pU pp qq j i).tdiv (pN d)) - 1) else vJJ .i64 ((pU pp qq j i).tdiv (pN d)))
noncomputable def orUa (pp qq:Nat→Int) (k m:Nat) (d j:Int):OrS:=orS [(40,o_pc)] []
noncomputable def hUa (pp qq:Nat→Int) (k m:Nat) (d j:Int) (i:Int) (r:Nat) (f:Nat→List PV):St:=⟨[(0,.v (.lf k (fQ pp))),(1,.v (.lf m (fQ qq))),(2,.v (.n .i64 d)),(3,.v (.n .i64 j)),(10,.o 56),(11,.v (.n .i64 i))],[(56,.reg 2 1 (.fo r f))]⟩
set_option maxRecDepth 100000 in
theorem rdUa (G:St→Option (Ret × Mem)) (K:Cont) (pp qq:Nat→Int) (k m:Nat) (d j:Int) (i:Int) (r:Nat) (f:Nat→List PV):stpT Tf 18 (orUa pp qq k m d j) 60 [] [0,1,0,1,1,1] K G (hUa pp qq k m d j i r f) =
 (bif (decide (i < (k:Int))) then (bif (inB i k) then (bif (inB i m) then (bif (inB i k) then (bif (decide (0≤(IntKind.u64.wrap d))) then (bif (decide ((pN d)=0)) then none
 else (bif (decide ((pN d)=0)) then none
 else (bif (decide (((pU pp qq j (i).toNat).tmod (pN d)) < 0)) then (bif (decide (r + 1≤1000000)) then (G (hUa pp qq k m d j (vJJ .i64 (i + 1)) (r + 1) (fun v=>jV (Nat.beq v r) [.n .i64 (vJJ .i64 ((pp (i).toNat) + (vJJ .i64 ((vJJ .i64 ((pU pp qq j (i).toNat).tdiv (pN d))) - 1))))] (f v))))
 else none)
 else (bif (decide (r + 1≤1000000)) then (G (hUa pp qq k m d j (vJJ .i64 (i + 1)) (r + 1) (fun v=>jV (Nat.beq v r) [.n .i64 (vJJ .i64 ((pp (i).toNat) + (vJJ .i64 ((pU pp qq j (i).toNat).tdiv (pN d)))))] (f v))))
 else none))))
 else none)
 else none)
 else none)
 else none)
 else (K (.exit 0) ⟨[(10,.o 56)],[(56,.reg 2 1 (.fo r f))]⟩)):=by kernel_rfl
theorem lpUa (K:Cont) (pp qq:Nat→Int) (k m:Nat) (d j:Int) (_:k≤50) (_:k=m) (hn:pN d ≠ 0) (hd:0≤d∧d≤20):LFT Tf 18 (orUa pp qq k m d j) 60 [] [0,1,0,1,1,1] K 60 (hUa pp qq k m d j 0 0 (fun _=>[.n .i64 0]))=(K (.exit 0) ⟨[(10,.o 56)],[(56,.reg 2 1 (.fo k (zYE (fun i:Nat=>[.n .i64 (aQ pp qq d j i)]) k 0 (fun _=>[.n .i64 0]))))]⟩):=by
 refine (zQQ (L:=LFT Tf 18 (orUa pp qq k m d j) 60 [] [0,1,0,1,1,1] K) (stp:=stpT Tf 18 (orUa pp qq k m d j) 60 [] [0,1,0,1,1,1] K) (fun _ _=>rfl) (fun (i:Nat) (f:Nat→List PV)=>hUa pp qq k m d j (i:Int) i f) (fun _ _=>True) (fun _ _=>true) (fun (i:Nat) f v=>jV (Nat.beq v i) ([.n .i64 (aQ pp qq d j i)]) (f v)) (c:=k) (fun f=>(K (.exit 0) ⟨[(10,.o 56)],[(56,.reg 2 1 (.fo k f))]⟩)) (fun _ _=>none) (fun G i f hi _ => ?_) (fun _ _ _ _ _=>trivial) (fun G f _ => ?_) k 0 60 (fun _=>[.n .i64 0]) (by omega) (by omega) trivial).trans (zUJ k 0 (fun _=>[.n .i64 0]))
 ·refine (rdUa G K pp qq k m d j (i:Int) i f).trans ?_;simp only [vJQ (show (i:Int) < (k:Int) by omega),qYK (show i < 1000000 by omega),uJ (show i < k by omega),uJ (show i < m by omega),toN,vYH hn,vJQ (show 0≤IntKind.u64.wrap d by rw [yKF hd]; omega),vJQ (show i + 1≤1000000 by omega),vYV,vYG];unfold aQ;cases decide ((pU pp qq j i).tmod (pN d) < 0) <;> rfl
 ·refine (rdUa G K pp qq k m d j (k:Int) k f).trans ?_;rw [vYH (show ¬ (k:Int) < (k:Int) by omega)];rfl
def atB (pp qq:Nat→Int) (k m:Nat) (d j:Int):Bool:=mtB pp qq k m d && (decide (0≤j) && decide (j≤pN d))
noncomputable def yGC (pp qq:Nat→Int) (k m:Nat) (d j:Int):List (List Nat × kU):=[([0,1,0,1,1,1],sumF (fun _:Unit=>(hUa pp qq k m d j 0 0 (fun _=>[.n .i64 0]))) (fun _=>()) (fun _ K=>(bif gP (k≤50∧k=m∧pN d ≠ 0∧(0≤d∧d≤20)) then (K (.exit 0) ⟨[(10,.o 56)],[(56,.reg 2 1 (.fo k (zYE (fun i:Nat=>[.n .i64 (aQ pp qq d j i)]) k 0 (fun _=>[.n .i64 0]))))]⟩) else none)))]
set_option maxRecDepth 100000 in
theorem pxat0 (pp qq:Nat→Int) (k m:Nat) (d j:Int):qJE Tf (orUa pp qq k m d j) (zW (yGC pp qq k m d j)) 60 18 [.lf k (fQ pp),.lf m (fQ qq),.n .i64 d,.n .i64 j] =
 (bif (gF1 cpc epc (pp,qq,k,m,d)) then (bif (mtB pp qq k m d) then (bif (decide (j < 0)) then some (.v (.t [.l [],.b false]),[])
 else (bif (decide (0≤(IntKind.u64.wrap d))) then (bif (decide ((pN d) < j)) then some (.v (.t [.l [],.b false]),[])
 else (bif (gSt (hUa pp qq k m d j 0 0 (fun _=>[.n .i64 0])) (hUa pp qq k m d j 0 0 (fun _=>[.n .i64 0]))) then (bif gP (k≤50∧k=m∧pN d ≠ 0∧(0≤d∧d≤20)) then some (.v (.t [.lf k (zYE (fun i:Nat=>[.n .i64 (aQ pp qq d j i)]) k 0 (fun _=>[.n .i64 0])),.b true]),[])
 else none)
 else none))
 else none))
 else some (.v (.t [.l [],.b false]),[]))
 else none):=by kernel_rfl
theorem snd_at0 (pp qq:Nat→Int) (k m:Nat) (d j:Int) (hk:k≤50) (hm:m≤50):zH Tryz.prog 18 [.lf k (fQ pp),.lf m (fQ qq),.n .i64 d,.n .i64 j] (bif atB pp qq k m d j then .v (.t [.lf k (zYE (fun i:Nat=>[.n .i64 (aQ pp qq d j i)]) k 0 (fun _=>[.n .i64 0])),.b true]) else .v (.t [.l [],.b false])):=by
 refine yV (N:=60) (LO:=zW (yGC pp qq k m d j)) qQC yZ (qQE (l:=[(40,o_pc)]) (m:=[]) ⟨ok_pc,trivial⟩ trivial) (fun p S hp => ?_) ?_
 ·refine yX (L:=qG Tf 18) (l:=(yGC pp qq k m d j)) (show AllP _ (yGC pp qq k m d j) from ⟨?_,trivial⟩) p S hp
  ·dsimp only;refine qXW (T:=Tf) (o:=(orUa pp qq k m d j)) (f:=18) (LO:=zW []) (p:=[0,1,0,1,1,1]) qWU ?_;intro t K r hr;obtain ⟨hg,hr⟩:=qQ hr
   skip
   exact (lpUa K pp qq k m d j (qQG hg).1 (qQG hg).2.1 (qQG hg).2.2.1 (qQG hg).2.2.2).trans hr
 ·refine (pxat0 pp qq k m d j).trans ?_;unfold atB;rw [qXZ (C:=cpc) (t:=(pp,qq,k,m,d)) ⟨hk,hm⟩,vYV];cases h:mtB pp qq k m d with
  | false=>rfl
  | true =>
   obtain ⟨_,_,e,d0,d1⟩:=mtB_spec h;have hu:=yKF ⟨d0,d1⟩;obtain ⟨_,n1,n2⟩:=yUU ⟨d0,d1⟩;have en:vJJ .i64 (1 * 2 ^ (min d.toNat 64))=pN d:=by unfold pN; rw [hu]
   by_cases h0:j < 0
   ·rw [vJQ h0,vYH (show ¬ 0≤j by omega)]; rfl
   ·rw [vYH h0,vJQ (show 0≤j by omega)];by_cases h1:pN d < j
    ·simp only [hu,en,vJQ d0,vJQ h1,vYH (show ¬ j≤pN d by omega),vYV,vYG,Bool.and_false]
    ·simp only [hu,en,vJQ d0,vYH h1,vJQ (show j≤pN d by omega),kX,zXD (show k≤50∧k=m∧pN d ≠ 0∧(0≤d∧d≤20) from ⟨hk,e,by omega,d0,d1⟩),vYV,vYG,vZJ]
theorem snd_at (pp qq:Nat→Int) (k m:Nat) (d j:Int) (hk:k≤50) (hm:m≤50) (h:atB pp qq k m d j=true):zH Tryz.prog 18 [.lf k (fQ pp),.lf m (fQ qq),.n .i64 d,.n .i64 j] (.v (.t [.lf k (fQ (aQ pp qq d j)),.b true])):=by
 have h0:=snd_at0 pp qq k m d j hk hm;rw [h] at h0;refine qXV (Same.t (xs:=[_,_]) ⟨zXG fun i (hi:i < k) => ?_,Same.refl _,trivial⟩) h0;rw [zXI,if_pos ⟨Nat.zero_le _,by omega⟩];rfl
noncomputable def orRb (q:Nat→Int) (k:Nat):OrS:=orS [(44,o_lk [.lf k (fQ q)] (decide (k≤50)) (.v (.b (smQ q k))))] []
noncomputable def hRb (q:Nat→Int) (k:Nat) (i:Int) (r:Nat) (f:Nat→List PV):St:=⟨[(0,.v (.lf k (fQ q))),(3,.o 25),(4,.v (.n .i64 i))],[(25,.reg 65 2 (.fo r f))]⟩
set_option maxRecDepth 100000 in
theorem rdRb (G:St→Option (Ret × Mem)) (K:Cont) (q:Nat→Int) (k:Nat) (i:Int) (r:Nat) (f:Nat→List PV):stpT Tf 20 (orRb q k) 60 [] [0,1,0,1,1,1] K G (hRb q k i r f) =
 (bif (decide (i < (k:Int))) then (bif (inB i k) then (bif (inB i k) then (bif (decide (r + 1≤1000000)) then (G (hRb q k (vJJ .i64 (i + 1)) (r + 1) (fun v=>jV (Nat.beq v r) [.n .i64 (q (i).toNat),.n .i64 (q (i).toNat)] (f v))))
 else none)
 else none)
 else none)
 else (K (.exit 0) ⟨[(3,.o 25)],[(25,.reg 65 2 (.fo r f))]⟩)):=by kernel_rfl
theorem lpRb (K:Cont) (q:Nat→Int) (k:Nat) (_:k≤50):LFT Tf 20 (orRb q k) 60 [] [0,1,0,1,1,1] K 60 (hRb q k 0 0 (fun _=>[.n .i64 0,.n .i64 0]))=(K (.exit 0) ⟨[(3,.o 25)],[(25,.reg 65 2 (.fo k (zYE (fun i:Nat=>[.n .i64 (q i),.n .i64 (q i)]) k 0 (fun _=>[.n .i64 0,.n .i64 0]))))]⟩):=by
 refine (zQQ (L:=LFT Tf 20 (orRb q k) 60 [] [0,1,0,1,1,1] K) (stp:=stpT Tf 20 (orRb q k) 60 [] [0,1,0,1,1,1] K) (fun _ _=>rfl) (fun (i:Nat) (f:Nat→List PV)=>hRb q k (i:Int) i f) (fun _ _=>True) (fun _ _=>true) (fun (i:Nat) f v=>jV (Nat.beq v i) ([.n .i64 (q i),.n .i64 (q i)]) (f v)) (c:=k) (fun f=>(K (.exit 0) ⟨[(3,.o 25)],[(25,.reg 65 2 (.fo k f))]⟩)) (fun _ _=>none) (fun G i f hi _ => ?_) (fun _ _ _ _ _=>trivial) (fun G f _ => ?_) k 0 60 (fun _=>[.n .i64 0,.n .i64 0]) (by omega) (by omega) trivial).trans (zUJ k 0 (fun _=>[.n .i64 0,.n .i64 0]))
 ·refine (rdRb G K q k (i:Int) i f).trans ?_;simp only [vJQ (show (i:Int) < (k:Int) by omega),qYK (show i < 1000000 by omega),uJ (show i < k by omega),toN,vJQ (show i + 1≤1000000 by omega),vYV]
  all_goals rfl
 ·refine (rdRb G K q k (k:Int) k f).trans ?_;rw [vYH (show ¬ (k:Int) < (k:Int) by omega)];rfl
noncomputable def yKX (q:Nat→Int) (k:Nat):List (List Nat × kU):=[([0,1,0,1,1,1],sumF (fun _:Unit=>(hRb q k 0 0 (fun _=>[.n .i64 0,.n .i64 0]))) (fun _=>()) (fun _ K=>(bif (decide (k≤50)) then (K (.exit 0) ⟨[(3,.o 25)],[(25,.reg 65 2 (.fo k (zYE (fun i:Nat=>[.n .i64 (q i),.n .i64 (q i)]) k 0 (fun _=>[.n .i64 0,.n .i64 0]))))]⟩) else none)))]
set_option maxRecDepth 100000 in
theorem pxrbx0 (q:Nat→Int) (k:Nat):qJE Tf (orRb q k) (zW (yKX q k)) 60 20 [.lf k (fQ q)] =
 (bif (g1 [.lf k (fQ q)] && (decide (k≤50))) then (bif (smQ q k) then (bif (gSt (hRb q k 0 0 (fun _=>[.n .i64 0,.n .i64 0])) (hRb q k 0 0 (fun _=>[.n .i64 0,.n .i64 0]))) then (bif (decide (k≤50)) then some (.ow 65 2 (.fo k (zYE (fun i:Nat=>[.n .i64 (q i),.n .i64 (q i)]) k 0 (fun _=>[.n .i64 0,.n .i64 0]))),[])
 else none)
 else none)
 else some (.v (.l []),[]))
 else none):=by kernel_rfl
theorem snd_rbx0 (q:Nat→Int) (k:Nat) (hk:k≤50) (hs:smQ q k=true):zH Tryz.prog 20 [.lf k (fQ q)] (.ow 65 2 (.fo k (zYE (fun i:Nat=>[.n .i64 (q i),.n .i64 (q i)]) k 0 (fun _=>[.n .i64 0,.n .i64 0])))):=by
 refine yV (N:=60) (LO:=zW (yKX q k)) qQC yZ (qQE (l:=[(44,o_lk [.lf k (fQ q)] (decide (k≤50)) (.v (.b (smQ q k))))]) (m:=[]) ⟨zJC (fun h=>snd_rsm q k (vJZ h)),trivial⟩ trivial) (fun p S hp => ?_) ?_
 ·refine yX (L:=qG Tf 20) (l:=(yKX q k)) (show AllP _ (yKX q k) from ⟨?_,trivial⟩) p S hp
  ·dsimp only;refine qXW (T:=Tf) (o:=(orRb q k)) (f:=20) (LO:=zW []) (p:=[0,1,0,1,1,1]) qWU ?_;intro t K r hr;obtain ⟨hg,hr⟩:=qQ hr;have hk:=vJZ hg;exact (lpRb K q k hk).trans hr
 ·refine (pxrbx0 q k).trans ?_;simp only [g1_t,kX,vJQ hk,hs,vZJ,vYV]
def ptA (q:Nat→Int):Nat→Iv:=fun i=>⟨q i,q i⟩
theorem snd_rbx (q:Nat→Int) (k:Nat) (hk:k≤50) (hs:smQ q k=true):zH Tryz.prog 20 [.lf k (fQ q)] (.v (.lf k (fB (ptA q)))):=by
 refine qXV (zXG fun i (hi:i < k) => ?_) (snd_ownF (snd_rbx0 q k hk hs));rw [zXI,if_pos ⟨Nat.zero_le _,by omega⟩];rfl
end Go.Proofs.YtbfcbojgnppacaaGreat.Ua
namespace Go.Sx
structure R3 where
 x:Int
 y:Int
 z:Int
structure RM where
 x:R3
 y:R3
 z:R3
def R3.dot (a b:R3):Int:=a.x * b.x + a.y * b.y + a.z * b.z
def RM.tr (m:RM):RM:=⟨⟨m.x.x,m.y.x,m.z.x⟩,⟨m.x.y,m.y.y,m.z.y⟩,⟨m.x.z,m.y.z,m.z.z⟩⟩
def RM.app (m:RM) (v:R3):R3:=⟨R3.dot m.x v,R3.dot m.y v,R3.dot m.z v⟩
def RM.mul (a b:RM):RM:=⟨b.tr.app a.x,b.tr.app a.y,b.tr.app a.z⟩
structure VIn (v:V3) (m:Int) (r:R3):Prop where
 x:In v.x m r.x
 y:In v.y m r.y
 z:In v.z m r.z
structure MIn (v:M3) (m:Int) (r:RM):Prop where
 x:VIn v.x m r.x
 y:VIn v.y m r.y
 z:VIn v.z m r.z
structure VOk (v:V3):Prop where
 x:Ok v.x
 y:Ok v.y
 z:Ok v.z
structure MOk (v:M3):Prop where
 x:VOk v.x
 y:VOk v.y
 z:VOk v.z
structure RB (B:Int) (r:R3):Prop where
 x : -B≤r.x∧r.x≤B
 y : -B≤r.y∧r.y≤B
 z : -B≤r.z∧r.z≤B
structure RMB (B:Int) (r:RM):Prop where
 x:RB B r.x
 y:RB B r.y
 z:RB B r.z
theorem MIn.tr {v:M3} {m:Int} {r:RM} (h:MIn v m r):MIn v.tr m r.tr:=⟨⟨h.x.x,h.y.x,h.z.x⟩,⟨h.x.y,h.y.y,h.z.y⟩,⟨h.x.z,h.y.z,h.z.z⟩⟩
theorem MOk.tr {v:M3} (h:MOk v):MOk v.tr:=⟨⟨h.x.x,h.y.x,h.z.x⟩,⟨h.x.y,h.y.y,h.z.y⟩,⟨h.x.z,h.y.z,h.z.z⟩⟩
theorem RMB.tr {B:Int} {v:RM} (h:RMB B v):RMB B v.tr:=⟨⟨h.x.x,h.y.x,h.z.x⟩,⟨h.x.y,h.y.y,h.z.y⟩,⟨h.x.z,h.y.z,h.z.z⟩⟩
theorem lim_Ok {a:Iv} (h:Ok a):Ok (limV a):=by
 unfold Ok limV limI at *; simp only; omega
theorem sinOver_b {a:Iv} (v:Ok a) : -65536≤(yY a).lo∧(yY a).lo≤(yY a).hi∧(yY a).hi≤65536:=by rw [qVH]; exact yKU v
theorem cosOver_b {a:Iv} (v:Ok a) : -65536≤(yJ a).lo∧(yJ a).lo≤(yJ a).hi∧(yJ a).hi≤65536:=by rw [qGQ]; exact yKU v
theorem neg_Ok {a:Iv} (v:Ok a):Ok (Iv.neg a):=by rw [yQF v]; unfold Ok at *; simp only; omega
theorem one_Ok:Ok iv1:=by unfold Ok; decide
theorem zero_Ok:Ok iv0:=by unfold Ok; decide
theorem turn_at {axis:Int} {a:Iv} (v:Ok a) (h:axis=0 ∨ axis=1 ∨ axis=2):M3.turn axis a=if axis=0 then ⟨⟨iv1,iv0,iv0⟩,⟨iv0,yJ a,Iv.neg (yY a)⟩,⟨iv0,yY a,yJ a⟩⟩ else if axis=1 then ⟨⟨yJ a,iv0,yY a⟩,⟨iv0,iv1,iv0⟩,⟨Iv.neg (yY a),iv0,yJ a⟩⟩ else ⟨⟨yJ a,Iv.neg (yY a),iv0⟩,⟨yY a,yJ a,iv0⟩,⟨iv0,iv0,iv1⟩⟩:=by
 unfold M3.turn;rw [qQK v];rcases h with h | h | h <;> subst h <;> rfl
end Go.Sx
namespace Go.Sx
structure VNear (a b:R3):Prop where
 x : -((1099511627776:Int) * (340282366920938463463374607431768211456:Int))≤a.x - (340282366920938463463374607431768211456:Int) * b.x∧a.x - (340282366920938463463374607431768211456:Int) * b.x≤(1099511627776:Int) * (340282366920938463463374607431768211456:Int)
 y : -((1099511627776:Int) * (340282366920938463463374607431768211456:Int))≤a.y - (340282366920938463463374607431768211456:Int) * b.y∧a.y - (340282366920938463463374607431768211456:Int) * b.y≤(1099511627776:Int) * (340282366920938463463374607431768211456:Int)
 z : -((1099511627776:Int) * (340282366920938463463374607431768211456:Int))≤a.z - (340282366920938463463374607431768211456:Int) * b.z∧a.z - (340282366920938463463374607431768211456:Int) * b.z≤(1099511627776:Int) * (340282366920938463463374607431768211456:Int)
structure MNear (a b:RM):Prop where
 x:VNear a.x b.x
 y:VNear a.y b.y
 z:VNear a.z b.z
structure VMeet (a b:V3):Prop where
 x:Iv.meetB a.x b.x=true
 y:Iv.meetB a.y b.y=true
 z:Iv.meetB a.z b.z=true
structure MMeet (a b:M3):Prop where
 x:VMeet a.x b.x
 y:VMeet a.y b.y
 z:VMeet a.z b.z
end Go.Sx
namespace Go.Sx
structure Dg (P E:Int) (B:RM):Prop where
 x:0≤P - R3.dot B.x B.x∧P - R3.dot B.x B.x≤E
 y:0≤P - R3.dot B.y B.y∧P - R3.dot B.y B.y≤E
 z:0≤P - R3.dot B.z B.z∧P - R3.dot B.z B.z≤E
 xy:R3.dot B.x B.y=0
 xz:R3.dot B.x B.z=0
 yz:R3.dot B.y B.z=0
end Go.Sx
namespace Go.Sx
structure Orth (Q T:Int) (X:RM):Prop where
 x:Q - T≤R3.dot X.x X.x∧R3.dot X.x X.x≤Q
 y:Q - T≤R3.dot X.y X.y∧R3.dot X.y X.y≤Q
 z:Q - T≤R3.dot X.z X.z∧R3.dot X.z X.z≤Q
 xy : -T≤R3.dot X.x X.y∧R3.dot X.x X.y≤T
 xz : -T≤R3.dot X.x X.z∧R3.dot X.x X.z≤T
 yz : -T≤R3.dot X.y X.z∧R3.dot X.y X.z≤T
end Go.Sx
namespace Go.Sx
structure Sub (a b:Iv):Prop where
 ok:Ok a
 ok':Ok b
 lo:b.lo≤a.lo
 hi:a.hi≤b.hi
theorem Sub.within {a b:Iv} (h:Sub a b):Iv.within a b=true:=by
 simp only [Iv.within,qQK h.ok,qQK h.ok',vZH,vQJ,decide_eq_true_eq];exact ⟨h.lo,h.hi⟩
theorem Sub.refl {a:Iv} (h:Ok a):Sub a a:=⟨h,h,Int.le_refl _,Int.le_refl _⟩
theorem Sub.trans {a b c:Iv} (h:Sub a b) (k:Sub b c):Sub a c:=⟨h.ok,k.ok',by have:=h.lo; have:=k.lo; omega,by have:=h.hi; have:=k.hi; omega⟩
theorem in1 {a b:Iv} (h:Sub a b) {x:Int} (_:a.lo≤x) (_:x≤a.hi):In b 1 x:=⟨by have:=h.lo; omega,by have:=h.hi; omega⟩
theorem sub_mul {a a' b b':Iv} (h:Sub a a') (k:Sub b b'):Sub (Iv.mul a b) (Iv.mul a' b'):=by
 refine ⟨yXL _ _,yXL _ _,?_,?_⟩
 all_goals
  have va:=h.ok;have vb:=k.ok;have p1:=zKY (by decide) (by decide) (in1 h (x:=a.lo) (Int.le_refl _) va.2.1) (in1 k (x:=b.lo) (Int.le_refl _) vb.2.1);have p2:=zKY (by decide) (by decide) (in1 h (x:=a.lo) (Int.le_refl _) va.2.1) (in1 k (x:=b.hi) vb.2.1 (Int.le_refl _));have p3:=zKY (by decide) (by decide) (in1 h (x:=a.hi) va.2.1 (Int.le_refl _)) (in1 k (x:=b.lo) (Int.le_refl _) vb.2.1);have p4:=zKY (by decide) (by decide) (in1 h (x:=a.hi) va.2.1 (Int.le_refl _)) (in1 k (x:=b.hi) vb.2.1 (Int.le_refl _));simp only [Iv.mul,qQK h.ok,qQK h.ok',qQK k.ok,qQK k.ok',vZJ,vYV];simp only [Int.mul_one] at p1 p2 p3 p4;refine qGZ ?_
 ·have:min4 (a'.lo * b'.lo) (a'.lo * b'.hi) (a'.hi * b'.lo) (a'.hi * b'.hi)≤min4 (a.lo * b.lo) (a.lo * b.hi) (a.hi * b.lo) (a.hi * b.hi):=by
   generalize min4 (a'.lo * b'.lo) (a'.lo * b'.hi) (a'.hi * b'.lo) (a'.hi * b'.hi)=m at *;unfold min4; omega
  omega
 ·have:max4 (a.lo * b.lo) (a.lo * b.hi) (a.hi * b.lo) (a.hi * b.hi)≤max4 (a'.lo * b'.lo) (a'.lo * b'.hi) (a'.hi * b'.lo) (a'.hi * b'.hi):=by
   generalize max4 (a'.lo * b'.lo) (a'.lo * b'.hi) (a'.hi * b'.lo) (a'.hi * b'.hi)=m at *;unfold max4; omega
  unfold zZ;omega
theorem zKF {a a' b b':Iv} (h:Sub a a') (k:Sub b b'):Sub (Iv.add a b) (Iv.add a' b'):=by
 have h1:=h.lo; have h2:=h.hi; have k1:=k.lo; have k2:=k.hi;refine ⟨add_Ok _ _,add_Ok _ _,?_,?_⟩ <;> simp only [Iv.add,qQK h.ok,qQK h.ok',qQK k.ok,qQK k.ok',vZJ,vYV] <;> exact qGZ (by omega)
theorem sub_neg {a a':Iv} (h:Sub a a'):Sub (Iv.neg a) (Iv.neg a'):=by
 have h1:=h.lo; have h2:=h.hi;refine ⟨neg_Ok h.ok,neg_Ok h.ok',?_,?_⟩ <;> rw [yQF h.ok,yQF h.ok'] <;> simp only <;> omega
theorem yZF {a a':Iv} (h:Sub a a'):Sub (limV a) (limV a'):=by
 have h1:=h.lo; have h2:=h.hi;exact ⟨lim_Ok h.ok,lim_Ok h.ok',by simp only [limV,limI]; omega,by simp only [limV,limI]; omega⟩
structure VSub (a b:V3):Prop where
 x:Sub a.x b.x
 y:Sub a.y b.y
 z:Sub a.z b.z
structure MSub (a b:M3):Prop where
 x:VSub a.x b.x
 y:VSub a.y b.y
 z:VSub a.z b.z
theorem VSub.refl {a:V3} (h:VOk a):VSub a a:=⟨.refl h.x,.refl h.y,.refl h.z⟩
theorem MSub.refl {a:M3} (h:MOk a):MSub a a:=⟨.refl h.x,.refl h.y,.refl h.z⟩
theorem VSub.within {a b:V3} (h:VSub a b):V3.within a b=true:=by simp only [V3.within,h.x.within,h.y.within,h.z.within,vZJ]
theorem MSub.within {a b:M3} (h:MSub a b):M3.within a b=true:=by simp only [M3.within,h.x.within,h.y.within,h.z.within,vZJ]
theorem MSub.tr {a b:M3} (h:MSub a b):MSub a.tr b.tr:=⟨⟨h.x.x,h.y.x,h.z.x⟩,⟨h.x.y,h.y.y,h.z.y⟩,⟨h.x.z,h.y.z,h.z.z⟩⟩
theorem zZA {a a' b b':V3} (h:VSub a a') (k:VSub b b'):Sub (V3.dot a b) (V3.dot a' b'):=zKF (zKF (sub_mul h.x k.x) (sub_mul h.y k.y)) (sub_mul h.z k.z)
theorem sub_apply {a a':M3} {b b':V3} (h:MSub a a') (k:VSub b b'):VSub (M3.apply a b) (M3.apply a' b'):=⟨zZA h.x k,zZA h.y k,zZA h.z k⟩
theorem yZE {a a':V3} {b b':M3} (h:VSub a a') (k:MSub b b'):VSub (M3.row a b) (M3.row a' b'):=⟨yZF (zZA h k.tr.x),yZF (zZA h k.tr.y),yZF (zZA h k.tr.z)⟩
theorem sub_Mmul {a a' b b':M3} (h:MSub a a') (k:MSub b b'):MSub (M3.mul a b) (M3.mul a' b'):=⟨yZE h.x k,yZE h.y k,yZE h.z k⟩
theorem sub_Vadd {a a' b b':V3} (h:VSub a a') (k:VSub b b'):VSub (V3.add a b) (V3.add a' b'):=⟨zKF h.x k.x,zKF h.y k.y,zKF h.z k.z⟩
theorem sub_sin {a a':Iv} (h:Sub a a'):Sub (yY a) (yY a'):=by
 have b1:=sinOver_b h.ok;have b2:=sinOver_b h.ok';have n:=ov_nested (c:=0) h.ok' ⟨h.lo,h.ok.2.1,h.hi⟩;rw [qVH,qVH] at *;exact ⟨by unfold Ok; omega,by unfold Ok; omega,n.1,n.2⟩
theorem sub_cos {a a':Iv} (h:Sub a a'):Sub (yJ a) (yJ a'):=by
 have b1:=cosOver_b h.ok;have b2:=cosOver_b h.ok';have n:=ov_nested (c:=16384) h.ok' ⟨h.lo,h.ok.2.1,h.hi⟩;rw [qGQ,qGQ] at *;exact ⟨by unfold Ok; omega,by unfold Ok; omega,n.1,n.2⟩
theorem sub_turn {k:Int} {a a':Iv} (_:0≤k∧k < 3) (h:Sub a a'):MSub (M3.turn k a) (M3.turn k a'):=by
 have hk':k=0 ∨ k=1 ∨ k=2:=by omega
 rw [turn_at h.ok hk',turn_at h.ok' hk'];have s:=sub_sin h;have c:=sub_cos h;have t:=sub_neg s;have o:=Sub.refl one_Ok;have z:=Sub.refl zero_Ok;rcases hk' with e | e | e <;> subst e
 ·exact ⟨⟨o,z,z⟩,⟨z,c,t⟩,⟨z,s,c⟩⟩
 ·exact ⟨⟨c,z,s⟩,⟨z,o,z⟩,⟨t,z,c⟩⟩
 ·exact ⟨⟨c,t,z⟩,⟨s,c,z⟩,⟨z,z,o⟩⟩
end Go.Sx
namespace Go.Sx
theorem clampM (x:Int) : -2147483648≤kH x∧kH x≤2147483648:=by
 unfold kH; omega
theorem zGI {js:List J} {bx:List Iv}:∀ n,n≤js.length→n≤bx.length→(lks js bx n).length=n
 | 0,_,_=>rfl
 | n + 1,h1,h2=>by
  have e1:js[n]? = some js[n]:=vQK (by omega);have e2:bx[n]? = some bx[n]:=vQK (by omega);rw [qVD e1 e2,List.length_append,zGI n (by omega) (by omega)];rfl
end Go.Sx
namespace Go.Sx
open Go.RowKit
section
variable {P:Program} {n:Nat} {w0:Base} {ops:Array Oper} {Q:Exit→Act→World→Prop} {S:yU} {H:Heap}
variable {ty:TypeId} {pos:String} {af:Array Edge} {g:Option (Nat × Bool)} {rest:List Oper}
end
def vc (v:V3):List Value:=[.int .i64 v.x.lo,.int .i64 v.x.hi,.int .i64 v.y.lo,.int .i64 v.y.hi,.int .i64 v.z.lo,.int .i64 v.z.hi]
def ZB (z:Z3):Prop:=(-4194304≤z.x∧z.x≤4194304)∧(-4194304≤z.y∧z.y≤4194304)∧(-4194304≤z.z∧z.z≤4194304)
end Go.Sx
namespace Go.Sx
def Bd (K:Int) (a:Iv):Prop:=-K≤a.lo∧a.lo≤a.hi∧a.hi≤K
theorem zZU {K:Int} {a:Iv} (h:Bd K a) (_:K≤2147483648):a.valid=true:=by
 obtain ⟨h1,h2,h3⟩:=h;unfold Iv.valid;simp only [vQJ,decide_eq_true_eq];omega
theorem yJA {K L:Int} {a:Iv} (h:Bd K a) (_:K≤L):Bd L a:=by
 obtain ⟨h1,h2,h3⟩:=h;exact ⟨by omega,h2,by omega⟩
theorem yZK {K L:Int} {a b:Iv} (ha:Bd K a) (hb:Bd L b) (h:K + L≤2147483648) (_:0≤K∧0≤L):Bd (K + L) (Iv.add a b):=by
 unfold Iv.add;rw [zZU ha (by omega),zZU hb (by omega)];obtain ⟨a1,a2,a3⟩:=ha;obtain ⟨b1,b2,b3⟩:=hb;simp only [vZJ,vYV];unfold Bd kH;dsimp only;omega
theorem yVI {x y K:Int} (_: -65536≤x∧x≤65536) (_: -K≤y∧y≤K) : -(65536 * K)≤x * y∧x * y≤65536 * K:=by
 have hK:0≤K:=by omega
 have h1:0≤(65536 - x) * (K + y):=Int.mul_nonneg (by omega) (by omega);have h2:0≤(65536 + x) * (K - y):=Int.mul_nonneg (by omega) (by omega);have h3:0≤(65536 - x) * (K - y):=Int.mul_nonneg (by omega) (by omega);have h4:0≤(65536 + x) * (K + y):=Int.mul_nonneg (by omega) (by omega);have e1:(65536 - x) * (K + y)=65536 * K + 65536 * y - x * K - x * y:=by rw [Int.sub_mul,Int.mul_add,Int.mul_add]; omega
 have e2:(65536 + x) * (K - y)=65536 * K - 65536 * y + x * K - x * y:=by rw [Int.add_mul,Int.mul_sub,Int.mul_sub]; omega
 have e3:(65536 - x) * (K - y)=65536 * K - 65536 * y - x * K + x * y:=by rw [Int.sub_mul,Int.mul_sub,Int.mul_sub]; omega
 have e4:(65536 + x) * (K + y)=65536 * K + 65536 * y + x * K + x * y:=by rw [Int.add_mul,Int.mul_add,Int.mul_add]; omega
 omega
theorem yWD {K:Int} {a b:Iv} (ha:Bd 65536 a) (hb:Bd K b) (h:K≤2147483648):Bd K (Iv.mul a b):=by
 unfold Iv.mul;rw [zZU ha (by decide),zZU hb h];obtain ⟨a1,a2,a3⟩:=ha;obtain ⟨b1,b2,b3⟩:=hb;have p1:=yVI (x:=a.lo) (y:=b.lo) (K:=K) (by omega) (by omega);have p2:=yVI (x:=a.lo) (y:=b.hi) (K:=K) (by omega) (by omega);have p3:=yVI (x:=a.hi) (y:=b.lo) (K:=K) (by omega) (by omega);have p4:=yVI (x:=a.hi) (y:=b.hi) (K:=K) (by omega) (by omega);simp only [vZJ,vYV];generalize a.lo * b.lo=x1 at *;generalize a.lo * b.hi=x2 at *;generalize a.hi * b.lo=x3 at *;generalize a.hi * b.hi=x4 at *;unfold Bd kH min4 max4 zZ;dsimp only;omega
theorem bd_neg {K:Int} {a:Iv} (h:Bd K a) (hK:K≤2147483648):Bd K (Iv.neg a):=by
 unfold Iv.neg;rw [zZU h hK];obtain ⟨h1,h2,h3⟩:=h;simp only [vYV];unfold Bd;dsimp only;omega
theorem yWE {K:Int} {a:Iv} (h:Bd K a):Bd 65536 (limV a):=by
 obtain ⟨h1,h2,h3⟩:=h;unfold limV limI Bd;dsimp only;omega
def BV (K:Int) (v:V3):Prop:=Bd K v.x∧Bd K v.y∧Bd K v.z
def BM (m:M3):Prop:=BV 65536 m.x∧BV 65536 m.y∧BV 65536 m.z
def BP (K:Int) (p:Po):Prop:=BM p.r∧BV K p.t
theorem yJG {K L:Int} {v:V3} (h:BV K v) (hK:K≤L):BV L v:=⟨yJA h.1 hK,yJA h.2.1 hK,yJA h.2.2 hK⟩
theorem zJJ {K L:Int} {p:Po} (h:BP K p) (hK:K≤L):BP L p:=⟨h.1,yJG h.2 hK⟩
theorem zVJ {K:Int} {a b:V3} (ha:BV 65536 a) (hb:BV K b) (h:3 * K≤2147483648) (_:0≤K):Bd (3 * K) (V3.dot a b):=by
 have e:3 * K=K + K + K:=by omega
 rw [e];exact yZK (yZK (yWD ha.1 hb.1 (by omega)) (yWD ha.2.1 hb.2.1 (by omega)) (by omega) (by omega)) (yWD ha.2.2 hb.2.2 (by omega)) (by omega) (by omega)
theorem jQX {m:M3} (h:BM m):BM (M3.tr m):=⟨⟨h.1.1,h.2.1.1,h.2.2.1⟩,⟨h.1.2.1,h.2.1.2.1,h.2.2.2.1⟩,⟨h.1.2.2,h.2.1.2.2,h.2.2.2.2⟩⟩
theorem yWC {a:V3} {b:M3} (ha:BV 65536 a) (hb:BM b):BV 65536 (M3.row a b):=⟨yWE (zVJ ha (jQX hb).1 (by decide) (by decide)),yWE (zVJ ha (jQX hb).2.1 (by decide) (by decide)),yWE (zVJ ha (jQX hb).2.2 (by decide) (by decide))⟩
theorem bm_mul {a b:M3} (ha:BM a) (hb:BM b):BM (M3.mul a b):=⟨yWC ha.1 hb,yWC ha.2.1 hb,yWC ha.2.2 hb⟩
theorem bv_apply {K:Int} {m:M3} {v:V3} (hm:BM m) (hv:BV K v) (h:3 * K≤2147483648) (h0:0≤K):BV (3 * K) (M3.apply m v):=⟨zVJ hm.1 hv h h0,zVJ hm.2.1 hv h h0,zVJ hm.2.2 hv h h0⟩
theorem bv_app {K L:Int} {p:Po} {v:V3} (hp:BP K p) (hv:BV L v) (h:K + 3 * L≤2147483648) (h0:0≤K∧0≤L):BV (K + 3 * L) (Po.app p v):=by
 have hm:=bv_apply hp.1 hv (by omega) h0.2;exact ⟨yZK hp.2.1 hm.1 h (by omega),yZK hp.2.2.1 hm.2.1 h (by omega),yZK hp.2.2.2 hm.2.2 h (by omega)⟩
theorem bp_mul {K L:Int} {p q:Po} (hp:BP K p) (hq:BP L q) (h:K + 3 * L≤2147483648) (h0:0≤K∧0≤L):BP (K + 3 * L) (Po.mul p q):=⟨bm_mul hp.1 hq.1,bv_app hp hq.2 h h0⟩
theorem bd0 {K:Int} (h:0≤K):Bd K iv0:=⟨by show -K≤0; omega,Int.le_refl _,h⟩
theorem bd1:Bd 65536 iv1:=⟨by decide,by decide,by decide⟩
theorem yJH:BM M3.unit:=⟨⟨bd1,bd0 (by decide),bd0 (by decide)⟩,⟨bd0 (by decide),bd1,bd0 (by decide)⟩,⟨bd0 (by decide),bd0 (by decide),bd1⟩⟩
theorem bm_zero:BM M3.zero:=⟨⟨bd0 (by decide),bd0 (by decide),bd0 (by decide)⟩,⟨bd0 (by decide),bd0 (by decide),bd0 (by decide)⟩,⟨bd0 (by decide),bd0 (by decide),bd0 (by decide)⟩⟩
theorem bv_zero {K:Int} (h:0≤K):BV K V3.zero:=⟨bd0 h,bd0 h,bd0 h⟩
theorem bp_rest {K:Int} (h:0≤K):BP K Po.rest:=⟨yJH,bv_zero h⟩
theorem jQW {x K:Int} (h : -K≤x∧x≤K) (_:K≤2147483648):Bd K (Iv.of x):=by
 unfold Iv.of Bd kH;dsimp only;omega
theorem jQU {z:Z3} (h:ZB z):BV 4194304 (V3.of z):=⟨jQW h.1 (by decide),jQW h.2.1 (by decide),jQW h.2.2 (by decide)⟩
theorem bv_put {k K:Int} {a:Iv} (h:Bd K a) (h0:0≤K):BV K (V3.put k a):=by
 unfold V3.put;split
 ·exact ⟨h,bd0 h0,bd0 h0⟩
 ·split
  ·exact ⟨bd0 h0,h,bd0 h0⟩
  ·exact ⟨bd0 h0,bd0 h0,h⟩
theorem bd_ov {c l h:Int} (v : -2147483648≤l∧l≤h∧h≤2147483648):Bd 65536 (ovI c l h):=yKU v
theorem bm_turn {axis:Int} {a:Iv} (v : -2147483648≤a.lo∧a.lo≤a.hi∧a.hi≤2147483648):BM (M3.turn axis a):=by
 have hs:Bd 65536 (yY a):=by rw [qVH]; exact bd_ov v
 have hc:Bd 65536 (yJ a):=by rw [qGQ]; exact bd_ov v
 have hn:=bd_neg hs (by decide);have h0:Bd 65536 iv0:=bd0 (by decide);unfold M3.turn;cases !(Iv.valid a)
 ·simp only [vYG];cases decide (axis=0)
  ·simp only [vYG];cases decide (axis=1)
   ·simp only [vYG];cases decide (axis=2)
    ·exact bm_zero
    ·exact ⟨⟨hc,hn,h0⟩,⟨hs,hc,h0⟩,⟨h0,h0,bd1⟩⟩
   ·exact ⟨⟨hc,h0,hs⟩,⟨h0,bd1,h0⟩,⟨hn,h0,hc⟩⟩
  ·exact ⟨⟨bd1,h0,h0⟩,⟨h0,hc,hn⟩,⟨h0,hs,hc⟩⟩
 ·exact bm_zero
theorem bp_jPose {k:Int} {o:Z3} {a:Iv} (ho:ZB o) (ha:Bd 1000000 a):BP 7194304 (zGL k o a):=by
 unfold zGL;have h:BP 1000000 (jMot k a):=by
  unfold jMot;split
  ·obtain ⟨h1,h2,h3⟩:=ha;exact ⟨bm_turn (by omega),bv_zero (by decide)⟩
  ·split
   ·exact ⟨yJH,bv_put ha (by decide)⟩
   ·exact bp_rest (by decide)
 exact bp_mul (K:=4194304) ⟨yJH,jQU ho⟩ h (by decide) (by decide)
theorem bp_lks {js:List J} {bx:List Iv} (hj:∀ j ∈ js,ZB j.off) (hb:∀ a ∈ bx,Bd 1000000 a):∀ n:Nat,n≤10→∀ p ∈ lks js bx n,BP (24000000 * n) p
 | 0,_,p,h=>by cases h
 | n + 1,hn,p,h=>by
  have ih:∀ p ∈ lks js bx n,BP (24000000 * (n:Int)) p:=bp_lks hj hb n (by omega);cases hj1:js[n]? with
  | none =>
   simp only [lks,hj1] at h;exact zJJ (ih p h) (by omega)
  | some j =>
   cases hx:bx[n]? with
   | none =>
    simp only [lks,hj1,hx] at h;exact zJJ (ih p h) (by omega)
   | some a =>
    rw [qVD hj1 hx] at h;rcases List.mem_append.1 h with h | h
    ·exact zJJ (ih p h) (by omega)
    ·obtain rfl:=List.mem_singleton.1 h;have hJ:=bp_jPose (k:=j.kind) (hj j (vQG hj1)) (hb a (vQG hx));unfold lkP;split
     ·exact zJJ hJ (by omega)
     ·refine zJJ (bp_mul (K:=24000000 * (n:Int)) ?_ hJ (by omega) (by omega)) (by omega);rw [vZG];cases hg:(lks js bx n)[j.parent.toNat]? with
      | none=>exact bp_rest (by omega)
      | some p=>exact ih p (vQG hg)
end Go.Sx
namespace Go.Sx
structure PSub (p q:Po):Prop where
 r:MSub p.r q.r
 t:VSub p.t q.t
theorem PSub.within {p q:Po} (h:PSub p q):Po.within p q=true:=by simp only [Po.within,h.r.within,h.t.within,vZJ]
theorem sub_papp {p q:Po} {u v:V3} (h:PSub p q) (k:VSub u v):VSub (Po.app p u) (Po.app q v):=sub_Vadd h.t (sub_apply h.r k)
theorem sub_pmul {p q p' q':Po} (h:PSub p q) (k:PSub p' q'):PSub (Po.mul p p') (Po.mul q q'):=⟨sub_Mmul h.r k.r,sub_papp h k.t⟩
theorem sub0:Sub iv0 iv0:=.refl zero_Ok
theorem sub1:Sub iv1 iv1:=.refl one_Ok
theorem zVU:MSub M3.unit M3.unit:=⟨⟨sub1,sub0,sub0⟩,⟨sub0,sub1,sub0⟩,⟨sub0,sub0,sub1⟩⟩
theorem sub_rest:PSub Po.rest Po.rest:=⟨zVU,⟨sub0,sub0,sub0⟩⟩
theorem ofOk (x:Int):Ok (Iv.of x):=⟨(clampM x).1,Int.le_refl _,(clampM x).2⟩
theorem yUD (z:Z3):VSub (V3.of z) (V3.of z):=⟨.refl (ofOk _),.refl (ofOk _),.refl (ofOk _)⟩
theorem sub_put {k:Int} {a b:Iv} (h:Sub a b):VSub (V3.put k a) (V3.put k b):=by
 unfold V3.put;split
 ·exact ⟨h,sub0,sub0⟩
 ·split
  ·exact ⟨sub0,h,sub0⟩
  ·exact ⟨sub0,sub0,h⟩
theorem sub_jPose {k:Int} {o:Z3} {a b:Iv} (h:Sub a b):PSub (zGL k o a) (zGL k o b):=by
 unfold zGL;refine sub_pmul ⟨zVU,yUD o⟩ ?_;unfold jMot;split
 ·exact ⟨sub_turn (by omega) h,⟨sub0,sub0,sub0⟩⟩
 ·split
  ·exact ⟨zVU,sub_put h⟩
  ·exact sub_rest
def BSub (a b:List Iv):Prop:=a.length=b.length∧∀ (i:Nat) (x y:Iv),a[i]? = some x→b[i]? = some y→Sub x y
def LSub (a b:List Po):Prop:=a.length=b.length∧∀ (i:Nat) (x y:Po),a[i]? = some x→b[i]? = some y→PSub x y
theorem LSub.getD {a b:List Po} (h:LSub a b) (i:Nat):PSub (a.getD i Po.rest) (b.getD i Po.rest):=by
 rw [vZG,vZG];rcases Nat.lt_or_ge i a.length with hi | hi
 ·have e1:a[i]? = some a[i]:=vQK hi;have e2:b[i]? = some (b[i]'(by have:=h.1; omega)):=vQK (by have:=h.1; omega)
  have:=h.2 i _ _ e1 e2
  rw [e1,e2];exact this
 ·rw [List.getElem?_eq_none hi,List.getElem?_eq_none (by have:=h.1; omega)];exact sub_rest
theorem LSub.snoc {a b:List Po} {p q:Po} (h:LSub a b) (k:PSub p q):LSub (a ++ [p]) (b ++ [q]):=by
 have hl:=h.1;refine ⟨by simp [hl],fun i x y hx hy => ?_⟩;rcases Nat.lt_or_ge i a.length with hi | hi
 ·rw [List.getElem?_append_left hi] at hx;rw [List.getElem?_append_left (by omega)] at hy;exact h.2 i x y hx hy
 ·have hi2:i < (a ++ [p]).length:=(List.getElem?_eq_some_iff.1 hx).1;simp only [List.length_append,List.length_singleton] at hi2;obtain rfl:i=a.length:=by omega
  rw [List.getElem?_append_right (Nat.le_refl _),Nat.sub_self] at hx;rw [hl,List.getElem?_append_right (Nat.le_refl _),Nat.sub_self] at hy;simp at hx hy;subst hx hy;exact k
theorem sub_lks {js:List J} {a b:List Iv} (h:BSub a b):∀ n,LSub (lks js a n) (lks js b n)
 | 0=>⟨rfl,fun i x y hx=>by simp [lks] at hx⟩
 | n + 1=>by
  have ih:=sub_lks h n (js:=js);cases hj:js[n]? with
  | none=>simp only [lks,hj]; exact ih
  | some j =>
   rcases Nat.lt_or_ge n a.length with hn | hn
   ·have e1:a[n]? = some a[n]:=vQK hn;have e2:b[n]? = some (b[n]'(by have:=h.1; omega)):=vQK (by have:=h.1; omega);have hs:=h.2 n _ _ e1 e2;rw [qVD hj e1,qVD hj e2];refine ih.snoc ?_;unfold lkP;split
    ·exact sub_jPose hs
    ·exact sub_pmul (ih.getD _) (sub_jPose hs)
   ·have e1:a[n]? = none:=List.getElem?_eq_none hn;have e2:b[n]? = none:=List.getElem?_eq_none (by have:=h.1; omega);simp only [lks,hj,e1,e2];exact ih
theorem BSub.valid {a b:List Iv} (h:BSub a b):∀ x ∈ a,Iv.valid x=true:=fun x hx=>by
 obtain ⟨i,hi⟩:=List.mem_iff_getElem?.1 hx;have hl:=(List.getElem?_eq_some_iff.1 hi).1;have e:b[i]? = some (b[i]'(by have:=h.1; omega)):=vQK (by have:=h.1; omega);exact qQK (h.2 i x _ hi e).ok
end Go.Sx
namespace Go.Proofs.YtbfcbojgnppacaaGreat.Ud
open Go.Rx Rt Go.Sx Go.RowKit Od Oe Na Nb Nc Nd Nx Nf Ng Nj
theorem yQI {n a b x y:Int} (h1:a≤x) (h2:x≤y) (h3:y≤b):min (n * a) (n * b)≤min (n * x) (n * y)∧max (n * x) (n * y)≤max (n * a) (n * b):=by
 rcases Int.le_total 0 n with hn | hn
 ·have p1:=Int.mul_le_mul_of_nonneg_left h1 hn;have p2:=Int.mul_le_mul_of_nonneg_left h2 hn;have p3:=Int.mul_le_mul_of_nonneg_left h3 hn;omega
 ·have p1:=Int.mul_le_mul_of_nonpos_left hn h1;have p2:=Int.mul_le_mul_of_nonpos_left hn h2;have p3:=Int.mul_le_mul_of_nonpos_left hn h3;omega
noncomputable def dotV (nx ny nz:Int) (v:V3):Int × Int:=dot nx ny nz v.x.lo v.x.hi v.y.lo v.y.hi v.z.lo v.z.hi
def vecP (c:Cn) (p:Po):V3:=bif decide (c.kind=1) then M3.apply p.r (V3.of ⟨c.p.x,c.p.y,c.p.z⟩) else Po.app p (V3.of ⟨c.p.x,c.p.y,c.p.z⟩)
theorem vr_dot (c:Cn) (p:Po):vr c p=dotV c.n.x c.n.y c.n.z (vecP c p):=by
 unfold vr vecP;cases decide (c.kind=1) <;> rfl
theorem dotV_mono {nx ny nz:Int} (hr:(-16384≤nx∧nx≤16384)∧(-16384≤ny∧ny≤16384)∧(-16384≤nz∧nz≤16384)) (hz:¬ (nx=0∧ny=0∧nz=0)) {a b:V3} (h:VSub a b) (hb:BV 268435456 b):(dotV nx ny nz b).1≤(dotV nx ny nz a).1∧(dotV nx ny nz a).2≤(dotV nx ny nz b).2∧(dotV nx ny nz a).1≤(dotV nx ny nz a).2:=by
 unfold dotV;obtain ⟨⟨x1,x2,x3⟩,⟨y1,y2,y3⟩,z1,z2,z3⟩:=hb;have ox:=h.x.ok.2.1;have oy:=h.y.ok.2.1;have oz:=h.z.ok.2.1;have lx:=h.x.lo;have ly:=h.y.lo;have lz:=h.z.lo;have ux:=h.x.hi;have uy:=h.y.hi;have uz:=h.z.hi;rw [dot_in hr.1 hr.2.1 hr.2.2 ⟨x1,x2,x3⟩ ⟨y1,y2,y3⟩ ⟨z1,z2,z3⟩ hz,dot_in hr.1 hr.2.1 hr.2.2 (by omega) (by omega) (by omega) hz];have p:=yQI (n:=nx) lx ox ux;have q:=yQI (n:=ny) ly oy uy;have r:=yQI (n:=nz) lz oz uz;have p':min (nx * a.x.lo) (nx * a.x.hi)≤max (nx * a.x.lo) (nx * a.x.hi):=by omega
 have q':min (ny * a.y.lo) (ny * a.y.hi)≤max (ny * a.y.lo) (ny * a.y.hi):=by omega
 have r':min (nz * a.z.lo) (nz * a.z.hi)≤max (nz * a.z.lo) (nz * a.z.hi):=by omega
 dsimp only;generalize min (nx * b.x.lo) (nx * b.x.hi)=a1 at *;generalize min (nx * a.x.lo) (nx * a.x.hi)=a2 at *;generalize max (nx * b.x.lo) (nx * b.x.hi)=a3 at *;generalize max (nx * a.x.lo) (nx * a.x.hi)=a4 at *;generalize min (ny * b.y.lo) (ny * b.y.hi)=b1 at *;generalize min (ny * a.y.lo) (ny * a.y.hi)=b2 at *;generalize max (ny * b.y.lo) (ny * b.y.hi)=b3 at *;generalize max (ny * a.y.lo) (ny * a.y.hi)=b4 at *;generalize min (nz * b.z.lo) (nz * b.z.hi)=c1 at *;generalize min (nz * a.z.lo) (nz * a.z.hi)=c2 at *;generalize max (nz * b.z.lo) (nz * b.z.hi)=c3 at *;generalize max (nz * a.z.lo) (nz * a.z.hi)=c4 at *;omega
theorem vec_sub {p q:Po} (h:PSub p q) (c:Cn):VSub (vecP c p) (vecP c q):=by
 unfold vecP;cases decide (c.kind=1)
 ·exact sub_papp h (yUD _)
 ·exact sub_apply h.r (yUD _)
theorem vec_bv {c:Cn} {p:Po} (h:BP 72000000 p) (hz:ZB ⟨c.p.x,c.p.y,c.p.z⟩):BV 268435456 (vecP c p):=by
 unfold vecP;cases decide (c.kind=1)
 ·exact yJG (bv_app h (jQU hz) (by decide) (by decide)) (by decide)
 ·exact yJG (bv_apply h.1 (jQU hz) (by decide) (by decide)) (by decide)
theorem vr_mono {c:Cn} {n:Nat} (hc:COK n c) {p q:Po} (h:PSub p q) (hq:BP 72000000 q):(vr c q).1≤(vr c p).1∧(vr c p).2≤(vr c q).2∧(vr c p).1≤(vr c p).2:=by
 obtain ⟨_,_,p1,p2,p3,n1,n2,n3,n0,_⟩:=hc;rw [vr_dot,vr_dot];exact dotV_mono ⟨n1,n2,n3⟩ n0 (vec_sub h c) (vec_bv hq ⟨p1,p2,p3⟩)
theorem bl_sub {b B:Nat→Iv} {n:Nat} (h:∀ v,v < n→Sub (b v) (B v)):BSub (bl b n) (bl B n):=by
 refine ⟨by rw [yZJ,yZJ],fun i x y hx hy => ?_⟩;unfold bl at hx hy;have hi:i < n:=by
  have:=(List.getElem?_eq_some_iff.1 hx).1
  simpa using this
 rw [vZY,List.getElem?_range hi] at hx hy;cases hx;cases hy;exact h i hi
theorem vI_mono {js:Nat→J} {b B:Nat→Iv} {cs:Nat→Cn} {n i:Nat} (_:1≤n∧n≤3) (hj:∀ v,v < n→ZB (js v).off) (hB:∀ v,v < n→Bd 1000000 (B v)) (h:∀ v,v < n→Sub (b v) (B v)) (hc:COK n (cs i)) :
  (vI js B n cs i).lo≤(vI js b n cs i).lo∧(vI js b n cs i).hi≤(vI js B n cs i).hi∧(vI js b n cs i).lo≤(vI js b n cs i).hi:=by
 have hl:(LK js B n).length=n:=yVJ js B n;have hlk:(cs i).link.toNat < n:=by have:=hc.2.1; omega
 have hp:PSub (LP js b n (cs i).link.toNat) (LP js B n (cs i).link.toNat):=(sub_lks (bl_sub h) n).getD _;have hq:BP 72000000 (LP js B n (cs i).link.toNat):=by
  have hm:LP js B n (cs i).link.toNat ∈ lks (jl js n) (bl B n) n:=by
   show (LK js B n).getD (cs i).link.toNat Po.rest ∈ LK js B n;rw [vZG,vQK (by omega)];exact List.getElem_mem _
  refine zJJ (bp_lks (fun j hj' => ?_) (fun a ha => ?_) n (by omega) _ hm) (by omega)
  ·obtain ⟨v,hv,rfl⟩:=List.mem_map.1 hj';exact hj v (List.mem_range.1 hv)
  ·obtain ⟨v,hv,rfl⟩:=List.mem_map.1 ha;exact hB v (List.mem_range.1 hv)
 exact vr_mono hc hp hq
theorem hold_mono {js:Nat→J} {b B:Nat→Iv} {cs:Nat→Cn} {n c:Nat} (hm:∀ i,i < c→(vI js B n cs i).lo≤(vI js b n cs i).lo∧(vI js b n cs i).hi≤(vI js B n cs i).hi∧(vI js b n cs i).lo≤(vI js b n cs i).hi) (h:qGU cs (vI js B n cs) c=true):qGU cs (vI js b n cs) c=true:=by
 unfold qGU at h ⊢;refine allN_iff.2 fun i h0 hi => ?_
 have:=allN_iff.1 h i h0 hi
 obtain ⟨m1,m2,_⟩:=hm i (by omega);unfold inR at this ⊢;simp only [vQJ,Bool.not_eq_true',decide_eq_false_iff_not] at this ⊢;omega
theorem out_mono {js:Nat→J} {b B:Nat→Iv} {cs:Nat→Cn} {n c k:Nat} (hm:∀ i,i < c→(vI js B n cs i).lo≤(vI js b n cs i).lo∧(vI js b n cs i).hi≤(vI js B n cs i).hi∧(vI js b n cs i).lo≤(vI js b n cs i).hi) (hc:∀ i,i < c→(cs i).lo≤(cs i).hi) (hk:k < c) (h:outR (cs k) (vI js B n cs k)=true):qGU cs (vI js b n cs) c=false:=by
 cases hh:qGU cs (vI js b n cs) c with
 | false=>rfl
 | true =>
  unfold qGU at hh
  have:=allN_iff.1 hh k (Nat.zero_le _) (by omega)
  obtain ⟨m1,m2,m3⟩:=hm k hk
  have:=hc k hk
  unfold inR at *;unfold outR at h;simp only [vQJ,Bool.not_eq_true',decide_eq_false_iff_not,Bool.or_eq_true,decide_eq_true_eq] at *;omega
end Go.Proofs.YtbfcbojgnppacaaGreat.Ud

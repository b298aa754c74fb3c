/- Part 33 of the texts behind the last one: rules and contracts. No condition. -/
import Derived.Test.YtgmbkkkbfbocnaaGreatKL32
open Bool renaming and_eq_true → vQJ, and_self → vZJ
open Go.IntKind renaming wrap → vJJ
namespace Go.Proofs.YtgmbkkkbfbocnaaGreat.Ge
open Go.Rx Rt Go.Sx Go.RowKit Od Na Nb Nc Nx Nf Ga Gb Gc Gd
def pzF (js:Nat→J) (bx:Nat→Iv) (n:Nat) (l:Int):Po:=bif decide (l = -1) then Po.rest else LP js bx n l.toNat
def ptR (js:Nat→J) (bx:Nat→Iv) (sh:Nat→Shp) (n:Nat):Nat→List PV:=fun i=>[.lf (plN (sh i)) (fV (plF (sh i) (pzF js bx n (sh i).link)))]
theorem qVK {js:Nat→J} {ms:Nat→Ms} {sh:Nat→Shp} {sk:Nat→Skp} {n m c d:Nat} (h:sErr js ms sh sk n m c d=0):rErr js ms n m=0∧c≤24∧∀ i,i < c→shE n (sh i)=0:=by
 unfold sErr at h;by_cases h1:rErr js ms n m=0
 ·rw [vJQ h1,vYV] at h;by_cases h2:24 < (c:Int)
  ·rw [vJQ h2,vYV] at h; exact absurd h (by decide)
  ·rw [vYH h2,vYG] at h;cases h3:shG sh n c with
   | true=>exact ⟨h1,by omega,fun i hi=>vJZ (allN_iff.1 h3 i (Nat.zero_le _) (by omega))⟩
   | false =>
    rw [h3,vYG] at h;have hf:∀ k p,allN (fun i:Nat=>decide (shE n (sh i)=0)) k p=false→shE n (sh (Rx.firstK (fun i:Nat=>decide (shE n (sh i)=0)) k p)) ≠ 0:=by
     intro k;induction k with
     | zero=>intro p hp; cases hp
     | succ k ih =>
      intro p hp;unfold allN at hp;unfold Rx.firstK;by_cases h0:shE n (sh p)=0
      ·rw [vJQ h0] at hp ⊢;exact ih _ (by simpa using hp)
      ·rw [vYH h0];exact h0
    exact absurd h (hf c 0 h3)
 ·rw [vYH h1,vYG] at h; exact absurd h h1
theorem shE_spec {n:Nat} {s:Shp} (h:shE n s=0):(-1≤s.link∧s.link < (n:Int))∧shOk s=true:=by
 unfold shE at h;cases h1:isLk n s.link with
 | false=>rw [h1] at h; exact absurd (show (902:Int)=0 from h) (by decide)
 | true =>
  rw [h1,Bool.not_true,Bool.false_or] at h;unfold isLk at h1;rw [vQJ,decide_eq_true_eq,decide_eq_true_eq] at h1;refine ⟨h1,?_⟩;unfold shOk;cases h2:(decide (s.rad < 1) || (decide (1048576 < s.rad) || (decide ((s.np:Int) < 1) || decide (8 < (s.np:Int))))) with
  | true=>rw [h2] at h; exact absurd (show (902:Int)=0 from h) (by decide)
  | false =>
   rw [h2,vYG] at h;cases h3:jZK s with
   | true=>rfl
   | false=>rw [h3] at h; exact absurd (show (805:Int)=0 from h) (by decide)
theorem kKQ {js:Nat→J} {ms:Nat→Ms} {bx:Nat→Iv} {n m k:Nat} (h:(decide (rErr js ms n m=0) && isB bx n k)=true):rErr js ms n m=0∧k=n∧allV bx n=true:=by
 unfold isB at h;simp only [vQJ,decide_eq_true_eq] at h;obtain ⟨h1,h2,h3⟩:=h;have e:k=n:=by omega
 exact ⟨h1,e,e ▸ h3⟩
theorem kl_of {js:Nat→J} {ms:Nat→Ms} {bx:Nat→Iv} {n m k:Nat} (h:(decide (rErr js ms n m=0) && isB bx n k)=true):yH Tryz.prog 86 [.a [.lf n (fJ js),.lf m (fM ms)],.lf k (fB bx)] (.v (.lf n (fP (LP js bx n)))):=by
 obtain ⟨h1,rfl,h3⟩:=kKQ h;exact snd_kl js ms bx k m (by have:=yKQ h1; omega) (rerr_par h1)
theorem rl_of {js:Nat→J} {ms:Nat→Ms} {bx:Nat→Iv} {n m k:Nat} (h:(decide (rErr js ms n m=0) && isB bx n k)=true):yH Tryz.prog 22 [.a [.lf n (fJ js),.lf m (fM ms)],.lf k (fB bx)] (.v (.lf n (fP (LP js bx n)))):=by
 obtain ⟨h1,rfl,h3⟩:=kKQ h;exact snd_rl js ms bx k m h1 h3
noncomputable def orKp (js:Nat→J) (ms:Nat→Ms) (sh:Nat→Shp) (sk:Nat→Skp) (n m c d:Nat) (bx:Nat→Iv) (k:Nat):OrS:=orS ((84,o_lk [.a [.lf n (fJ js),.lf m (fM ms)],.lf k (fB bx)] (decide (k≤9223372036854775807)) (.v (.b (isB bx n k)))) :: (50,o_cr [.a [.lf n (fJ js),.lf m (fM ms),.lf c (fS sh),.lf d (fK sk)]] (.v (.n .i64 (sErr js ms sh sk n m c d)))) :: (86,o_lk [.a [.lf n (fJ js),.lf m (fM ms)],.lf k (fB bx)] (decide (rErr js ms n m=0) && isB bx n k) (.v (.lf n (fP (LP js bx n))))) :: (89,o_pp) :: L9) []
noncomputable def hKp (js:Nat→J) (ms:Nat→Ms) (sh:Nat→Shp) (sk:Nat→Skp) (n m c d:Nat) (bx:Nat→Iv) (k:Nat) (i:Int) (g:Nat→PV):St:=⟨[(5,.v (.lf n (fP (LP js bx n)))),(6,.o 27),(29,.v (.lf c (fS sh))),(30,.v (.n .i64 (c:Int))),(31,.v (.n .i64 i))],[(27,.reg 138 1 (.fo (c:Int).toNat (fun v=>[(g v)])))]⟩
set_option maxRecDepth 100000 in
theorem rdKp (G:St→Option (Ret × Mem)) (K:Cont) (js:Nat→J) (ms:Nat→Ms) (sh:Nat→Shp) (sk:Nat→Skp) (n m c d:Nat) (bx:Nat→Iv) (k:Nat) (i:Int) (g:Nat→PV):uX 60 (cxS Tf (orKp js ms sh sk n m c d bx k) 60 40 (ntmF Tf 40)) (evX Tf (orKp js ms sh sk n m c d bx k) 60 40 (ntmF Tf 40)) (qX []) (qQ Tf 40 [0,1,0,1,1,1,1]) [0,1,0,1,1,1,1] (Tf.hint 40 (qG (qQ Tf 40 [0,1,0,1,1,1,1]))) K G (hKp js ms sh sk n m c d bx k i g) =
 (bif (decide (i < (c:Int))) then (bif (inB i c) then (bif (!decide ((sh (i).toNat).link=(-1))) then (bif (inB (sh (i).toNat).link n) then (bif (gF1 cpp epp ((sh (i).toNat),(LP js bx n ((sh (i).toNat).link).toNat))) then (bif (inB i (c:Int).toNat) then (G (hKp js ms sh sk n m c d bx k (vJJ .i64 (i + 1)) (fun v=>(qGH (Nat.beq v (i).toNat) (.lf (plN (sh (i).toNat)) (fV (plF (sh (i).toNat) (LP js bx n ((sh (i).toNat).link).toNat)))) (g v)))))
 else none)
 else none)
 else none)
 else (bif (gF1 cpp epp ((sh (i).toNat),(Po.rest))) then (bif (inB i (c:Int).toNat) then (G (hKp js ms sh sk n m c d bx k (vJJ .i64 (i + 1)) (fun v=>(qGH (Nat.beq v (i).toNat) (.lf (plN (sh (i).toNat)) (fV (plF (sh (i).toNat) (Po.rest)))) (g v)))))
 else none)
 else none))
 else none)
 else (K (.exit 0) ⟨[(6,.o 27)],[(27,.reg 138 1 (.fo (c:Int).toNat (fun v=>[(g v)])))]⟩)):=by kernel_rfl
noncomputable def nxKp (js:Nat→J) (ms:Nat→Ms) (sh:Nat→Shp) (sk:Nat→Skp) (n m c d:Nat) (bx:Nat→Iv) (k:Nat) (i:Nat) (g:Nat→PV):Nat→PV:=fun v=>qGH (Nat.beq v i) (.lf (plN (sh i)) (fV (plF (sh i) (pzF js bx n (sh i).link)))) (g v)
theorem lpKp (K:Cont) (js:Nat→J) (ms:Nat→Ms) (sh:Nat→Shp) (sk:Nat→Skp) (n m c d:Nat) (bx:Nat→Iv) (k:Nat) (hc:c≤24) (hL:∀ i,i < c → -1≤(sh i).link∧(sh i).link < (n:Int)):LFX 60 (cxS Tf (orKp js ms sh sk n m c d bx k) 60 40 (ntmF Tf 40)) (evX Tf (orKp js ms sh sk n m c d bx k) 60 40 (ntmF Tf 40)) (qX []) (qQ Tf 40 [0,1,0,1,1,1,1]) [0,1,0,1,1,1,1] (Tf.hint 40 (qG (qQ Tf 40 [0,1,0,1,1,1,1]))) K 60 (hKp js ms sh sk n m c d bx k 0 (fun v=>.zs))=(K (.exit 0) ⟨[(6,.o 27)],[(27,.reg 138 1 (.fo (c:Int).toNat (fun v=>[((jZ (nxKp js ms sh sk n m c d bx k) c 0 (fun v=>.zs)) v)])))]⟩):=by
 refine (qJU (L:=LFX 60 (cxS Tf (orKp js ms sh sk n m c d bx k) 60 40 (ntmF Tf 40)) (evX Tf (orKp js ms sh sk n m c d bx k) 60 40 (ntmF Tf 40)) (qX []) (qQ Tf 40 [0,1,0,1,1,1,1]) [0,1,0,1,1,1,1] (Tf.hint 40 (qG (qQ Tf 40 [0,1,0,1,1,1,1]))) K) (stp:=uX 60 (cxS Tf (orKp js ms sh sk n m c d bx k) 60 40 (ntmF Tf 40)) (evX Tf (orKp js ms sh sk n m c d bx k) 60 40 (ntmF Tf 40)) (qX []) (qQ Tf 40 [0,1,0,1,1,1,1]) [0,1,0,1,1,1,1] (Tf.hint 40 (qG (qQ Tf 40 [0,1,0,1,1,1,1]))) K) (fun _ _=>rfl) (fun (i:Nat) (g:Nat→PV)=>hKp js ms sh sk n m c d bx k (i:Int) g) (fun _ _=>True) (fun _ _=>true) (nxKp js ms sh sk n m c d bx k) (c:=c) (fun g=>(K (.exit 0) ⟨[(6,.o 27)],[(27,.reg 138 1 (.fo (c:Int).toNat (fun v=>[(g v)])))]⟩)) (fun _ _=>none) (fun G i g hi _ => ?_) (fun _ _ _ _ _=>trivial) (fun G g _ => ?_) c 0 60 _ (by omega) (by omega) trivial).trans (qYQ c 0 _)
 ·refine (rdKp G K js ms sh sk n m c d bx k i g).trans ?_;simp only [vJQ (show (i:Int) < (c:Int) by omega),qZH (show i < 1000000 by omega),kX (show i < c by omega),toN,vYV];have hl:=hL i hi;by_cases h:(sh i).link = -1
  ·rw [vJQ h,Bool.not_true,vYG,qGQ (C:=cpp) (t:=(sh i,Po.rest)) trivial,vYV];unfold nxKp pzF;rw [vJQ h];rfl
  ·have hb:inB (sh i).link n=true:=by
    unfold inB;rw [vJQ (show 0≤(sh i).link by omega),vJQ (show (sh i).link.toNat < n by omega)];rfl
   rw [vYH h,Bool.not_false,vYV,hb,vYV,qGQ (C:=cpp) (t:=(sh i,LP js bx n (sh i).link.toNat)) trivial,vYV];unfold nxKp pzF;rw [vYH h];rfl
 ·refine (rdKp G K js ms sh sk n m c d bx k (c:Int) g).trans ?_;rw [vYH (show ¬ (c:Int) < (c:Int) by omega)];rfl
theorem rwKp (js:Nat→J) (ms:Nat→Ms) (sh:Nat→Shp) (sk:Nat→Skp) (n m c d:Nat) (bx:Nat→Iv) (k:Nat):∀ v,v < c→(jZ (nxKp js ms sh sk n m c d bx k) c 0 (fun v=>.zs)) v=.lf (plN (sh v)) (fV (plF (sh v) (pzF js bx n (sh v).link))):=by
 refine qKJ (Q:=fun (i:Nat) (g:Nat→PV)=>∀ v,v < i→g v=.lf (plN (sh v)) (fV (plF (sh v) (pzF js bx n (sh v).link)))) (c:=c) (fun i g hi h v hv => ?_) c 0 _ (by omega) (fun v hv=>absurd hv (by omega));show qGH (Nat.beq v i) _ (g v)=_;by_cases e:v=i
 ·subst e;rw [qWX,vJQ rfl,yWZ]
 ·rw [qWX,vYH e,yWY];exact h v (by omega)
noncomputable def kpR (js:Nat→J) (ms:Nat→Ms) (sh:Nat→Shp) (sk:Nat→Skp) (n m c d:Nat) (bx:Nat→Iv) (k:Nat):Nat→List PV:=fun v=>[((jZ (nxKp js ms sh sk n m c d bx k) c 0 (fun v=>.zs)) v)]
noncomputable def jUZ (js:Nat→J) (ms:Nat→Ms) (sh:Nat→Shp) (sk:Nat→Skp) (n m c d:Nat) (bx:Nat→Iv) (k:Nat):List (List Nat × kV):=[([0,1,0,1,1,1,1],sumF (fun _:Unit=>(hKp js ms sh sk n m c d bx k 0 (fun v=>.zs))) (fun _=>()) (fun _ K=>(bif gP (sErr js ms sh sk n m c d=0) then (K (.exit 0) ⟨[(6,.o 27)],[(27,.reg 138 1 (.fo (c:Int).toNat (fun v=>[((jZ (nxKp js ms sh sk n m c d bx k) c 0 (fun v=>.zs)) v)])))]⟩) else none)))]
set_option maxRecDepth 100000 in
theorem pxkpt0 (js:Nat→J) (ms:Nat→Ms) (sh:Nat→Shp) (sk:Nat→Skp) (n m c d:Nat) (bx:Nat→Iv) (k:Nat):qWH Tf (orKp js ms sh sk n m c d bx k) (qX (jUZ js ms sh sk n m c d bx k)) 60 40 [.a [.lf n (fJ js),.lf m (fM ms),.lf c (fS sh),.lf d (fK sk)],.lf k (fB bx)] =
 (bif (g1 [.a [.lf n (fJ js),.lf m (fM ms)],.lf k (fB bx)] && decide (k≤9223372036854775807)) then (bif (isB bx n k) then (bif (g1 [.a [.lf n (fJ js),.lf m (fM ms),.lf c (fS sh),.lf d (fK sk)]]) then (bif (!decide ((sErr js ms sh sk n m c d)=0)) then some (.v (.l []),[])
 else (bif (g1 [.a [.lf n (fJ js),.lf m (fM ms)],.lf k (fB bx)] && (decide (rErr js ms n m=0) && isB bx n k)) then (bif (decide (0≤(c:Int))) then (bif (decide ((c:Int)≤(c:Int))) then (bif (decide ((c:Int)≤1000000)) then (bif (gSt (hKp js ms sh sk n m c d bx k 0 (fun v=>.zs)) (hKp js ms sh sk n m c d bx k 0 (fun v=>.zs))) then (bif gP (sErr js ms sh sk n m c d=0) then some (.ow 138 1 (.fo (c:Int).toNat (kpR js ms sh sk n m c d bx k)),[])
 else none)
 else none)
 else none)
 else none)
 else none)
 else none))
 else none)
 else some (.v (.l []),[]))
 else none):=by kernel_rfl
theorem snd_kpt0 (js:Nat→J) (ms:Nat→Ms) (sh:Nat→Shp) (sk:Nat→Skp) (n m c d:Nat) (bx:Nat→Iv) (k:Nat) (hk:k≤9223372036854775807):yH Tryz.prog 40 [.a [.lf n (fJ js),.lf m (fM ms),.lf c (fS sh),.lf d (fK sk)],.lf k (fB bx)] (bif isB bx n k && decide (sErr js ms sh sk n m c d=0) then .ow 138 1 (.fo c (kpR js ms sh sk n m c d bx k)) else .v (.l [])):=by
 refine yU (N:=60) (LO:=qX (jUZ js ms sh sk n m c d bx k)) qQV yJ (qQH (l:=((84,o_lk [.a [.lf n (fJ js),.lf m (fM ms)],.lf k (fB bx)] (decide (k≤9223372036854775807)) (.v (.b (isB bx n k)))) :: (50,o_cr [.a [.lf n (fJ js),.lf m (fM ms),.lf c (fS sh),.lf d (fK sk)]] (.v (.n .i64 (sErr js ms sh sk n m c d)))) :: (86,o_lk [.a [.lf n (fJ js),.lf m (fM ms)],.lf k (fB bx)] (decide (rErr js ms n m=0) && isB bx n k) (.v (.lf n (fP (LP js bx n))))) :: (89,o_pp) :: L9)) (m:=[]) ⟨yJV (fun h=>snd_isP js ms bx n m k (vJZ h)),zKK (snd_sck js ms sh sk n m c d),yJV (fun h=>kl_of h),ok_pp,kJY⟩ trivial) (fun p S hp => ?_) ?_
 ·refine yY (L:=qQ Tf 40) (l:=(jUZ js ms sh sk n m c d bx k)) (show AllP _ (jUZ js ms sh sk n m c d bx k) from ⟨?_,trivial⟩) p S hp
  ·dsimp only;refine qQU (T:=Tf) (o:=(orKp js ms sh sk n m c d bx k)) (f:=40) (LO:=qX []) (p:=[0,1,0,1,1,1,1]) qZY ?_;intro t K r hr;obtain ⟨hg,hr⟩:=qY hr
   skip
   exact (lpKp K js ms sh sk n m c d bx k (qVK (qKV hg)).2.1 (fun i hi=>(shE_spec ((qVK (qKV hg)).2.2 i hi)).1)).trans hr
 ·refine (pxkpt0 js ms sh sk n m c d bx k).trans ?_;rw [g1_t,vJQ hk];cases hb:isB bx n k with
  | false=>rfl
  | true =>
   rw [g1_t];by_cases h:sErr js ms sh sk n m c d=0
   ·obtain ⟨h1,h2,_⟩:=qVK h;simp only [vJQ h,g1_t,vJQ h1,vZJ,vYV,Bool.not_true,vYG,jK,yHK h,vJQ (show (0:Int)≤(c:Int) by omega),vJQ (show (c:Int)≤(c:Int) by omega),vJQ (show (c:Int)≤1000000 by omega),toN]
    all_goals rfl
   ·rw [vYH h]; rfl
theorem snd_kpt (js:Nat→J) (ms:Nat→Ms) (sh:Nat→Shp) (sk:Nat→Skp) (n m c d:Nat) (bx:Nat→Iv) (k:Nat) (hk:k≤9223372036854775807):yH Tryz.prog 40 [.a [.lf n (fJ js),.lf m (fM ms),.lf c (fS sh),.lf d (fK sk)],.lf k (fB bx)] (.v (.lf (bif isB bx n k && decide (sErr js ms sh sk n m c d=0) then c else 0) (ptR js bx sh n))):=by
 have h0:=snd_kpt0 js ms sh sk n m c d bx k hk;cases h:(isB bx n k && decide (sErr js ms sh sk n m c d=0)) with
 | true =>
  rw [h] at h0;refine qUU (qYH fun j (hj:j < c) => ?_) (zGH h0);show [((jZ (nxKp js ms sh sk n m c d bx k) c 0 (fun v=>.zs)) j)]=_;rw [rwKp js ms sh sk n m c d bx k j hj];rfl
 | false =>
  rw [h] at h0;exact qUU (Same.lf rfl) h0
noncomputable def orRq (js:Nat→J) (ms:Nat→Ms) (sh:Nat→Shp) (sk:Nat→Skp) (n m c d:Nat) (bx:Nat→Iv) (k:Nat):OrS:=orS ((66,o_lk [.a [.lf n (fJ js),.lf m (fM ms)],.lf k (fB bx)] (decide (n≤50)) (.v (.b (isB bx n k)))) :: (56,o_cr [.a [.lf n (fJ js),.lf m (fM ms),.lf c (fS sh),.lf d (fK sk)]] (.v (.n .i64 (sErr js ms sh sk n m c d)))) :: (22,o_lk [.a [.lf n (fJ js),.lf m (fM ms)],.lf k (fB bx)] (decide (rErr js ms n m=0) && isB bx n k) (.v (.lf n (fP (LP js bx n))))) :: (91,o_pr) :: L9) []
noncomputable def hRq (js:Nat→J) (ms:Nat→Ms) (sh:Nat→Shp) (sk:Nat→Skp) (n m c d:Nat) (bx:Nat→Iv) (k:Nat) (i:Int) (r:Nat) (g:Nat→PV):St:=⟨[(2,.p 2 0),(5,.v (.lf n (fP (LP js bx n)))),(6,.o 56),(7,.v (.n .i64 i))],[(2,.blk [.v (.lf n (fJ js)),.v (.lf m (fM ms)),.v (.lf c (fS sh)),.v (.lf d (fK sk))]),(56,.reg 138 1 (.fo r (fun v=>[(g v)])))]⟩
set_option maxRecDepth 100000 in
theorem rdRq (G:St→Option (Ret × Mem)) (K:Cont) (js:Nat→J) (ms:Nat→Ms) (sh:Nat→Shp) (sk:Nat→Skp) (n m c d:Nat) (bx:Nat→Iv) (k:Nat) (i:Int) (r:Nat) (g:Nat→PV):uX 60 (cxS Tf (orRq js ms sh sk n m c d bx k) 60 41 (ntmF Tf 41)) (evX Tf (orRq js ms sh sk n m c d bx k) 60 41 (ntmF Tf 41)) (qX []) (qQ Tf 41 [0,1,0,1,1,1,1]) [0,1,0,1,1,1,1] (Tf.hint 41 (qG (qQ Tf 41 [0,1,0,1,1,1,1]))) K G (hRq js ms sh sk n m c d bx k i r g) =
 (bif (decide (i < (c:Int))) then (bif (inB i c) then (bif (!decide ((sh (i).toNat).link=(-1))) then (bif (inB i c) then (bif (inB (sh (i).toNat).link n) then (bif (inB i c) then (bif (gF1 cpr epr ((sh (i).toNat),(LP js bx n ((sh (i).toNat).link).toNat))) then (bif (decide (r + 1≤1000000)) then (G (hRq js ms sh sk n m c d bx k (vJJ .i64 (i + 1)) (r + 1) (fun v=>(qGH (Nat.beq v r) (.lf (plN (sh (i).toNat)) (fV (plF (sh (i).toNat) (LP js bx n ((sh (i).toNat).link).toNat)))) (g v)))))
 else none)
 else none)
 else none)
 else none)
 else none)
 else (bif (inB i c) then (bif (gF1 cpr epr ((sh (i).toNat),(Po.rest))) then (bif (decide (r + 1≤1000000)) then (G (hRq js ms sh sk n m c d bx k (vJJ .i64 (i + 1)) (r + 1) (fun v=>(qGH (Nat.beq v r) (.lf (plN (sh (i).toNat)) (fV (plF (sh (i).toNat) (Po.rest)))) (g v)))))
 else none)
 else none)
 else none))
 else none)
 else (K (.exit 0) ⟨[(6,.o 56)],[(56,.reg 138 1 (.fo r (fun v=>[(g v)])))]⟩)):=by kernel_rfl
noncomputable def nxRq (js:Nat→J) (ms:Nat→Ms) (sh:Nat→Shp) (sk:Nat→Skp) (n m c d:Nat) (bx:Nat→Iv) (k:Nat) (i:Nat) (g:Nat→PV):Nat→PV:=fun v=>qGH (Nat.beq v i) (.lf (plN (sh i)) (fV (plF (sh i) (pzF js bx n (sh i).link)))) (g v)
theorem lpRq (K:Cont) (js:Nat→J) (ms:Nat→Ms) (sh:Nat→Shp) (sk:Nat→Skp) (n m c d:Nat) (bx:Nat→Iv) (k:Nat) (hc:c≤24) (hL:∀ i,i < c → -1≤(sh i).link∧(sh i).link < (n:Int)):LFX 60 (cxS Tf (orRq js ms sh sk n m c d bx k) 60 41 (ntmF Tf 41)) (evX Tf (orRq js ms sh sk n m c d bx k) 60 41 (ntmF Tf 41)) (qX []) (qQ Tf 41 [0,1,0,1,1,1,1]) [0,1,0,1,1,1,1] (Tf.hint 41 (qG (qQ Tf 41 [0,1,0,1,1,1,1]))) K 60 (hRq js ms sh sk n m c d bx k 0 0 (fun v=>.zs))=(K (.exit 0) ⟨[(6,.o 56)],[(56,.reg 138 1 (.fo c (fun v=>[((jZ (nxRq js ms sh sk n m c d bx k) c 0 (fun v=>.zs)) v)])))]⟩):=by
 refine (qJU (L:=LFX 60 (cxS Tf (orRq js ms sh sk n m c d bx k) 60 41 (ntmF Tf 41)) (evX Tf (orRq js ms sh sk n m c d bx k) 60 41 (ntmF Tf 41)) (qX []) (qQ Tf 41 [0,1,0,1,1,1,1]) [0,1,0,1,1,1,1] (Tf.hint 41 (qG (qQ Tf 41 [0,1,0,1,1,1,1]))) K) (stp:=uX 60 (cxS Tf (orRq js ms sh sk n m c d bx k) 60 41 (ntmF Tf 41)) (evX Tf (orRq js ms sh sk n m c d bx k) 60 41 (ntmF Tf 41)) (qX []) (qQ Tf 41 [0,1,0,1,1,1,1]) [0,1,0,1,1,1,1] (Tf.hint 41 (qG (qQ Tf 41 [0,1,0,1,1,1,1]))) K) (fun _ _=>rfl) (fun (i:Nat) (g:Nat→PV)=>hRq js ms sh sk n m c d bx k (i:Int) i g) (fun _ _=>True) (fun _ _=>true) (nxRq js ms sh sk n m c d bx k) (c:=c) (fun g=>(K (.exit 0) ⟨[(6,.o 56)],[(56,.reg 138 1 (.fo c (fun v=>[(g v)])))]⟩)) (fun _ _=>none) (fun G i g hi _ => ?_) (fun _ _ _ _ _=>trivial) (fun G g _ => ?_) c 0 60 _ (by omega) (by omega) trivial).trans (qYQ c 0 _)
 ·refine (rdRq G K js ms sh sk n m c d bx k i i g).trans ?_;simp only [vJQ (show (i:Int) < (c:Int) by omega),qZH (show i < 1000000 by omega),kX (show i < c by omega),toN,vYV,vJQ (show i + 1≤1000000 by omega)];have hl:=hL i hi;by_cases h:(sh i).link = -1
  ·rw [vJQ h,Bool.not_true,vYG,qGQ (C:=cpr) (t:=(sh i,Po.rest)) trivial,vYV];unfold nxRq pzF;rw [vJQ h];rfl
  ·have hb:inB (sh i).link n=true:=by
    unfold inB;rw [vJQ (show 0≤(sh i).link by omega),vJQ (show (sh i).link.toNat < n by omega)];rfl
   rw [vYH h,Bool.not_false,vYV,hb,vYV,qGQ (C:=cpr) (t:=(sh i,LP js bx n (sh i).link.toNat)) trivial,vYV];unfold nxRq pzF;rw [vYH h];rfl
 ·refine (rdRq G K js ms sh sk n m c d bx k (c:Int) c g).trans ?_;rw [vYH (show ¬ (c:Int) < (c:Int) by omega)];rfl
theorem rwRq (js:Nat→J) (ms:Nat→Ms) (sh:Nat→Shp) (sk:Nat→Skp) (n m c d:Nat) (bx:Nat→Iv) (k:Nat):∀ v,v < c→(jZ (nxRq js ms sh sk n m c d bx k) c 0 (fun v=>.zs)) v=.lf (plN (sh v)) (fV (plF (sh v) (pzF js bx n (sh v).link))):=by
 refine qKJ (Q:=fun (i:Nat) (g:Nat→PV)=>∀ v,v < i→g v=.lf (plN (sh v)) (fV (plF (sh v) (pzF js bx n (sh v).link)))) (c:=c) (fun i g hi h v hv => ?_) c 0 _ (by omega) (fun v hv=>absurd hv (by omega));show qGH (Nat.beq v i) _ (g v)=_;by_cases e:v=i
 ·subst e;rw [qWX,vJQ rfl,yWZ]
 ·rw [qWX,vYH e,yWY];exact h v (by omega)
noncomputable def rqR (js:Nat→J) (ms:Nat→Ms) (sh:Nat→Shp) (sk:Nat→Skp) (n m c d:Nat) (bx:Nat→Iv) (k:Nat):Nat→List PV:=fun v=>[((jZ (nxRq js ms sh sk n m c d bx k) c 0 (fun v=>.zs)) v)]
noncomputable def jKG (js:Nat→J) (ms:Nat→Ms) (sh:Nat→Shp) (sk:Nat→Skp) (n m c d:Nat) (bx:Nat→Iv) (k:Nat):List (List Nat × kV):=[([0,1,0,1,1,1,1],sumF (fun _:Unit=>(hRq js ms sh sk n m c d bx k 0 0 (fun v=>.zs))) (fun _=>()) (fun _ K=>(bif gP (sErr js ms sh sk n m c d=0) then (K (.exit 0) ⟨[(6,.o 56)],[(56,.reg 138 1 (.fo c (fun v=>[((jZ (nxRq js ms sh sk n m c d bx k) c 0 (fun v=>.zs)) v)])))]⟩) else none)))]
set_option maxRecDepth 100000 in
theorem pxrpt0 (js:Nat→J) (ms:Nat→Ms) (sh:Nat→Shp) (sk:Nat→Skp) (n m c d:Nat) (bx:Nat→Iv) (k:Nat):qWH Tf (orRq js ms sh sk n m c d bx k) (qX (jKG js ms sh sk n m c d bx k)) 60 41 [.a [.lf n (fJ js),.lf m (fM ms),.lf c (fS sh),.lf d (fK sk)],.lf k (fB bx)] =
 (bif (g1 [.a [.lf n (fJ js),.lf m (fM ms),.lf c (fS sh),.lf d (fK sk)]]) then (bif (!decide ((sErr js ms sh sk n m c d)=0)) then some (.v (.l []),[])
 else (bif (g1 [.a [.lf n (fJ js),.lf m (fM ms)],.lf k (fB bx)] && decide (n≤50)) then (bif (isB bx n k) then (bif (g1 [.a [.lf n (fJ js),.lf m (fM ms)],.lf k (fB bx)] && (decide (rErr js ms n m=0) && isB bx n k)) then (bif (gSt (hRq js ms sh sk n m c d bx k 0 0 (fun v=>.zs)) (hRq js ms sh sk n m c d bx k 0 0 (fun v=>.zs))) then (bif gP (sErr js ms sh sk n m c d=0) then some (.ow 138 1 (.fo c (rqR js ms sh sk n m c d bx k)),[])
 else none)
 else none)
 else none)
 else some (.v (.l []),[]))
 else none))
 else none):=by kernel_rfl
theorem snd_rpt0 (js:Nat→J) (ms:Nat→Ms) (sh:Nat→Shp) (sk:Nat→Skp) (n m c d:Nat) (bx:Nat→Iv) (k:Nat) (hk:k≤9223372036854775807):yH Tryz.prog 41 [.a [.lf n (fJ js),.lf m (fM ms),.lf c (fS sh),.lf d (fK sk)],.lf k (fB bx)] (bif isB bx n k && decide (sErr js ms sh sk n m c d=0) then .ow 138 1 (.fo c (rqR js ms sh sk n m c d bx k)) else .v (.l [])):=by
 refine yU (N:=60) (LO:=qX (jKG js ms sh sk n m c d bx k)) qQV yJ (qQH (l:=((66,o_lk [.a [.lf n (fJ js),.lf m (fM ms)],.lf k (fB bx)] (decide (n≤50)) (.v (.b (isB bx n k)))) :: (56,o_cr [.a [.lf n (fJ js),.lf m (fM ms),.lf c (fS sh),.lf d (fK sk)]] (.v (.n .i64 (sErr js ms sh sk n m c d)))) :: (22,o_lk [.a [.lf n (fJ js),.lf m (fM ms)],.lf k (fB bx)] (decide (rErr js ms n m=0) && isB bx n k) (.v (.lf n (fP (LP js bx n))))) :: (91,o_pr) :: L9)) (m:=[]) ⟨yJV (fun h=>jQW js ms bx n m k (vJZ h)),zKK (snd_rcs js ms sh sk n m c d),yJV (fun h=>rl_of h),ok_pr,kJY⟩ trivial) (fun p S hp => ?_) ?_
 ·refine yY (L:=qQ Tf 41) (l:=(jKG js ms sh sk n m c d bx k)) (show AllP _ (jKG js ms sh sk n m c d bx k) from ⟨?_,trivial⟩) p S hp
  ·dsimp only;refine qQU (T:=Tf) (o:=(orRq js ms sh sk n m c d bx k)) (f:=41) (LO:=qX []) (p:=[0,1,0,1,1,1,1]) qZY ?_;intro t K r hr;obtain ⟨hg,hr⟩:=qY hr
   skip
   exact (lpRq K js ms sh sk n m c d bx k (qVK (qKV hg)).2.1 (fun i hi=>(shE_spec ((qVK (qKV hg)).2.2 i hi)).1)).trans hr
 ·refine (pxrpt0 js ms sh sk n m c d bx k).trans ?_;rw [g1_t];by_cases h:sErr js ms sh sk n m c d=0
  ·obtain ⟨h1,h2,_⟩:=qVK h;rw [g1_t,vJQ (show n≤50 by have:=yKQ h1; omega),vJQ h];cases hb:isB bx n k with
   | false=>rfl
   | true =>
    simp only [g1_t,vJQ h1,vZJ,vYV,Bool.not_true,vYG,jK,yHK h]
    all_goals rfl
  ·rw [vYH h,Bool.and_false]; rfl
theorem snd_rpt (js:Nat→J) (ms:Nat→Ms) (sh:Nat→Shp) (sk:Nat→Skp) (n m c d:Nat) (bx:Nat→Iv) (k:Nat) (hk:k≤9223372036854775807):yH Tryz.prog 41 [.a [.lf n (fJ js),.lf m (fM ms),.lf c (fS sh),.lf d (fK sk)],.lf k (fB bx)] (.v (.lf (bif isB bx n k && decide (sErr js ms sh sk n m c d=0) then c else 0) (ptR js bx sh n))):=by
 have h0:=snd_rpt0 js ms sh sk n m c d bx k hk;cases h:(isB bx n k && decide (sErr js ms sh sk n m c d=0)) with
 | true =>
  rw [h] at h0;refine qUU (qYH fun j (hj:j < c) => ?_) (zGH h0);show [((jZ (nxRq js ms sh sk n m c d bx k) c 0 (fun v=>.zs)) j)]=_;rw [rwRq js ms sh sk n m c d bx k j hj];rfl
 | false =>
  rw [h] at h0;exact qUU (Same.lf rfl) h0
end Go.Proofs.YtgmbkkkbfbocnaaGreat.Ge
namespace Go.Proofs.YtgmbkkkbfbocnaaGreat.Gf
open Go.Rx Rt Go.Sx Go.RowKit Od Na Nb Nc Nx Nf Ga Gb Gc Gd Ge
theorem allN_t {n:Nat}:allN (fun _:Nat=>true) n 0=true:=allN_iff.2 fun _ _ _=>rfl
def unV (r:List PV):V3:=match r with
 | [.n _ a,.n _ b,.n _ c,.n _ d,.n _ e,.n _ f]=>⟨⟨a,b⟩,⟨c,d⟩,⟨e,f⟩⟩
 | _=>⟨⟨0,0⟩,⟨0,0⟩,⟨0,0⟩⟩
def unFV (f:Nat→List PV):Nat→V3:=fun v=>unV (f v)
noncomputable def orsp (q:Nat→Po) (n:Nat):OrS:=orS [] []
noncomputable def hsp (q:Nat→Po) (n:Nat) (i:Int):St:=⟨[(0,.v (.lf n (fP q))),(1,.v (.lf n (fP q))),(5,.v (.n .i64 i))],[]⟩
set_option maxRecDepth 100000 in
theorem rdsp (G:St→Option (Ret × Mem)) (K:Cont) (q:Nat→Po) (n:Nat) (i:Int):uX 60 (cxS Tf (orsp q n) 60 37 (ntmF Tf 37)) (evX Tf (orsp q n) 60 37 (ntmF Tf 37)) (qX []) (qQ Tf 37 [0,1,0,1,1]) [0,1,0,1,1] (Tf.hint 37 (qG (qQ Tf 37 [0,1,0,1,1]))) K G (hsp q n i) =
 (bif (decide (i < (n:Int))) then (bif (inB i n) then (bif (inB i n) then (bif (!((decide ((q (i).toNat).r.x.x.lo=(q (i).toNat).r.x.x.lo)) && ((decide ((q (i).toNat).r.x.x.hi=(q (i).toNat).r.x.x.hi)) && ((decide ((q (i).toNat).r.x.y.lo=(q (i).toNat).r.x.y.lo)) && ((decide ((q (i).toNat).r.x.y.hi=(q (i).toNat).r.x.y.hi)) && ((decide ((q (i).toNat).r.x.z.lo=(q (i).toNat).r.x.z.lo)) && ((decide ((q (i).toNat).r.x.z.hi=(q (i).toNat).r.x.z.hi)) && ((decide ((q (i).toNat).r.y.x.lo=(q (i).toNat).r.y.x.lo)) && ((decide ((q (i).toNat).r.y.x.hi=(q (i).toNat).r.y.x.hi)) && ((decide ((q (i).toNat).r.y.y.lo=(q (i).toNat).r.y.y.lo)) && ((decide ((q (i).toNat).r.y.y.hi=(q (i).toNat).r.y.y.hi)) && ((decide ((q (i).toNat).r.y.z.lo=(q (i).toNat).r.y.z.lo)) && ((decide ((q (i).toNat).r.y.z.hi=(q (i).toNat).r.y.z.hi)) && ((decide ((q (i).toNat).r.z.x.lo=(q (i).toNat).r.z.x.lo)) && ((decide ((q (i).toNat).r.z.x.hi=(q (i).toNat).r.z.x.hi)) && ((decide ((q (i).toNat).r.z.y.lo=(q (i).toNat).r.z.y.lo)) && ((decide ((q (i).toNat).r.z.y.hi=(q (i).toNat).r.z.y.hi)) && ((decide ((q (i).toNat).r.z.z.lo=(q (i).toNat).r.z.z.lo)) && ((decide ((q (i).toNat).r.z.z.hi=(q (i).toNat).r.z.z.hi)) && ((decide ((q (i).toNat).t.x.lo=(q (i).toNat).t.x.lo)) && ((decide ((q (i).toNat).t.x.hi=(q (i).toNat).t.x.hi)) && ((decide ((q (i).toNat).t.y.lo=(q (i).toNat).t.y.lo)) && ((decide ((q (i).toNat).t.y.hi=(q (i).toNat).t.y.hi)) && ((decide ((q (i).toNat).t.z.lo=(q (i).toNat).t.z.lo)) && ((decide ((q (i).toNat).t.z.hi=(q (i).toNat).t.z.hi)) && true))))))))))))))))))))))))) then (K .ret ⟨[(4,.v (.b false))],[]⟩)
 else (G (hsp q n (vJJ .i64 (i + 1)))))
 else none)
 else none)
 else (K (.exit 0) ⟨[],[]⟩)):=by kernel_rfl
theorem lpsp (K:Cont) (q:Nat→Po) (n:Nat) (hn:n≤50):LFX 60 (cxS Tf (orsp q n) 60 37 (ntmF Tf 37)) (evX Tf (orsp q n) 60 37 (ntmF Tf 37)) (qX []) (qQ Tf 37 [0,1,0,1,1]) [0,1,0,1,1] (Tf.hint 37 (qG (qQ Tf 37 [0,1,0,1,1]))) K 60 (hsp q n 0)=bif (allN (fun i:Nat=>true) n 0) then (K (.exit 0) ⟨[],[]⟩) else (K .ret ⟨[(4,.v (.b false))],[]⟩):=by
 refine (qJU (L:=LFX 60 (cxS Tf (orsp q n) 60 37 (ntmF Tf 37)) (evX Tf (orsp q n) 60 37 (ntmF Tf 37)) (qX []) (qQ Tf 37 [0,1,0,1,1]) [0,1,0,1,1] (Tf.hint 37 (qG (qQ Tf 37 [0,1,0,1,1]))) K) (stp:=uX 60 (cxS Tf (orsp q n) 60 37 (ntmF Tf 37)) (evX Tf (orsp q n) 60 37 (ntmF Tf 37)) (qX []) (qQ Tf 37 [0,1,0,1,1]) [0,1,0,1,1] (Tf.hint 37 (qG (qQ Tf 37 [0,1,0,1,1]))) K) (fun _ _=>rfl) (fun (i:Nat) (_:Unit)=>hsp q n (i:Int)) (fun _ _=>True) (fun (i:Nat) _=>true) (fun _ _=>()) (c:=n) (fun _=>(K (.exit 0) ⟨[],[]⟩)) (fun i _=>(K .ret ⟨[(4,.v (.b false))],[]⟩)) (fun G i f hi _ => ?_) (fun _ _ _ _ _=>trivial) (fun G f _ => ?_) n 0 60 () (by omega) (by omega) trivial).trans ((qYV _ _ _ _ _).trans (qYJ _ _ _ _ _))
 ·refine (rdsp G K q n i).trans ?_;rw [vJQ (show (i:Int) < (n:Int) by omega),qZH (by omega),kX (show i < n by omega),toN];simp only [eq_self,decide_true,vZJ,Bool.not_true,vYG,vYV]
  all_goals rfl
 ·refine (rdsp G K q n n).trans ?_;rw [vYH (show ¬ (n:Int) < (n:Int) by omega)];rfl
noncomputable def kQG (q:Nat→Po) (n:Nat):List (List Nat × kV):=[([0,1,0,1,1],sumF (fun _:Unit=>(hsp q n 0)) (fun _=>()) (fun _ K=>(bif (decide (n≤50)) then (bif (allN (fun i:Nat=>true) n 0) then (K (.exit 0) ⟨[],[]⟩) else (K .ret ⟨[(4,.v (.b false))],[]⟩)) else none)))]
set_option maxRecDepth 100000 in
theorem pxsp0 (q:Nat→Po) (n:Nat):qWH Tf (orsp q n) (qX (kQG q n)) 60 37 [.lf n (fP q),.lf n (fP q)] =
 (bif (!decide ((n:Int)=(n:Int))) then some (.v (.b false),[])
 else (bif (gSt (hsp q n 0) (hsp q n 0)) then (bif (decide (n≤50)) then (bif (allN (fun i:Nat=>true) n 0) then some (.v (.b true),[])
 else some (.v (.b false),[]))
 else none)
 else none)):=by kernel_rfl
theorem snd_sp0 (q:Nat→Po) (n:Nat) (hn:n≤50):yH Tryz.prog 37 [.lf n (fP q),.lf n (fP q)] (.v (.b true)):=by
 refine yU (N:=60) (LO:=qX (kQG q n)) qQV yJ (qQH (l:=[]) (m:=[]) trivial trivial) (fun p S hp => ?_) ?_
 ·refine yY (L:=qQ Tf 37) (l:=(kQG q n)) (show AllP _ (kQG q n) from ⟨?_,trivial⟩) p S hp
  ·dsimp only;refine qQU (T:=Tf) (o:=(orsp q n)) (f:=37) (LO:=qX []) (p:=[0,1,0,1,1]) qZY ?_;intro t K r hr;obtain ⟨hg,hr⟩:=qY hr;have hn:=vJZ hg;exact (lpsp K q n hn).trans hr
 ·refine (pxsp0 q n).trans ?_;rw [vJQ (show (n:Int)=(n:Int) from rfl),jK,vJQ hn,allN_t];rfl
noncomputable def orsv (q:Nat→V3) (n:Nat):OrS:=orS [] []
noncomputable def hsv (q:Nat→V3) (n:Nat) (i:Int):St:=⟨[(0,.v (.lf n (fV q))),(1,.v (.lf n (fV q))),(5,.v (.n .i64 i))],[]⟩
set_option maxRecDepth 100000 in
theorem rdsv (G:St→Option (Ret × Mem)) (K:Cont) (q:Nat→V3) (n:Nat) (i:Int):uX 60 (cxS Tf (orsv q n) 60 87 (ntmF Tf 87)) (evX Tf (orsv q n) 60 87 (ntmF Tf 87)) (qX []) (qQ Tf 87 [0,1,0,1,1]) [0,1,0,1,1] (Tf.hint 87 (qG (qQ Tf 87 [0,1,0,1,1]))) K G (hsv q n i) =
 (bif (decide (i < (n:Int))) then (bif (inB i n) then (bif (inB i n) then (bif (!((decide ((q (i).toNat).x.lo=(q (i).toNat).x.lo)) && ((decide ((q (i).toNat).x.hi=(q (i).toNat).x.hi)) && ((decide ((q (i).toNat).y.lo=(q (i).toNat).y.lo)) && ((decide ((q (i).toNat).y.hi=(q (i).toNat).y.hi)) && ((decide ((q (i).toNat).z.lo=(q (i).toNat).z.lo)) && ((decide ((q (i).toNat).z.hi=(q (i).toNat).z.hi)) && true))))))) then (K .ret ⟨[(4,.v (.b false))],[]⟩)
 else (G (hsv q n (vJJ .i64 (i + 1)))))
 else none)
 else none)
 else (K (.exit 0) ⟨[],[]⟩)):=by kernel_rfl
theorem lpsv (K:Cont) (q:Nat→V3) (n:Nat) (hn:n≤50):LFX 60 (cxS Tf (orsv q n) 60 87 (ntmF Tf 87)) (evX Tf (orsv q n) 60 87 (ntmF Tf 87)) (qX []) (qQ Tf 87 [0,1,0,1,1]) [0,1,0,1,1] (Tf.hint 87 (qG (qQ Tf 87 [0,1,0,1,1]))) K 60 (hsv q n 0)=bif (allN (fun i:Nat=>true) n 0) then (K (.exit 0) ⟨[],[]⟩) else (K .ret ⟨[(4,.v (.b false))],[]⟩):=by
 refine (qJU (L:=LFX 60 (cxS Tf (orsv q n) 60 87 (ntmF Tf 87)) (evX Tf (orsv q n) 60 87 (ntmF Tf 87)) (qX []) (qQ Tf 87 [0,1,0,1,1]) [0,1,0,1,1] (Tf.hint 87 (qG (qQ Tf 87 [0,1,0,1,1]))) K) (stp:=uX 60 (cxS Tf (orsv q n) 60 87 (ntmF Tf 87)) (evX Tf (orsv q n) 60 87 (ntmF Tf 87)) (qX []) (qQ Tf 87 [0,1,0,1,1]) [0,1,0,1,1] (Tf.hint 87 (qG (qQ Tf 87 [0,1,0,1,1]))) K) (fun _ _=>rfl) (fun (i:Nat) (_:Unit)=>hsv q n (i:Int)) (fun _ _=>True) (fun (i:Nat) _=>true) (fun _ _=>()) (c:=n) (fun _=>(K (.exit 0) ⟨[],[]⟩)) (fun i _=>(K .ret ⟨[(4,.v (.b false))],[]⟩)) (fun G i f hi _ => ?_) (fun _ _ _ _ _=>trivial) (fun G f _ => ?_) n 0 60 () (by omega) (by omega) trivial).trans ((qYV _ _ _ _ _).trans (qYJ _ _ _ _ _))
 ·refine (rdsv G K q n i).trans ?_;rw [vJQ (show (i:Int) < (n:Int) by omega),qZH (by omega),kX (show i < n by omega),toN];simp only [eq_self,decide_true,vZJ,Bool.not_true,vYG,vYV]
  all_goals rfl
 ·refine (rdsv G K q n n).trans ?_;rw [vYH (show ¬ (n:Int) < (n:Int) by omega)];rfl
noncomputable def kQV (q:Nat→V3) (n:Nat):List (List Nat × kV):=[([0,1,0,1,1],sumF (fun _:Unit=>(hsv q n 0)) (fun _=>()) (fun _ K=>(bif (decide (n≤50)) then (bif (allN (fun i:Nat=>true) n 0) then (K (.exit 0) ⟨[],[]⟩) else (K .ret ⟨[(4,.v (.b false))],[]⟩)) else none)))]
set_option maxRecDepth 100000 in
theorem pxsv0 (q:Nat→V3) (n:Nat):qWH Tf (orsv q n) (qX (kQV q n)) 60 87 [.lf n (fV q),.lf n (fV q)] =
 (bif (!decide ((n:Int)=(n:Int))) then some (.v (.b false),[])
 else (bif (gSt (hsv q n 0) (hsv q n 0)) then (bif (decide (n≤50)) then (bif (allN (fun i:Nat=>true) n 0) then some (.v (.b true),[])
 else some (.v (.b false),[]))
 else none)
 else none)):=by kernel_rfl
theorem snd_sv0 (q:Nat→V3) (n:Nat) (hn:n≤50):yH Tryz.prog 87 [.lf n (fV q),.lf n (fV q)] (.v (.b true)):=by
 refine yU (N:=60) (LO:=qX (kQV q n)) qQV yJ (qQH (l:=[]) (m:=[]) trivial trivial) (fun p S hp => ?_) ?_
 ·refine yY (L:=qQ Tf 87) (l:=(kQV q n)) (show AllP _ (kQV q n) from ⟨?_,trivial⟩) p S hp
  ·dsimp only;refine qQU (T:=Tf) (o:=(orsv q n)) (f:=87) (LO:=qX []) (p:=[0,1,0,1,1]) qZY ?_;intro t K r hr;obtain ⟨hg,hr⟩:=qY hr;have hn:=vJZ hg;exact (lpsv K q n hn).trans hr
 ·refine (pxsv0 q n).trans ?_;rw [vJQ (show (n:Int)=(n:Int) from rfl),jK,vJQ hn,allN_t];rfl
def csv:Nat × (Nat→V3)→Prop:=fun t=>match t with | (n,q)=>n≤50
def esv:Nat × (Nat→V3)→List PV:=fun t=>match t with | (n,q)=>[.lf n (fV q),.lf n (fV q)]
noncomputable def rsv:Nat × (Nat→V3)→Ret:=fun t=>match t with | (n,q)=>.v (.b true)
def dsv:List PV→Nat × (Nat→V3):=fun ps=>match ps with
 | [.lf n f,_]=>(n,unFV f)
 | _=>(0,fun _=>⟨⟨0,0⟩,⟨0,0⟩,⟨0,0⟩⟩)
noncomputable def o_sv:List PV→Option (Bool × Ret):=o_fm dsv csv esv rsv
theorem ok_sv:zX Tryz.prog 87 o_sv:=zGW fun t h=>by
 obtain ⟨n,q⟩:=t;exact snd_sv0 q n h
def fVV (g:Nat→Nat) (x:Nat→Nat→V3):Nat→List PV:=fun v=>[.lf (g v) (fV (x v))]
noncomputable def orsl (g:Nat→Nat) (x:Nat→Nat→V3) (c:Nat):OrS:=orS [(87,o_sv)] []
noncomputable def hsl (g:Nat→Nat) (x:Nat→Nat→V3) (c:Nat) (i:Int):St:=⟨[(0,.v (.lf c (fVV g x))),(1,.v (.lf c (fVV g x))),(5,.v (.n .i64 i))],[]⟩
set_option maxRecDepth 100000 in
theorem rdsl (G:St→Option (Ret × Mem)) (K:Cont) (g:Nat→Nat) (x:Nat→Nat→V3) (c:Nat) (i:Int):uX 60 (cxS Tf (orsl g x c) 60 39 (ntmF Tf 39)) (evX Tf (orsl g x c) 60 39 (ntmF Tf 39)) (qX []) (qQ Tf 39 [0,1,0,1,1]) [0,1,0,1,1] (Tf.hint 39 (qG (qQ Tf 39 [0,1,0,1,1]))) K G (hsl g x c i) =
 (bif (decide (i < (c:Int))) then (bif (inB i c) then (bif (inB i c) then (bif (gF1 csv esv ((g (i).toNat),(x (i).toNat))) then (G (hsl g x c (vJJ .i64 (i + 1))))
 else none)
 else none)
 else none)
 else (K (.exit 0) ⟨[],[]⟩)):=by kernel_rfl
theorem lpsl (K:Cont) (g:Nat→Nat) (x:Nat→Nat→V3) (c:Nat) (hc:c≤50) (hg:∀ i,i < c→g i≤50):LFX 60 (cxS Tf (orsl g x c) 60 39 (ntmF Tf 39)) (evX Tf (orsl g x c) 60 39 (ntmF Tf 39)) (qX []) (qQ Tf 39 [0,1,0,1,1]) [0,1,0,1,1] (Tf.hint 39 (qG (qQ Tf 39 [0,1,0,1,1]))) K 60 (hsl g x c 0)=(K (.exit 0) ⟨[],[]⟩):=by
 refine (qJU (L:=LFX 60 (cxS Tf (orsl g x c) 60 39 (ntmF Tf 39)) (evX Tf (orsl g x c) 60 39 (ntmF Tf 39)) (qX []) (qQ Tf 39 [0,1,0,1,1]) [0,1,0,1,1] (Tf.hint 39 (qG (qQ Tf 39 [0,1,0,1,1]))) K) (stp:=uX 60 (cxS Tf (orsl g x c) 60 39 (ntmF Tf 39)) (evX Tf (orsl g x c) 60 39 (ntmF Tf 39)) (qX []) (qQ Tf 39 [0,1,0,1,1]) [0,1,0,1,1] (Tf.hint 39 (qG (qQ Tf 39 [0,1,0,1,1]))) K) (fun _ _=>rfl) (fun (i:Nat) (_:Unit)=>hsl g x c (i:Int)) (fun _ _=>True) (fun _ _=>true) (fun _ _=>()) (c:=c) (fun _=>(K (.exit 0) ⟨[],[]⟩)) (fun _ _=>none) (fun G i f hi _ => ?_) (fun _ _ _ _ _=>trivial) (fun G f _ => ?_) c 0 60 () (by omega) (by omega) trivial).trans (qYQ c 0 _)
 ·refine (rdsl G K g x c i).trans ?_;rw [vJQ (show (i:Int) < (c:Int) by omega),qZH (by omega),kX (show i < c by omega),toN,qGQ (C:=csv) (t:=(g i,x i)) (hg i hi)]
  all_goals rfl
 ·refine (rdsl G K g x c c).trans ?_;rw [vYH (show ¬ (c:Int) < (c:Int) by omega)];rfl
noncomputable def kQH (g:Nat→Nat) (x:Nat→Nat→V3) (c:Nat):List (List Nat × kV):=[([0,1,0,1,1],sumF (fun _:Unit=>(hsl g x c 0)) (fun _=>()) (fun _ K=>(bif gP (c≤50∧∀ i,i < c→g i≤50) then (K (.exit 0) ⟨[],[]⟩) else none)))]
set_option maxRecDepth 100000 in
theorem pxsl0 (g:Nat→Nat) (x:Nat→Nat→V3) (c:Nat):qWH Tf (orsl g x c) (qX (kQH g x c)) 60 39 [.lf c (fVV g x),.lf c (fVV g x)] =
 (bif (!decide ((c:Int)=(c:Int))) then some (.v (.b false),[])
 else (bif (gSt (hsl g x c 0) (hsl g x c 0)) then (bif gP (c≤50∧∀ i,i < c→g i≤50) then some (.v (.b true),[])
 else none)
 else none)):=by kernel_rfl
theorem snd_sl0 (g:Nat→Nat) (x:Nat→Nat→V3) (c:Nat) (hc:c≤50) (hg:∀ i,i < c→g i≤50):yH Tryz.prog 39 [.lf c (fVV g x),.lf c (fVV g x)] (.v (.b true)):=by
 refine yU (N:=60) (LO:=qX (kQH g x c)) qQV yJ (qQH (l:=[(87,o_sv)]) (m:=[]) ⟨ok_sv,trivial⟩ trivial) (fun p S hp => ?_) ?_
 ·refine yY (L:=qQ Tf 39) (l:=(kQH g x c)) (show AllP _ (kQH g x c) from ⟨?_,trivial⟩) p S hp
  ·dsimp only;refine qQU (T:=Tf) (o:=(orsl g x c)) (f:=39) (LO:=qX []) (p:=[0,1,0,1,1]) qZY ?_;intro t K r hr;obtain ⟨hg,hr⟩:=qY hr
   skip
   exact (lpsl K g x c (qKV hg).1 (qKV hg).2).trans hr
 ·refine (pxsl0 g x c).trans ?_;rw [vJQ (show (c:Int)=(c:Int) from rfl),jK,yHK (show c≤50∧∀ i,i < c→g i≤50 from ⟨hc,hg⟩)];rfl
end Go.Proofs.YtgmbkkkbfbocnaaGreat.Gf

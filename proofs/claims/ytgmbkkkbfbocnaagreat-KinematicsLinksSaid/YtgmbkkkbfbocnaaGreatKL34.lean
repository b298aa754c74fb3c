/- Part 34 of the texts behind the last one: rules and contracts. No condition. -/
import Derived.Test.YtgmbkkkbfbocnaaGreatKL33
open Bool renaming and_eq_true → vQJ, and_self → vZJ, true_and → vZH
namespace Go.Proofs.YtgmbkkkbfbocnaaGreat.Gg
open Go.Rx Rt Go.Sx Go.RowKit Od Na Nb Nc Nx Nf Ga Gb Gc Gd Ge Gf
noncomputable def orkaa (js:Nat→J) (ms:Nat→Ms) (bx:Nat→Iv) (n m k:Nat):OrS:=orS [(84,o_lk [.a [.lf n (fJ js),.lf m (fM ms)],.lf k (fB bx)] (decide (k≤9223372036854775807)) (.v (.b (isB bx n k)))),(85,o_cr [.a [.lf n (fJ js),.lf m (fM ms)]] (.v (.n .i64 (rErr js ms n m)))),(86,o_lk [.a [.lf n (fJ js),.lf m (fM ms)],.lf k (fB bx)] (decide (rErr js ms n m=0) && isB bx n k) (.v (.lf n (fP (LP js bx n)))))] []
noncomputable def kZG (js:Nat→J) (ms:Nat→Ms) (bx:Nat→Iv) (n m k:Nat):List (List Nat × kV):=[]
set_option maxRecDepth 100000 in
theorem pxkaa (js:Nat→J) (ms:Nat→Ms) (bx:Nat→Iv) (n m k:Nat):qWH Tf (orkaa js ms bx n m k) (qX (kZG js ms bx n m k)) 60 38 [.a [.lf n (fJ js),.lf m (fM ms)],.lf k (fB bx)] =
 (bif (g1 [.a [.lf n (fJ js),.lf m (fM ms)],.lf k (fB bx)] && decide (k≤9223372036854775807)) then (bif (isB bx n k) then (bif (g1 [.a [.lf n (fJ js),.lf m (fM ms)]]) then (bif (!decide ((rErr js ms n m)=0)) then some (.v (.l []),[])
 else (bif (g1 [.a [.lf n (fJ js),.lf m (fM ms)],.lf k (fB bx)] && (decide (rErr js ms n m=0) && isB bx n k)) then some (.v (.lf n (fP (LP js bx n))),[])
 else none))
 else none)
 else some (.v (.l []),[]))
 else none):=by kernel_rfl
theorem snd_kaa (js:Nat→J) (ms:Nat→Ms) (bx:Nat→Iv) (n m k:Nat) (hk:k≤9223372036854775807):yH Tryz.prog 38 [.a [.lf n (fJ js),.lf m (fM ms)],.lf k (fB bx)] (.v (bif (decide (rErr js ms n m=0) && isB bx n k) then .lf n (fP (LP js bx n)) else .l [])):=by
 refine yU (N:=60) (LO:=qX (kZG js ms bx n m k)) qQV yJ (qQH (l:=[(84,o_lk [.a [.lf n (fJ js),.lf m (fM ms)],.lf k (fB bx)] (decide (k≤9223372036854775807)) (.v (.b (isB bx n k)))),(85,o_cr [.a [.lf n (fJ js),.lf m (fM ms)]] (.v (.n .i64 (rErr js ms n m)))),(86,o_lk [.a [.lf n (fJ js),.lf m (fM ms)],.lf k (fB bx)] (decide (rErr js ms n m=0) && isB bx n k) (.v (.lf n (fP (LP js bx n)))))]) (m:=[]) ⟨yJV (fun h=>snd_isP js ms bx n m k (vJZ h)),zKK (snd_chk js ms n m),yJV (fun h=>kl_of h),trivial⟩ trivial) (fun p S hp => ?_) ?_
 ·refine yY (L:=qQ Tf 38) (l:=(kZG js ms bx n m k)) (show AllP _ (kZG js ms bx n m k) from trivial) p S hp
 ·refine (pxkaa js ms bx n m k).trans ?_;rw [g1_t,vJQ hk];cases hb:isB bx n k with
  | false=>rw [Bool.and_false]; rfl
  | true =>
   rw [g1_t];by_cases h:rErr js ms n m=0
   ·simp only [vJQ h,g1_t,vZJ,vYV,Bool.not_true,vYG]
   ·rw [vYH h]; rfl
theorem snd_kaT (js:Nat→J) (ms:Nat→Ms) (bx:Nat→Iv) (n m k:Nat) (hk:k≤9223372036854775807):yH Tryz.prog 38 [.a [.lf n (fJ js),.lf m (fM ms)],.lf k (fB bx)] (.v (.lf (bif (decide (rErr js ms n m=0) && isB bx n k) then n else 0) (fP (LP js bx n)))):=by
 have h0:=snd_kaa js ms bx n m k hk;cases h:(decide (rErr js ms n m=0) && isB bx n k) with
 | true=>rw [h] at h0; exact h0
 | false=>rw [h] at h0; exact qUU (Same.lf rfl) h0
noncomputable def orrlN (js:Nat→J) (ms:Nat→Ms) (bx:Nat→Iv) (n m k:Nat):OrS:=orS [(65,o_cr [.a [.lf n (fJ js),.lf m (fM ms)]] (.v (.n .i64 (rErr js ms n m)))),(66,o_lk [.a [.lf n (fJ js),.lf m (fM ms)],.lf k (fB bx)] (decide (n≤50)) (.v (.b (isB bx n k))))] []
noncomputable def kZY:List (List Nat × kV):=[([0,1,0,1,1,1],fun _ _=>none)]
set_option maxRecDepth 100000 in
theorem pxrlN (js:Nat→J) (ms:Nat→Ms) (bx:Nat→Iv) (n m k:Nat):qWH Tf (orrlN js ms bx n m k) (qX kZY) 60 22 [.a [.lf n (fJ js),.lf m (fM ms)],.lf k (fB bx)] =
 (bif (g1 [.a [.lf n (fJ js),.lf m (fM ms)]]) then (bif (!decide ((rErr js ms n m)=0)) then some (.v (.l []),[])
 else (bif (g1 [.a [.lf n (fJ js),.lf m (fM ms)],.lf k (fB bx)] && decide (n≤50)) then (bif (isB bx n k) then none
 else some (.v (.l []),[]))
 else none))
 else none):=by kernel_rfl
theorem snd_rlT (js:Nat→J) (ms:Nat→Ms) (bx:Nat→Iv) (n m k:Nat):yH Tryz.prog 22 [.a [.lf n (fJ js),.lf m (fM ms)],.lf k (fB bx)] (.v (.lf (bif (decide (rErr js ms n m=0) && isB bx n k) then n else 0) (fP (LP js bx n)))):=by
 cases h:(decide (rErr js ms n m=0) && isB bx n k) with
 | true=>exact rl_of h
 | false =>
  refine qUU (x:=.l []) (Same.lf rfl) ?_;refine yU (N:=60) (LO:=qX kZY) qQV yJ (qQH (l:=[(65,o_cr [.a [.lf n (fJ js),.lf m (fM ms)]] (.v (.n .i64 (rErr js ms n m)))),(66,o_lk [.a [.lf n (fJ js),.lf m (fM ms)],.lf k (fB bx)] (decide (n≤50)) (.v (.b (isB bx n k))))]) (m:=[]) ⟨zKK (jQV js ms n m),yJV (fun h=>jQW js ms bx n m k (vJZ h)),trivial⟩ trivial) (fun p S hp => ?_) ?_
  ·refine yY (L:=qQ Tf 22) (l:=kZY) (show AllP _ kZY from ⟨?_,trivial⟩) p S hp;intro K K' K0 σ r hK hs;cases hs
  ·refine (pxrlN js ms bx n m k).trans ?_;rw [g1_t];by_cases h1:rErr js ms n m=0
   ·have hn:=yKQ h1;rw [vJQ h1,vZH] at h;rw [vJQ h1,g1_t,vJQ (show n≤50 by omega),h];rfl
   ·rw [vYH h1]; rfl
theorem same_lk (js:Nat→J) (ms:Nat→Ms) (sh:Nat→Shp) (sk:Nat→Skp) (n m c d:Nat) (bx:Nat→Iv) (k:Nat):yH Tryz.prog 37 [.lf (bif (decide (rErr js ms n m=0) && isB bx n k) then n else 0) (fP (LP js bx n)),.lf (bif (decide (rErr js ms n m=0) && isB bx n k) then n else 0) (fP (LP js bx n))] (.v (.b true)):=snd_sp0 (LP js bx n) _ (by
 cases h:(decide (rErr js ms n m=0) && isB bx n k) with
 | true=>rw [vYV]; exact (show n≤50 by have:=yKQ (kKQ h).1; omega)
 | false=>exact Nat.zero_le _)
theorem same_pt (js:Nat→J) (ms:Nat→Ms) (sh:Nat→Shp) (sk:Nat→Skp) (n m c d:Nat) (bx:Nat→Iv) (k:Nat):yH Tryz.prog 39 [.lf (bif isB bx n k && decide (sErr js ms sh sk n m c d=0) then c else 0) (ptR js bx sh n),.lf (bif isB bx n k && decide (sErr js ms sh sk n m c d=0) then c else 0) (ptR js bx sh n)] (.v (.b true)):=snd_sl0 (fun v=>plN (sh v)) (fun v=>plF (sh v) (pzF js bx n (sh v).link)) _ (by
 cases h:(isB bx n k && decide (sErr js ms sh sk n m c d=0)) with
 | true =>
  rw [vQJ,decide_eq_true_eq] at h;rw [vYV]; exact (show c≤50 by have:=(qVK h.2).2.1; omega)
 | false=>exact Nat.zero_le _) (fun i _=>by
 show plN (sh i)≤50;unfold plN;cases h:shOk (sh i) with
 | true=>rw [vYV]; have:=jQG h; omega
 | false=>exact Nat.zero_le _)
noncomputable def orlks (js:Nat→J) (ms:Nat→Ms) (sh:Nat→Shp) (sk:Nat→Skp) (n m c d:Nat) (bx:Nat→Iv) (k:Nat):OrS:=orS [(38,o_lk [.a [.lf n (fJ js),.lf m (fM ms)],.lf k (fB bx)] (decide (k≤9223372036854775807)) (.v (.lf (bif (decide (rErr js ms n m=0) && isB bx n k) then n else 0) (fP (LP js bx n))))),(22,o_cr [.a [.lf n (fJ js),.lf m (fM ms)],.lf k (fB bx)] (.v (.lf (bif (decide (rErr js ms n m=0) && isB bx n k) then n else 0) (fP (LP js bx n))))),(40,o_lk [.a [.lf n (fJ js),.lf m (fM ms),.lf c (fS sh),.lf d (fK sk)],.lf k (fB bx)] (decide (k≤9223372036854775807)) (.v (.lf (bif isB bx n k && decide (sErr js ms sh sk n m c d=0) then c else 0) (ptR js bx sh n)))),(41,o_lk [.a [.lf n (fJ js),.lf m (fM ms),.lf c (fS sh),.lf d (fK sk)],.lf k (fB bx)] (decide (k≤9223372036854775807)) (.v (.lf (bif isB bx n k && decide (sErr js ms sh sk n m c d=0) then c else 0) (ptR js bx sh n)))),(37,o_cr [.lf (bif (decide (rErr js ms n m=0) && isB bx n k) then n else 0) (fP (LP js bx n)),.lf (bif (decide (rErr js ms n m=0) && isB bx n k) then n else 0) (fP (LP js bx n))] (.v (.b true))),(39,o_cr [.lf (bif isB bx n k && decide (sErr js ms sh sk n m c d=0) then c else 0) (ptR js bx sh n),.lf (bif isB bx n k && decide (sErr js ms sh sk n m c d=0) then c else 0) (ptR js bx sh n)] (.v (.b true)))] []
noncomputable def kZV (js:Nat→J) (ms:Nat→Ms) (sh:Nat→Shp) (sk:Nat→Skp) (n m c d:Nat) (bx:Nat→Iv) (k:Nat):List (List Nat × kV):=[]
set_option maxRecDepth 100000 in
theorem pxlks (js:Nat→J) (ms:Nat→Ms) (sh:Nat→Shp) (sk:Nat→Skp) (n m c d:Nat) (bx:Nat→Iv) (k:Nat):qWH Tf (orlks js ms sh sk n m c d bx k) (qX (kZV js ms sh sk n m c d bx k)) 60 11 [.a [.lf n (fJ js),.lf m (fM ms),.lf c (fS sh),.lf d (fK sk)],.lf k (fB bx)] =
 (bif (g1 [.a [.lf n (fJ js),.lf m (fM ms)],.lf k (fB bx)] && decide (k≤9223372036854775807)) then (bif (g1 [.a [.lf n (fJ js),.lf m (fM ms)],.lf k (fB bx)]) then (bif (g1 [.lf (bif (decide (rErr js ms n m=0) && isB bx n k) then n else 0) (fP (LP js bx n)),.lf (bif (decide (rErr js ms n m=0) && isB bx n k) then n else 0) (fP (LP js bx n))]) then (bif (g1 [.a [.lf n (fJ js),.lf m (fM ms),.lf c (fS sh),.lf d (fK sk)],.lf k (fB bx)] && decide (k≤9223372036854775807)) then (bif (g1 [.a [.lf n (fJ js),.lf m (fM ms),.lf c (fS sh),.lf d (fK sk)],.lf k (fB bx)] && decide (k≤9223372036854775807)) then (bif (g1 [.lf (bif isB bx n k && decide (sErr js ms sh sk n m c d=0) then c else 0) (ptR js bx sh n),.lf (bif isB bx n k && decide (sErr js ms sh sk n m c d=0) then c else 0) (ptR js bx sh n)]) then some (.v (.b true),[])
 else none)
 else none)
 else none)
 else none)
 else none)
 else none):=by kernel_rfl
theorem snd_lks (js:Nat→J) (ms:Nat→Ms) (sh:Nat→Shp) (sk:Nat→Skp) (n m c d:Nat) (bx:Nat→Iv) (k:Nat) (hk:k≤9223372036854775807):yH Tryz.prog 11 [.a [.lf n (fJ js),.lf m (fM ms),.lf c (fS sh),.lf d (fK sk)],.lf k (fB bx)] (.v (.b true)):=by
 refine yU (N:=60) (LO:=qX (kZV js ms sh sk n m c d bx k)) qQV yJ (qQH (l:=[(38,o_lk [.a [.lf n (fJ js),.lf m (fM ms)],.lf k (fB bx)] (decide (k≤9223372036854775807)) (.v (.lf (bif (decide (rErr js ms n m=0) && isB bx n k) then n else 0) (fP (LP js bx n))))),(22,o_cr [.a [.lf n (fJ js),.lf m (fM ms)],.lf k (fB bx)] (.v (.lf (bif (decide (rErr js ms n m=0) && isB bx n k) then n else 0) (fP (LP js bx n))))),(40,o_lk [.a [.lf n (fJ js),.lf m (fM ms),.lf c (fS sh),.lf d (fK sk)],.lf k (fB bx)] (decide (k≤9223372036854775807)) (.v (.lf (bif isB bx n k && decide (sErr js ms sh sk n m c d=0) then c else 0) (ptR js bx sh n)))),(41,o_lk [.a [.lf n (fJ js),.lf m (fM ms),.lf c (fS sh),.lf d (fK sk)],.lf k (fB bx)] (decide (k≤9223372036854775807)) (.v (.lf (bif isB bx n k && decide (sErr js ms sh sk n m c d=0) then c else 0) (ptR js bx sh n)))),(37,o_cr [.lf (bif (decide (rErr js ms n m=0) && isB bx n k) then n else 0) (fP (LP js bx n)),.lf (bif (decide (rErr js ms n m=0) && isB bx n k) then n else 0) (fP (LP js bx n))] (.v (.b true))),(39,o_cr [.lf (bif isB bx n k && decide (sErr js ms sh sk n m c d=0) then c else 0) (ptR js bx sh n),.lf (bif isB bx n k && decide (sErr js ms sh sk n m c d=0) then c else 0) (ptR js bx sh n)] (.v (.b true)))]) (m:=[]) ⟨yJV (fun h=>snd_kaT js ms bx n m k (vJZ h)),zKK (snd_rlT js ms bx n m k),yJV (fun h=>snd_kpt js ms sh sk n m c d bx k (vJZ h)),yJV (fun h=>snd_rpt js ms sh sk n m c d bx k (vJZ h)),zKK (same_lk js ms sh sk n m c d bx k),zKK (same_pt js ms sh sk n m c d bx k),trivial⟩ trivial) (fun p S hp => ?_) ?_
 ·refine yY (L:=qQ Tf 11) (l:=(kZV js ms sh sk n m c d bx k)) (show AllP _ (kZV js ms sh sk n m c d bx k) from trivial) p S hp
 ·refine (pxlks js ms sh sk n m c d bx k).trans ?_;simp only [g1_t,vJQ hk,vZJ,vYV]
end Go.Proofs.YtgmbkkkbfbocnaaGreat.Gg

/- Part 12 of the texts behind the last one: rules and contracts. No condition. -/
import Derived.Test.YtbfcbojgnppacaaGreatMI11
open Option renaming bind_eq_some_iff → vQQ
open Option.some renaming injEq → vQZ
open Prod.mk renaming injEq → vQY
open Bool renaming and_eq_true → vQJ, and_self → vZJ, true_and → vZH
open List renaming getElem?_eq_getElem → vQK, mem_cons_self → vZQ, getElem?_map → vZY, take_succ_cons → vYK, drop_succ_cons → vYU, take_zero → vYX, drop_zero → vYW
open Go.IntKind renaming wrap → vJJ
namespace Go.Proofs.YtbfcbojgnppacaaGreat
open Go.Sx
theorem app117:appB Tryz.prog 117 129 24 192=true:=by kernel_rfl
theorem en127:uQ Tryz.prog 127:=qU Tryz.func127 (by kernel_rfl) (by kernel_rfl)
theorem kLinks  (aj am ab:Option Addr) (cj nm cm cb n:Nat) (js:List J) (bx:List Iv) (hn:n≤1000) (hjn:js.length=n) (hbn:bx.length=n) (hpar:∀ (k:Nat) (j:J),js[k]? = some j → -1≤j.parent∧j.parent < k) (w:World) (hS:qJQ 12 aj (js.map jc) w) (hT:qJQ 2 ab (bx.map ivc) w):Calls Tryz.prog 97 [.agg #[.slice aj n cj,.slice am nm cm],.slice ab n cb].toArray w (RetsF (X:=Nat) (fun _=>True) (fun b=>.slice (some ⟨b,0,none⟩) n n) (fun b=>qJQ 24 (some ⟨b,0,none⟩) ((lks js bx n).map pc)) w):=by
 refine jW (n:=47) Tryz.func97 rfl rfl rfl ?_;refine zJ ?_;refine qJ ?_;refine qGF 2 rfl rfl rfl rfl ?_; intro b2;refine qW (zQ rfl) rfl rfl rfl ?_;refine zK ?_;refine qZ ?_;refine zJ ?_;refine qJ ?_;refine qW (zX fa25_0 rfl) rfl rfl rfl ?_;refine qW (jK 2 ty22 rfl rfl rfl) rfl rfl rfl ?_;refine qW (opV_len_slice sl22 rfl) rfl rfl rfl ?_;refine doL_make 11 (qHL app117 ze129) rfl (by omega) (by omega) rfl rfl ?_; intro b11;refine qW (zQ rfl) rfl rfl rfl ?_;refine zK ?_;refine qZ ?_;refine zJ ?_;refine zJ ?_;refine qJ ?_;refine qW (zX fa25_0 rfl) rfl rfl rfl ?_;refine qW (jK 2 ty22 rfl rfl rfl) rfl rfl rfl ?_;refine qW (opV_len_slice sl22 rfl) rfl rfl rfl ?_;refine qW (qV rfl) rfl rfl rfl ?_;refine zK ?_;refine qZ ?_;refine qKB ?_;refine doC_loopK [1,2,5,13,14] [2] (α:=Nat × List Po) (fun x=>n - x.1) (fun x=>x.1≤n∧lks js bx x.1=x.2∧x.2.length=x.1) (fun x=>⟨w,[(11,(· = b11),zHF b11 24 129 (lkR x.2 (n - x.1)))]⟩) (fun x=>[(15,.int .i64 (x.1:Int))]) (fun _=>[]) (0,[]) rfl rfl ?_ ?_ ?_ ?_ rfl ?_
 ·
  exact ⟨Nat.zero_le _,rfl,rfl⟩
 ·
  exact rfl
 ·
  repeat' first | exact trivial | exact True.intro | refine ⟨rfl,?_⟩
 ·
  repeat' first | exact trivial | exact True.intro | refine ⟨rfl,?_⟩
 rintro ⟨k,ps⟩ ⟨hk,hps,hlen⟩
 dsimp only at hk hps hlen ⊢;subst hlen;refine zJ ?_;refine qJ ?_;refine qW (qKW rfl rfl) rfl rfl rfl ?_;refine zK ?_;refine qZ ?_;refine zJ ?_;refine qJK rfl (fun hc16 => ?_) (fun hc16 => ?_)
 ·
  have h2:ps.length < n:=by have:=vJZ hc16; omega
  obtain ⟨j,hjk⟩:∃ j,js[ps.length]? = some j:=⟨_,vQK (by omega)⟩
  obtain ⟨a,hak⟩:∃ a,bx[ps.length]? = some a:=⟨_,vQK (by omega)⟩
  have hj:(js.map jc)[ps.length]? = some (jc j):=by rw [vZY,hjk]; rfl
  have ha:(bx.map ivc)[ps.length]? = some (ivc a):=by rw [vZY,hak]; rfl
  have hpj:=hpar _ j hjk;obtain ⟨m,hm⟩:∃ m,n - ps.length=m + 1:=⟨n - ps.length - 1,by omega⟩
  rw [hm];have hz:(lkR ps (m + 1))[ps.length]? = some zRow:=by unfold lkR; rw [List.getElem?_append_right (by simp)]; simp
  refine qZX ?_;refine qZ ?_;refine zJ ?_;refine qKB ?_;refine zJ ?_;refine qJ ?_;refine qW (qV rfl) rfl rfl rfl ?_;refine qW (qKZ (e:=70) (qVE hS) (by kernel_rfl) rfl rfl rfl hj h2) rfl rfl rfl ?_;refine qW (qVB (vs:=[.string j.name,.int .i64 j.kind,.int .i64 j.parent,.int .i64 j.off.x,.int .i64 j.off.y,.int .i64 j.off.z,.int .i64 j.lo,.int .i64 j.hi,.int .i64 j.weight,.int .i64 j.speed,.int .i64 j.accel,.int .i64 j.torque]) ps.length 0 (qVE hS) hj ty70 rfl rfl) rfl rfl rfl ?_;refine qKA 7 ze70 rfl rfl rfl ?_; intro b7;refine qW (zQ rfl) rfl rfl rfl ?_;refine qZL 7 ty70 rfl rfl rfl rfl rfl rfl rfl rfl ?_;refine zK ?_;refine qZ ?_;refine zJ ?_;refine qXJ 8 mo (by kernel_rfl) ?_;simp only [vYK,vYX,vYU,vYW];refine kZ (qV rfl) rfl rfl rfl ?_;refine kZ (qV rfl) rfl rfl rfl ?_;refine kZ (qKV 7 ty70 rfl rfl rfl) rfl rfl rfl ?_;refine kZ (qV rfl) rfl rfl rfl ?_;refine kZ (qV rfl) rfl rfl rfl ?_;refine kZ (qKZ (e:=65) (qVE hT) (by kernel_rfl) rfl rfl rfl ha h2) rfl rfl rfl ?_;refine kZ (qVB (vs:=[.int .i64 a.lo,.int .i64 a.hi]) ps.length 0 (qVE hT) ha ty65 rfl rfl) rfl rfl rfl ?_;refine yZY (F:=po) (uK en127 rfl (fun w _=>kJoint _ _ _ _ _ _ _ _ _ _ _ _ _ _ w)) rfl rfl rfl ?_; intro r27 hr27;refine zYL ?_;refine qVG ?_;refine qW (qKZ (e:=129) ((qGD (id:=11) rfl).imp qKU) (by kernel_rfl) rfl rfl rfl hz h2) rfl rfl rfl ?_;refine doL_storeRow (vs:=pc r27) (j:=ps.length) 11 yVV rfl rfl rfl (by simp [lkR]) rfl rfl rfl rfl ?_; intro R28 hR28;obtain rfl:=Option.some.inj hR28;rw [lkR_set];refine zK ?_;refine qZ ?_;refine zJ ?_;refine qJ ?_;refine qW (zX fa70_2 rfl) rfl rfl rfl ?_;refine qW (jK 7 ty3 rfl rfl rfl) rfl rfl rfl ?_;refine qW (yYJ rfl rfl) rfl rfl rfl ?_;refine zK ?_;refine qZ ?_;refine qJK rfl (fun hc31 => ?_) (fun hc31 => ?_)
  ·
   have hp:¬ j.parent = -1:=by simpa using hc31
   have hpl:j.parent.toNat < ps.length:=by omega
   have hpn:j.parent=((j.parent.toNat:Nat):Int):=by omega
   refine qXJ 12 mo (by kernel_rfl) ?_;simp only [vYK,vYX,vYU,vYW];refine kZ (qV rfl) rfl rfl rfl ?_;refine kZ (qV rfl) rfl rfl rfl ?_;refine kZ (qV rfl) rfl rfl rfl ?_;refine kZ (zX fa70_2 rfl) rfl rfl rfl ?_;refine kZ (jK 7 ty3 rfl rfl rfl) rfl rfl rfl ?_;refine kZ (qKZ (e:=129) ((qGD (id:=11) rfl).imp qKU) (by kernel_rfl) rfl rfl hpn (lkR_at hpl) (by omega)) rfl rfl rfl ?_;refine kZ (qVB (vs:=pc (ps.getD j.parent.toNat Po.rest)) j.parent.toNat 0 ((qGD (id:=11) rfl).imp qKU) (lkR_at hpl) yVV rfl rfl) rfl rfl rfl ?_;refine kZ (qV rfl) rfl rfl rfl ?_;refine kZ (qV rfl) rfl rfl rfl ?_;refine kZ (qKZ (e:=129) ((qGD (id:=11) rfl).imp qKU) (by kernel_rfl) rfl rfl rfl yWY h2) rfl rfl rfl ?_;refine kZ (qVB (vs:=pc r27) ps.length 0 ((qGD (id:=11) rfl).imp qKU) yWY yVV rfl rfl) rfl rfl rfl ?_;refine yZY (F:=po) (uK en128 rfl (fun w _=>pCompose _ _ _ _ _ _ _ _ _ _ _ _ _ _ _ _ _ _ _ _ _ _ _ _ _ _ _ _ _ _ _ _ _ _ _ _ _ _ _ _ _ _ _ _ _ _ _ _  w)) rfl rfl rfl ?_; intro r43 hr43;refine zYL ?_;refine qVG ?_;refine qW (qKZ (e:=129) ((qGD (id:=11) rfl).imp qKU) (by kernel_rfl) rfl rfl rfl yWY h2) rfl rfl rfl ?_;refine doL_storeRow (vs:=pc r43) (j:=ps.length) 11 yVV rfl rfl rfl (by simp [lkR]) rfl rfl rfl rfl ?_; intro R44 hR44;obtain rfl:=Option.some.inj hR44;rw [lkR_set2];refine zK ?_;refine uV ?_;refine qZ ?_;refine qJ ?_;refine qW (qYA rfl rfl (inc_nat (by omega))) rfl rfl rfl ?_;refine qW (qV rfl) rfl rfl rfl ?_;refine zK ?_;refine post_again (ps.length + 1,ps ++ [r43]) (by refine ⟨?_,?_,?_⟩ <;> dsimp only; omega; rw [qVD hjk hak,hps]; exact congrArg (fun x=>ps ++ [x]) ((if_neg hp).trans (by rw [show r43=Po.mul (ps.getD j.parent.toNat Po.rest) r27 from hr43,hr27]; try rfl)); simp) (by show n - (ps.length + 1) < n - ps.length; omega) (by dsimp only; rw [show n - (ps.length + 1)=m by omega,← lkR_done]; try rfl) ?_ ?_ rfl
   repeat' first | exact trivial | exact True.intro | refine ⟨rfl,?_⟩
  ·
   have hp:j.parent = -1:=by simpa using hc31
   refine qZX ?_;refine uV ?_;refine qZ ?_;refine qJ ?_;refine qW (qYA rfl rfl (inc_nat (by omega))) rfl rfl rfl ?_;refine qW (qV rfl) rfl rfl rfl ?_;refine zK ?_;refine post_again (ps.length + 1,ps ++ [r27]) (by refine ⟨?_,?_,?_⟩ <;> dsimp only; omega; rw [qVD hjk hak,hps]; exact congrArg (fun x=>ps ++ [x]) ((if_pos hp).trans hr27.symm); simp) (by show n - (ps.length + 1) < n - ps.length; omega) (by dsimp only; rw [show n - (ps.length + 1)=m by omega,← lkR_done]; try rfl) ?_ ?_ rfl
   repeat' first | exact trivial | exact True.intro | refine ⟨rfl,?_⟩
 ·
  have h2:ps.length=n:=by have:=vJY hc16; omega
  refine doC_exit ?_;refine qJY ?_;refine qJY ?_;refine post_block_exit ?_;refine qZ ?_;refine zJ ?_;refine qJ ?_;refine qW (qV rfl) rfl rfl rfl ?_;refine qW (zQ rfl) rfl rfl rfl ?_;refine zK ?_;refine qZ ?_;refine qQZ ?_;refine post_ret (rs:=[.tmp 4]) rfl (resC (uH rfl) (resN)) rfl ?_;intro w2 k2;obtain ⟨_,q2,q3⟩:=k2.facts _ vZQ;refine ⟨b11,trivial,rfl,k2.grow,ownD _,slc_dep _ _ _,fun z hz => ?_,?_⟩
  ·obtain ⟨ad,h1,h2⟩:=hz;cases h1;subst h2;exact ⟨(q2 _ rfl).1,(q2 _ rfl).2.1⟩
  ·have q4:=qKU _ q3;rw [← h2,hps]
   simpa [lkR,h2] using q4
end Go.Proofs.YtbfcbojgnppacaaGreat
namespace Go.Proofs.YtbfcbojgnppacaaGreat
end Go.Proofs.YtbfcbojgnppacaaGreat
namespace Go.Proofs.YtbfcbojgnppacaaGreat.Nf
open Go.Rx Rt Go.Sx Go.RowKit Od Oe Na Nb Nc Nx
theorem cj_par {i:Int} {j:J} (h:cjT (fun e=>e) i j=0) : -1≤j.parent∧j.parent < i:=by
 unfold cjT at h;by_cases h1:j.kind < 0
 ·rw [vJQ h1,vYV] at h; exact absurd h (by decide)
 by_cases h2:6 < j.kind
 ·rw [vYH h1,vYG,vJQ h2,vYV] at h; exact absurd h (by decide)
 by_cases h3:j.parent < -1
 ·rw [vYH h1,vYG,vYH h2,vYG,vJQ h3,vYV] at h; exact absurd h (by decide)
 by_cases h4:i≤j.parent
 ·rw [vYH h1,vYG,vYH h2,vYG,vYH h3,vYG,vJQ h4,vYV] at h; exact absurd h (by decide)
 omega
theorem jerr_cj {js:Nat→J} {n i:Nat} (h:jErr js n i=0):cjT (fun e=>e) i (js i)=0:=by
 unfold jErr at h;cases h1:nmB (js i).name with
 | false=>rw [h1] at h; exact absurd (show (802:Int)=0 from h) (by decide)
 | true =>
  cases h2:dup js (js i).name i 0 with
  | true=>rw [h1,h2] at h; exact absurd (show (802:Int)=0 from h) (by decide)
  | false=>rw [h1,h2] at h; exact h
theorem yWU {js:Nat→J} {n:Nat}:∀ {k p:Nat},jE js n k p=0→∀ i,p≤i→i < p + k→jErr js n i=0
 | 0,p,_,i,h1,h2=>by omega
 | k + 1,p,h,i,h1,h2=>by
  unfold jE at h;by_cases hp:jErr js n p=0
  ·rw [vJQ hp,vYV] at h;rcases Nat.eq_or_lt_of_le h1 with e | e
   ·exact e ▸ hp
   ·exact yWU h i e (by omega)
  ·rw [vYH hp,vYG] at h;exact absurd h hp
theorem rerr_je {js:Nat→J} {ms:Nat→Ms} {n m:Nat} (h:rErr js ms n m=0):jE js n n 0=0:=by
 have hn:=yQV h;unfold rErr at h;rw [vYH (show ¬ (n:Int)=0 by omega),vYH (show ¬ 10 < (n:Int) by omega),vYG,vYG] at h;by_cases hj:jE js n n 0=0
 ·exact hj
 ·rw [vYH hj,vYG] at h; exact h
theorem rerr_par {js:Nat→J} {ms:Nat→Ms} {n m:Nat} (h:rErr js ms n m=0):∀ i,i < n → -1≤(js i).parent∧(js i).parent < (i:Int):=fun i hi =>
 cj_par (jerr_cj (yWU (rerr_je h) i (Nat.zero_le _) (by omega)))
def jl (js:Nat→J) (n:Nat):List J:=(List.range n).map js
def ml (ms:Nat→Ms) (m:Nat):List Ms:=(List.range m).map ms
def bl (bx:Nat→Iv) (k:Nat):List Iv:=(List.range k).map bx
theorem jl_e (js:Nat→J) (n:Nat):(jl js n).map jp=(List.range n).map (fJ js):=by unfold jl; rw [List.map_map]; rfl
theorem ml_e (ms:Nat→Ms) (m:Nat):(ml ms m).map mp=(List.range m).map (fM ms):=by unfold ml; rw [List.map_map]; rfl
theorem bl_e (bx:Nat→Iv) (k:Nat):(bl bx k).map Rx.ivC=(List.range k).map (fB bx):=by unfold bl; rw [List.map_map]; rfl
theorem yKH (js:Nat→J) (n:Nat):(jl js n).length=n:=by simp [jl]
theorem ml_len (ms:Nat→Ms) (m:Nat):(ml ms m).length=m:=by simp [ml]
theorem yZJ (bx:Nat→Iv) (k:Nat):(bl bx k).length=k:=by simp [bl]
theorem jl_at {js:Nat→J} {n i:Nat} {j:J} (h:(jl js n)[i]? = some j):i < n∧j=js i:=by
 have hl:=(List.getElem?_eq_some_iff.1 h).1;rw [yKH] at hl;unfold jl at h;rw [vZY,List.getElem?_range hl] at h;cases h;exact ⟨hl,rfl⟩
theorem rob_lf {js:Nat→J} {ms:Nat→Ms} {n m:Nat} {F:Nat→Prop} {w:World} {v:Value} (hF:∀ k,F k→k < w.heap.size) (h:RP F w (.a [.lf n (fJ js),.lf m (fM ms)]) v):∃ aj cj am cm,v=.agg #[.slice aj n cj,.slice am m cm]∧qJQ 12 aj ((jl js n).map jc) w∧qJQ 5 am ((ml ms m).map mc) w:=by
 obtain ⟨vs,rfl,ha⟩:=rp_parts h;obtain ⟨v1,vs,rfl,h1,ha⟩:=qVV ha;obtain ⟨v2,vs,rfl,h2,ha⟩:=qVV ha;obtain rfl:=al_unnil ha;obtain ⟨aj,cj,rfl,_,hj⟩:=zVH (sz:=12) (g:=jc) (fun _=>rfl) (fun _=>rfl) (yKH js n) hF (zUU (jl_e js n) h1);obtain ⟨am,cm,rfl,_,hm⟩:=zVH (sz:=5) (g:=mc) (fun _=>rfl) (fun _=>rfl) (ml_len ms m) hF (zUU (ml_e ms m) h2);exact ⟨aj,cj,am,cm,rfl,hj,hm⟩
theorem box_lf {bx:Nat→Iv} {k:Nat} {F:Nat→Prop} {w:World} {v:Value} (hF:∀ k,F k→k < w.heap.size) (h:RP F w (.lf k (fB bx)) v):∃ a c,v=.slice a k c∧qJQ 2 a ((bl bx k).map ivc) w:=by
 obtain ⟨a,c,rfl,_,hS⟩:=zVH (sz:=2) (g:=ivc) (fun _=>rfl) (fun _=>rfl) (yZJ bx k) hF (zUU (bl_e bx k) h);exact ⟨a,c,rfl,hS⟩
def LK (js:Nat→J) (bx:Nat→Iv) (n:Nat):List Po:=lks (jl js n) (bl bx n) n
def LP (js:Nat→J) (bx:Nat→Iv) (n:Nat):Nat→Po:=fun i=>(LK js bx n).getD i Po.rest
def fP (P:Nat→Po):Nat→List PV:=fun v=>Rx.poC (P v)
theorem yVJ (js:Nat→J) (bx:Nat→Iv) (n:Nat):(LK js bx n).length=n:=zGI _ (by rw [yKH]; exact Nat.le_refl _) (by rw [yZJ]; exact Nat.le_refl _)
theorem LK_e (js:Nat→J) (bx:Nat→Iv) (n:Nat):(LK js bx n).map Rx.poC=(List.range n).map (fP (LP js bx n)):=by
 have:=rows_fn Po.rest Rx.poC (LK js bx n)
 rw [yVJ] at this;exact this
theorem snd_kl (js:Nat→J) (ms:Nat→Ms) (bx:Nat→Iv) (n m:Nat) (hn:n≤1000) (hp:∀ i,i < n → -1≤(js i).parent∧(js i).parent < (i:Int)):zH Tryz.prog 97 [.a [.lf n (fJ js),.lf m (fM ms)],.lf n (fB bx)] (.v (.lf n (fP (LP js bx n)))):=by
 refine qXV (Same.lf (LK_e js bx n)) (snd_told (X:=Nat) (Φ:=fun _=>True) (V:=fun b=>.slice (some ⟨b,0,none⟩) n n) (G:=fun b=>qJQ 24 (some ⟨b,0,none⟩) ((LK js bx n).map pc)) (qU Tryz.func97 (by kernel_rfl) (by kernel_rfl)) (fun w F vals hF hal => ?_) (fun x w D F hP hG hd hF=>rp_told (g:=pc) (sz:=24) (fun _=>rfl) (fun _=>rfl) (yVJ js bx n) (Nat.le_refl _) (by decide) hd hG (fun _ h=>h) hF));obtain ⟨v1,vs,rfl,h1,hal⟩:=qVV hal;obtain ⟨v2,vs,rfl,h2,hal⟩:=qVV hal;obtain rfl:=al_unnil hal;obtain ⟨aj,cj,am,cm,rfl,hj,hm'⟩:=rob_lf hF h1;obtain ⟨ab,cb,rfl,hS⟩:=box_lf hF h2;exact kLinks aj am ab cj m cm cb n (jl js n) (bl bx n) hn (yKH js n) (yZJ bx n) (fun i j h=>by obtain ⟨hi,rfl⟩:=jl_at h; exact hp i hi) w hj hS
theorem snd_ka (js:Nat→J) (ms:Nat→Ms) (bx:Nat→Iv) (n m:Nat) (h0:rErr js ms n m=0) (hv:allV bx n=true):zH Tryz.prog 67 [.a [.lf n (fJ js),.lf m (fM ms)],.lf n (fB bx)] (.v (.lf n (fP (LP js bx n)))):=by
 have hn:=yQV h0;refine qX (N:=60) yH yZ (OrL.ok (l:=[(96,o_cr [.a [.lf n (fJ js),.lf m (fM ms)],.lf n (fB bx)] (.v (.b (isB bx n n)))),(58,o_cr [.a [.lf n (fJ js),.lf m (fM ms)]] (.v (.n .i64 (rErr js ms n m)))),(97,o_cr [.a [.lf n (fJ js),.lf m (fM ms)],.lf n (fB bx)] (.v (.lf n (fP (LP js bx n)))))]) ⟨qQI (snd_isP js ms bx n m n (by omega)),qQI (zVG js ms n m),qQI (snd_kl js ms bx n m (by omega) (rerr_par h0)),trivial⟩) ?_;refine (by kernel_rfl:_=bif (g1 [.a [.lf n (fJ js),.lf m (fM ms)],.lf n (fB bx)]) then (bif (isB bx n n) then (bif (g1 [.a [.lf n (fJ js),.lf m (fM ms)]]) then (bif (!decide ((rErr js ms n m)=0)) then some (.v (.l []),[])
 else bif (g1 [.a [.lf n (fJ js),.lf m (fM ms)],.lf n (fB bx)]) then some (.v (.lf n (fP (LP js bx n))),[])
 else none)
 else none)
 else some (.v (.l []),[]))
 else none).trans ?_
 have hB':isB bx n n=true:=by unfold isB; rw [hv,vJQ rfl]; rfl
 simp only [g1_t,hB',h0];rfl
end Go.Proofs.YtbfcbojgnppacaaGreat.Nf
namespace Go.Proofs.YtbfcbojgnppacaaGreat.Nd
open Go.Rx Rt Go.Sx Go.RowKit Od
open Na Nb Nc
theorem bcs {α:Type} {c:Bool} {x y z:α} (h1:c=true→x=z) (h2:c=false→y=z):(bif c then x else y)=z:=by
 cases c
 ·exact h2 rfl
 ·exact h1 rfl
def fC (cs:Nat→Cn):Nat→List PV:=fun v=>cp (cs v)
def COK (n:Nat) (q:Cn):Prop:=(q.kind=0 ∨ q.kind=1)∧(0≤q.link∧q.link < n)∧(-4194304≤q.p.x∧q.p.x≤4194304)∧(-4194304≤q.p.y∧q.p.y≤4194304)∧(-4194304≤q.p.z∧q.p.z≤4194304) ∧
 (-16384≤q.n.x∧q.n.x≤16384)∧(-16384≤q.n.y∧q.n.y≤16384)∧(-16384≤q.n.z∧q.n.z≤16384)∧¬ (q.n.x=0∧q.n.y=0∧q.n.z=0)∧q.lo≤q.hi ∧ -70368744177664≤q.lo∧q.hi≤70368744177664
instance (n:Nat) (q:Cn):Decidable (COK n q):=by unfold COK; exact inferInstance
def conB (n:Nat) (q:Cn):Bool:=decide (COK n q)
def cAll (cs:Nat→Cn) (n:Nat):Nat→Nat→Bool
 | 0,_=>true
 | k + 1,p=>conB n (cs p) && cAll cs n k (p + 1)
def cErr (js:Nat→J) (ms:Nat→Ms) (n m:Nat) (cs:Nat→Cn) (c:Nat):Bool:=decide (rErr js ms n m=0) && (!decide (8 < (c:Int)) && cAll cs n c 0)
noncomputable def qUZ (js:Nat→J) (ms:Nat→Ms) (n m:Nat):List PV→Option (Bool × Ret):=fun ps=>match ps with
 | [r]=>some (gEq r (.a [.lf n (fJ js),.lf m (fM ms)]),.v (.n .i64 (rErr js ms n m)))
 | _=>none
theorem ok_kMc (js:Nat→J) (ms:Nat→Ms) (n m:Nat):zY Tryz.prog 58 (qUZ js ms n m):=by
 intro ps r hh;unfold qUZ at hh;split at hh
 ·simp only [vQZ,vQY] at hh;obtain ⟨hg,rfl⟩:=hh;obtain rfl:=zQV hg;exact zVG js ms n m
 ·cases hh
def hMc (js:Nat→J) (ms:Nat→Ms) (n m:Nat) (cs:Nat→Cn) (c:Nat) (i:Int):St:=⟨[(2,.p 2 0),(17,.v (.lf c (fC cs))),(18,.v (.n .i64 (c:Int))),(19,.v (.n .i64 i))],[(2,.blk [.v (.lf n (fJ js)),.v (.lf m (fM ms))])]⟩
def cTMc {α:Type} (n:Nat) (q:Cn) (a b:α):α:=(bif (!decide (q.kind=0)) then (bif (!decide (q.kind=1)) then b else (bif (decide (q.link < 0)) then b else (bif (decide ((n:Int)≤q.link)) then b else (bif (decide (q.p.x < (-4194304))) then b else (bif (decide (4194304 < q.p.x)) then b else (bif (decide (q.p.y < (-4194304))) then b else (bif (decide (4194304 < q.p.y)) then b else (bif (decide (q.p.z < (-4194304))) then b else (bif (decide (4194304 < q.p.z)) then b else (bif (decide (q.n.x < (-16384))) then b else (bif (decide (16384 < q.n.x)) then b else (bif (decide (q.n.y < (-16384))) then b else (bif (decide (16384 < q.n.y)) then b else (bif (decide (q.n.z < (-16384))) then b else (bif (decide (16384 < q.n.z)) then b else (bif (!((decide (q.n.x=0)) && ((decide (q.n.y=0)) && ((decide (q.n.z=0)) && true)))) then (bif (decide (q.hi < q.lo)) then b else (bif (decide (q.lo < (-70368744177664))) then b else (bif (decide (70368744177664 < q.hi)) then b else a))) else b)))))))))))))))) else (bif (decide (q.link < 0)) then b else (bif (decide ((n:Int)≤q.link)) then b else (bif (decide (q.p.x < (-4194304))) then b else (bif (decide (4194304 < q.p.x)) then b else (bif (decide (q.p.y < (-4194304))) then b else (bif (decide (4194304 < q.p.y)) then b else (bif (decide (q.p.z < (-4194304))) then b else (bif (decide (4194304 < q.p.z)) then b else (bif (decide (q.n.x < (-16384))) then b else (bif (decide (16384 < q.n.x)) then b else (bif (decide (q.n.y < (-16384))) then b else (bif (decide (16384 < q.n.y)) then b else (bif (decide (q.n.z < (-16384))) then b else (bif (decide (16384 < q.n.z)) then b else (bif (!((decide (q.n.x=0)) && ((decide (q.n.y=0)) && ((decide (q.n.z=0)) && true)))) then (bif (decide (q.hi < q.lo)) then b else (bif (decide (q.lo < (-70368744177664))) then b else (bif (decide (70368744177664 < q.hi)) then b else a))) else b))))))))))))))))
theorem cTMc_z {α:Type} (n:Nat) (q:Cn) (a b:α):cTMc n q a b=(bif (decide (¬ q.kind=0)) then (bif (decide (¬ q.kind=1)) then b else (bif (decide (q.link < 0)) then b else (bif (decide ((n:Int)≤q.link)) then b else (bif (decide (q.p.x < (-4194304))) then b else (bif (decide (4194304 < q.p.x)) then b else (bif (decide (q.p.y < (-4194304))) then b else (bif (decide (4194304 < q.p.y)) then b else (bif (decide (q.p.z < (-4194304))) then b else (bif (decide (4194304 < q.p.z)) then b else (bif (decide (q.n.x < (-16384))) then b else (bif (decide (16384 < q.n.x)) then b else (bif (decide (q.n.y < (-16384))) then b else (bif (decide (16384 < q.n.y)) then b else (bif (decide (q.n.z < (-16384))) then b else (bif (decide (16384 < q.n.z)) then b else (bif (decide (¬ (q.n.x=0∧q.n.y=0∧q.n.z=0))) then (bif (decide (q.hi < q.lo)) then b else (bif (decide (q.lo < (-70368744177664))) then b else (bif (decide (70368744177664 < q.hi)) then b else a))) else b)))))))))))))))) else (bif (decide (q.link < 0)) then b else (bif (decide ((n:Int)≤q.link)) then b else (bif (decide (q.p.x < (-4194304))) then b else (bif (decide (4194304 < q.p.x)) then b else (bif (decide (q.p.y < (-4194304))) then b else (bif (decide (4194304 < q.p.y)) then b else (bif (decide (q.p.z < (-4194304))) then b else (bif (decide (4194304 < q.p.z)) then b else (bif (decide (q.n.x < (-16384))) then b else (bif (decide (16384 < q.n.x)) then b else (bif (decide (q.n.y < (-16384))) then b else (bif (decide (16384 < q.n.y)) then b else (bif (decide (q.n.z < (-16384))) then b else (bif (decide (16384 < q.n.z)) then b else (bif (decide (¬ (q.n.x=0∧q.n.y=0∧q.n.z=0))) then (bif (decide (q.hi < q.lo)) then b else (bif (decide (q.lo < (-70368744177664))) then b else (bif (decide (70368744177664 < q.hi)) then b else a))) else b)))))))))))))))):=by
 have hz:(!((decide (q.n.x=0)) && ((decide (q.n.y=0)) && ((decide (q.n.z=0)) && true))))=decide (¬ (q.n.x=0∧q.n.y=0∧q.n.z=0)):=by
  by_cases hx:q.n.x=0 <;> by_cases hy:q.n.y=0 <;> by_cases hw:q.n.z=0 <;> simp [hx,hy,hw]
 have hk0:(!decide (q.kind=0))=decide (¬ q.kind=0):=by simp
 have hk1:(!decide (q.kind=1))=decide (¬ q.kind=1):=by simp
 unfold cTMc;rw [hz,hk0,hk1]
theorem cTMc_eq {α:Type} (n:Nat) (q:Cn) (a b:α):cTMc n q a b=bif conB n q then a else b:=by
 rw [cTMc_z];unfold conB;by_cases h:COK n q
 ·rw [vJQ h,vYV];obtain ⟨h0,⟨h1,h2⟩,⟨h3,h4⟩,⟨h5,h6⟩,⟨h7,h8⟩,⟨h9,h10⟩,⟨h11,h12⟩,⟨h13,h14⟩,h15,h16,h17,h18⟩:=h;rcases h0 with h0 | h0
  ·simp only [vYH (show ¬ ¬ q.kind=0 by omega),vJQ h15,vYH (show ¬ q.link < 0 by omega),vYH (show ¬ (n:Int)≤q.link by omega),vYH (show ¬ q.p.x < (-4194304) by omega),vYH (show ¬ 4194304 < q.p.x by omega),vYH (show ¬ q.p.y < (-4194304) by omega),vYH (show ¬ 4194304 < q.p.y by omega),vYH (show ¬ q.p.z < (-4194304) by omega),vYH (show ¬ 4194304 < q.p.z by omega),vYH (show ¬ q.n.x < (-16384) by omega),vYH (show ¬ 16384 < q.n.x by omega),vYH (show ¬ q.n.y < (-16384) by omega),vYH (show ¬ 16384 < q.n.y by omega),vYH (show ¬ q.n.z < (-16384) by omega),vYH (show ¬ 16384 < q.n.z by omega),vYH (show ¬ q.hi < q.lo by omega),vYH (show ¬ q.lo < (-70368744177664) by omega),vYH (show ¬ 70368744177664 < q.hi by omega),vYV,vYG]
  ·simp only [vJQ (show ¬ q.kind=0 by omega),vYH (show ¬ ¬ q.kind=1 by omega),vJQ h15,vYH (show ¬ q.link < 0 by omega),vYH (show ¬ (n:Int)≤q.link by omega),vYH (show ¬ q.p.x < (-4194304) by omega),vYH (show ¬ 4194304 < q.p.x by omega),vYH (show ¬ q.p.y < (-4194304) by omega),vYH (show ¬ 4194304 < q.p.y by omega),vYH (show ¬ q.p.z < (-4194304) by omega),vYH (show ¬ 4194304 < q.p.z by omega),vYH (show ¬ q.n.x < (-16384) by omega),vYH (show ¬ 16384 < q.n.x by omega),vYH (show ¬ q.n.y < (-16384) by omega),vYH (show ¬ 16384 < q.n.y by omega),vYH (show ¬ q.n.z < (-16384) by omega),vYH (show ¬ 16384 < q.n.z by omega),vYH (show ¬ q.hi < q.lo by omega),vYH (show ¬ q.lo < (-70368744177664) by omega),vYH (show ¬ 70368744177664 < q.hi by omega),vYV,vYG]
 ·rw [vYH h,vYG];exact bcs (fun _=>bcs (fun _=>rfl) (fun _=>bcs (fun _=>rfl) (fun _=>bcs (fun _=>rfl) (fun _=>bcs (fun _=>rfl) (fun _=>bcs (fun _=>rfl) (fun _=>bcs (fun _=>rfl) (fun _=>bcs (fun _=>rfl) (fun _=>bcs (fun _=>rfl) (fun _=>bcs (fun _=>rfl) (fun _=>bcs (fun _=>rfl) (fun _=>bcs (fun _=>rfl) (fun _=>bcs (fun _=>rfl) (fun _=>bcs (fun _=>rfl) (fun _=>bcs (fun _=>rfl) (fun _=>bcs (fun _=>rfl) (fun _=>bcs (fun _=>bcs (fun _=>rfl) (fun _=>bcs (fun _=>rfl) (fun _=>bcs (fun _=>rfl) (fun _=>(by simp only [decide_eq_true_eq,decide_eq_false_iff_not] at *; exact absurd (by unfold COK; refine ⟨?_,⟨?_,?_⟩,⟨?_,?_⟩,⟨?_,?_⟩,⟨?_,?_⟩,⟨?_,?_⟩,⟨?_,?_⟩,⟨?_,?_⟩,?_,?_,?_,?_⟩ <;> omega) h))))) (fun _=>rfl))))))))))))))))) (fun _=>bcs (fun _=>rfl) (fun _=>bcs (fun _=>rfl) (fun _=>bcs (fun _=>rfl) (fun _=>bcs (fun _=>rfl) (fun _=>bcs (fun _=>rfl) (fun _=>bcs (fun _=>rfl) (fun _=>bcs (fun _=>rfl) (fun _=>bcs (fun _=>rfl) (fun _=>bcs (fun _=>rfl) (fun _=>bcs (fun _=>rfl) (fun _=>bcs (fun _=>rfl) (fun _=>bcs (fun _=>rfl) (fun _=>bcs (fun _=>rfl) (fun _=>bcs (fun _=>rfl) (fun _=>bcs (fun _=>bcs (fun _=>rfl) (fun _=>bcs (fun _=>rfl) (fun _=>bcs (fun _=>rfl) (fun _=>(by simp only [decide_eq_true_eq,decide_eq_false_iff_not] at *; exact absurd (by unfold COK; refine ⟨?_,⟨?_,?_⟩,⟨?_,?_⟩,⟨?_,?_⟩,⟨?_,?_⟩,⟨?_,?_⟩,⟨?_,?_⟩,⟨?_,?_⟩,?_,?_,?_,?_⟩ <;> omega) h))))) (fun _=>rfl))))))))))))))))
set_option maxRecDepth 100000 in
theorem rdMc (G:St→Option (Ret × Mem)) (K:Cont) (js:Nat→J) (ms:Nat→Ms) (n m:Nat) (cs:Nat→Cn) (c:Nat) (i:Int):qUQ 60 (cxF T (OrL.k [(58,qUZ js ms n m)]) 60 33 (ntmF T 33)) (ckF T (OrL.k [(58,qUZ js ms n m)]) 60) (qG T 33 [0,1,0,1,1]) (fun e τ=>match e with
 | .normal=>G (qYD ((cxF T (OrL.k [(58,qUZ js ms n m)]) 60 33 (ntmF T 33)).T.hint (cxF T (OrL.k [(58,qUZ js ms n m)]) 60 33 (ntmF T 33)).me (yQ (qG T 33 [0,1,0,1,1]))) τ)
 | e=>K e (qYX ((cxF T (OrL.k [(58,qUZ js ms n m)]) 60 33 (ntmF T 33)).T.hint (cxF T (OrL.k [(58,qUZ js ms n m)]) 60 33 (ntmF T 33)).me (yQ (qG T 33 [0,1,0,1,1]))) τ)) (hMc js ms n m cs c i) =
 bif decide (i < (c:Int)) then (bif inB i c then cTMc n (cs i.toNat) (G (hMc js ms n m cs c (vJJ .i64 (i + 1)))) (K .ret ⟨[(4,.v (.b false))],[]⟩) else none) else (K (.exit 0) ⟨[],[]⟩):=by kernel_rfl
theorem lpMc (K:Cont) (js:Nat→J) (ms:Nat→Ms) (n m:Nat) (cs:Nat→Cn) (c:Nat) (hc:c≤1000):∀ (k p q:Nat),p + k=c→k < q→LF 60 (cxF T (OrL.k [(58,qUZ js ms n m)]) 60 33 (ntmF T 33)) (ckF T (OrL.k [(58,qUZ js ms n m)]) 60) (qG T 33 [0,1,0,1,1]) ((cxF T (OrL.k [(58,qUZ js ms n m)]) 60 33 (ntmF T 33)).T.hint (cxF T (OrL.k [(58,qUZ js ms n m)]) 60 33 (ntmF T 33)).me (yQ (qG T 33 [0,1,0,1,1]))) K q (hMc js ms n m cs c p)=bif cAll cs n k p then (K (.exit 0) ⟨[],[]⟩) else (K .ret ⟨[(4,.v (.b false))],[]⟩)
 | 0,p,q + 1,hp,hq=>by
  refine (rdMc (fun σ=>LF 60 (cxF T (OrL.k [(58,qUZ js ms n m)]) 60 33 (ntmF T 33)) (ckF T (OrL.k [(58,qUZ js ms n m)]) 60) (qG T 33 [0,1,0,1,1]) ((cxF T (OrL.k [(58,qUZ js ms n m)]) 60 33 (ntmF T 33)).T.hint (cxF T (OrL.k [(58,qUZ js ms n m)]) 60 33 (ntmF T 33)).me (yQ (qG T 33 [0,1,0,1,1]))) K q σ) K js ms n m cs c p).trans ?_;rw [vYH (show ¬ (p:Int) < (c:Int) by omega)];rfl
 | k + 1,p,q + 1,hp,hq=>by
  refine (rdMc (fun σ=>LF 60 (cxF T (OrL.k [(58,qUZ js ms n m)]) 60 33 (ntmF T 33)) (ckF T (OrL.k [(58,qUZ js ms n m)]) 60) (qG T 33 [0,1,0,1,1]) ((cxF T (OrL.k [(58,qUZ js ms n m)]) 60 33 (ntmF T 33)).T.hint (cxF T (OrL.k [(58,qUZ js ms n m)]) 60 33 (ntmF T 33)).me (yQ (qG T 33 [0,1,0,1,1]))) K q σ) K js ms n m cs c p).trans ?_;rw [vJQ (show (p:Int) < (c:Int) by omega),uJ (show p < c by omega),qYK (by omega),lpMc K js ms n m cs c hc k (p + 1) q (by omega) (by omega),toN,cTMc_eq];by_cases hq:conB n (cs p)=true
  ·simp only [cAll,hq,vYV,vZH]
  ·rw [Bool.not_eq_true] at hq;simp only [cAll,hq,vYV,vYG,Bool.false_and]
set_option maxRecDepth 100000 in
theorem pxMc (js:Nat→J) (ms:Nat→Ms) (n m:Nat) (cs:Nat→Cn) (c:Nat):qGJ T (OrL.k [(58,qUZ js ms n m)]) (zW [([0,1,0,1,1],kK (hMc js ms n m cs c 0) (fun K=>bif decide (8 < (c:Int)) then none else (bif cAll cs n c 0 then (K (.exit 0) ⟨[],[]⟩) else (K .ret ⟨[(4,.v (.b false))],[]⟩))))]) 60 33 [(.a [.lf n (fJ js),.lf m (fM ms)]),.lf c (fC cs)] =
 (bif (gEq (.a [.lf n (fJ js),.lf m (fM ms)]) (.a [.lf n (fJ js),.lf m (fM ms)])) then (bif (!decide ((rErr js ms n m)=0)) then some (.v (.b false),[])
 else (bif (decide (8 < (c:Int))) then some (.v (.b false),[])
 else (bif gSt (hMc js ms n m cs c 0) (hMc js ms n m cs c 0) then (bif decide (8 < (c:Int)) then none else (bif cAll cs n c 0 then some (.v (.b true),[]) else some (.v (.b false),[]))) else none)))
 else none):=by kernel_rfl
theorem yQJ (js:Nat→J) (ms:Nat→Ms) (n m:Nat) (cs:Nat→Cn) (c:Nat):zH Tryz.prog 33 [(.a [.lf n (fJ js),.lf m (fM ms)]),.lf c (fC cs)] (.v (.b (cErr js ms n m cs c))):=by
 refine kY (N:=60) (LO:=zW [([0,1,0,1,1],kK (hMc js ms n m cs c 0) (fun K=>bif decide (8 < (c:Int)) then none else (bif cAll cs n c 0 then (K (.exit 0) ⟨[],[]⟩) else (K .ret ⟨[(4,.v (.b false))],[]⟩))))]) yH yZ (OrL.ok (l:=[(58,qUZ js ms n m)]) ⟨ok_kMc js ms n m,trivial⟩) (fun p S hp => ?_) ?_
 ·refine qQQ (L:=qG T 33) (l:=[([0,1,0,1,1],kK (hMc js ms n m cs c 0) (fun K=>bif decide (8 < (c:Int)) then none else (bif cAll cs n c 0 then (K (.exit 0) ⟨[],[]⟩) else (K .ret ⟨[(4,.v (.b false))],[]⟩))))]) (show AllP _ [([0,1,0,1,1],kK (hMc js ms n m cs c 0) (fun K=>bif decide (8 < (c:Int)) then none else (bif cAll cs n c 0 then (K (.exit 0) ⟨[],[]⟩) else (K .ret ⟨[(4,.v (.b false))],[]⟩))))] from ⟨qZU fun K r hr => ?_,trivial⟩) p S hp;cases hq:decide (8 < (c:Int)) with
  | true=>rw [hq] at hr; cases hr
  | false =>
   rw [hq] at hr;have h8:=vJY hq;exact (lpMc K js ms n m cs c (by omega) c 0 60 (by omega) (by omega)).trans hr
 ·refine (pxMc js ms n m cs c).trans ?_;unfold cErr;rw [kX,zQW];cases decide (rErr js ms n m=0) <;> cases decide (8 < (c:Int)) <;> cases cAll cs n c 0 <;> rfl
end Go.Proofs.YtbfcbojgnppacaaGreat.Nd
namespace Go.Proofs.YtbfcbojgnppacaaGreat.Ng
open Go.Rx Rt Go.Sx Go.RowKit Od Oe Na Nb Nc Nd Nx Nf
noncomputable def vr (c:Cn) (p:Po):Int × Int:=bif decide (c.kind=1) then (dot (Z3.mk c.n.x c.n.y c.n.z).x (Z3.mk c.n.x c.n.y c.n.z).y (Z3.mk c.n.x c.n.y c.n.z).z (M3.apply p.r (V3.of (Z3.mk c.p.x c.p.y c.p.z))).x.lo (M3.apply p.r (V3.of (Z3.mk c.p.x c.p.y c.p.z))).x.hi (M3.apply p.r (V3.of (Z3.mk c.p.x c.p.y c.p.z))).y.lo (M3.apply p.r (V3.of (Z3.mk c.p.x c.p.y c.p.z))).y.hi (M3.apply p.r (V3.of (Z3.mk c.p.x c.p.y c.p.z))).z.lo (M3.apply p.r (V3.of (Z3.mk c.p.x c.p.y c.p.z))).z.hi) else (dot (Z3.mk c.n.x c.n.y c.n.z).x (Z3.mk c.n.x c.n.y c.n.z).y (Z3.mk c.n.x c.n.y c.n.z).z (Po.app p (V3.of (Z3.mk c.p.x c.p.y c.p.z))).x.lo (Po.app p (V3.of (Z3.mk c.p.x c.p.y c.p.z))).x.hi (Po.app p (V3.of (Z3.mk c.p.x c.p.y c.p.z))).y.lo (Po.app p (V3.of (Z3.mk c.p.x c.p.y c.p.z))).y.hi (Po.app p (V3.of (Z3.mk c.p.x c.p.y c.p.z))).z.lo (Po.app p (V3.of (Z3.mk c.p.x c.p.y c.p.z))).z.hi)
def vOk (js:Nat→J) (ms:Nat→Ms) (bx:Nat→Iv) (n m k:Nat) (c:Cn):Bool:=(cErr js ms n m (fun _=>c) 1) && pIn js ms bx n m k
noncomputable def vLo (js:Nat→J) (ms:Nat→Ms) (bx:Nat→Iv) (n m k:Nat) (c:Cn):Int:=bif vOk js ms bx n m k c then (vr c (LP js bx n c.link.toNat)).1 else 0
noncomputable def vHi (js:Nat→J) (ms:Nat→Ms) (bx:Nat→Iv) (n m k:Nat) (c:Cn):Int:=bif vOk js ms bx n m k c then (vr c (LP js bx n c.link.toNat)).2 else 0
theorem qKE {js:Nat→J} {ms:Nat→Ms} {n m:Nat} {cs:Nat→Cn} {c:Nat} (h:cErr js ms n m cs c=true):rErr js ms n m=0∧c≤8∧∀ i,i < c→COK n (cs i):=by
 unfold cErr at h;simp only [vQJ,decide_eq_true_eq,Bool.not_eq_true',decide_eq_false_iff_not] at h;refine ⟨h.1,by omega,?_⟩;have key:∀ k p,cAll cs n k p=true→∀ i,p≤i→i < p + k→COK n (cs i):=by
  intro k;induction k with
  | zero=>intro p _ i h1 h2; omega
  | succ k ih =>
   intro p hp i h1 h2;unfold cAll at hp;rw [vQJ] at hp;rcases Nat.eq_or_lt_of_le h1 with e | e
   ·subst e;exact vJZ hp.1
   ·exact ih (p + 1) hp.2 i e (by omega)
 exact fun i hi=>key c 0 h.2.2 i (Nat.zero_le _) (by omega)
theorem pIn_links (js:Nat→J) (ms:Nat→Ms) (bx:Nat→Iv) (n m k:Nat) (h:pIn js ms bx n m k=true):zH Tryz.prog 67 [.a [.lf n (fJ js),.lf m (fM ms)],.lf k (fB bx)] (.v (.lf n (fP (LP js bx n)))):=by
 obtain ⟨h0,rfl,hv⟩:=pIn_n h;exact snd_ka js ms bx n m h0 (allN_iff.2 fun i _ hi=>hv i (by omega))
theorem inB_link {n:Nat} {x:Int} (h:0≤x∧x < (n:Int)):inB x n=true:=by
 unfold inB;rw [vJQ h.1,vJQ (show x.toNat < n by omega)]; rfl
noncomputable def qVC:List PV→Option (Bool × Ret):=fun ps=>match ps with
 | [.a z']=>(z3D z').bind fun z=>some (true,.v (.a (v3C (V3.of z))))
 | _=>none
theorem ok_rPoint:zY Tryz.prog 84 qVC:=by
 intro ps r h;unfold qVC at h;split at h
 ·simp only [vQQ,vQZ,vQY] at h;obtain ⟨z,hz,hg,rfl⟩:=h;rw [zKC hz];exact qY (qU Tryz.func84 (by kernel_rfl) (by kernel_rfl)) rfl rfl (fun w=>rPoint _ _ _ w)
 ·cases h
noncomputable def L13:OrL:=(84,qVC) :: L12
theorem L13_ok:AllP (fun x:Nat × (List PV→Option (Bool × Ret))=>zY Tryz.prog x.1 x.2) L13:=⟨ok_rPoint,L12_ok⟩
noncomputable def zGW:List PV→Option (Bool × Ret):=fun ps=>match ps with
 | [.a p',.a v']=>(poD p').bind fun p=>(v3D v').bind fun v=>some (true,.v (.a (v3C (Po.app p v))))
 | _=>none
theorem ok_qApply:zY Tryz.prog 85 zGW:=by
 intro ps r h;unfold zGW at h;split at h
 ·simp only [vQQ,vQZ,vQY] at h;obtain ⟨p,hp,v,hv,hg,rfl⟩:=h;rw [yKJ hp];rw [qUC hv];exact qY (qU Tryz.func85 (by kernel_rfl) (by kernel_rfl)) rfl rfl (fun w=>qApply _ _ _ _ _ _ _ _ _ _ _ _ _ _ _ _ _ _ _ _ _ _ _ _ _ _ _ _ _ _ w)
 ·cases h
noncomputable def L14:OrL:=(85,zGW) :: L13
theorem L14_ok:AllP (fun x:Nat × (List PV→Option (Bool × Ret))=>zY Tryz.prog x.1 x.2) L14:=⟨ok_qApply,L13_ok⟩
noncomputable def qWZ:List PV→Option (Bool × Ret):=fun ps=>match ps with
 | [.a m',.a v']=>(m3D m').bind fun m=>(v3D v').bind fun v=>some (true,.v (.a (v3C (M3.apply m v))))
 | _=>none
theorem zUD:zY Tryz.prog 86 qWZ:=by
 intro ps r h;unfold qWZ at h;split at h
 ·simp only [vQQ,vQZ,vQY] at h;obtain ⟨m,hm,v,hv,hg,rfl⟩:=h;rw [zJV hm];rw [qUC hv];exact qY (qU Tryz.func86 (by kernel_rfl) (by kernel_rfl)) rfl rfl (fun w=>rApply _ _ _ _ _ _ _ _ _ _ _ _ _ _ _ _ _ _ _ _ _ _ _ _ w)
 ·cases h
noncomputable def L15:OrL:=(86,qWZ) :: L14
theorem L15_ok:AllP (fun x:Nat × (List PV→Option (Bool × Ret))=>zY Tryz.prog x.1 x.2) L15:=⟨zUD,L14_ok⟩
set_option maxRecDepth 100000 in
theorem tr_rDot (nx:Int) (ny:Int) (nz:Int) (v0:Int) (v1:Int) (v2:Int) (v3:Int) (v4:Int) (v5:Int):runK T (OrL.k L15) 60 87 [.a [.n .i64 nx,.n .i64 ny,.n .i64 nz],.a [.n .i64 v0,.n .i64 v1,.n .i64 v2,.n .i64 v3,.n .i64 v4,.n .i64 v5]] =
 bif (!((decide (nx=0)) && ((decide (ny=0)) && ((decide (nz=0)) && true)))) then (bif (decide (nx < (-16384))) then some (.v (.t [.n .i64 0,.n .i64 0]),[])
  else bif (decide (16384 < nx)) then some (.v (.t [.n .i64 0,.n .i64 0]),[])
  else bif (decide (ny < (-16384))) then some (.v (.t [.n .i64 0,.n .i64 0]),[])
  else bif (decide (16384 < ny)) then some (.v (.t [.n .i64 0,.n .i64 0]),[])
  else bif (decide (nz < (-16384))) then some (.v (.t [.n .i64 0,.n .i64 0]),[])
  else bif (decide (16384 < nz)) then some (.v (.t [.n .i64 0,.n .i64 0]),[])
  else bif (decide (v0 < (-268435456))) then some (.v (.t [.n .i64 0,.n .i64 0]),[])
  else bif (decide (v1 < v0)) then some (.v (.t [.n .i64 0,.n .i64 0]),[])
  else bif (decide (268435456 < v1)) then some (.v (.t [.n .i64 0,.n .i64 0]),[])
  else bif (decide (v2 < (-268435456))) then some (.v (.t [.n .i64 0,.n .i64 0]),[])
  else bif (decide (v3 < v2)) then some (.v (.t [.n .i64 0,.n .i64 0]),[])
  else bif (decide (268435456 < v3)) then some (.v (.t [.n .i64 0,.n .i64 0]),[])
  else bif (decide (v4 < (-268435456))) then some (.v (.t [.n .i64 0,.n .i64 0]),[])
  else bif (decide (v5 < v4)) then some (.v (.t [.n .i64 0,.n .i64 0]),[])
  else bif (decide (268435456 < v5)) then some (.v (.t [.n .i64 0,.n .i64 0]),[])
  else some (.v (.t [.n .i64 (vJJ .i64 ((vJJ .i64 ((vJJ .i64 (0 + (min (vJJ .i64 (nx * v0)) (vJJ .i64 (nx * v1))))) + (min (vJJ .i64 (ny * v2)) (vJJ .i64 (ny * v3))))) + (min (vJJ .i64 (nz * v4)) (vJJ .i64 (nz * v5))))),.n .i64 (vJJ .i64 ((vJJ .i64 ((vJJ .i64 (0 + (max (vJJ .i64 (nx * v0)) (vJJ .i64 (nx * v1))))) + (max (vJJ .i64 (ny * v2)) (vJJ .i64 (ny * v3))))) + (max (vJJ .i64 (nz * v4)) (vJJ .i64 (nz * v5)))))]),[]))
 else some (.v (.t [.n .i64 0,.n .i64 0]),[]):=by kernel_rfl
theorem sp_rDot (nx ny nz v0 v1 v2 v3 v4 v5:Int):runK T (OrL.k L15) 60 87 [.a [.n .i64 nx,.n .i64 ny,.n .i64 nz],.a [.n .i64 v0,.n .i64 v1,.n .i64 v2,.n .i64 v3,.n .i64 v4,.n .i64 v5]]=some (.v (.t [.n .i64 (dot nx ny nz v0 v1 v2 v3 v4 v5).1,.n .i64 (dot nx ny nz v0 v1 v2 v3 v4 v5).2]),[]):=by
 rw [tr_rDot,← sp_sDot,tr_sDot];cases (!((decide (nx=0)) && ((decide (ny=0)) && ((decide (nz=0)) && true)))) with
 | true=>rfl
 | false=>simp only [vYG,Bool.cond_self]
noncomputable def yXV:List PV→Option (Bool × Ret):=fun ps=>match ps with
 | [.a z',.a v']=>(z3D z').bind fun z=>(v3D v').bind fun v=>some (true,.v (.t [.n .i64 (dot z.x z.y z.z v.x.lo v.x.hi v.y.lo v.y.hi v.z.lo v.z.hi).1,.n .i64 (dot z.x z.y z.z v.x.lo v.x.hi v.y.lo v.y.hi v.z.lo v.z.hi).2]))
 | _=>none
theorem ok_rDot:zY Tryz.prog 87 yXV:=by
 intro ps r h;unfold yXV at h;split at h
 ·simp only [vQQ,vQZ,vQY] at h;obtain ⟨z,hz,v,hv,hg,rfl⟩:=h;rw [zKC hz];rw [qUC hv];exact qX yH yZ (OrL.ok L15_ok) (sp_rDot _ _ _ _ _ _ _ _ _)
 ·cases h
noncomputable def L16:OrL:=(87,yXV) :: L15
theorem L16_ok:AllP (fun x:Nat × (List PV→Option (Bool × Ret))=>zY Tryz.prog x.1 x.2) L16:=⟨ok_rDot,L15_ok⟩
end Go.Proofs.YtbfcbojgnppacaaGreat.Ng
namespace Go.Proofs.YtbfcbojgnppacaaGreat.Nj
open Go.Rx Rt Go.Sx Go.RowKit Od Oe Na Nb Nc Nd Nx Nf Ng
noncomputable def vI (js:Nat→J) (bx:Nat→Iv) (n:Nat) (cs:Nat→Cn):Nat→Iv:=fun i=>⟨(vr (cs i) (LP js bx n (cs i).link.toNat)).1,(vr (cs i) (LP js bx n (cs i).link.toNat)).2⟩
def hVa (js:Nat→J) (ms:Nat→Ms) (bx:Nat→Iv) (n m k:Nat) (cs:Nat→Cn) (c:Nat) (i:Int) (rows:List (List PV)):St:=⟨[(7,.v (.lf n (fun v=>[.n .i64 (LP js bx n v).r.x.x.lo,.n .i64 (LP js bx n v).r.x.x.hi,.n .i64 (LP js bx n v).r.x.y.lo,.n .i64 (LP js bx n v).r.x.y.hi,.n .i64 (LP js bx n v).r.x.z.lo,.n .i64 (LP js bx n v).r.x.z.hi,.n .i64 (LP js bx n v).r.y.x.lo,.n .i64 (LP js bx n v).r.y.x.hi,.n .i64 (LP js bx n v).r.y.y.lo,.n .i64 (LP js bx n v).r.y.y.hi,.n .i64 (LP js bx n v).r.y.z.lo,.n .i64 (LP js bx n v).r.y.z.hi,.n .i64 (LP js bx n v).r.z.x.lo,.n .i64 (LP js bx n v).r.z.x.hi,.n .i64 (LP js bx n v).r.z.y.lo,.n .i64 (LP js bx n v).r.z.y.hi,.n .i64 (LP js bx n v).r.z.z.lo,.n .i64 (LP js bx n v).r.z.z.hi,.n .i64 (LP js bx n v).t.x.lo,.n .i64 (LP js bx n v).t.x.hi,.n .i64 (LP js bx n v).t.y.lo,.n .i64 (LP js bx n v).t.y.hi,.n .i64 (LP js bx n v).t.z.lo,.n .i64 (LP js bx n v).t.z.hi]))),(8,.o 20),(21,.v (.lf c (fC cs))),(22,.v (.n .i64 (c:Int))),(23,.v (.n .i64 i))],[(20,.reg 62 2 (.l rows))]⟩
set_option maxRecDepth 100000 in
theorem rdVa (G:St→Option (Ret × Mem)) (K:Cont) (js:Nat→J) (ms:Nat→Ms) (bx:Nat→Iv) (n m k:Nat) (cs:Nat→Cn) (c:Nat) (i:Int) (rows:List (List PV)):qHK 60 (cxF T (OrL.k ((67,o_lk [.a [.lf n (fJ js),.lf m (fM ms)],.lf k (fB bx)] (pIn js ms bx n m k) (.v (.lf n (fP (LP js bx n))))) :: L16)) 60 39 (ntmF T 39)) (ckF T (OrL.k ((67,o_lk [.a [.lf n (fJ js),.lf m (fM ms)],.lf k (fB bx)] (pIn js ms bx n m k) (.v (.lf n (fP (LP js bx n))))) :: L16)) 60) (qG T 39 [0,1,0,1,1,1]) ((cxF T (OrL.k ((67,o_lk [.a [.lf n (fJ js),.lf m (fM ms)],.lf k (fB bx)] (pIn js ms bx n m k) (.v (.lf n (fP (LP js bx n))))) :: L16)) 60 39 (ntmF T 39)).T.hint (cxF T (OrL.k ((67,o_lk [.a [.lf n (fJ js),.lf m (fM ms)],.lf k (fB bx)] (pIn js ms bx n m k) (.v (.lf n (fP (LP js bx n))))) :: L16)) 60 39 (ntmF T 39)).me (yQ (qG T 39 [0,1,0,1,1,1]))) K G (hVa js ms bx n m k cs c i rows) =
 (bif (decide (i < (c:Int))) then (bif (inB i c) then (bif (decide ((cs (i).toNat).kind=1)) then (bif (inB (cs (i).toNat).link n) then (bif (decide (rows.length + 1≤1000000)) then (G (hVa js ms bx n m k cs c (vJJ .i64 (i + 1)) ((rows ++ [[.n .i64 (dot (cs (i).toNat).n.x (cs (i).toNat).n.y (cs (i).toNat).n.z (M3.apply (LP js bx n ((cs (i).toNat).link).toNat).r (V3.of (cs (i).toNat).p)).x.lo (M3.apply (LP js bx n ((cs (i).toNat).link).toNat).r (V3.of (cs (i).toNat).p)).x.hi (M3.apply (LP js bx n ((cs (i).toNat).link).toNat).r (V3.of (cs (i).toNat).p)).y.lo (M3.apply (LP js bx n ((cs (i).toNat).link).toNat).r (V3.of (cs (i).toNat).p)).y.hi (M3.apply (LP js bx n ((cs (i).toNat).link).toNat).r (V3.of (cs (i).toNat).p)).z.lo (M3.apply (LP js bx n ((cs (i).toNat).link).toNat).r (V3.of (cs (i).toNat).p)).z.hi).1,.n .i64 (dot (cs (i).toNat).n.x (cs (i).toNat).n.y (cs (i).toNat).n.z (M3.apply (LP js bx n ((cs (i).toNat).link).toNat).r (V3.of (cs (i).toNat).p)).x.lo (M3.apply (LP js bx n ((cs (i).toNat).link).toNat).r (V3.of (cs (i).toNat).p)).x.hi (M3.apply (LP js bx n ((cs (i).toNat).link).toNat).r (V3.of (cs (i).toNat).p)).y.lo (M3.apply (LP js bx n ((cs (i).toNat).link).toNat).r (V3.of (cs (i).toNat).p)).y.hi (M3.apply (LP js bx n ((cs (i).toNat).link).toNat).r (V3.of (cs (i).toNat).p)).z.lo (M3.apply (LP js bx n ((cs (i).toNat).link).toNat).r (V3.of (cs (i).toNat).p)).z.hi).2]]))))
 else none)
 else none)
 else (bif (inB (cs (i).toNat).link n) then (bif (decide (rows.length + 1≤1000000)) then (G (hVa js ms bx n m k cs c (vJJ .i64 (i + 1)) ((rows ++ [[.n .i64 (dot (cs (i).toNat).n.x (cs (i).toNat).n.y (cs (i).toNat).n.z (Po.app (LP js bx n ((cs (i).toNat).link).toNat) (V3.of (cs (i).toNat).p)).x.lo (Po.app (LP js bx n ((cs (i).toNat).link).toNat) (V3.of (cs (i).toNat).p)).x.hi (Po.app (LP js bx n ((cs (i).toNat).link).toNat) (V3.of (cs (i).toNat).p)).y.lo (Po.app (LP js bx n ((cs (i).toNat).link).toNat) (V3.of (cs (i).toNat).p)).y.hi (Po.app (LP js bx n ((cs (i).toNat).link).toNat) (V3.of (cs (i).toNat).p)).z.lo (Po.app (LP js bx n ((cs (i).toNat).link).toNat) (V3.of (cs (i).toNat).p)).z.hi).1,.n .i64 (dot (cs (i).toNat).n.x (cs (i).toNat).n.y (cs (i).toNat).n.z (Po.app (LP js bx n ((cs (i).toNat).link).toNat) (V3.of (cs (i).toNat).p)).x.lo (Po.app (LP js bx n ((cs (i).toNat).link).toNat) (V3.of (cs (i).toNat).p)).x.hi (Po.app (LP js bx n ((cs (i).toNat).link).toNat) (V3.of (cs (i).toNat).p)).y.lo (Po.app (LP js bx n ((cs (i).toNat).link).toNat) (V3.of (cs (i).toNat).p)).y.hi (Po.app (LP js bx n ((cs (i).toNat).link).toNat) (V3.of (cs (i).toNat).p)).z.lo (Po.app (LP js bx n ((cs (i).toNat).link).toNat) (V3.of (cs (i).toNat).p)).z.hi).2]]))))
 else none)
 else none))
 else none)
 else (K (.exit 0) ⟨[(8,.o 20)],[(20,.reg 62 2 (.l rows))]⟩)):=by kernel_rfl
theorem lpVa (K:Cont) (js:Nat→J) (ms:Nat→Ms) (bx:Nat→Iv) (n m k:Nat) (cs:Nat→Cn) (c:Nat) (hc:(cErr js ms n m cs c)=true):LF 60 (cxF T (OrL.k ((67,o_lk [.a [.lf n (fJ js),.lf m (fM ms)],.lf k (fB bx)] (pIn js ms bx n m k) (.v (.lf n (fP (LP js bx n))))) :: L16)) 60 39 (ntmF T 39)) (ckF T (OrL.k ((67,o_lk [.a [.lf n (fJ js),.lf m (fM ms)],.lf k (fB bx)] (pIn js ms bx n m k) (.v (.lf n (fP (LP js bx n))))) :: L16)) 60) (qG T 39 [0,1,0,1,1,1]) ((cxF T (OrL.k ((67,o_lk [.a [.lf n (fJ js),.lf m (fM ms)],.lf k (fB bx)] (pIn js ms bx n m k) (.v (.lf n (fP (LP js bx n))))) :: L16)) 60 39 (ntmF T 39)).T.hint (cxF T (OrL.k ((67,o_lk [.a [.lf n (fJ js),.lf m (fM ms)],.lf k (fB bx)] (pIn js ms bx n m k) (.v (.lf n (fP (LP js bx n))))) :: L16)) 60 39 (ntmF T 39)).me (yQ (qG T 39 [0,1,0,1,1,1]))) K 60 (hVa js ms bx n m k cs c 0 [])=(K (.exit 0) ⟨[(8,.o 20)],[(20,.reg 62 2 (.l ((List.range c).map (fun i:Nat=>[.n .i64 (vI js bx n cs i).lo,.n .i64 (vI js bx n cs i).hi]))))]⟩):=by
 obtain ⟨_,h8,hq⟩:=qKE hc;refine (lp_app (c:=c) (hVa js ms bx n m k cs c) (fun i:Nat=>[.n .i64 (vI js bx n cs i).lo,.n .i64 (vI js bx n cs i).hi]) (fun rows=>(K (.exit 0) ⟨[(8,.o 20)],[(20,.reg 62 2 (.l rows))]⟩)) (fun G i rows hi hl => ?_) (fun G rows hl => ?_) c 0 60 [] rfl (by omega) (by omega)).trans (congrArg (fun rows=>(K (.exit 0) ⟨[(8,.o 20)],[(20,.reg 62 2 (.l rows))]⟩)) (rng0 c _))
 ·refine (rdVa G K js ms bx n m k cs c i rows).trans ?_;rw [vJQ (show (i:Int) < (c:Int) by omega),qYK (by omega),uJ (show i < c by omega),vJQ (show rows.length + 1≤1000000 by omega),toN,inB_link (hq i hi).2.1];unfold vI vr;cases decide ((cs i).kind=1) <;> rfl
 ·refine (rdVa G K js ms bx n m k cs c c rows).trans ?_;rw [vYH (show ¬ (c:Int) < (c:Int) by omega)];rfl
set_option maxRecDepth 100000 in
theorem pxvals (js:Nat→J) (ms:Nat→Ms) (bx:Nat→Iv) (n m k:Nat) (cs:Nat→Cn) (c:Nat):qGJ T (OrL.k ((67,o_lk [.a [.lf n (fJ js),.lf m (fM ms)],.lf k (fB bx)] (pIn js ms bx n m k) (.v (.lf n (fP (LP js bx n))))) :: L16)) (zW [([0,1,0,1,1,1],kK (hVa js ms bx n m k cs c 0 []) (fun K=>(bif (cErr js ms n m cs c) then (K (.exit 0) ⟨[(8,.o 20)],[(20,.reg 62 2 (.l ((List.range c).map (fun i:Nat=>[.n .i64 (vI js bx n cs i).lo,.n .i64 (vI js bx n cs i).hi]))))]⟩) else none)))]) 60 39 [.a [.lf n (fJ js),.lf m (fM ms)],.lf c (fC cs),.lf k (fB bx)] =
 (bif (g1 [.a [.lf n (fJ js),.lf m (fM ms)],.lf k (fB bx)] && pIn js ms bx n m k) then (bif (decide (0≤(c:Int))) then (bif (decide ((c:Int)≤1000000)) then (bif (gSt (hVa js ms bx n m k cs c 0 []) (hVa js ms bx n m k cs c 0 [])) then (bif (cErr js ms n m cs c) then some (.ow 62 2 (.l ((List.range c).map (fun i:Nat=>[.n .i64 (vI js bx n cs i).lo,.n .i64 (vI js bx n cs i).hi]))),[])
 else none)
 else none)
 else none)
 else none)
 else none):=by kernel_rfl
theorem snd_vals (js:Nat→J) (ms:Nat→Ms) (bx:Nat→Iv) (n m k:Nat) (cs:Nat→Cn) (c:Nat) (hc:(cErr js ms n m cs c)=true) (hp:pIn js ms bx n m k=true):zH Tryz.prog 39 [.a [.lf n (fJ js),.lf m (fM ms)],.lf c (fC cs),.lf k (fB bx)] (.ow 62 2 (.l ((List.range c).map (fun i:Nat=>[.n .i64 (vI js bx n cs i).lo,.n .i64 (vI js bx n cs i).hi])))):=by
 refine kY (N:=60) (LO:=zW [([0,1,0,1,1,1],kK (hVa js ms bx n m k cs c 0 []) (fun K=>(bif (cErr js ms n m cs c) then (K (.exit 0) ⟨[(8,.o 20)],[(20,.reg 62 2 (.l ((List.range c).map (fun i:Nat=>[.n .i64 (vI js bx n cs i).lo,.n .i64 (vI js bx n cs i).hi]))))]⟩) else none)))]) yH yZ (OrL.ok (l:=((67,o_lk [.a [.lf n (fJ js),.lf m (fM ms)],.lf k (fB bx)] (pIn js ms bx n m k) (.v (.lf n (fP (LP js bx n))))) :: L16)) ⟨zJC (fun h=>pIn_links js ms bx n m k h),L16_ok⟩) (fun p S hp => ?_) ?_
 ·refine qQQ (L:=qG T 39) (l:=[([0,1,0,1,1,1],kK (hVa js ms bx n m k cs c 0 []) (fun K=>(bif (cErr js ms n m cs c) then (K (.exit 0) ⟨[(8,.o 20)],[(20,.reg 62 2 (.l ((List.range c).map (fun i:Nat=>[.n .i64 (vI js bx n cs i).lo,.n .i64 (vI js bx n cs i).hi]))))]⟩) else none)))]) (show AllP _ [([0,1,0,1,1,1],kK (hVa js ms bx n m k cs c 0 []) (fun K=>(bif (cErr js ms n m cs c) then (K (.exit 0) ⟨[(8,.o 20)],[(20,.reg 62 2 (.l ((List.range c).map (fun i:Nat=>[.n .i64 (vI js bx n cs i).lo,.n .i64 (vI js bx n cs i).hi]))))]⟩) else none)))] from ⟨qZU fun K r hr => ?_,trivial⟩) p S hp
  ·obtain ⟨hg,hr⟩:=qQ hr;have hc:=hg;exact (lpVa K js ms bx n m k cs c hc).trans hr
 ·refine (pxvals js ms bx n m k cs c).trans ?_;obtain ⟨_,h8,hq⟩:=qKE hc;rw [kX,hc];simp only [g1_t,hp,vZJ,vYV,vJQ (show (0:Int)≤(c:Int) by omega),vJQ (show (c:Int)≤1000000 by omega)]
theorem zKI (js:Nat→J) (ms:Nat→Ms) (bx:Nat→Iv) (n m k:Nat) (cs:Nat→Cn) (c:Nat) (hc:(cErr js ms n m cs c)=true) (hp:pIn js ms bx n m k=true):zH Tryz.prog 39 [.a [.lf n (fJ js),.lf m (fM ms)],.lf c (fC cs),.lf k (fB bx)] (.v (.lf c (fB (vI js bx n cs)))):=qXV (Same.lf rfl) (zVW (snd_vals js ms bx n m k cs c hc hp))
def hHo (cs:Nat→Cn) (vs:Nat→Iv) (c:Nat) (i:Int):St:=⟨[(1,.v (.lf c (fB vs))),(7,.v (.lf c (fC cs))),(8,.v (.n .i64 (c:Int))),(9,.v (.n .i64 i))],[]⟩
set_option maxRecDepth 100000 in
theorem rdHo (G:St→Option (Ret × Mem)) (K:Cont) (cs:Nat→Cn) (vs:Nat→Iv) (c:Nat) (i:Int):qHK 60 (cxF T (OrL.k ([]:OrL)) 60 43 (ntmF T 43)) (ckF T (OrL.k ([]:OrL)) 60) (qG T 43 [0,1,0,1]) ((cxF T (OrL.k ([]:OrL)) 60 43 (ntmF T 43)).T.hint (cxF T (OrL.k ([]:OrL)) 60 43 (ntmF T 43)).me (yQ (qG T 43 [0,1,0,1]))) K G (hHo cs vs c i) =
 (bif (decide (i < (c:Int))) then (bif (inB i c) then (bif (inB i c) then (bif (decide ((vs (i).toNat).lo < (cs (i).toNat).lo)) then (K .ret ⟨[(4,.v (.b false))],[]⟩)
 else (bif (inB i c) then (bif (decide ((cs (i).toNat).hi < (vs (i).toNat).hi)) then (K .ret ⟨[(4,.v (.b false))],[]⟩)
 else (G (hHo cs vs c (vJJ .i64 (i + 1)))))
 else none))
 else none)
 else none)
 else (K (.exit 0) ⟨[],[]⟩)):=by kernel_rfl
def inR (c:Cn) (v:Iv):Bool:=!(decide (v.lo < c.lo)) && !(decide (c.hi < v.hi))
def outR (c:Cn) (v:Iv):Bool:=decide (v.hi < c.lo) || decide (c.hi < v.lo)
theorem lpHo (K:Cont) (cs:Nat→Cn) (vs:Nat→Iv) (c:Nat) (_:c≤50):LF 60 (cxF T (OrL.k ([]:OrL)) 60 43 (ntmF T 43)) (ckF T (OrL.k ([]:OrL)) 60) (qG T 43 [0,1,0,1]) ((cxF T (OrL.k ([]:OrL)) 60 43 (ntmF T 43)).T.hint (cxF T (OrL.k ([]:OrL)) 60 43 (ntmF T 43)).me (yQ (qG T 43 [0,1,0,1]))) K 60 (hHo cs vs c 0)=bif (allN (fun i:Nat=>inR (cs i) (vs i)) c 0) then (K (.exit 0) ⟨[],[]⟩) else (K .ret ⟨[(4,.v (.b false))],[]⟩):=by
 refine (zQZ (c:=c) (hHo cs vs c) (fun i:Nat=>inR (cs i) (vs i)) (K (.exit 0) ⟨[],[]⟩) (fun i:Nat=>(K .ret ⟨[(4,.v (.b false))],[]⟩)) (fun G i hi => ?_) (fun G => ?_) c 0 60 (by omega) (by omega)).trans (qUE _ _ _ _ _)
 ·refine (rdHo G K cs vs c i).trans ?_;rw [vJQ (show (i:Int) < (c:Int) by omega),qYK (by omega),uJ (show i < c by omega),toN];unfold inR;cases decide ((vs i).lo < (cs i).lo) <;> cases decide ((cs i).hi < (vs i).hi) <;> rfl
 ·refine (rdHo G K cs vs c c).trans ?_;rw [vYH (show ¬ (c:Int) < (c:Int) by omega)];rfl
def qGU (cs:Nat→Cn) (vs:Nat→Iv) (c:Nat):Bool:=(allN (fun i:Nat=>inR (cs i) (vs i)) c 0)
set_option maxRecDepth 100000 in
theorem pxhold (cs:Nat→Cn) (vs:Nat→Iv) (c:Nat):qGJ T (OrL.k ([]:OrL)) (zW [([0,1,0,1],kK (hHo cs vs c 0) (fun K=>(bif (decide (c≤50)) then (bif (allN (fun i:Nat=>inR (cs i) (vs i)) c 0) then (K (.exit 0) ⟨[],[]⟩) else (K .ret ⟨[(4,.v (.b false))],[]⟩)) else none)))]) 60 43 [.lf c (fC cs),.lf c (fB vs)] =
 (bif (gSt (hHo cs vs c 0) (hHo cs vs c 0)) then (bif (decide (c≤50)) then (bif (allN (fun i:Nat=>inR (cs i) (vs i)) c 0) then some (.v (.b true),[])
 else some (.v (.b false),[]))
 else none)
 else none):=by kernel_rfl
theorem zVV (cs:Nat→Cn) (vs:Nat→Iv) (c:Nat) (hc:c≤50):zH Tryz.prog 43 [.lf c (fC cs),.lf c (fB vs)] (.v (.b (qGU cs vs c))):=by
 refine kY (N:=60) (LO:=zW [([0,1,0,1],kK (hHo cs vs c 0) (fun K=>(bif (decide (c≤50)) then (bif (allN (fun i:Nat=>inR (cs i) (vs i)) c 0) then (K (.exit 0) ⟨[],[]⟩) else (K .ret ⟨[(4,.v (.b false))],[]⟩)) else none)))]) yH yZ (OrL.ok (l:=([]:OrL)) trivial) (fun p S hp => ?_) ?_
 ·refine qQQ (L:=qG T 43) (l:=[([0,1,0,1],kK (hHo cs vs c 0) (fun K=>(bif (decide (c≤50)) then (bif (allN (fun i:Nat=>inR (cs i) (vs i)) c 0) then (K (.exit 0) ⟨[],[]⟩) else (K .ret ⟨[(4,.v (.b false))],[]⟩)) else none)))]) (show AllP _ [([0,1,0,1],kK (hHo cs vs c 0) (fun K=>(bif (decide (c≤50)) then (bif (allN (fun i:Nat=>inR (cs i) (vs i)) c 0) then (K (.exit 0) ⟨[],[]⟩) else (K .ret ⟨[(4,.v (.b false))],[]⟩)) else none)))] from ⟨qZU fun K r hr => ?_,trivial⟩) p S hp
  ·obtain ⟨hg,hr⟩:=qQ hr;have hc:=vJZ hg;exact (lpHo K cs vs c hc).trans hr
 ·refine (pxhold cs vs c).trans ?_;unfold qGU;rw [kX,vJQ hc];cases (allN (fun i:Nat=>inR (cs i) (vs i)) c 0) <;> rfl
theorem snd_PH (js:Nat→J) (ms:Nat→Ms) (bx:Nat→Iv) (n m k:Nat) (cs:Nat→Cn) (c:Nat):zH Tryz.prog 19 [.a [.lf n (fJ js),.lf m (fM ms)],.lf c (fC cs),.lf k (fB bx)] (.v (.b ((cErr js ms n m cs c) && (pIn js ms bx n m k && qGU cs (vI js bx n cs) c)))):=by
 refine qX (N:=60) yH yZ (OrL.ok (l:=[(33,o_cr [.a [.lf n (fJ js),.lf m (fM ms)],.lf c (fC cs)] (.v (.b (cErr js ms n m cs c)))),(42,o_cr [.a [.lf n (fJ js),.lf m (fM ms)],.lf k (fB bx)] (.v (.b (pIn js ms bx n m k)))),(39,o_lk [.a [.lf n (fJ js),.lf m (fM ms)],.lf c (fC cs),.lf k (fB bx)] ((cErr js ms n m cs c) && pIn js ms bx n m k) (.v (.lf c (fB (vI js bx n cs))))),(43,o_lk [.lf c (fC cs),.lf c (fB (vI js bx n cs))] (decide (c≤50)) (.v (.b (qGU cs (vI js bx n cs) c))))]) ⟨qQI (yQJ js ms n m cs c),qQI (snd_pIn js ms bx n m k),zJC (fun h=>by rw [vQJ] at h; exact zKI js ms bx n m k cs c h.1 h.2),zJC (fun h=>zVV cs (vI js bx n cs) c (vJZ h)),trivial⟩) ?_;refine (by kernel_rfl:_=bif (g1 [.a [.lf n (fJ js),.lf m (fM ms)],.lf c (fC cs)]) then (bif (cErr js ms n m cs c) then (bif (g1 [.a [.lf n (fJ js),.lf m (fM ms)],.lf k (fB bx)]) then (bif (pIn js ms bx n m k) then (bif (g1 [.a [.lf n (fJ js),.lf m (fM ms)],.lf c (fC cs),.lf k (fB bx)] && ((cErr js ms n m cs c) && pIn js ms bx n m k)) then (bif (g1 [.lf c (fC cs),.lf c (fB (vI js bx n cs))] && decide (c≤50)) then (bif (qGU cs (vI js bx n cs) c) then some (.v (.b true),[])
 else some (.v (.b false),[]))
 else none)
 else none)
 else some (.v (.b false),[]))
 else none)
 else some (.v (.b false),[]))
 else none).trans ?_
 simp only [g1_t];cases hc:(cErr js ms n m cs c) with
 | false=>rfl
 | true =>
  cases hp:pIn js ms bx n m k with
  | false=>rfl
  | true =>
   have h8:=(qKE hc).2.1;simp only [vZJ,vJQ (show c≤50 by omega),vYV,vZH]
   try (cases qGU cs (vI js bx n cs) c <;> rfl)
   try (cases nbrB cs (vI js bx n cs) c <;> rfl)
def unC (ps:List PV):Cn:=match ps with
 | [.n _ a,.n _ b,.n _ c,.n _ d,.n _ e,.n _ f,.n _ g,.n _ h,.n _ i,.n _ j]=>⟨a,b,⟨c,d,e⟩,⟨f,g,h⟩,i,j⟩
 | _=>⟨0,0,⟨0,0,0⟩,⟨0,0,0⟩,0,0⟩
end Go.Proofs.YtbfcbojgnppacaaGreat.Nj
namespace Go.Proofs.YtbfcbojgnppacaaGreat.Nl
open Go.Rx Rt Go.Sx Go.RowKit Od Na Nb Nc Nd Nx Nf Ng Nj
def hEq (js:Nat→J) (q:Nat→Int) (n k:Nat) (i:Int):St:=⟨[(1,.v (.lf k (fQ q))),(2,.v (.f 61 [] [])),(14,.v (.lf n (fJ js))),(15,.v (.n .i64 (n:Int))),(16,.v (.n .i64 i))],[]⟩
set_option maxRecDepth 100000 in
theorem rdEq (G:St→Option (Ret × Mem)) (K:Cont) (js:Nat→J) (q:Nat→Int) (n k:Nat) (i:Int):qHK 60 (cxF T (OrL.k ([]:OrL)) 60 60 (ntmF T 60)) (ckF T (OrL.k ([]:OrL)) 60) (qG T 60 [0,1,0,1,1]) ((cxF T (OrL.k ([]:OrL)) 60 60 (ntmF T 60)).T.hint (cxF T (OrL.k ([]:OrL)) 60 60 (ntmF T 60)).me (yQ (qG T 60 [0,1,0,1,1]))) K G (hEq js q n k i) =
 (bif (decide (i < (n:Int))) then (bif (inB i n) then (bif (inB i k) then (bif (decide ((js (i).toNat).lo≤(q (i).toNat))) then (bif (decide ((q (i).toNat)≤(js (i).toNat).hi)) then (G (hEq js q n k (vJJ .i64 (i + 1))))
 else (K .ret ⟨[(6,.v (.b false))],[]⟩))
 else (K .ret ⟨[(6,.v (.b false))],[]⟩))
 else none)
 else none)
 else (K (.exit 0) ⟨[],[]⟩)):=by kernel_rfl
theorem lpEq (K:Cont) (js:Nat→J) (q:Nat→Int) (n k:Nat) (_:n≤50) (_:n=k):LF 60 (cxF T (OrL.k ([]:OrL)) 60 60 (ntmF T 60)) (ckF T (OrL.k ([]:OrL)) 60) (qG T 60 [0,1,0,1,1]) ((cxF T (OrL.k ([]:OrL)) 60 60 (ntmF T 60)).T.hint (cxF T (OrL.k ([]:OrL)) 60 60 (ntmF T 60)).me (yQ (qG T 60 [0,1,0,1,1]))) K 60 (hEq js q n k 0)=bif (allN (fun i:Nat=>decide ((js i).lo≤q i) && decide (q i≤(js i).hi)) n 0) then (K (.exit 0) ⟨[],[]⟩) else (K .ret ⟨[(6,.v (.b false))],[]⟩):=by
 refine (zQZ (c:=n) (hEq js q n k) (fun i:Nat=>decide ((js i).lo≤q i) && decide (q i≤(js i).hi)) (K (.exit 0) ⟨[],[]⟩) (fun i:Nat=>(K .ret ⟨[(6,.v (.b false))],[]⟩)) (fun G i hi => ?_) (fun G => ?_) n 0 60 (by omega) (by omega)).trans (qUE _ _ _ _ _)
 ·refine (rdEq G K js q n k i).trans ?_;rw [vJQ (show (i:Int) < (n:Int) by omega),qYK (by omega),uJ (show i < n by omega),uJ (show i < k by omega),toN];cases decide ((js i).lo≤q i) <;> cases decide (q i≤(js i).hi) <;> rfl
 ·refine (rdEq G K js q n k n).trans ?_;rw [vYH (show ¬ (n:Int) < (n:Int) by omega)];rfl
def insQ (js:Nat→J) (q:Nat→Int) (n k:Nat):Bool:=decide ((n:Int)=(k:Int)) && (allN (fun i:Nat=>decide ((js i).lo≤q i) && decide (q i≤(js i).hi)) n 0)
set_option maxRecDepth 100000 in
theorem pxeveryQ (js:Nat→J) (q:Nat→Int) (n k:Nat):qGJ T (OrL.k ([]:OrL)) (zW [([0,1,0,1,1],kK (hEq js q n k 0) (fun K=>(bif (decide ((n:Int)=(k:Int)) && decide (n≤50)) then (bif (allN (fun i:Nat=>decide ((js i).lo≤q i) && decide (q i≤(js i).hi)) n 0) then (K (.exit 0) ⟨[],[]⟩) else (K .ret ⟨[(6,.v (.b false))],[]⟩)) else none)))]) 60 60 [.lf n (fJ js),.lf k (fQ q),.f 61 [] []] =
 (bif (!decide ((n:Int)=(k:Int))) then some (.v (.b false),[])
 else (bif (gSt (hEq js q n k 0) (hEq js q n k 0)) then (bif (decide ((n:Int)=(k:Int)) && decide (n≤50)) then (bif (allN (fun i:Nat=>decide ((js i).lo≤q i) && decide (q i≤(js i).hi)) n 0) then some (.v (.b true),[])
 else some (.v (.b false),[]))
 else none)
 else none)):=by kernel_rfl
theorem snd_everyQ (js:Nat→J) (q:Nat→Int) (n k:Nat) (hn:n≤50):zH Tryz.prog 60 [.lf n (fJ js),.lf k (fQ q),.f 61 [] []] (.v (.b (insQ js q n k))):=by
 refine kY (N:=60) (LO:=zW [([0,1,0,1,1],kK (hEq js q n k 0) (fun K=>(bif (decide ((n:Int)=(k:Int)) && decide (n≤50)) then (bif (allN (fun i:Nat=>decide ((js i).lo≤q i) && decide (q i≤(js i).hi)) n 0) then (K (.exit 0) ⟨[],[]⟩) else (K .ret ⟨[(6,.v (.b false))],[]⟩)) else none)))]) yH yZ (OrL.ok (l:=([]:OrL)) trivial) (fun p S hp => ?_) ?_
 ·refine qQQ (L:=qG T 60) (l:=[([0,1,0,1,1],kK (hEq js q n k 0) (fun K=>(bif (decide ((n:Int)=(k:Int)) && decide (n≤50)) then (bif (allN (fun i:Nat=>decide ((js i).lo≤q i) && decide (q i≤(js i).hi)) n 0) then (K (.exit 0) ⟨[],[]⟩) else (K .ret ⟨[(6,.v (.b false))],[]⟩)) else none)))]) (show AllP _ [([0,1,0,1,1],kK (hEq js q n k 0) (fun K=>(bif (decide ((n:Int)=(k:Int)) && decide (n≤50)) then (bif (allN (fun i:Nat=>decide ((js i).lo≤q i) && decide (q i≤(js i).hi)) n 0) then (K (.exit 0) ⟨[],[]⟩) else (K .ret ⟨[(6,.v (.b false))],[]⟩)) else none)))] from ⟨qZU fun K r hr => ?_,trivial⟩) p S hp
  ·obtain ⟨hg,hr⟩:=qQ hr;rw [vQJ] at hg;have hn:=vJZ hg.2;have hk:n=k:=by have:=vJZ hg.1; omega
   exact (lpEq K js q n k hn hk).trans hr
 ·refine (pxeveryQ js q n k).trans ?_;unfold insQ;rw [kX,vJQ hn];cases decide ((n:Int)=(k:Int)) <;> cases (allN (fun i:Nat=>decide ((js i).lo≤q i) && decide (q i≤(js i).hi)) n 0) <;> rfl
def qIn (js:Nat→J) (ms:Nat→Ms) (q:Nat→Int) (n m k:Nat):Bool:=decide (rErr js ms n m=0) && insQ js q n k
theorem snd_qIn (js:Nat→J) (ms:Nat→Ms) (q:Nat→Int) (n m k:Nat):zH Tryz.prog 34 [.a [.lf n (fJ js),.lf m (fM ms)],.lf k (fQ q)] (.v (.b (qIn js ms q n m k))):=by
 refine qX (N:=60) yH yZ (OrL.ok (l:=[(58,o_cr [.a [.lf n (fJ js),.lf m (fM ms)]] (.v (.n .i64 (rErr js ms n m)))),(60,o_lk [.lf n (fJ js),.lf k (fQ q),.f 61 [] []] (decide (n≤50)) (.v (.b (insQ js q n k))))]) ⟨qQI (zVG js ms n m),zJC (fun h=>snd_everyQ js q n k (vJZ h)),trivial⟩) ?_;refine (by kernel_rfl:_=bif (g1 [.a [.lf n (fJ js),.lf m (fM ms)]]) then (bif (decide ((rErr js ms n m)=0)) then (bif (g1 [.lf n (fJ js),.lf k (fQ q),.f 61 [] []] && decide (n≤50)) then (bif (insQ js q n k) then some (.v (.b true),[])
 else some (.v (.b false),[]))
 else none)
 else some (.v (.b false),[]))
 else none).trans ?_
 unfold qIn;rw [g1_t,g1_t];by_cases h:rErr js ms n m=0
 ·have:=yQV h
  rw [vJQ h,vJQ (show n≤50 by omega)];cases insQ js q n k <;> rfl
 ·rw [vYH h]; rfl
theorem qUU {js:Nat→J} {ms:Nat→Ms} {q:Nat→Int} {n m k:Nat} (h:qIn js ms q n m k=true):rErr js ms n m=0∧n=k∧∀ i,i < n→(js i).lo≤q i∧q i≤(js i).hi:=by
 unfold qIn insQ at h;simp only [vQJ,decide_eq_true_eq] at h;refine ⟨h.1,by omega,fun i hi => ?_⟩
 have:=allN_iff.1 h.2.2 i (Nat.zero_le _) (by omega)
 simpa [vQJ,decide_eq_true_eq] using this
end Go.Proofs.YtbfcbojgnppacaaGreat.Nl
namespace Go.Proofs.YtbfcbojgnppacaaGreat.Nm
open Go.Rx Rt Go.Sx Go.RowKit Od Na Nb Nc Nx Nl
def hSx (q:Nat→Int) (k:Nat) (i:Int):St:=⟨[(0,.v (.lf k (fQ q))),(1,.v (.f 123 [] [])),(7,.v (.n .i64 (k:Int))),(8,.v (.n .i64 i))],[]⟩
set_option maxRecDepth 100000 in
theorem rdSx (G:St→Option (Ret × Mem)) (K:Cont) (q:Nat→Int) (k:Nat) (i:Int):qHK 60 (cxF T (OrL.k ([]:OrL)) 60 143 (ntmF T 143)) (ckF T (OrL.k ([]:OrL)) 60) (qG T 143 [0,1,0,1]) ((cxF T (OrL.k ([]:OrL)) 60 143 (ntmF T 143)).T.hint (cxF T (OrL.k ([]:OrL)) 60 143 (ntmF T 143)).me (yQ (qG T 143 [0,1,0,1]))) K G (hSx q k i) =
 (bif (decide (i < (k:Int))) then (bif (inB i k) then (bif (decide ((q (i).toNat) < (-2147483648))) then (K .ret ⟨[(4,.v (.n .i64 i))],[]⟩)
 else (bif (decide (2147483648 < (q (i).toNat))) then (K .ret ⟨[(4,.v (.n .i64 i))],[]⟩)
 else (G (hSx q k (vJJ .i64 (i + 1))))))
 else none)
 else (K (.exit 0) ⟨[],[]⟩)):=by kernel_rfl
theorem lpSx (K:Cont) (q:Nat→Int) (k:Nat) (_:k≤50):LF 60 (cxF T (OrL.k ([]:OrL)) 60 143 (ntmF T 143)) (ckF T (OrL.k ([]:OrL)) 60) (qG T 143 [0,1,0,1]) ((cxF T (OrL.k ([]:OrL)) 60 143 (ntmF T 143)).T.hint (cxF T (OrL.k ([]:OrL)) 60 143 (ntmF T 143)).me (yQ (qG T 143 [0,1,0,1]))) K 60 (hSx q k 0)=bif (allN (fun i:Nat => !decide (q i < -2147483648) && !decide (2147483648 < q i)) k 0) then (K (.exit 0) ⟨[],[]⟩) else (K .ret ⟨[(4,.v (.n .i64 ((Rx.firstK (fun i:Nat => !decide (q i < -2147483648) && !decide (2147483648 < q i)) k 0:Nat):Int)))],[]⟩):=by
 refine (zQZ (c:=k) (hSx q k) (fun i:Nat => !decide (q i < -2147483648) && !decide (2147483648 < q i)) (K (.exit 0) ⟨[],[]⟩) (fun i:Nat=>(K .ret ⟨[(4,.v (.n .i64 (i:Int)))],[]⟩)) (fun G i hi => ?_) (fun G => ?_) k 0 60 (by omega) (by omega)).trans (qJW _ _ _ _ _)
 ·refine (rdSx G K q k i).trans ?_;rw [vJQ (show (i:Int) < (k:Int) by omega),qYK (by omega),uJ (show i < k by omega),toN];cases decide (q i < -2147483648) <;> cases decide (2147483648 < q i) <;> rfl
 ·refine (rdSx G K q k k).trans ?_;rw [vYH (show ¬ (k:Int) < (k:Int) by omega)];rfl
def smQ (q:Nat→Int) (k:Nat):Bool:=(allN (fun i:Nat => !decide (q i < -2147483648) && !decide (2147483648 < q i)) k 0)
set_option maxRecDepth 100000 in
theorem pxsidx (q:Nat→Int) (k:Nat):qGJ T (OrL.k ([]:OrL)) (zW [([0,1,0,1],kK (hSx q k 0) (fun K=>(bif (decide (k≤50)) then (bif (allN (fun i:Nat => !decide (q i < -2147483648) && !decide (2147483648 < q i)) k 0) then (K (.exit 0) ⟨[],[]⟩) else (K .ret ⟨[(4,.v (.n .i64 ((Rx.firstK (fun i:Nat => !decide (q i < -2147483648) && !decide (2147483648 < q i)) k 0:Nat):Int)))],[]⟩)) else none)))]) 60 143 [.lf k (fQ q),.f 123 [] []] =
 (bif (gSt (hSx q k 0) (hSx q k 0)) then (bif (decide (k≤50)) then (bif (allN (fun i:Nat => !decide (q i < -2147483648) && !decide (2147483648 < q i)) k 0) then some (.v (.n .i64 (-1)),[])
 else some (.v (.n .i64 ((Rx.firstK (fun i:Nat => !decide (q i < -2147483648) && !decide (2147483648 < q i)) k 0:Nat):Int)),[]))
 else none)
 else none):=by kernel_rfl
theorem snd_sidx (q:Nat→Int) (k:Nat) (hk:k≤50):zH Tryz.prog 143 [.lf k (fQ q),.f 123 [] []] (.v (.n .i64 (bif smQ q k then -1 else ((Rx.firstK (fun i:Nat => !decide (q i < -2147483648) && !decide (2147483648 < q i)) k 0:Nat):Int)))):=by
 refine kY (N:=60) (LO:=zW [([0,1,0,1],kK (hSx q k 0) (fun K=>(bif (decide (k≤50)) then (bif (allN (fun i:Nat => !decide (q i < -2147483648) && !decide (2147483648 < q i)) k 0) then (K (.exit 0) ⟨[],[]⟩) else (K .ret ⟨[(4,.v (.n .i64 ((Rx.firstK (fun i:Nat => !decide (q i < -2147483648) && !decide (2147483648 < q i)) k 0:Nat):Int)))],[]⟩)) else none)))]) yH yZ (OrL.ok (l:=([]:OrL)) trivial) (fun p S hp => ?_) ?_
 ·refine qQQ (L:=qG T 143) (l:=[([0,1,0,1],kK (hSx q k 0) (fun K=>(bif (decide (k≤50)) then (bif (allN (fun i:Nat => !decide (q i < -2147483648) && !decide (2147483648 < q i)) k 0) then (K (.exit 0) ⟨[],[]⟩) else (K .ret ⟨[(4,.v (.n .i64 ((Rx.firstK (fun i:Nat => !decide (q i < -2147483648) && !decide (2147483648 < q i)) k 0:Nat):Int)))],[]⟩)) else none)))]) (show AllP _ [([0,1,0,1],kK (hSx q k 0) (fun K=>(bif (decide (k≤50)) then (bif (allN (fun i:Nat => !decide (q i < -2147483648) && !decide (2147483648 < q i)) k 0) then (K (.exit 0) ⟨[],[]⟩) else (K .ret ⟨[(4,.v (.n .i64 ((Rx.firstK (fun i:Nat => !decide (q i < -2147483648) && !decide (2147483648 < q i)) k 0:Nat):Int)))],[]⟩)) else none)))] from ⟨qZU fun K r hr => ?_,trivial⟩) p S hp
  ·obtain ⟨hg,hr⟩:=qQ hr;have hk:=vJZ hg;exact (lpSx K q k hk).trans hr
 ·refine (pxsidx q k).trans ?_;unfold smQ;rw [kX,vJQ hk];cases (allN (fun i:Nat => !decide (q i < -2147483648) && !decide (2147483648 < q i)) k 0) <;> rfl
theorem snd_scon (q:Nat→Int) (k:Nat) (hk:k≤50):zH Tryz.prog 122 [.lf k (fQ q),.f 123 [] []] (.v (.b (!smQ q k))):=by
 refine qX (N:=60) yH yZ (OrL.ok (l:=[(143,o_cr [.lf k (fQ q),.f 123 [] []] (.v (.n .i64 (bif smQ q k then -1 else ((Rx.firstK (fun i:Nat => !decide (q i < -2147483648) && !decide (2147483648 < q i)) k 0:Nat):Int)))))]) ⟨qQI (snd_sidx q k hk),trivial⟩) ?_;refine (by kernel_rfl:_=bif (g1 [.lf k (fQ q),.f 123 [] []]) then (bif (decide (0≤(bif smQ q k then -1 else ((Rx.firstK (fun i:Nat => !decide (q i < -2147483648) && !decide (2147483648 < q i)) k 0:Nat):Int)))) then some (.v (.b true),[])
 else some (.v (.b false),[]))
 else none).trans ?_
 rw [g1_t];cases smQ q k with
 | true=>rfl
 | false =>
  rw [vYG,vJQ (show 0≤((Rx.firstK (fun i:Nat => !decide (q i < -2147483648) && !decide (2147483648 < q i)) k 0:Nat):Int) by omega)];rfl
theorem snd_sm (q:Nat→Int) (k:Nat) (hk:k≤50):zH Tryz.prog 95 [.lf k (fQ q)] (.v (.b (smQ q k))):=by
 refine qX (N:=60) yH yZ (OrL.ok (l:=[(122,o_cr [.lf k (fQ q),.f 123 [] []] (.v (.b (!smQ q k))))]) ⟨qQI (snd_scon q k hk),trivial⟩) ?_;refine (by kernel_rfl:_=bif (g1 [.lf k (fQ q),.f 123 [] []]) then (bif (!smQ q k) then some (.v (.b false),[])
 else some (.v (.b true),[]))
 else none).trans ?_
 rw [g1_t];cases smQ q k <;> rfl
def hSr (q:Nat→Int) (k:Nat) (i:Int):St:=⟨[(0,.v (.lf k (fQ q))),(3,.v (.n .i64 i))],[]⟩
set_option maxRecDepth 100000 in
theorem rdSr (G:St→Option (Ret × Mem)) (K:Cont) (q:Nat→Int) (k:Nat) (i:Int):qHK 60 (cxF T (OrL.k ([]:OrL)) 60 44 (ntmF T 44)) (ckF T (OrL.k ([]:OrL)) 60) (qG T 44 [0,1,0,1]) ((cxF T (OrL.k ([]:OrL)) 60 44 (ntmF T 44)).T.hint (cxF T (OrL.k ([]:OrL)) 60 44 (ntmF T 44)).me (yQ (qG T 44 [0,1,0,1]))) K G (hSr q k i) =
 (bif (decide (i < (k:Int))) then (bif (inB i k) then (bif (decide ((q (i).toNat) < (-2147483648))) then (K .ret ⟨[(2,.v (.b false))],[]⟩)
 else (bif (inB i k) then (bif (decide (2147483648 < (q (i).toNat))) then (K .ret ⟨[(2,.v (.b false))],[]⟩)
 else (G (hSr q k (vJJ .i64 (i + 1)))))
 else none))
 else none)
 else (K (.exit 0) ⟨[],[]⟩)):=by kernel_rfl
theorem lpSr (K:Cont) (q:Nat→Int) (k:Nat) (_:k≤50):LF 60 (cxF T (OrL.k ([]:OrL)) 60 44 (ntmF T 44)) (ckF T (OrL.k ([]:OrL)) 60) (qG T 44 [0,1,0,1]) ((cxF T (OrL.k ([]:OrL)) 60 44 (ntmF T 44)).T.hint (cxF T (OrL.k ([]:OrL)) 60 44 (ntmF T 44)).me (yQ (qG T 44 [0,1,0,1]))) K 60 (hSr q k 0)=bif (allN (fun i:Nat => !decide (q i < -2147483648) && !decide (2147483648 < q i)) k 0) then (K (.exit 0) ⟨[],[]⟩) else (K .ret ⟨[(2,.v (.b false))],[]⟩):=by
 refine (zQZ (c:=k) (hSr q k) (fun i:Nat => !decide (q i < -2147483648) && !decide (2147483648 < q i)) (K (.exit 0) ⟨[],[]⟩) (fun i:Nat=>(K .ret ⟨[(2,.v (.b false))],[]⟩)) (fun G i hi => ?_) (fun G => ?_) k 0 60 (by omega) (by omega)).trans (qUE _ _ _ _ _)
 ·refine (rdSr G K q k i).trans ?_;rw [vJQ (show (i:Int) < (k:Int) by omega),qYK (by omega),uJ (show i < k by omega),toN];cases decide (q i < -2147483648) <;> cases decide (2147483648 < q i) <;> rfl
 ·refine (rdSr G K q k k).trans ?_;rw [vYH (show ¬ (k:Int) < (k:Int) by omega)];rfl
set_option maxRecDepth 100000 in
theorem pxrsm (q:Nat→Int) (k:Nat):qGJ T (OrL.k ([]:OrL)) (zW [([0,1,0,1],kK (hSr q k 0) (fun K=>(bif (decide (k≤50)) then (bif (allN (fun i:Nat => !decide (q i < -2147483648) && !decide (2147483648 < q i)) k 0) then (K (.exit 0) ⟨[],[]⟩) else (K .ret ⟨[(2,.v (.b false))],[]⟩)) else none)))]) 60 44 [.lf k (fQ q)] =
 (bif (gSt (hSr q k 0) (hSr q k 0)) then (bif (decide (k≤50)) then (bif (allN (fun i:Nat => !decide (q i < -2147483648) && !decide (2147483648 < q i)) k 0) then some (.v (.b true),[])
 else some (.v (.b false),[]))
 else none)
 else none):=by kernel_rfl
theorem snd_rsm (q:Nat→Int) (k:Nat) (hk:k≤50):zH Tryz.prog 44 [.lf k (fQ q)] (.v (.b (smQ q k))):=by
 refine kY (N:=60) (LO:=zW [([0,1,0,1],kK (hSr q k 0) (fun K=>(bif (decide (k≤50)) then (bif (allN (fun i:Nat => !decide (q i < -2147483648) && !decide (2147483648 < q i)) k 0) then (K (.exit 0) ⟨[],[]⟩) else (K .ret ⟨[(2,.v (.b false))],[]⟩)) else none)))]) yH yZ (OrL.ok (l:=([]:OrL)) trivial) (fun p S hp => ?_) ?_
 ·refine qQQ (L:=qG T 44) (l:=[([0,1,0,1],kK (hSr q k 0) (fun K=>(bif (decide (k≤50)) then (bif (allN (fun i:Nat => !decide (q i < -2147483648) && !decide (2147483648 < q i)) k 0) then (K (.exit 0) ⟨[],[]⟩) else (K .ret ⟨[(2,.v (.b false))],[]⟩)) else none)))]) (show AllP _ [([0,1,0,1],kK (hSr q k 0) (fun K=>(bif (decide (k≤50)) then (bif (allN (fun i:Nat => !decide (q i < -2147483648) && !decide (2147483648 < q i)) k 0) then (K (.exit 0) ⟨[],[]⟩) else (K .ret ⟨[(2,.v (.b false))],[]⟩)) else none)))] from ⟨qZU fun K r hr => ?_,trivial⟩) p S hp
  ·obtain ⟨hg,hr⟩:=qQ hr;have hk:=vJZ hg;exact (lpSr K q k hk).trans hr
 ·refine (pxrsm q k).trans ?_;unfold smQ;rw [kX,vJQ hk];cases (allN (fun i:Nat => !decide (q i < -2147483648) && !decide (2147483648 < q i)) k 0) <;> rfl
theorem runS_fillJ {β:Type} {g h:Nat→Int} {KX:(Nat→Int) × (Nat→Int)→β} {KR:Nat→(Nat→Int) × (Nat→Int)→β}:∀ k p t,runS (fun _ _=>true) (fun (i:Nat) (t:(Nat→Int) × (Nat→Int))=>((fun v=>bif Nat.beq v i then g i else t.1 v),(fun v=>bif Nat.beq v i then h i else t.2 v))) KX KR k p t=KX (qVX g k p t.1,qVX h k p t.2)
 | 0,_,_=>rfl
 | k + 1,p,t=>by
  simp only [runS,vYV];exact runS_fillJ k (p + 1) _
end Go.Proofs.YtbfcbojgnppacaaGreat.Nm
namespace Go.Proofs.YtbfcbojgnppacaaGreat.Pa
open Go.Rx Rt Go.Sx Go.RowKit Od Na Nb Nc Nx Nl Nm
def mtB (pp qq:Nat→Int) (k m:Nat) (d:Int):Bool:=smQ pp k && (smQ qq m && (decide ((k:Int)=(m:Int)) && (decide (0≤d) && decide (d≤20))))
def csm:Nat × (Nat→Int)→Prop:=fun t=>match t with | (k,_)=>k≤50
def esm:Nat × (Nat→Int)→List PV:=fun t=>match t with | (k,qq)=>[.lf k (fQ qq)]
noncomputable def rsm:Nat × (Nat→Int)→Ret:=fun t=>match t with | (k,qq)=>.v (.b (smQ qq k))
def dsm:List PV→Nat × (Nat→Int):=fun ps=>match ps with
 | [.lf k f]=>(k,unFQ f)
 | _=>(0,fun _=>0)
noncomputable def o_sm:List PV→Option (Bool × Ret):=o_fm dsm csm esm rsm
theorem ok_sm:zY Tryz.prog 95 o_sm:=zUL fun t h=>by
 obtain ⟨k,qq⟩:=t;exact snd_sm qq k h
def crs:Nat × (Nat→Int)→Prop:=fun t=>match t with | (k,_)=>k≤50
def ers:Nat × (Nat→Int)→List PV:=fun t=>match t with | (k,qq)=>[.lf k (fQ qq)]
noncomputable def rrs:Nat × (Nat→Int)→Ret:=fun t=>match t with | (k,qq)=>.v (.b (smQ qq k))
def drs:List PV→Nat × (Nat→Int):=fun ps=>match ps with
 | [.lf k f]=>(k,unFQ f)
 | _=>(0,fun _=>0)
noncomputable def o_rs:List PV→Option (Bool × Ret):=o_fm drs crs ers rrs
theorem ok_rs:zY Tryz.prog 44 o_rs:=zUL fun t h=>by
 obtain ⟨k,qq⟩:=t;exact snd_rsm qq k h
noncomputable def orpcs (pp qq:Nat→Int) (k m:Nat) (d:Int):OrS:=orS [(44,o_rs)] []
noncomputable def yGX (pp qq:Nat→Int) (k m:Nat) (d:Int):List (List Nat × kU):=[]
set_option maxRecDepth 100000 in
theorem pxpcs (pp qq:Nat→Int) (k m:Nat) (d:Int):qJE Tf (orpcs pp qq k m d) (zW (yGX pp qq k m d)) 60 40 [.lf k (fQ pp),.lf m (fQ qq),.n .i64 d] =
 (bif (gF1 crs ers (k,pp)) then (bif (smQ pp k) then (bif (gF1 crs ers (m,qq)) then (bif (smQ qq m) then (bif (decide ((k:Int)=(m:Int))) then (bif (decide (0≤d)) then (bif (decide (d≤20)) then some (.v (.b true),[])
 else some (.v (.b false),[]))
 else some (.v (.b false),[]))
 else some (.v (.b false),[]))
 else some (.v (.b false),[]))
 else none)
 else some (.v (.b false),[]))
 else none):=by kernel_rfl
theorem snd_pcs (pp qq:Nat→Int) (k m:Nat) (d:Int) (hk:k≤50) (hm:m≤50):zH Tryz.prog 40 [.lf k (fQ pp),.lf m (fQ qq),.n .i64 d] (.v (.b (mtB pp qq k m d))):=by
 refine yV (N:=60) (LO:=zW (yGX pp qq k m d)) qQC yZ (qQE (l:=[(44,o_rs)]) (m:=[]) ⟨ok_rs,trivial⟩ trivial) (fun p S hp => ?_) ?_
 ·refine yX (L:=qG Tf 40) (l:=(yGX pp qq k m d)) (show AllP _ (yGX pp qq k m d) from trivial) p S hp
 ·refine (pxpcs pp qq k m d).trans ?_;unfold mtB;rw [qXZ (C:=crs) (t:=(k,pp)) hk,qXZ (C:=crs) (t:=(m,qq)) hm];cases smQ pp k <;> cases smQ qq m <;> cases decide ((k:Int)=(m:Int)) <;> cases decide (0≤d) <;> cases decide (d≤20) <;> rfl
noncomputable def orism (pp qq:Nat→Int) (k m:Nat) (d:Int):OrS:=orS [(95,o_sm)] []
noncomputable def yGA (pp qq:Nat→Int) (k m:Nat) (d:Int):List (List Nat × kU):=[]
set_option maxRecDepth 100000 in
theorem pxism (pp qq:Nat→Int) (k m:Nat) (d:Int):qJE Tf (orism pp qq k m d) (zW (yGA pp qq k m d)) 60 63 [.lf k (fQ pp),.lf m (fQ qq),.n .i64 d] =
 (bif (decide ((k:Int)=(m:Int))) then (bif (gF1 csm esm (k,pp)) then (bif (smQ pp k) then (bif (gF1 csm esm (m,qq)) then (bif (smQ qq m) then (bif (decide (0≤d)) then (bif (decide (d≤20)) then some (.v (.b true),[])
 else some (.v (.b false),[]))
 else some (.v (.b false),[]))
 else some (.v (.b false),[]))
 else none)
 else some (.v (.b false),[]))
 else none)
 else some (.v (.b false),[])):=by kernel_rfl
theorem snd_ism (pp qq:Nat→Int) (k m:Nat) (d:Int) (hk:k≤50) (hm:m≤50):zH Tryz.prog 63 [.lf k (fQ pp),.lf m (fQ qq),.n .i64 d] (.v (.b (mtB pp qq k m d))):=by
 refine yV (N:=60) (LO:=zW (yGA pp qq k m d)) qQC yZ (qQE (l:=[(95,o_sm)]) (m:=[]) ⟨ok_sm,trivial⟩ trivial) (fun p S hp => ?_) ?_
 ·refine yX (L:=qG Tf 63) (l:=(yGA pp qq k m d)) (show AllP _ (yGA pp qq k m d) from trivial) p S hp
 ·refine (pxism pp qq k m d).trans ?_;unfold mtB;rw [qXZ (C:=csm) (t:=(k,pp)) hk,qXZ (C:=csm) (t:=(m,qq)) hm];cases smQ pp k <;> cases smQ qq m <;> cases decide ((k:Int)=(m:Int)) <;> cases decide (0≤d) <;> cases decide (d≤20) <;> rfl
def cpc:(Nat→Int) × (Nat→Int) × Nat × Nat × Int→Prop:=fun t=>match t with | (_,_,k,m,_)=>k≤50∧m≤50
def epc:(Nat→Int) × (Nat→Int) × Nat × Nat × Int→List PV:=fun t=>match t with | (pp,qq,k,m,d)=>[.lf k (fQ pp),.lf m (fQ qq),.n .i64 d]
noncomputable def rpc:(Nat→Int) × (Nat→Int) × Nat × Nat × Int→Ret:=fun t=>match t with | (pp,qq,k,m,d)=>.v (.b (mtB pp qq k m d))
def dpc:List PV→(Nat→Int) × (Nat→Int) × Nat × Nat × Int:=fun ps=>match ps with
 | [.lf k pp,.lf m qq,.n _ d]=>(unFQ pp,unFQ qq,k,m,d)
 | _=>(fun _=>0,fun _=>0,0,0,0)
noncomputable def o_pc:List PV→Option (Bool × Ret):=o_fm dpc cpc epc rpc
theorem ok_pc:zY Tryz.prog 40 o_pc:=zUL fun t h=>by
 obtain ⟨pp,qq,k,m,d⟩:=t;exact snd_pcs pp qq k m d h.1 h.2
def cis:(Nat→Int) × (Nat→Int) × Nat × Nat × Int→Prop:=fun t=>match t with | (_,_,k,m,_)=>k≤50∧m≤50
def eis:(Nat→Int) × (Nat→Int) × Nat × Nat × Int→List PV:=fun t=>match t with | (pp,qq,k,m,d)=>[.lf k (fQ pp),.lf m (fQ qq),.n .i64 d]
noncomputable def ris:(Nat→Int) × (Nat→Int) × Nat × Nat × Int→Ret:=fun t=>match t with | (pp,qq,k,m,d)=>.v (.b (mtB pp qq k m d))
def dis:List PV→(Nat→Int) × (Nat→Int) × Nat × Nat × Int:=fun ps=>match ps with
 | [.lf k pp,.lf m qq,.n _ d]=>(unFQ pp,unFQ qq,k,m,d)
 | _=>(fun _=>0,fun _=>0,0,0,0)
noncomputable def o_is:List PV→Option (Bool × Ret):=o_fm dis cis eis ris
theorem ok_is:zY Tryz.prog 63 o_is:=zUL fun t h=>by
 obtain ⟨pp,qq,k,m,d⟩:=t;exact snd_ism pp qq k m d h.1 h.2
def pU (pp qq:Nat→Int) (j:Int) (i:Nat):Int:=vJJ .i64 (j * (vJJ .i64 (qq i - pp i)))
def pW (pp qq:Nat→Int) (j:Int) (i:Nat):Int:=vJJ .i64 ((vJJ .i64 (j + 1)) * (vJJ .i64 (qq i - pp i)))
def pMn (pp qq:Nat→Int) (j:Int) (i:Nat):Int:=min (pU pp qq j i) (pW pp qq j i)
def pMx (pp qq:Nat→Int) (j:Int) (i:Nat):Int:=max (pU pp qq j i) (pW pp qq j i)
def pN (d:Int):Int:=vJJ .i64 (1 * 2 ^ (min (IntKind.u64.wrap d).toNat 64))
def jLo (pp qq:Nat→Int) (d j:Int) (i:Nat):Int:=vJJ .i64 (pp i + ((pMn pp qq j i).fdiv (2 ^ (min d.toNat 64))))
def jHi (pp qq:Nat→Int) (d j:Int) (i:Nat):Int:=vJJ .i64 (pp i - ((vJJ .i64 (0 - pMx pp qq j i)).fdiv (2 ^ (min d.toNat 64))))
noncomputable def orPj (pp qq:Nat→Int) (k m:Nat) (d j:Int):OrS:=orS [] []
noncomputable def hPj (pp qq:Nat→Int) (k m:Nat) (d j:Int) (i:Int) (a:Nat→Int) (b:Nat→Int):St:=⟨[(1,.v (.lf m (fQ qq))),(2,.v (.f 65 [] [.c [.n .i64 j] 0,.c [.n .i64 d] 0])),(7,.o 12),(13,.v (.lf k (fQ pp))),(14,.v (.n .i64 (k:Int))),(15,.v (.n .i64 i))],[(12,.reg 65 2 (.fo (k:Int).toNat (fun v=>[.n .i64 (a v),.n .i64 (b v)])))]⟩
set_option maxRecDepth 100000 in
theorem rdPj (G:St→Option (Ret × Mem)) (K:Cont) (pp qq:Nat→Int) (k m:Nat) (d j:Int) (i:Int) (a:Nat→Int) (b:Nat→Int):stpT Tf 64 (orPj pp qq k m d j) 60 [] [0,1,0,1,1] K G (hPj pp qq k m d j i a b) =
 (bif (decide (i < (k:Int))) then (bif (inB i k) then (bif (inB i m) then (bif (decide (0≤d)) then (bif (decide (0≤d)) then (bif (inB i (k:Int).toNat) then (G (hPj pp qq k m d j (vJJ .i64 (i + 1)) (fun v=>(bif (Nat.beq v (i).toNat) then (vJJ .i64 ((pp (i).toNat) + ((pMn pp qq j (i).toNat).fdiv (2 ^ (min (d).toNat 64))))) else (a v))) (fun v=>(bif (Nat.beq v (i).toNat) then (vJJ .i64 ((pp (i).toNat) - ((vJJ .i64 (0 - (pMx pp qq j (i).toNat))).fdiv (2 ^ (min (d).toNat 64))))) else (b v)))))
 else none)
 else none)
 else none)
 else none)
 else none)
 else (K (.exit 0) ⟨[(7,.o 12)],[(12,.reg 65 2 (.fo (k:Int).toNat (fun v=>[.n .i64 (a v),.n .i64 (b v)])))]⟩)):=by kernel_rfl
theorem lpPj (K:Cont) (pp qq:Nat→Int) (k m:Nat) (d j:Int) (_:k≤50) (_:k=m) (hd:0≤d):LFT Tf 64 (orPj pp qq k m d j) 60 [] [0,1,0,1,1] K 60 (hPj pp qq k m d j 0 (fun _=>0) (fun _=>0))=(K (.exit 0) ⟨[(7,.o 12)],[(12,.reg 65 2 (.fo (k:Int).toNat (fun v=>[.n .i64 ((qVX (fun i:Nat=>jLo pp qq d j i) k 0 (fun _=>0)) v),.n .i64 ((qVX (fun i:Nat=>jHi pp qq d j i) k 0 (fun _=>0)) v)])))]⟩):=by
 refine (zQQ (L:=LFT Tf 64 (orPj pp qq k m d j) 60 [] [0,1,0,1,1] K) (stp:=stpT Tf 64 (orPj pp qq k m d j) 60 [] [0,1,0,1,1] K) (fun _ _=>rfl) (fun (i:Nat) (t:((Nat→Int) × (Nat→Int)))=>hPj pp qq k m d j (i:Int) t.1 t.2) (fun _ _=>True) (fun _ _=>true) (fun (i:Nat) t=>((fun v=>bif Nat.beq v i then jLo pp qq d j i else t.1 v),(fun v=>bif Nat.beq v i then jHi pp qq d j i else t.2 v))) (c:=k) (fun t=>(K (.exit 0) ⟨[(7,.o 12)],[(12,.reg 65 2 (.fo (k:Int).toNat (fun v=>[.n .i64 (t.1 v),.n .i64 (t.2 v)])))]⟩)) (fun _ _=>none) (fun G i t hi _ => ?_) (fun _ _ _ _ _=>trivial) (fun G t _ => ?_) k 0 60 ((fun _=>0),(fun _=>0)) (by omega) (by omega) trivial).trans (runS_fillJ k 0 _)
 ·refine (rdPj G K pp qq k m d j i t.1 t.2).trans ?_;simp only [vJQ (show (i:Int) < (k:Int) by omega),qYK (show i < 1000000 by omega),uJ (show i < k by omega),uJ (show i < m by omega),toN,vJQ hd,vYV]
  all_goals rfl
 ·refine (rdPj G K pp qq k m d j k t.1 t.2).trans ?_;rw [vYH (show ¬ (k:Int) < (k:Int) by omega)];rfl
noncomputable def yGH (pp qq:Nat→Int) (k m:Nat) (d j:Int):List (List Nat × kU):=[([0,1,0,1,1],sumF (fun _:Unit=>(hPj pp qq k m d j 0 (fun _=>0) (fun _=>0))) (fun _=>()) (fun _ K=>(bif gP (k≤50∧k=m∧0≤d) then (K (.exit 0) ⟨[(7,.o 12)],[(12,.reg 65 2 (.fo (k:Int).toNat (fun v=>[.n .i64 ((qVX (fun i:Nat=>jLo pp qq d j i) k 0 (fun _=>0)) v),.n .i64 ((qVX (fun i:Nat=>jHi pp qq d j i) k 0 (fun _=>0)) v)])))]⟩) else none)))]
set_option maxRecDepth 100000 in
theorem pxjnd (pp qq:Nat→Int) (k m:Nat) (d j:Int):qJE Tf (orPj pp qq k m d j) (zW (yGH pp qq k m d j)) 60 64 [.lf k (fQ pp),.lf m (fQ qq),.f 65 [] [.c [.n .i64 j] 0,.c [.n .i64 d] 0]] =
 (bif (decide (0≤(k:Int))) then (bif (decide ((k:Int)≤(k:Int))) then (bif (decide ((k:Int)≤1000000)) then (bif (gSt (hPj pp qq k m d j 0 (fun _=>0) (fun _=>0)) (hPj pp qq k m d j 0 (fun _=>0) (fun _=>0))) then (bif gP (k≤50∧k=m∧0≤d) then some (.ow 65 2 (.fo (k:Int).toNat (fun v=>[.n .i64 ((qVX (fun i:Nat=>jLo pp qq d j i) k 0 (fun _=>0)) v),.n .i64 ((qVX (fun i:Nat=>jHi pp qq d j i) k 0 (fun _=>0)) v)])),[])
 else none)
 else none)
 else none)
 else none)
 else none):=by kernel_rfl
theorem snd_jnd (pp qq:Nat→Int) (k m:Nat) (d j:Int) (hk:k≤50) (hm:k=m) (hd:0≤d):zH Tryz.prog 64 [.lf k (fQ pp),.lf m (fQ qq),.f 65 [] [.c [.n .i64 j] 0,.c [.n .i64 d] 0]] (.ow 65 2 (.fo k (fun v=>[.n .i64 ((qVX (fun i:Nat=>jLo pp qq d j i) k 0 (fun _=>0)) v),.n .i64 ((qVX (fun i:Nat=>jHi pp qq d j i) k 0 (fun _=>0)) v)]))):=by
 refine yV (N:=60) (LO:=zW (yGH pp qq k m d j)) qQC yZ (qQE (l:=[]) (m:=[]) trivial trivial) (fun p S hp => ?_) ?_
 ·refine yX (L:=qG Tf 64) (l:=(yGH pp qq k m d j)) (show AllP _ (yGH pp qq k m d j) from ⟨?_,trivial⟩) p S hp
  ·dsimp only;refine qXW (T:=Tf) (o:=(orPj pp qq k m d j)) (f:=64) (LO:=zW []) (p:=[0,1,0,1,1]) qWU ?_;intro t K r hr;obtain ⟨hg,hr⟩:=qQ hr
   skip
   exact (lpPj K pp qq k m d j (qQG hg).1 (qQG hg).2.1 (qQG hg).2.2).trans hr
 ·refine (pxjnd pp qq k m d j).trans ?_;simp only [kX,zXD (show k≤50∧k=m∧0≤d from ⟨hk,hm,hd⟩),vJQ (show (0:Int)≤(k:Int) by omega),vJQ (show (k:Int)≤(k:Int) by omega),vJQ (show (k:Int)≤1000000 by omega),toN,vYV]
  all_goals rfl
def jI (pp qq:Nat→Int) (d j:Int):Nat→Iv:=fun i=>⟨jLo pp qq d j i,jHi pp qq d j i⟩
theorem snd_owF {P:Program} {fn e sz n:Nat} {f g:Nat→List PV} {ps:List PV} (h:∀ i,i < n→f i=g i) (hs:zH P fn ps (.ow e sz (.fo n f))):zH P fn ps (.ow e sz (.fo n g)):=by
 have e:(Rows.fo n f).L=(Rows.fo n g).L:=List.map_congr_left fun i hi=>h i (List.mem_range.1 hi)
 refine ⟨hs.1,fun w F vals hF hal=>(hs.2 w F vals hF hal).mono ?_⟩
 rintro en w' ⟨v,F',he,hg,f1,f2,ad,c,vr,h1,h2,h3,h4,h5⟩
 exact ⟨v,F',he,hg,f1,f2,ad,c,vr,h1,h2,e ▸ h3,e ▸ h4,h5⟩
theorem snd_jn (pp qq:Nat→Int) (k m:Nat) (d j:Int) (hk:k≤50) (hm:k=m) (hd:0≤d):zH Tryz.prog 64 [.lf k (fQ pp),.lf m (fQ qq),.f 65 [] [.c [.n .i64 j] 0,.c [.n .i64 d] 0]] (.ow 65 2 (.fo k (fB (jI pp qq d j)))):=by
 refine snd_owF (fun i hi => ?_) (snd_jnd pp qq k m d j hk hm hd);show [PV.n .i64 ((qVX (fun i:Nat=>jLo pp qq d j i) k 0 (fun _=>0)) i),PV.n .i64 ((qVX (fun i:Nat=>jHi pp qq d j i) k 0 (fun _=>0)) i)]=[PV.n .i64 (jLo pp qq d j i),PV.n .i64 (jHi pp qq d j i)];rw [fillI_all hi,fillI_all hi]
theorem mbd {a b:Int} (_:0≤a∧a≤1048576) (_: -4294967296≤b∧b≤4294967296) : -4503599627370496≤a * b∧a * b≤4503599627370496:=by
 have h:(a * b).natAbs≤1048576 * 4294967296:=by
  rw [Int.natAbs_mul];exact Nat.mul_le_mul (by omega) (by omega)
 omega
theorem pN_pow:∀ n:Nat,n < 21→pN (n:Int)=2 ^ n∧(1:Int)≤2 ^ n∧(2:Int) ^ n≤1048576∧min n 64=n:=by decide
theorem yUU {d:Int} (h:0≤d∧d≤20):pN d=2 ^ (min d.toNat 64)∧1≤pN d∧pN d≤1048576:=by
 obtain ⟨n,rfl⟩:∃ n:Nat,d=(n:Int):=⟨d.toNat,by omega⟩
 obtain ⟨h1,h2,h3,h4⟩:=pN_pow n (by omega);rw [Int.toNat_natCast,h4,h1];exact ⟨rfl,h2,h3⟩
def pcB (pp qq:Nat→Int) (k m:Nat) (d j:Int):Bool:=mtB pp qq k m d && (decide (0≤j) && decide (j < pN d))
theorem mtB_spec {pp qq:Nat→Int} {k m:Nat} {d:Int} (h:mtB pp qq k m d=true):smQ pp k=true∧smQ qq m=true∧k=m∧0≤d∧d≤20:=by
 unfold mtB at h;simp only [vQJ,decide_eq_true_eq] at h;exact ⟨h.1,h.2.1,by omega,h.2.2.2⟩
theorem u64_s:∀ n:Nat,n < 21→IntKind.u64.wrap (n:Int)=n:=by decide
theorem yKF {d:Int} (h:0≤d∧d≤20):IntKind.u64.wrap d=d:=by
 obtain ⟨n,rfl⟩:∃ n:Nat,d=(n:Int):=⟨d.toNat,by omega⟩
 exact u64_s n (by omega)
def cjn:(Nat→Int) × (Nat→Int) × Nat × Nat × Int × Int→Prop:=fun t=>match t with | (_,_,k,m,d,_)=>k≤50∧k=m∧0≤d
def ejn:(Nat→Int) × (Nat→Int) × Nat × Nat × Int × Int→List PV:=fun t=>match t with | (pp,qq,k,m,d,j)=>[.lf k (fQ pp),.lf m (fQ qq),.f 65 [] [.c [.n .i64 j] 0,.c [.n .i64 d] 0]]
noncomputable def rjn:(Nat→Int) × (Nat→Int) × Nat × Nat × Int × Int→Ret:=fun t=>match t with | (pp,qq,k,_,d,j)=>.ow 65 2 (.fo k (fB (jI pp qq d j)))
def djn:List PV→(Nat→Int) × (Nat→Int) × Nat × Nat × Int × Int:=fun ps=>match ps with
 | [.lf k pp,.lf m qq,.f _ _ [.c [.n _ j] _,.c [.n _ d] _]]=>(unFQ pp,unFQ qq,k,m,d,j)
 | _=>(fun _=>0,fun _=>0,0,0,0,0)
noncomputable def o_jn:List PV→Option (Bool × Ret):=o_fm djn cjn ejn rjn
theorem ok_jn:zY Tryz.prog 64 o_jn:=zUL fun t h=>by
 obtain ⟨pp,qq,k,m,d,j⟩:=t;exact snd_jn pp qq k m d j h.1 h.2.1 h.2.2
noncomputable def orppc0 (pp qq:Nat→Int) (k m:Nat) (d j:Int):OrS:=orS [(63,o_is),(64,o_jn)] []
noncomputable def yKW (pp qq:Nat→Int) (k m:Nat) (d j:Int):List (List Nat × kU):=[]
set_option maxRecDepth 100000 in
theorem pxppc0 (pp qq:Nat→Int) (k m:Nat) (d j:Int):qJE Tf (orppc0 pp qq k m d j) (zW (yKW pp qq k m d j)) 60 37 [.lf k (fQ pp),.lf m (fQ qq),.n .i64 d,.n .i64 j] =
 (bif (gF1 cis eis (pp,qq,k,m,d)) then (bif (mtB pp qq k m d) then (bif (decide (j < 0)) then some (.v (.t [.l [],.b false]),[])
 else (bif (decide (0≤d)) then (bif (decide ((vJJ .i64 (1 * 2 ^ (min (d).toNat 64)))≤j)) then some (.v (.t [.l [],.b false]),[])
 else (bif (gF1 cjn ejn (pp,qq,k,m,d,j)) then (bif (decide (k≤16)) then some (.v (.t [.lf k (fB (jI pp qq d j)),.b true]),[])
 else none)
 else none))
 else none))
 else some (.v (.t [.l [],.b false]),[]))
 else none):=by kernel_rfl
theorem snd_ppc0 (pp qq:Nat→Int) (k m:Nat) (d j:Int) (hk:k≤16) (hm:m≤50):zH Tryz.prog 37 [.lf k (fQ pp),.lf m (fQ qq),.n .i64 d,.n .i64 j] (bif pcB pp qq k m d j then .v (.t [.lf k (fB (jI pp qq d j)),.b true]) else .v (.t [.l [],.b false])):=by
 refine yV (N:=60) (LO:=zW (yKW pp qq k m d j)) qQC yZ (qQE (l:=[(63,o_is),(64,o_jn)]) (m:=[]) ⟨ok_is,ok_jn,trivial⟩ trivial) (fun p S hp => ?_) ?_
 ·refine yX (L:=qG Tf 37) (l:=(yKW pp qq k m d j)) (show AllP _ (yKW pp qq k m d j) from trivial) p S hp
 ·refine (pxppc0 pp qq k m d j).trans ?_;unfold pcB;rw [qXZ (C:=cis) (t:=(pp,qq,k,m,d)) ⟨show k≤50 by omega,hm⟩,vYV];cases h:mtB pp qq k m d with
  | false=>rfl
  | true =>
   obtain ⟨_,_,e,d0,d1⟩:=mtB_spec h;have hu:=yKF ⟨d0,d1⟩;obtain ⟨_,n1,n2⟩:=yUU ⟨d0,d1⟩;have en:vJJ .i64 (1 * 2 ^ (min d.toNat 64))=pN d:=by unfold pN; rw [hu]
   by_cases h0:j < 0
   ·rw [vJQ h0,vYH (show ¬ 0≤j by omega)]; rfl
   ·rw [vYH h0,vJQ (show 0≤j by omega)];by_cases h1:pN d≤j
    ·simp only [hu,en,vJQ d0,vJQ h1,vYH (show ¬ j < pN d by omega),vYV,vYG,Bool.and_false]
    ·simp only [hu,en,vJQ d0,vYH h1,vJQ (show j < pN d by omega),qXZ (C:=cjn) (t:=(pp,qq,k,m,d,j)) ⟨show k≤50 by omega,e,d0⟩,vJQ hk,vYV,vYG,vZJ]
theorem snd_ppc (pp qq:Nat→Int) (k m:Nat) (d j:Int) (hk:k≤16) (hm:m≤50):zH Tryz.prog 37 [.lf k (fQ pp),.lf m (fQ qq),.n .i64 d,.n .i64 j] (.v (.t [.lf (bif pcB pp qq k m d j then k else 0) (fB (jI pp qq d j)),.b (pcB pp qq k m d j)])):=by
 have h:=snd_ppc0 pp qq k m d j hk hm;cases hc:pcB pp qq k m d j with
 | true=>rw [hc] at h; exact h
 | false=>rw [hc] at h; exact qXV (Same.t (xs:=[_,_]) ⟨Same.lf rfl,Same.refl _,trivial⟩) h
end Go.Proofs.YtbfcbojgnppacaaGreat.Pa
namespace Go.Proofs.YtbfcbojgnppacaaGreat.Nj2
open Go.Rx Rt Go.Sx Go.RowKit Od Na Nb Nc Nd Nx Nf Ng Nj
def hBr (cs:Nat→Cn) (vs:Nat→Iv) (c:Nat) (i:Int):St:=⟨[(1,.v (.lf c (fB vs))),(8,.v (.lf c (fC cs))),(9,.v (.n .i64 (c:Int))),(10,.v (.n .i64 i))],[]⟩
set_option maxRecDepth 100000 in
theorem rdBr (G:St→Option (Ret × Mem)) (K:Cont) (cs:Nat→Cn) (vs:Nat→Iv) (c:Nat) (i:Int):qHK 60 (cxF T (OrL.k ([]:OrL)) 60 53 (ntmF T 53)) (ckF T (OrL.k ([]:OrL)) 60) (qG T 53 [0,1,0,1]) ((cxF T (OrL.k ([]:OrL)) 60 53 (ntmF T 53)).T.hint (cxF T (OrL.k ([]:OrL)) 60 53 (ntmF T 53)).me (yQ (qG T 53 [0,1,0,1]))) K G (hBr cs vs c i) =
 (bif (decide (i < (c:Int))) then (bif (inB i c) then (bif (inB i c) then (bif (decide ((vs (i).toNat).hi < (cs (i).toNat).lo)) then (K .ret ⟨[(4,.v (.n .i64 i)),(5,.v (.b true))],[]⟩)
 else (bif (decide ((cs (i).toNat).hi < (vs (i).toNat).lo)) then (K .ret ⟨[(4,.v (.n .i64 i)),(5,.v (.b true))],[]⟩)
 else (G (hBr cs vs c (vJJ .i64 (i + 1))))))
 else none)
 else none)
 else (K (.exit 0) ⟨[],[]⟩)):=by kernel_rfl
theorem lpBr (K:Cont) (cs:Nat→Cn) (vs:Nat→Iv) (c:Nat) (_:c≤50):LF 60 (cxF T (OrL.k ([]:OrL)) 60 53 (ntmF T 53)) (ckF T (OrL.k ([]:OrL)) 60) (qG T 53 [0,1,0,1]) ((cxF T (OrL.k ([]:OrL)) 60 53 (ntmF T 53)).T.hint (cxF T (OrL.k ([]:OrL)) 60 53 (ntmF T 53)).me (yQ (qG T 53 [0,1,0,1]))) K 60 (hBr cs vs c 0)=bif (allN (fun i:Nat => !(outR (cs i) (vs i))) c 0) then (K (.exit 0) ⟨[],[]⟩) else (K .ret ⟨[(4,.v (.n .i64 ((Rx.firstK (fun i:Nat => !(outR (cs i) (vs i))) c 0:Nat):Int))),(5,.v (.b true))],[]⟩):=by
 refine (zQZ (c:=c) (hBr cs vs c) (fun i:Nat => !(outR (cs i) (vs i))) (K (.exit 0) ⟨[],[]⟩) (fun i:Nat=>(K .ret ⟨[(4,.v (.n .i64 (i:Int))),(5,.v (.b true))],[]⟩)) (fun G i hi => ?_) (fun G => ?_) c 0 60 (by omega) (by omega)).trans (qJW _ _ _ _ _)
 ·refine (rdBr G K cs vs c i).trans ?_;rw [vJQ (show (i:Int) < (c:Int) by omega),qYK (by omega),uJ (show i < c by omega),toN];unfold outR;cases decide ((vs i).hi < (cs i).lo) <;> cases decide ((cs i).hi < (vs i).lo) <;> rfl
 ·refine (rdBr G K cs vs c c).trans ?_;rw [vYH (show ¬ (c:Int) < (c:Int) by omega)];rfl
def nbrB (cs:Nat→Cn) (vs:Nat→Iv) (c:Nat):Bool:=(allN (fun i:Nat => !(outR (cs i) (vs i))) c 0)
def brkI (cs:Nat→Cn) (vs:Nat→Iv) (c:Nat):Int:=bif nbrB cs vs c then 0 else ((Rx.firstK (fun i:Nat => !(outR (cs i) (vs i))) c 0:Nat):Int)
set_option maxRecDepth 100000 in
theorem pxbrkn (cs:Nat→Cn) (vs:Nat→Iv) (c:Nat):qGJ T (OrL.k ([]:OrL)) (zW [([0,1,0,1],kK (hBr cs vs c 0) (fun K=>(bif (decide (c≤50)) then (bif (allN (fun i:Nat => !(outR (cs i) (vs i))) c 0) then (K (.exit 0) ⟨[],[]⟩) else (K .ret ⟨[(4,.v (.n .i64 ((Rx.firstK (fun i:Nat => !(outR (cs i) (vs i))) c 0:Nat):Int))),(5,.v (.b true))],[]⟩)) else none)))]) 60 53 [.lf c (fC cs),.lf c (fB vs)] =
 (bif (gSt (hBr cs vs c 0) (hBr cs vs c 0)) then (bif (decide (c≤50)) then (bif (allN (fun i:Nat => !(outR (cs i) (vs i))) c 0) then some (.v (.t [.n .i64 0,.b false]),[])
 else some (.v (.t [.n .i64 ((Rx.firstK (fun i:Nat => !(outR (cs i) (vs i))) c 0:Nat):Int),.b true]),[]))
 else none)
 else none):=by kernel_rfl
theorem snd_brkn (cs:Nat→Cn) (vs:Nat→Iv) (c:Nat) (hc:c≤50):zH Tryz.prog 53 [.lf c (fC cs),.lf c (fB vs)] (.v (.t [.n .i64 (brkI cs vs c),.b (!nbrB cs vs c)])):=by
 refine kY (N:=60) (LO:=zW [([0,1,0,1],kK (hBr cs vs c 0) (fun K=>(bif (decide (c≤50)) then (bif (allN (fun i:Nat => !(outR (cs i) (vs i))) c 0) then (K (.exit 0) ⟨[],[]⟩) else (K .ret ⟨[(4,.v (.n .i64 ((Rx.firstK (fun i:Nat => !(outR (cs i) (vs i))) c 0:Nat):Int))),(5,.v (.b true))],[]⟩)) else none)))]) yH yZ (OrL.ok (l:=([]:OrL)) trivial) (fun p S hp => ?_) ?_
 ·refine qQQ (L:=qG T 53) (l:=[([0,1,0,1],kK (hBr cs vs c 0) (fun K=>(bif (decide (c≤50)) then (bif (allN (fun i:Nat => !(outR (cs i) (vs i))) c 0) then (K (.exit 0) ⟨[],[]⟩) else (K .ret ⟨[(4,.v (.n .i64 ((Rx.firstK (fun i:Nat => !(outR (cs i) (vs i))) c 0:Nat):Int))),(5,.v (.b true))],[]⟩)) else none)))]) (show AllP _ [([0,1,0,1],kK (hBr cs vs c 0) (fun K=>(bif (decide (c≤50)) then (bif (allN (fun i:Nat => !(outR (cs i) (vs i))) c 0) then (K (.exit 0) ⟨[],[]⟩) else (K .ret ⟨[(4,.v (.n .i64 ((Rx.firstK (fun i:Nat => !(outR (cs i) (vs i))) c 0:Nat):Int))),(5,.v (.b true))],[]⟩)) else none)))] from ⟨qZU fun K r hr => ?_,trivial⟩) p S hp
  ·obtain ⟨hg,hr⟩:=qQ hr;have hc:=vJZ hg;exact (lpBr K cs vs c hc).trans hr
 ·refine (pxbrkn cs vs c).trans ?_;unfold brkI nbrB;rw [kX,vJQ hc];cases (allN (fun i:Nat => !(outR (cs i) (vs i))) c 0) <;> rfl
noncomputable def brB (js:Nat→J) (ms:Nat→Ms) (bx:Nat→Iv) (n m k:Nat) (c:Cn):Bool:=vOk js ms bx n m k c && outR c ⟨vLo js ms bx n m k c,vHi js ms bx n m k c⟩
noncomputable def o_bs (js:Nat→J) (ms:Nat→Ms) (bx:Nat→Iv) (n m k:Nat):List PV→Option (Bool × Ret):=fun ps=>match ps with
 | [r,.a c,b]=>some (gEq (.t ps) (.t [.a [.lf n (fJ js),.lf m (fM ms)],.a (cp (unC c)),.lf k (fB bx)]) && decide (k≤50),.v (.b (brB js ms bx n m k (unC c))))
 | _=>none
def hRb (js:Nat→J) (ms:Nat→Ms) (bx:Nat→Iv) (n m k:Nat) (cs:Nat→Cn) (c:Nat) (i:Int):St:=⟨[(1,.v (.lf c (fC cs))),(2,.v (.lf k (fB bx))),(3,.p 3 0),(8,.v (.n .i64 i))],[(3,.blk [.v (.lf n (fJ js)),.v (.lf m (fM ms))])]⟩
set_option maxRecDepth 100000 in
theorem rdRb (G:St→Option (Ret × Mem)) (K:Cont) (js:Nat→J) (ms:Nat→Ms) (bx:Nat→Iv) (n m k:Nat) (cs:Nat→Cn) (c:Nat) (i:Int):qHK 60 (cxF T (OrL.k [(54,o_cr [.a [.lf n (fJ js),.lf m (fM ms)],.lf c (fC cs)] (.v (.b (cErr js ms n m cs c)))),(55,o_bs js ms bx n m k)]) 60 31 (ntmF T 31)) (ckF T (OrL.k [(54,o_cr [.a [.lf n (fJ js),.lf m (fM ms)],.lf c (fC cs)] (.v (.b (cErr js ms n m cs c)))),(55,o_bs js ms bx n m k)]) 60) (qG T 31 [0,1,0,1,1]) ((cxF T (OrL.k [(54,o_cr [.a [.lf n (fJ js),.lf m (fM ms)],.lf c (fC cs)] (.v (.b (cErr js ms n m cs c)))),(55,o_bs js ms bx n m k)]) 60 31 (ntmF T 31)).T.hint (cxF T (OrL.k [(54,o_cr [.a [.lf n (fJ js),.lf m (fM ms)],.lf c (fC cs)] (.v (.b (cErr js ms n m cs c)))),(55,o_bs js ms bx n m k)]) 60 31 (ntmF T 31)).me (yQ (qG T 31 [0,1,0,1,1]))) K G (hRb js ms bx n m k cs c i) =
 (bif (decide (i < (c:Int))) then (bif (inB i c) then (bif (g1 [.a [.lf n (fJ js),.lf m (fM ms)],.a [.n .i64 (cs (i).toNat).kind,.n .i64 (cs (i).toNat).link,.n .i64 (cs (i).toNat).p.x,.n .i64 (cs (i).toNat).p.y,.n .i64 (cs (i).toNat).p.z,.n .i64 (cs (i).toNat).n.x,.n .i64 (cs (i).toNat).n.y,.n .i64 (cs (i).toNat).n.z,.n .i64 (cs (i).toNat).lo,.n .i64 (cs (i).toNat).hi],.lf k (fB bx)] && decide (k≤50)) then (bif (brB js ms bx n m k (cs (i).toNat)) then (K .ret ⟨[(6,.v (.n .i64 i)),(7,.v (.b true))],[]⟩)
 else (G (hRb js ms bx n m k cs c (vJJ .i64 (i + 1)))))
 else none)
 else none)
 else (K (.exit 0) ⟨[],[]⟩)):=by kernel_rfl
theorem lpRb (K:Cont) (js:Nat→J) (ms:Nat→Ms) (bx:Nat→Iv) (n m k:Nat) (cs:Nat→Cn) (c:Nat) (_:c≤50) (hk:k≤50):LF 60 (cxF T (OrL.k [(54,o_cr [.a [.lf n (fJ js),.lf m (fM ms)],.lf c (fC cs)] (.v (.b (cErr js ms n m cs c)))),(55,o_bs js ms bx n m k)]) 60 31 (ntmF T 31)) (ckF T (OrL.k [(54,o_cr [.a [.lf n (fJ js),.lf m (fM ms)],.lf c (fC cs)] (.v (.b (cErr js ms n m cs c)))),(55,o_bs js ms bx n m k)]) 60) (qG T 31 [0,1,0,1,1]) ((cxF T (OrL.k [(54,o_cr [.a [.lf n (fJ js),.lf m (fM ms)],.lf c (fC cs)] (.v (.b (cErr js ms n m cs c)))),(55,o_bs js ms bx n m k)]) 60 31 (ntmF T 31)).T.hint (cxF T (OrL.k [(54,o_cr [.a [.lf n (fJ js),.lf m (fM ms)],.lf c (fC cs)] (.v (.b (cErr js ms n m cs c)))),(55,o_bs js ms bx n m k)]) 60 31 (ntmF T 31)).me (yQ (qG T 31 [0,1,0,1,1]))) K 60 (hRb js ms bx n m k cs c 0)=bif (allN (fun i:Nat => !(brB js ms bx n m k (cs i))) c 0) then (K (.exit 0) ⟨[],[]⟩) else (K .ret ⟨[(6,.v (.n .i64 ((Rx.firstK (fun i:Nat => !(brB js ms bx n m k (cs i))) c 0:Nat):Int))),(7,.v (.b true))],[]⟩):=by
 refine (zQZ (c:=c) (hRb js ms bx n m k cs c) (fun i:Nat => !(brB js ms bx n m k (cs i))) (K (.exit 0) ⟨[],[]⟩) (fun i:Nat=>(K .ret ⟨[(6,.v (.n .i64 (i:Int))),(7,.v (.b true))],[]⟩)) (fun G i hi => ?_) (fun G => ?_) c 0 60 (by omega) (by omega)).trans (qJW _ _ _ _ _)
 ·refine (rdRb G K js ms bx n m k cs c i).trans ?_;simp only [vJQ (show (i:Int) < (c:Int) by omega),qYK (show i < 1000000 by omega),uJ (show i < c by omega),toN,g1_t,vJQ hk,vZJ,vYV];cases brB js ms bx n m k (cs i) <;> rfl
 ·refine (rdRb G K js ms bx n m k cs c c).trans ?_;rw [vYH (show ¬ (c:Int) < (c:Int) by omega)];rfl
end Go.Proofs.YtbfcbojgnppacaaGreat.Nj2
namespace Go.Proofs.YtbfcbojgnppacaaGreat.Pb
open Go.Rx Rt Go.Sx Go.RowKit Od Oe Na Nb Nc Nd Nx Nf Ng Nj Nj2 Nl Nm Pa
noncomputable def vE (js:Nat→J) (n:Nat) (cs:Nat→Cn) (pp qq:Nat→Int) (d i:Int):Nat→Iv:=vI js (jI pp qq d i) n cs
abbrev Exs:=Nat × (Nat→Int) × (Nat→Int) × Int × Int × Int × Int
def p3 (pd pi:Nat→Int):Nat→List PV:=fun v=>[.n .i64 (pd v),.n .i64 (pi v),.l []]
def z0:Nat→Int:=fun _=>0
def exR (h b:Int→Int→Bool) (y:Int→Int→Int):Nat→Int→Int→Exs→Bool × Exs
 | x,d,i,s=>if 4096≤s.1 then (false,0,z0,z0,0,d,i,0) else if h d i=true then (true,s.1 + 1,(fun v=>bif Nat.beq v s.1 then d else s.2.1 v),(fun v=>bif Nat.beq v s.1 then i else s.2.2.1 v),s.2.2.2) else if b d i=true then (false,0,z0,z0,2,d,i,y d i) else match x with
  | 0=>(false,0,z0,z0,0,d,i,0)
  | x + 1=>if (exR h b y x (d + 1) (2 * i) s).1=true then exR h b y x (d + 1) (2 * i + 1) (exR h b y x (d + 1) (2 * i) s).2 else exR h b y x (d + 1) (2 * i) s
noncomputable def hE (js:Nat→J) (ms:Nat→Ms) (n m:Nat) (cs:Nat→Cn) (c:Nat) (pp qq:Nat→Int) (k:Nat) (d i:Int):Bool:=qGU cs (vE js n cs pp qq d i) c
noncomputable def bE (js:Nat→J) (ms:Nat→Ms) (n m:Nat) (cs:Nat→Cn) (c:Nat) (pp qq:Nat→Int) (k:Nat) (d i:Int):Bool:=!nbrB cs (vE js n cs pp qq d i) c
noncomputable def yE (js:Nat→J) (ms:Nat→Ms) (n m:Nat) (cs:Nat→Cn) (c:Nat) (pp qq:Nat→Int) (k:Nat) (d i:Int):Int:=brkI cs (vE js n cs pp qq d i) c
noncomputable def exE (js:Nat→J) (ms:Nat→Ms) (n m:Nat) (cs:Nat→Cn) (c:Nat) (pp qq:Nat→Int) (k:Nat):Nat→Int→Int→Exs→Bool × Exs:=exR (hE js ms n m cs c pp qq k) (bE js ms n m cs c pp qq k) (yE js ms n m cs c pp qq k)
def cE (js:Nat→J) (ms:Nat→Ms) (n m:Nat) (cs:Nat→Cn) (c:Nat) (pp qq:Nat→Int) (k:Nat) (D:Int) (s:Exs):List PV:=match s with | (cnt,pd,pi,kd,ad,ai,pr)=>[.lf n (fJ js),.lf m (fM ms),.lf c (fC cs),.lf k (fQ pp),.lf k (fQ qq),.n .i64 D,.n .i64 kd,.gs 44 3 (.lf cnt (p3 pd pi)),.n .i64 ad,.n .i64 ai,.l [],.n .i64 pr,.zs,.zs]
def cZ (js:Nat→J) (ms:Nat→Ms) (n m:Nat) (cs:Nat→Cn) (c:Nat) (pp qq:Nat→Int) (k:Nat) (D:Int) (s:Exs):List PV:=match s with | (_,_,_,kd,ad,ai,pr)=>[.lf n (fJ js),.lf m (fM ms),.lf c (fC cs),.lf k (fQ pp),.lf k (fQ qq),.n .i64 D,.n .i64 kd,.zs,.n .i64 ad,.n .i64 ai,.l [],.n .i64 pr,.zs,.zs]
def cex (x:Nat) (d:Int):Int × Int × Exs→Prop:=fun t=>match x with
 | 0=>False
 | _ + 1=>t.1=d + 1∧0≤t.2.1∧t.2.1 < 2 ^ (d + 1).toNat
def hex:Int × Int × Exs→List HV:=fun t=>[.p 1000000 0,.v (.n .i64 t.1),.v (.n .i64 t.2.1)]
def eex (js:Nat→J) (ms:Nat→Ms) (n m:Nat) (cs:Nat→Cn) (c:Nat) (pp qq:Nat→Int) (k:Nat) (D:Int):Int × Int × Exs→List PV:=fun t=>cE js ms n m cs c pp qq k D t.2.2
def xex (E:Int→Int→Exs→Bool × Exs):Int × Int × Exs→PV:=fun t=>.b (E t.1 t.2.1 t.2.2).1
def qex (js:Nat→J) (ms:Nat→Ms) (n m:Nat) (cs:Nat→Cn) (c:Nat) (pp qq:Nat→Int) (k:Nat) (D:Int) (E:Int→Int→Exs→Bool × Exs):Int × Int × Exs→List PV:=fun t=>cE js ms n m cs c pp qq k D (E t.1 t.2.1 t.2.2).2
def unp (f:Nat→List PV) (k:Nat):Nat→Int:=fun v=>match (f v)[k]? with
 | some (.n _ i)=>i
 | _=>0
def dex:List HV→List PV→Int × Int × Exs:=fun hs ps=>match hs,ps with
 | [.p _ _,.v (.n _ dd),.v (.n _ i)],[_,_,_,_,_,_,.n _ kd,.gs _ _ (.lf cnt f),.n _ ad,.n _ ai,_,.n _ pr,_,_]=>(dd,i,cnt,unp f 0,unp f 1,kd,ad,ai,pr)
 | _,_=>(0,0,0,z0,z0,0,0,0,0)
noncomputable def o_ex (js:Nat→J) (ms:Nat→Ms) (n m:Nat) (cs:Nat→Cn) (c:Nat) (pp qq:Nat→Int) (k:Nat) (D:Int) (x:Nat) (d:Int) (E:Int→Int→Exs→Bool × Exs):List HV→List PV→Option (Bool × (PV × List PV)):=o_fb dex (cex x d) hex (eex js ms n m cs c pp qq k D) (xex E) (qex js ms n m cs c pp qq k D E)
noncomputable def orex (js:Nat→J) (ms:Nat→Ms) (n m:Nat) (cs:Nat→Cn) (c:Nat) (pp qq:Nat→Int) (k:Nat) (D:Int) (x:Nat) (d i:Int) (E:Int→Int→Exs→Bool × Exs):OrS:=orS [(37,o_lk [.lf k (fQ pp),.lf k (fQ qq),.n .i64 d,.n .i64 i] ((pcB pp qq k k d i && decide (k≤16))) (.v (.t [.lf k (fB (jI pp qq d i)),.b true]))),(39,o_lk [.a [.lf n (fJ js),.lf m (fM ms)],.lf c (fC cs),.lf k (fB (jI pp qq d i))] (((cErr js ms n m cs c) && pIn js ms (jI pp qq d i) n m k)) (.v (.lf c (fB (vE js n cs pp qq d i))))),(43,o_lk [.lf c (fC cs),.lf c (fB (vE js n cs pp qq d i))] ((decide (c≤50))) (.v (.b (hE js ms n m cs c pp qq k d i)))),(53,o_lk [.lf c (fC cs),.lf c (fB (vE js n cs pp qq d i))] ((decide (c≤50))) (.v (.t [.n .i64 (yE js ms n m cs c pp qq k d i),.b (bE js ms n m cs c pp qq k d i)])))] [(35,o_ex js ms n m cs c pp qq k D x d E)]
set_option maxRecDepth 100000 in
theorem pxex (js:Nat→J) (ms:Nat→Ms) (n m:Nat) (cs:Nat→Cn) (c:Nat) (pp qq:Nat→Int) (k:Nat) (D:Int) (x:Nat) (d i:Int) (E:Int→Int→Exs→Bool × Exs) (cnt:Nat) (pd pi:Nat→Int) (kd ad ai pr:Int):zVB Tf (orex js ms n m cs c pp qq k D x d i E) (zW []) 60 35 [.p 1000000 0,.v (.n .i64 d),.v (.n .i64 i)] (cE js ms n m cs c pp qq k D (cnt,pd,pi,kd,ad,ai,pr)) =
 (bif (decide (4096≤(cnt:Int))) then some (.v (.t (.b false :: cZ js ms n m cs c pp qq k D (0,z0,z0,0,d,i,0))),[])
 else (bif (g1 [.lf k (fQ pp),.lf k (fQ qq),.n .i64 d,.n .i64 i] && (pcB pp qq k k d i && decide (k≤16))) then (bif (g1 [.a [.lf n (fJ js),.lf m (fM ms)],.lf c (fC cs),.lf k (fB (jI pp qq d i))] && ((cErr js ms n m cs c) && pIn js ms (jI pp qq d i) n m k)) then (bif (g1 [.lf c (fC cs),.lf c (fB (vE js n cs pp qq d i))] && (decide (c≤50))) then (bif (hE js ms n m cs c pp qq k d i) then (bif (decide (cnt + 1≤1000000)) then some (.v (.t (.b true :: cE js ms n m cs c pp qq k D ((cnt + 1),(fun v=>(bif (Nat.beq v cnt) then d else (pd v))),(fun v=>(bif (Nat.beq v cnt) then i else (pi v))),kd,ad,ai,pr))),[])
 else none)
 else (bif (g1 [.lf c (fC cs),.lf c (fB (vE js n cs pp qq d i))] && (decide (c≤50))) then (bif (bE js ms n m cs c pp qq k d i) then some (.v (.t (.b false :: cZ js ms n m cs c pp qq k D (0,z0,z0,2,d,i,(yE js ms n m cs c pp qq k d i)))),[])
 else (bif (decide (d < D)) then (bif (gB1 (cex x d) hex (eex js ms n m cs c pp qq k D) ((vJJ .i64 (d + 1)),(vJJ .i64 (2 * i)),(cnt,pd,pi,kd,ad,ai,pr))) then (bif (E (vJJ .i64 (d + 1)) (vJJ .i64 (2 * i)) (cnt,pd,pi,kd,ad,ai,pr)).1 then (bif (gB1 (cex x d) hex (eex js ms n m cs c pp qq k D) ((vJJ .i64 (d + 1)),(vJJ .i64 ((vJJ .i64 (2 * i)) + 1)),(E (vJJ .i64 (d + 1)) (vJJ .i64 (2 * i)) (cnt,pd,pi,kd,ad,ai,pr)).2)) then (bif (E (vJJ .i64 (d + 1)) (vJJ .i64 ((vJJ .i64 (2 * i)) + 1)) (E (vJJ .i64 (d + 1)) (vJJ .i64 (2 * i)) (cnt,pd,pi,kd,ad,ai,pr)).2).1 then some (.v (.t (.b true :: cE js ms n m cs c pp qq k D (E (vJJ .i64 (d + 1)) (vJJ .i64 ((vJJ .i64 (2 * i)) + 1)) (E (vJJ .i64 (d + 1)) (vJJ .i64 (2 * i)) (cnt,pd,pi,kd,ad,ai,pr)).2).2)),[])
 else some (.v (.t (.b false :: cE js ms n m cs c pp qq k D (E (vJJ .i64 (d + 1)) (vJJ .i64 ((vJJ .i64 (2 * i)) + 1)) (E (vJJ .i64 (d + 1)) (vJJ .i64 (2 * i)) (cnt,pd,pi,kd,ad,ai,pr)).2).2)),[]))
 else none)
 else some (.v (.t (.b false :: cE js ms n m cs c pp qq k D (E (vJJ .i64 (d + 1)) (vJJ .i64 (2 * i)) (cnt,pd,pi,kd,ad,ai,pr)).2)),[]))
 else none)
 else some (.v (.t (.b false :: cZ js ms n m cs c pp qq k D (0,z0,z0,0,d,i,0))),[])))
 else none))
 else none)
 else none)
 else none)):=by kernel_rfl
end Go.Proofs.YtbfcbojgnppacaaGreat.Pb

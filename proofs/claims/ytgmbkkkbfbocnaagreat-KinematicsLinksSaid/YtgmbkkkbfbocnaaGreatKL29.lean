/- Part 29 of the texts behind the last one: rules and contracts. No condition. -/
import Derived.Test.YtgmbkkkbfbocnaaGreatKL28
open List renaming getElem?_eq_getElem → vQK, mem_cons_self → vZQ, getElem?_map → vZY, getD_eq_getElem?_getD → vZG, take_succ_cons → vYK, drop_succ_cons → vYU, take_zero → vYX, drop_zero → vYW
open Nat renaming lt_of_lt_of_le → vZK
namespace Go.Proofs.YtgmbkkkbfbocnaaGreat
open Go.Sx
theorem en65:kU Tryz.prog 65:=qU Tryz.func65 (by kernel_rfl) (by kernel_rfl)
theorem en66:kU Tryz.prog 66:=qU Tryz.func66 (by kernel_rfl) (by kernel_rfl)
theorem sl30:slcB Tryz.prog 30 62 2=true:=by kernel_rfl
theorem en67:kU Tryz.prog 67:=qU Tryz.func67 (by kernel_rfl) (by kernel_rfl)
theorem sl69:slcB Tryz.prog 69 68 24=true:=by kernel_rfl
def plC (ps:List Po):List Value:=(ps.map pc).flatten
theorem plC_snoc (ps:List Po) (p:Po):plC (ps ++ [p])=plC ps ++ pc p:=by simp [plC]
theorem pl_slc {m e cap k:Nat} {a:Option Addr} {ps:List Po} {w:World} (hl:ps.length=k) (h:OwnF m e 24 a cap k (plC ps) w):qUQ 24 a (ps.map pc) w :=
 yUK (rows:=ps.map pc) (fun r hr=>by obtain ⟨p,_,rfl⟩:=List.mem_map.1 hr; rfl) (by rw [List.length_map,hl]; exact h)
theorem pl_at {ps:List Po} {i:Nat} (h:i < ps.length):(ps.map pc)[i]? = some (pc (ps.getD i Po.rest)):=by
 rw [vZY];simp [vZG,h]
theorem rLinks  (aj am ab:Option Addr) (cj nm cm cb n:Nat) (js:List J) (bx:List Iv) (hn:n≤1000) (hjn:js.length=n) (hbn:bx.length=n) (hpar:∀ (k:Nat) (j:J),js[k]? = some j → -1≤j.parent∧j.parent < k) (w:World) (hS:qUQ 12 aj (js.map jc) w) (hT:qUQ 2 ab (bx.map ivc) w) (hC:∀ w':World,Grow w w'→Calls Tryz.prog 65 [.agg #[.slice aj n cj,.slice am nm cm]].toArray w' (Rets (vI (0:Int)) w')) (hB:∀ w':World,Grow w w'→Calls Tryz.prog 66 [.agg #[.slice aj n cj,.slice am nm cm],.slice ab n cb].toArray w' (Rets (vB true) w')):Calls Tryz.prog 22 [.agg #[.slice aj n cj,.slice am nm cm],.slice ab n cb].toArray w (kYG (X:=Option Addr × Nat) (fun _=>True) (fun x=>.slice x.1 n x.2) (fun x=>OwnF 0 68 24 x.1 x.2 n (plC (lks js bx n))) w):=by
 refine yG (n:=56) Tryz.func22 rfl rfl rfl ?_;refine zJ ?_;refine qJ ?_;refine zYJ 2 rfl rfl rfl rfl ?_; intro b2;refine qW (qH rfl) rfl rfl rfl ?_;refine zK ?_;refine qZ ?_;refine zJ ?_;refine zJ ?_;refine qJ ?_;refine qW (qZQ 2 ty25 rfl rfl rfl) rfl rfl rfl ?_;refine qXJ (F:=vI) (jX en65 rfl (fun w' k=>hC w' k.grow)) rfl rfl rfl ?_; intro r9 hr9;refine qW (yZY rfl rfl) rfl rfl rfl ?_;refine qW (qV rfl) rfl rfl rfl ?_;refine doL_false 11 rfl (by rw [hr9]; rfl) ?_;refine qW (qZQ 2 ty25 rfl rfl rfl) rfl rfl rfl ?_;refine qW (qV rfl) rfl rfl rfl ?_;refine qXJ (F:=vB) (jX en66 rfl (fun w' k=>hB w' k.grow)) rfl rfl rfl ?_; intro r14 hr14;refine qW (yZZ rfl) rfl rfl rfl ?_;refine qW (zWK rfl rfl rfl rfl) rfl rfl rfl ?_;refine zK ?_;refine qZ ?_;refine zJY rfl (by rw [hr14]; rfl) ?_;refine qQJ ?_;refine qZ ?_;refine zJ ?_;refine qJ ?_;refine qW (qH rfl) rfl rfl rfl ?_;refine zK ?_;refine qZ ?_;refine zJ ?_;refine zJ ?_;refine doC_own 100 68 24 ?_;refine qJ ?_;refine qW (qH rfl) rfl rfl rfl ?_;refine zK ?_;refine qZ ?_;refine qUG ?_;refine doC_loopK [1,2] [2] (α:=Nat × Option Addr × Nat × List Po) (fun x=>n - x.1) (fun x=>x.1≤n∧lks js bx x.1=x.2.2.2∧x.2.2.2.length=x.1) (fun x=>⟨w,[(100,ownD x.2.1,OwnF 0 68 24 x.2.1 x.2.2.1 x.1 (plC x.2.2.2))]⟩) (fun x=>[(5,.slice x.2.1 x.1 x.2.2.1),(6,.int .i64 (x.1:Int))]) (fun _=>[]) (0,none,0,[]) rfl rfl ?_ ?_ ?_ ?_ rfl ?_
 ·
  exact ⟨Nat.zero_le _,rfl,rfl⟩
 ·
  exact rfl
 ·
  repeat' first | exact trivial | exact True.intro | refine ⟨rfl,?_⟩
 ·
  repeat' first | exact trivial | exact True.intro | refine ⟨rfl,?_⟩
 rintro ⟨k,a,cap,ps⟩ ⟨hk,hps,hlen⟩
 dsimp only at hk hps hlen ⊢;refine zJ ?_;refine zJ ?_;refine qJ ?_;refine qW (qV rfl) rfl rfl rfl ?_;refine qW (qV rfl) rfl rfl rfl ?_;refine qW (qHG sl30 rfl) rfl rfl rfl ?_;refine qW (qWU rfl rfl) rfl rfl rfl ?_;refine zK ?_;refine qZ ?_;refine qKK rfl (fun hc20 => ?_) (fun hc20 => ?_)
 ·
  have h2:k < n:=by have:=vJZ hc20; omega
  obtain ⟨j,hjk⟩:∃ j,js[k]? = some j:=⟨_,vQK (by omega)⟩
  obtain ⟨b,hak⟩:∃ b,bx[k]? = some b:=⟨_,vQK (by omega)⟩
  have hj:(js.map jc)[k]? = some (jc j):=by rw [vZY,hjk]; rfl
  have hbk:(bx.map ivc)[k]? = some (ivc b):=by rw [vZY,hak]; rfl
  have hpj:=hpar _ j hjk;refine qQJ ?_;refine qZ ?_;refine zJ ?_;refine qUG ?_;refine zJ ?_;refine qUV 11 mo (by kernel_rfl) ?_;simp only [vYK,vYX,vYU,vYW];refine yW (zW yHU rfl) rfl rfl rfl ?_;refine yW (yX 2 ty22 rfl rfl rfl) rfl rfl rfl ?_;refine yW (qV rfl) rfl rfl rfl ?_;refine yW (qZZ (e:=88) (kH hS) (by kernel_rfl) rfl rfl rfl hj h2) rfl rfl rfl ?_;refine yW (qXU (vs:=[.string j.name,.int .i64 j.kind,.int .i64 j.parent,.int .i64 j.off.x,.int .i64 j.off.y,.int .i64 j.off.z,.int .i64 j.lo,.int .i64 j.hi,.int .i64 j.weight,.int .i64 j.speed,.int .i64 j.accel,.int .i64 j.torque]) k 0 (kH hS) hj ty88 rfl rfl) rfl rfl rfl ?_;refine yW (qV rfl) rfl rfl rfl ?_;refine yW (qV rfl) rfl rfl rfl ?_;refine yW (qZZ (e:=62) (kH hT) (by kernel_rfl) rfl rfl rfl hbk h2) rfl rfl rfl ?_;refine yW (qXU (vs:=[.int .i64 b.lo,.int .i64 b.hi]) k 0 (kH hT) hbk ty62 rfl rfl) rfl rfl rfl ?_;refine zJV (F:=po) (jX en67 rfl (fun w _=>rJoint _ _ _ _ _ _ _ _ _ _ _ _ _ _ w)) rfl rfl rfl ?_; intro r32 hr32;refine doG_alloc ze68 rfl rfl rfl rfl ?_;refine zQU ?_;refine tail_alloc 7 rfl ?_; intro b7_2;refine qWV ?_;refine qZK 7 ty68 rfl rfl rfl rfl rfl rfl rfl rfl ?_;refine zK ?_;refine qZ ?_;refine zJ ?_;refine zJ ?_;refine qJ ?_;refine qW (zW yHU rfl) rfl rfl rfl ?_;refine qW (yX 2 ty22 rfl rfl rfl) rfl rfl rfl ?_;refine qW (qV rfl) rfl rfl rfl ?_;refine qW (qZZ (e:=88) (kH hS) (by kernel_rfl) rfl rfl rfl hj h2) rfl rfl rfl ?_;refine qW (opV_fieldS (kH hS) hj jUJ rfl) rfl rfl rfl ?_;refine qW (opV_loadS1 k 2 (kH hS) hj ty3 rfl rfl) rfl rfl rfl ?_;refine qW (yZY rfl rfl) rfl rfl rfl ?_;refine zK ?_;refine qZ ?_;refine qKK rfl (fun hc39 => ?_) (fun hc39 => ?_)
  ·
   have hp:¬ j.parent = -1:=by simpa using hc39
   have hpl:j.parent.toNat < ps.length:=by omega
   have hpn:j.parent=((j.parent.toNat:Nat):Int):=by omega
   refine qUV 11 mo (by kernel_rfl) ?_;simp only [vYK,vYX,vYU,vYW];refine yW (qV rfl) rfl rfl rfl ?_;refine yW (zW yHU rfl) rfl rfl rfl ?_;refine yW (yX 2 ty22 rfl rfl rfl) rfl rfl rfl ?_;refine yW (qV rfl) rfl rfl rfl ?_;refine yW (qZZ (e:=88) (kH hS) (by kernel_rfl) rfl rfl rfl hj h2) rfl rfl rfl ?_;refine yW (opV_fieldS (kH hS) hj jUJ rfl) rfl rfl rfl ?_;refine yW (opV_loadS1 k 2 (kH hS) hj ty3 rfl rfl) rfl rfl rfl ?_;refine yW (qZZ (e:=68) ((zQK (id:=100) rfl).imp (fun _ h=>pl_slc hlen h)) (by kernel_rfl) rfl rfl hpn (pl_at hpl) (by omega)) rfl rfl rfl ?_;refine yW (qXU (vs:=pc (ps.getD j.parent.toNat Po.rest)) j.parent.toNat 0 ((zQK (id:=100) rfl).imp (fun _ h=>pl_slc hlen h)) (pl_at hpl) ty68 rfl rfl) rfl rfl rfl ?_;refine yW (qZQ 7 ty68 rfl rfl rfl) rfl rfl rfl ?_;refine zJV (F:=po) (jX en68 rfl (fun w _=>qCompose _ _ _ _ _ _ _ _ _ _ _ _ _ _ _ _ _ _ _ _ _ _ _ _ _ _ _ _ _ _ _ _ _ _ _ _ _ _ _ _ _ _ _ _ _ _ _ _  w)) rfl rfl rfl ?_; intro r50 hr50;refine zQU ?_;refine qWV ?_;refine qZK 7 ty68 rfl rfl rfl rfl rfl rfl rfl rfl ?_;refine zK ?_;refine qZ ?_;refine qJ ?_;refine qW (qV rfl) rfl rfl rfl ?_;refine qW (qZQ 7 ty68 rfl rfl rfl) rfl rfl rfl ?_;refine doL_bslice 53 sl69 ze68 rfl rfl rfl rfl rfl rfl rfl rfl ?_; intro b53;refine doL_append (id2:=53) 100 kKZ rfl rfl rfl rfl rfl rfl rfl (by omega) (by omega) rfl rfl ?_; intro a54 c54 R54 hR54;obtain rfl:=Option.some.inj hR54;refine qW (qH rfl) rfl rfl rfl ?_;refine zK ?_;refine kJ ?_;refine qZ ?_;refine qJ ?_;refine qW (qV rfl) rfl rfl rfl ?_;refine qW (qJG rfl rfl (yWW (by omega))) rfl rfl rfl ?_;refine qW (qH rfl) rfl rfl rfl ?_;refine zK ?_;refine zYX (k + 1,a54,c54,ps ++ [r50]) (by refine ⟨?_,?_,?_⟩ <;> dsimp only; omega; rw [zHW hjk hak,hps]; exact congrArg (fun x=>ps ++ [x]) ((if_neg hp).trans (by rw [show r50=Po.mul (ps.getD j.parent.toNat Po.rest) r32 from hr50,hr32]; try rfl)); simp [hlen]) (by show n - (k + 1) < n - k; omega) (by dsimp only; rw [plC_snoc]; rfl) ?_ ?_ rfl
   repeat' first | exact trivial | exact True.intro | refine ⟨rfl,?_⟩
  ·
   have hp:j.parent = -1:=by simpa using hc39
   refine qQJ ?_;refine qZ ?_;refine qJ ?_;refine qW (qV rfl) rfl rfl rfl ?_;refine qW (qZQ 7 ty68 rfl rfl rfl) rfl rfl rfl ?_;refine doL_bslice 53 sl69 ze68 rfl rfl rfl rfl rfl rfl rfl rfl ?_; intro b53;refine doL_append (id2:=53) 100 kKZ rfl rfl rfl rfl rfl rfl rfl (by omega) (by omega) rfl rfl ?_; intro a54 c54 R54 hR54;obtain rfl:=Option.some.inj hR54;refine qW (qH rfl) rfl rfl rfl ?_;refine zK ?_;refine kJ ?_;refine qZ ?_;refine qJ ?_;refine qW (qV rfl) rfl rfl rfl ?_;refine qW (qJG rfl rfl (yWW (by omega))) rfl rfl rfl ?_;refine qW (qH rfl) rfl rfl rfl ?_;refine zK ?_;refine zYX (k + 1,a54,c54,ps ++ [r32]) (by refine ⟨?_,?_,?_⟩ <;> dsimp only; omega; rw [zHW hjk hak,hps]; exact congrArg (fun x=>ps ++ [x]) ((if_pos hp).trans hr32.symm); simp [hlen]) (by show n - (k + 1) < n - k; omega) (by dsimp only; rw [plC_snoc]; rfl) ?_ ?_ rfl
   repeat' first | exact trivial | exact True.intro | refine ⟨rfl,?_⟩
 ·
  obtain rfl:k=n:=by have:=vJY hc20; omega
  refine yVV ?_;refine qYK ?_;refine qYK ?_;refine qVX ?_;refine qZ ?_;refine zJ ?_;refine qJ ?_;refine qW (qV rfl) rfl rfl rfl ?_;refine qW (qH rfl) rfl rfl rfl ?_;refine zK ?_;refine qZ ?_;refine uZ ?_;refine yUJ (rs:=[.tmp 4]) rfl (resC (kG rfl) (resN)) rfl ?_;intro w2 k2;obtain ⟨_,q2,q3⟩:=k2.facts _ vZQ;exact ⟨(a,cap),trivial,rfl,k2.grow,ownD a,jZU _ _ _ _ _ _ _,fun z hz=>⟨(q2 z hz).1,(q2 z hz).2.1⟩,by dsimp only; rw [hps]; exact q3⟩
end Go.Proofs.YtgmbkkkbfbocnaaGreat
namespace Go.Proofs.YtgmbkkkbfbocnaaGreat.Nf
open Go.Rx Rt Go.Sx Go.RowKit Od Na Nb Nc Nx
theorem cj_par {i:Int} {j:J} (h:cjT (fun e=>e) i j=0) : -1≤j.parent∧j.parent < i:=by
 unfold cjT at h;by_cases h1:j.kind < 0
 ·rw [vJQ h1,vYV] at h; exact absurd h (by decide)
 by_cases h2:6 < j.kind
 ·rw [vYH h1,vYG,vJQ h2,vYV] at h; exact absurd h (by decide)
 by_cases h3:j.parent < -1
 ·rw [vYH h1,vYG,vYH h2,vYG,vJQ h3,vYV] at h; exact absurd h (by decide)
 by_cases h4:i≤j.parent
 ·rw [vYH h1,vYG,vYH h2,vYG,vYH h3,vYG,vJQ h4,vYV] at h; exact absurd h (by decide)
 omega
theorem jerr_cj {js:Nat→J} {n i:Nat} (h:jErr js n i=0):cjT (fun e=>e) i (js i)=0:=by
 unfold jErr at h;cases h1:nmB (js i).name with
 | false=>rw [h1] at h; exact absurd (show (802:Int)=0 from h) (by decide)
 | true =>
  cases h2:dup js (js i).name i 0 with
  | true=>rw [h1,h2] at h; exact absurd (show (802:Int)=0 from h) (by decide)
  | false=>rw [h1,h2] at h; exact h
theorem je_all {js:Nat→J} {n:Nat}:∀ {k p:Nat},jE js n k p=0→∀ i,p≤i→i < p + k→jErr js n i=0
 | 0,p,_,i,h1,h2=>by omega
 | k + 1,p,h,i,h1,h2=>by
  unfold jE at h;by_cases hp:jErr js n p=0
  ·rw [vJQ hp,vYV] at h;rcases Nat.eq_or_lt_of_le h1 with e | e
   ·exact e ▸ hp
   ·exact je_all h i e (by omega)
  ·rw [vYH hp,vYG] at h;exact absurd h hp
theorem rerr_je {js:Nat→J} {ms:Nat→Ms} {n m:Nat} (h:rErr js ms n m=0):jE js n n 0=0:=by
 have hn:=yKQ h;unfold rErr at h;rw [vYH (show ¬ (n:Int)=0 by omega),vYH (show ¬ 10 < (n:Int) by omega),vYG,vYG] at h;by_cases hj:jE js n n 0=0
 ·exact hj
 ·rw [vYH hj,vYG] at h; exact h
theorem rerr_par {js:Nat→J} {ms:Nat→Ms} {n m:Nat} (h:rErr js ms n m=0):∀ i,i < n → -1≤(js i).parent∧(js i).parent < (i:Int):=fun i hi =>
 cj_par (jerr_cj (je_all (rerr_je h) i (Nat.zero_le _) (by omega)))
def jl (js:Nat→J) (n:Nat):List J:=(List.range n).map js
def ml (ms:Nat→Ms) (m:Nat):List Ms:=(List.range m).map ms
def bl (bx:Nat→Iv) (k:Nat):List Iv:=(List.range k).map bx
theorem jl_e (js:Nat→J) (n:Nat):(jl js n).map jp=(List.range n).map (fJ js):=by unfold jl; rw [List.map_map]; rfl
theorem ml_e (ms:Nat→Ms) (m:Nat):(ml ms m).map mp=(List.range m).map (fM ms):=by unfold ml; rw [List.map_map]; rfl
theorem bl_e (bx:Nat→Iv) (k:Nat):(bl bx k).map Rx.ivC=(List.range k).map (fB bx):=by unfold bl; rw [List.map_map]; rfl
theorem yHY (js:Nat→J) (n:Nat):(jl js n).length=n:=by simp [jl]
theorem ml_len (ms:Nat→Ms) (m:Nat):(ml ms m).length=m:=by simp [ml]
theorem jUX (bx:Nat→Iv) (k:Nat):(bl bx k).length=k:=by simp [bl]
theorem jl_at {js:Nat→J} {n i:Nat} {j:J} (h:(jl js n)[i]? = some j):i < n∧j=js i:=by
 have hl:=(List.getElem?_eq_some_iff.1 h).1;rw [yHY] at hl;unfold jl at h;rw [vZY,List.getElem?_range hl] at h;cases h;exact ⟨hl,rfl⟩
theorem rob_lf {js:Nat→J} {ms:Nat→Ms} {n m:Nat} {F:Nat→Prop} {w:World} {v:Value} (hF:∀ k,F k→k < w.heap.size) (h:RP F w (.a [.lf n (fJ js),.lf m (fM ms)]) v):∃ aj cj am cm,v=.agg #[.slice aj n cj,.slice am m cm]∧qUQ 12 aj ((jl js n).map jc) w∧qUQ 5 am ((ml ms m).map mc) w:=by
 obtain ⟨vs,rfl,ha⟩:=rp_parts h;obtain ⟨v1,vs,rfl,h1,ha⟩:=qVV ha;obtain ⟨v2,vs,rfl,h2,ha⟩:=qVV ha;obtain rfl:=yVH ha;obtain ⟨aj,cj,rfl,_,hj⟩:=yUQ (sz:=12) (g:=jc) (fun _=>rfl) (fun _=>rfl) (yHY js n) hF (zZV (jl_e js n) h1);obtain ⟨am,cm,rfl,_,hm⟩:=yUQ (sz:=5) (g:=mc) (fun _=>rfl) (fun _=>rfl) (ml_len ms m) hF (zZV (ml_e ms m) h2);exact ⟨aj,cj,am,cm,rfl,hj,hm⟩
theorem box_lf {bx:Nat→Iv} {k:Nat} {F:Nat→Prop} {w:World} {v:Value} (hF:∀ k,F k→k < w.heap.size) (h:RP F w (.lf k (fB bx)) v):∃ a c,v=.slice a k c∧qUQ 2 a ((bl bx k).map ivc) w:=by
 obtain ⟨a,c,rfl,_,hS⟩:=yUQ (sz:=2) (g:=ivc) (fun _=>rfl) (fun _=>rfl) (jUX bx k) hF (zZV (bl_e bx k) h);exact ⟨a,c,rfl,hS⟩
def LK (js:Nat→J) (bx:Nat→Iv) (n:Nat):List Po:=lks (jl js n) (bl bx n) n
def LP (js:Nat→J) (bx:Nat→Iv) (n:Nat):Nat→Po:=fun i=>(LK js bx n).getD i Po.rest
def fP (P:Nat→Po):Nat→List PV:=fun v=>Rx.poC (P v)
theorem jHV (js:Nat→J) (bx:Nat→Iv) (n:Nat):(LK js bx n).length=n:=lks_len _ (by rw [yHY]; exact Nat.le_refl _) (by rw [jUX]; exact Nat.le_refl _)
theorem LK_e (js:Nat→J) (bx:Nat→Iv) (n:Nat):(LK js bx n).map Rx.poC=(List.range n).map (fP (LP js bx n)):=by
 have:=rows_fn Po.rest Rx.poC (LK js bx n)
 rw [jHV] at this;exact this
theorem snd_kl (js:Nat→J) (ms:Nat→Ms) (bx:Nat→Iv) (n m:Nat) (hn:n≤1000) (hp:∀ i,i < n → -1≤(js i).parent∧(js i).parent < (i:Int)):yH Tryz.prog 86 [.a [.lf n (fJ js),.lf m (fM ms)],.lf n (fB bx)] (.v (.lf n (fP (LP js bx n)))):=by
 refine qUU (Same.lf (LK_e js bx n)) (snd_told (X:=Nat) (Φ:=fun _=>True) (V:=fun b=>.slice (some ⟨b,0,none⟩) n n) (G:=fun b=>qUQ 24 (some ⟨b,0,none⟩) ((LK js bx n).map pc)) (qU Tryz.func86 (by kernel_rfl) (by kernel_rfl)) (fun w F vals hF hal => ?_) (fun x w D F hP hG hd hF=>rp_told (g:=pc) (sz:=24) (fun _=>rfl) (fun _=>rfl) (jHV js bx n) (Nat.le_refl _) (by decide) hd hG (fun _ h=>h) hF));obtain ⟨v1,vs,rfl,h1,hal⟩:=qVV hal;obtain ⟨v2,vs,rfl,h2,hal⟩:=qVV hal;obtain rfl:=yVH hal;obtain ⟨aj,cj,am,cm,rfl,hj,hm'⟩:=rob_lf hF h1;obtain ⟨ab,cb,rfl,hS⟩:=box_lf hF h2;exact kLinks aj am ab cj m cm cb n (jl js n) (bl bx n) hn (yHY js n) (jUX bx n) (fun i j h=>by obtain ⟨hi,rfl⟩:=jl_at h; exact hp i hi) w hj hS
theorem snd_rl (js:Nat→J) (ms:Nat→Ms) (bx:Nat→Iv) (n m:Nat) (h0:rErr js ms n m=0) (hv:allV bx n=true):yH Tryz.prog 22 [.a [.lf n (fJ js),.lf m (fM ms)],.lf n (fB bx)] (.v (.lf n (fP (LP js bx n)))):=by
 have hn:=yKQ h0;have hp:=rerr_par h0;have hl:((LK js bx n).map Rx.poC).length=n:=by rw [List.length_map]; exact jHV js bx n
 refine qUU (Same.lf (LK_e js bx n)) (snd_own (e:=68) (sz:=24) (snd_toldOw (Φ:=fun _=>True) (rows:=(LK js bx n).map Rx.poC) (qU Tryz.func22 (by kernel_rfl) (by kernel_rfl)) (yVZ (fun _=>rfl) _) (by decide) (fun w F vals hF hal => ?_)));have hal0:=hal;obtain ⟨v1,vs,rfl,h1,hal⟩:=qVV hal;obtain ⟨v2,vs,rfl,h2,hal⟩:=qVV hal;obtain rfl:=yVH hal;have up:∀ w':World,Grow w w'→∀ {p:PV} {v:Value},RP F w p v→RP (fun k=>k < w'.heap.size) w' p v:=fun w' g p v h=>h.mono fun k hk=>⟨vZK (hF k hk) g.size,g.block k (hF k hk)⟩
 have hC:=fun (w':World) (g:Grow w w')=>zZG (w:=w') (jQV js ms n m) rfl (zQW (up w' g h1) yHW)
 have hB:=fun (w':World) (g:Grow w w')=>zZG (w:=w') (jQW js ms bx n m n (by omega)) rfl (zQW (up w' g h1) (zQW (up w' g h2) yHW))
 obtain ⟨aj,cj,am,cm,rfl,hj,hm'⟩:=rob_lf hF h1;obtain ⟨ab,cb,rfl,hS⟩:=box_lf hF h2;rw [h0] at hC;have hB':isB bx n n=true:=by unfold isB; rw [hv,vJQ rfl]; rfl
 rw [hB'] at hB;rw [hl,zJG (g:=pc) (fun _=>rfl)];exact rLinks aj am ab cj m cm cb n (jl js n) (bl bx n) (by omega) (yHY js n) (jUX bx n) (fun i j h=>by obtain ⟨hi,rfl⟩:=jl_at h; exact hp i hi) w hj hS hC hB
end Go.Proofs.YtgmbkkkbfbocnaaGreat.Nf
namespace Go.Proofs.YtgmbkkkbfbocnaaGreat.Ga
open Go.Rx Rt Go.Sx Go.RowKit Od Na Nb Nc Nx Nf
structure Shp where
 link:Int
 rad:Int
 np:Nat
 pts:Nat→Z3
structure Skp where
 a:Int
 b:Int
def zP (p:Z3):List PV:=[.n .i64 p.x,.n .i64 p.y,.n .i64 p.z]
def fZ (p:Nat→Z3):Nat→List PV:=fun w=>zP (p w)
def sP (s:Shp):List PV:=[.n .i64 s.link,.n .i64 s.rad,.lf s.np (fZ s.pts)]
def fS (sh:Nat→Shp):Nat→List PV:=fun v=>sP (sh v)
def fK (sk:Nat→Skp):Nat→List PV:=fun v=>[.n .i64 (sk v).a,.n .i64 (sk v).b]
def unZ (r:List PV):Z3:=match r with
 | [.n _ x,.n _ y,.n _ z]=>⟨x,y,z⟩
 | _=>⟨0,0,0⟩
def unFZ (f:Nat→List PV):Nat→Z3:=fun w=>unZ (f w)
def unS (r:List PV):Shp:=match r with
 | [.n _ l,.n _ q,.lf k f]=>⟨l,q,k,unFZ f⟩
 | _=>⟨0,0,0,fun _=>⟨0,0,0⟩⟩
def unFS (f:Nat→List PV):Nat→Shp:=fun v=>unS (f v)
def unFK (f:Nat→List PV):Nat→Skp:=fun v=>match f v with
 | [.n _ a,.n _ b]=>⟨a,b⟩
 | _=>⟨0,0⟩
def unFJ (f:Nat→List PV):Nat→J:=fun v=>match f v with
 | [.s a0,.n _ a1,.n _ a2,.n _ a3,.n _ a4,.n _ a5,.n _ a6,.n _ a7,.n _ a8,.n _ a9,.n _ a10,.n _ a11]=>⟨a0,a1,a2,⟨a3,a4,a5⟩,a6,a7,a8,a9,a10,a11⟩
 | _=>⟨ByteArray.empty,0,0,⟨0,0,0⟩,0,0,0,0,0,0⟩
def unFM (f:Nat→List PV):Nat→Ms:=fun v=>match f v with
 | [.n _ a0,.n _ a1,.n _ a2,.n _ a3,.n _ a4]=>⟨a0,a1,⟨a2,a3,a4⟩⟩
 | _=>⟨0,0,⟨0,0,0⟩⟩
def isLk (n:Nat) (l:Int):Bool:=decide (-1≤l) && decide (l < (n:Int))
def zOk (k:Int) (p:Z3):Bool:=(!decide (p.x < -k) && !decide (k < p.x)) && ((!decide (p.y < -k) && !decide (k < p.y)) && (!decide (p.z < -k) && !decide (k < p.z)))
noncomputable def orilp (js:Nat→J) (ms:Nat→Ms) (sh:Nat→Shp) (sk:Nat→Skp) (n m c d:Nat) (l:Int):OrS:=orS [] []
noncomputable def kYQ (js:Nat→J) (ms:Nat→Ms) (sh:Nat→Shp) (sk:Nat→Skp) (n m c d:Nat) (l:Int):List (List Nat × kV):=[]
set_option maxRecDepth 100000 in
theorem pxilp (js:Nat→J) (ms:Nat→Ms) (sh:Nat→Shp) (sk:Nat→Skp) (n m c d:Nat) (l:Int):qWH Tf (orilp js ms sh sk n m c d l) (qX (kYQ js ms sh sk n m c d l)) 60 98 [.a [.lf n (fJ js),.lf m (fM ms),.lf c (fS sh),.lf d (fK sk)],.n .i64 l] =
 (bif (decide ((-1)≤l)) then (bif (decide (l < (n:Int))) then some (.v (.b true),[])
 else some (.v (.b false),[]))
 else some (.v (.b false),[])):=by kernel_rfl
theorem snd_ilp (js:Nat→J) (ms:Nat→Ms) (sh:Nat→Shp) (sk:Nat→Skp) (n m c d:Nat) (l:Int):yH Tryz.prog 98 [.a [.lf n (fJ js),.lf m (fM ms),.lf c (fS sh),.lf d (fK sk)],.n .i64 l] (.v (.b (isLk n l))):=by
 refine yU (N:=60) (LO:=qX (kYQ js ms sh sk n m c d l)) qQV yJ (qQH (l:=[]) (m:=[]) trivial trivial) (fun p S hp => ?_) ?_
 ·refine yY (L:=qQ Tf 98) (l:=(kYQ js ms sh sk n m c d l)) (show AllP _ (kYQ js ms sh sk n m c d l) from trivial) p S hp
 ·refine (pxilp js ms sh sk n m c d l).trans ?_;unfold isLk;cases decide (-1≤l) <;> cases decide (l < (n:Int)) <;> rfl
def cil:(Nat→J) × (Nat→Ms) × (Nat→Shp) × (Nat→Skp) × Nat × Nat × Nat × Nat × Int→Prop:=fun t=>match t with | (js,ms,sh,sk,n,m,c,d,l)=>True
def eil:(Nat→J) × (Nat→Ms) × (Nat→Shp) × (Nat→Skp) × Nat × Nat × Nat × Nat × Int→List PV:=fun t=>match t with | (js,ms,sh,sk,n,m,c,d,l)=>[.a [.lf n (fJ js),.lf m (fM ms),.lf c (fS sh),.lf d (fK sk)],.n .i64 l]
noncomputable def ril:(Nat→J) × (Nat→Ms) × (Nat→Shp) × (Nat→Skp) × Nat × Nat × Nat × Nat × Int→Ret:=fun t=>match t with | (js,ms,sh,sk,n,m,c,d,l)=>.v (.b (isLk n l))
def dil:List PV→(Nat→J) × (Nat→Ms) × (Nat→Shp) × (Nat→Skp) × Nat × Nat × Nat × Nat × Int:=fun ps=>match ps with
 | [.a [.lf n js,.lf m ms,.lf c sh,.lf d sk],.n _ l]=>(unFJ js,unFM ms,unFS sh,unFK sk,n,m,c,d,l)
 | _=>(fun _=>⟨ByteArray.empty,0,0,⟨0,0,0⟩,0,0,0,0,0,0⟩,fun _=>⟨0,0,⟨0,0,0⟩⟩,fun _=>⟨0,0,0,fun _=>⟨0,0,0⟩⟩,fun _=>⟨0,0⟩,0,0,0,0,0)
noncomputable def o_il:List PV→Option (Bool × Ret):=o_fm dil cil eil ril
theorem ok_il:zX Tryz.prog 98 o_il:=zGW fun t h=>by
 obtain ⟨js,ms,sh,sk,n,m,c,d,l⟩:=t;exact snd_ilp js ms sh sk n m c d l
noncomputable def orilr (js:Nat→J) (ms:Nat→Ms) (n m:Nat) (l:Int):OrS:=orS [] []
noncomputable def kZH (js:Nat→J) (ms:Nat→Ms) (n m:Nat) (l:Int):List (List Nat × kV):=[]
set_option maxRecDepth 100000 in
theorem pxilr (js:Nat→J) (ms:Nat→Ms) (n m:Nat) (l:Int):qWH Tf (orilr js ms n m l) (qX (kZH js ms n m l)) 60 104 [.a [.lf n (fJ js),.lf m (fM ms)],.n .i64 l] =
 (bif (decide ((-1)≤l)) then (bif (decide (l < (n:Int))) then some (.v (.b true),[])
 else some (.v (.b false),[]))
 else some (.v (.b false),[])):=by kernel_rfl
theorem snd_ilr (js:Nat→J) (ms:Nat→Ms) (n m:Nat) (l:Int):yH Tryz.prog 104 [.a [.lf n (fJ js),.lf m (fM ms)],.n .i64 l] (.v (.b (isLk n l))):=by
 refine yU (N:=60) (LO:=qX (kZH js ms n m l)) qQV yJ (qQH (l:=[]) (m:=[]) trivial trivial) (fun p S hp => ?_) ?_
 ·refine yY (L:=qQ Tf 104) (l:=(kZH js ms n m l)) (show AllP _ (kZH js ms n m l) from trivial) p S hp
 ·refine (pxilr js ms n m l).trans ?_;unfold isLk;cases decide (-1≤l) <;> cases decide (l < (n:Int)) <;> rfl
def cir:(Nat→J) × (Nat→Ms) × Nat × Nat × Int→Prop:=fun t=>match t with | (js,ms,n,m,l)=>True
def eir:(Nat→J) × (Nat→Ms) × Nat × Nat × Int→List PV:=fun t=>match t with | (js,ms,n,m,l)=>[.a [.lf n (fJ js),.lf m (fM ms)],.n .i64 l]
noncomputable def rir:(Nat→J) × (Nat→Ms) × Nat × Nat × Int→Ret:=fun t=>match t with | (js,ms,n,m,l)=>.v (.b (isLk n l))
def dir:List PV→(Nat→J) × (Nat→Ms) × Nat × Nat × Int:=fun ps=>match ps with
 | [.a [.lf n js,.lf m ms],.n _ l]=>(unFJ js,unFM ms,n,m,l)
 | _=>(fun _=>⟨ByteArray.empty,0,0,⟨0,0,0⟩,0,0,0,0,0,0⟩,fun _=>⟨0,0,⟨0,0,0⟩⟩,0,0,0)
noncomputable def o_ir:List PV→Option (Bool × Ret):=o_fm dir cir eir rir
theorem ok_ir:zX Tryz.prog 104 o_ir:=zGW fun t h=>by
 obtain ⟨js,ms,n,m,l⟩:=t;exact snd_ilr js ms n m l
noncomputable def orbt (x lo hi:Int):OrS:=orS [] []
noncomputable def lsbt (x lo hi:Int):List (List Nat × kV):=[]
set_option maxRecDepth 100000 in
theorem pxbt (x lo hi:Int):qWH Tf (orbt x lo hi) (qX (lsbt x lo hi)) 60 105 [.n .i64 x,.n .i64 lo,.n .i64 hi] =
 (bif (decide (lo≤x)) then (bif (decide (x≤hi)) then some (.v (.b true),[])
 else some (.v (.b false),[]))
 else some (.v (.b false),[])):=by kernel_rfl
theorem snd_bt (x lo hi:Int):yH Tryz.prog 105 [.n .i64 x,.n .i64 lo,.n .i64 hi] (.v (.b (decide (lo≤x) && decide (x≤hi)))):=by
 refine yU (N:=60) (LO:=qX (lsbt x lo hi)) qQV yJ (qQH (l:=[]) (m:=[]) trivial trivial) (fun p S hp => ?_) ?_
 ·refine yY (L:=qQ Tf 105) (l:=(lsbt x lo hi)) (show AllP _ (lsbt x lo hi) from trivial) p S hp
 ·refine (pxbt x lo hi).trans ?_;cases decide (lo≤x) <;> cases decide (x≤hi) <;> rfl
def cbt:Int × Int × Int→Prop:=fun t=>match t with | (x,lo,hi)=>True
def ebt:Int × Int × Int→List PV:=fun t=>match t with | (x,lo,hi)=>[.n .i64 x,.n .i64 lo,.n .i64 hi]
noncomputable def rbt:Int × Int × Int→Ret:=fun t=>match t with | (x,lo,hi)=>.v (.b (decide (lo≤x) && decide (x≤hi)))
def dbt:List PV→Int × Int × Int:=fun ps=>match ps with
 | [.n _ x,.n _ lo,.n _ hi]=>(x,lo,hi)
 | _=>(0,0,0)
noncomputable def o_bt:List PV→Option (Bool × Ret):=o_fm dbt cbt ebt rbt
theorem ok_bt:zX Tryz.prog 105 o_bt:=zGW fun t h=>by
 obtain ⟨x,lo,hi⟩:=t;exact snd_bt x lo hi
noncomputable def ornr (z:Z3):OrS:=orS [] []
noncomputable def lsnr (z:Z3):List (List Nat × kV):=[]
set_option maxRecDepth 100000 in
theorem pxnr (z:Z3):qWH Tf (ornr z) (qX (lsnr z)) 60 57 [.a [.n .i64 z.x,.n .i64 z.y,.n .i64 z.z],.n .i64 4194304] =
 (bif (decide (z.x < (-4194304))) then some (.v (.b false),[])
 else (bif (decide (4194304 < z.x)) then some (.v (.b false),[])
 else (bif (decide (z.y < (-4194304))) then some (.v (.b false),[])
 else (bif (decide (4194304 < z.y)) then some (.v (.b false),[])
 else (bif (decide (z.z < (-4194304))) then some (.v (.b false),[])
 else (bif (decide (4194304 < z.z)) then some (.v (.b false),[])
 else some (.v (.b true),[]))))))):=by kernel_rfl
theorem snd_nr (z:Z3):yH Tryz.prog 57 [.a [.n .i64 z.x,.n .i64 z.y,.n .i64 z.z],.n .i64 4194304] (.v (.b (zOk 4194304 z))):=by
 refine yU (N:=60) (LO:=qX (lsnr z)) qQV yJ (qQH (l:=[]) (m:=[]) trivial trivial) (fun p S hp => ?_) ?_
 ·refine yY (L:=qQ Tf 57) (l:=(lsnr z)) (show AllP _ (lsnr z) from trivial) p S hp
 ·refine (pxnr z).trans ?_;unfold zOk;cases decide (z.x < -4194304) <;> cases decide (4194304 < z.x) <;> cases decide (z.y < -4194304) <;> cases decide (4194304 < z.y) <;> cases decide (z.z < -4194304) <;> cases decide (4194304 < z.z) <;> rfl
def cnr:Z3→Prop:=fun t=>match t with | z=>True
def enr:Z3→List PV:=fun t=>match t with | z=>[.a (zP z),.n .i64 4194304]
noncomputable def rnr:Z3→Ret:=fun t=>match t with | z=>.v (.b (zOk 4194304 z))
def dnr:List PV→Z3:=fun ps=>match ps with
 | [.a r,.n _ _]=>(unZ r)
 | _=>⟨0,0,0⟩
noncomputable def o_nr:List PV→Option (Bool × Ret):=o_fm dnr cnr enr rnr
theorem ok_nr:zX Tryz.prog 57 o_nr:=zGW fun t h=>by
 revert h; revert t; intro z h
 exact snd_nr z
end Go.Proofs.YtgmbkkkbfbocnaaGreat.Ga

/- Part 15 of the texts behind the last one: rules and contracts. No condition. -/
import Derived.Test.YtgmbkkkbfbocnaaGreatGM14
open List renaming getElem?_eq_getElem → vQK, mem_cons_self → vZQ, getElem?_map → vZY, getD_eq_getElem?_getD → vZG, take_succ_cons → vYK, drop_succ_cons → vYU, take_zero → vYX, drop_zero → vYW
open Nat renaming lt_of_lt_of_le → vZK
open Go.IntKind renaming wrap → vJJ
namespace Go.Proofs.YtgmbkkkbfbocnaaGreat
open Go.Sx
theorem en65:uW Tryz.prog 65:=qW Tryz.func65 (by kernel_rfl) (by kernel_rfl)
theorem en66:uW Tryz.prog 66:=qW Tryz.func66 (by kernel_rfl) (by kernel_rfl)
theorem sl30:slcB Tryz.prog 30 62 2=true:=by kernel_rfl
theorem en67:uW Tryz.prog 67:=qW Tryz.func67 (by kernel_rfl) (by kernel_rfl)
theorem sl69:slcB Tryz.prog 69 68 24=true:=by kernel_rfl
def plC (ps:List Po):List Value:=(ps.map pc).flatten
theorem plC_snoc (ps:List Po) (p:Po):plC (ps ++ [p])=plC ps ++ pc p:=by simp [plC]
theorem pl_slc {m e cap k:Nat} {a:Option Addr} {ps:List Po} {w:World} (hl:ps.length=k) (h:OwnF m e 24 a cap k (plC ps) w):qUH 24 a (ps.map pc) w :=
 yVZ (rows:=ps.map pc) (fun r hr=>by obtain ⟨p,_,rfl⟩:=List.mem_map.1 hr; rfl) (by rw [List.length_map,hl]; exact h)
theorem pl_at {ps:List Po} {i:Nat} (h:i < ps.length):(ps.map pc)[i]? = some (pc (ps.getD i Po.rest)):=by
 rw [vZY];simp [vZG,h]
theorem rLinks  (aj am ab:Option Addr) (cj nm cm cb n:Nat) (js:List J) (bx:List Iv) (hn:n≤1000) (hjn:js.length=n) (hbn:bx.length=n) (hpar:∀ (k:Nat) (j:J),js[k]? = some j → -1≤j.parent∧j.parent < k) (w:World) (hS:qUH 12 aj (js.map jc) w) (hT:qUH 2 ab (bx.map ivc) w) (hC:∀ w':World,Grow w w'→Calls Tryz.prog 65 [.agg #[.slice aj n cj,.slice am nm cm]].toArray w' (Rets (vI (0:Int)) w')) (hB:∀ w':World,Grow w w'→Calls Tryz.prog 66 [.agg #[.slice aj n cj,.slice am nm cm],.slice ab n cb].toArray w' (Rets (vB true) w')):Calls Tryz.prog 22 [.agg #[.slice aj n cj,.slice am nm cm],.slice ab n cb].toArray w (kWW (X:=Option Addr × Nat) (fun _=>True) (fun x=>.slice x.1 n x.2) (fun x=>OwnF 0 68 24 x.1 x.2 n (plC (lks js bx n))) w):=by
 refine jV (n:=56) Tryz.func22 rfl rfl rfl ?_;refine zK ?_;refine qU ?_;refine zYK 2 rfl rfl rfl rfl ?_; intro b2;refine qG (zY rfl) rfl rfl rfl ?_;refine zX ?_;refine qK ?_;refine zK ?_;refine zK ?_;refine qU ?_;refine qG (qJJ 2 ty25 rfl rfl rfl) rfl rfl rfl ?_;refine qWG (F:=vI) (uJ en65 rfl (fun w' k=>hC w' k.grow)) rfl rfl rfl ?_; intro r9 hr9;refine qG (yJK rfl rfl) rfl rfl rfl ?_;refine qG (qV rfl) rfl rfl rfl ?_;refine doL_false 11 rfl (by rw [hr9]; rfl) ?_;refine qG (qJJ 2 ty25 rfl rfl rfl) rfl rfl rfl ?_;refine qG (qV rfl) rfl rfl rfl ?_;refine qWG (F:=vB) (uJ en66 rfl (fun w' k=>hB w' k.grow)) rfl rfl rfl ?_; intro r14 hr14;refine qG (yJJ rfl) rfl rfl rfl ?_;refine qG (zVU rfl rfl rfl rfl) rfl rfl rfl ?_;refine zX ?_;refine qK ?_;refine zJU rfl (by rw [hr14]; rfl) ?_;refine qZV ?_;refine qK ?_;refine zK ?_;refine qU ?_;refine qG (zY rfl) rfl rfl rfl ?_;refine zX ?_;refine qK ?_;refine zK ?_;refine zK ?_;refine doC_own 100 68 24 ?_;refine qU ?_;refine qG (zY rfl) rfl rfl rfl ?_;refine zX ?_;refine qK ?_;refine qXJ ?_;refine doC_loopK [1,2] [2] (α:=Nat × Option Addr × Nat × List Po) (fun x=>n - x.1) (fun x=>x.1≤n∧lks js bx x.1=x.2.2.2∧x.2.2.2.length=x.1) (fun x=>⟨w,[(100,ownD x.2.1,OwnF 0 68 24 x.2.1 x.2.2.1 x.1 (plC x.2.2.2))]⟩) (fun x=>[(5,.slice x.2.1 x.1 x.2.2.1),(6,.int .i64 (x.1:Int))]) (fun _=>[]) (0,none,0,[]) rfl rfl ?_ ?_ ?_ ?_ rfl ?_
 ·
  exact ⟨Nat.zero_le _,rfl,rfl⟩
 ·
  exact rfl
 ·
  repeat' first | exact trivial | exact True.intro | refine ⟨rfl,?_⟩
 ·
  repeat' first | exact trivial | exact True.intro | refine ⟨rfl,?_⟩
 rintro ⟨k,a,cap,ps⟩ ⟨hk,hps,hlen⟩
 dsimp only at hk hps hlen ⊢;refine zK ?_;refine zK ?_;refine qU ?_;refine qG (qV rfl) rfl rfl rfl ?_;refine qG (qV rfl) rfl rfl rfl ?_;refine qG (zQJ sl30 rfl) rfl rfl rfl ?_;refine qG (qWX rfl rfl) rfl rfl rfl ?_;refine zX ?_;refine qK ?_;refine qUJ rfl (fun hc20 => ?_) (fun hc20 => ?_)
 ·
  have h2:k < n:=by have:=vJZ hc20; omega
  obtain ⟨j,hjk⟩:∃ j,js[k]? = some j:=⟨_,vQK (by omega)⟩
  obtain ⟨b,hak⟩:∃ b,bx[k]? = some b:=⟨_,vQK (by omega)⟩
  have hj:(js.map jc)[k]? = some (jc j):=by rw [vZY,hjk]; rfl
  have hbk:(bx.map ivc)[k]? = some (ivc b):=by rw [vZY,hak]; rfl
  have hpj:=hpar _ j hjk;refine qZV ?_;refine qK ?_;refine zK ?_;refine qXJ ?_;refine zK ?_;refine qWZ 11 mo (by kernel_rfl) ?_;simp only [vYK,vYX,vYU,vYW];refine jX (zH jYZ rfl) rfl rfl rfl ?_;refine jX (jZ 2 ty22 rfl rfl rfl) rfl rfl rfl ?_;refine jX (qV rfl) rfl rfl rfl ?_;refine jX (qYU (e:=88) (qQQ hS) (by kernel_rfl) rfl rfl rfl hj h2) rfl rfl rfl ?_;refine jX (qXX (vs:=[.string j.name,.int .i64 j.kind,.int .i64 j.parent,.int .i64 j.off.x,.int .i64 j.off.y,.int .i64 j.off.z,.int .i64 j.lo,.int .i64 j.hi,.int .i64 j.weight,.int .i64 j.speed,.int .i64 j.accel,.int .i64 j.torque]) k 0 (qQQ hS) hj ty88 rfl rfl) rfl rfl rfl ?_;refine jX (qV rfl) rfl rfl rfl ?_;refine jX (qV rfl) rfl rfl rfl ?_;refine jX (qYU (e:=62) (qQQ hT) (by kernel_rfl) rfl rfl rfl hbk h2) rfl rfl rfl ?_;refine jX (qXX (vs:=[.int .i64 b.lo,.int .i64 b.hi]) k 0 (qQQ hT) hbk ty62 rfl rfl) rfl rfl rfl ?_;refine yKH (F:=po) (uJ en67 rfl (fun w _=>rJoint _ _ _ _ _ _ _ _ _ _ _ _ _ _ w)) rfl rfl rfl ?_; intro r32 hr32;refine doG_alloc ze68 rfl rfl rfl rfl ?_;refine zYU ?_;refine tail_alloc 7 rfl ?_; intro b7_2;refine qGU ?_;refine qJK 7 ty68 rfl rfl rfl rfl rfl rfl rfl rfl ?_;refine zX ?_;refine qK ?_;refine zK ?_;refine zK ?_;refine qU ?_;refine qG (zH jYZ rfl) rfl rfl rfl ?_;refine qG (jZ 2 ty22 rfl rfl rfl) rfl rfl rfl ?_;refine qG (qV rfl) rfl rfl rfl ?_;refine qG (qYU (e:=88) (qQQ hS) (by kernel_rfl) rfl rfl rfl hj h2) rfl rfl rfl ?_;refine qG (opV_fieldS (qQQ hS) hj jVK rfl) rfl rfl rfl ?_;refine qG (opV_loadS1 k 2 (qQQ hS) hj ty3 rfl rfl) rfl rfl rfl ?_;refine qG (yJK rfl rfl) rfl rfl rfl ?_;refine zX ?_;refine qK ?_;refine qUJ rfl (fun hc39 => ?_) (fun hc39 => ?_)
  ·
   have hp:¬ j.parent = -1:=by simpa using hc39
   have hpl:j.parent.toNat < ps.length:=by omega
   have hpn:j.parent=((j.parent.toNat:Nat):Int):=by omega
   refine qWZ 11 mo (by kernel_rfl) ?_;simp only [vYK,vYX,vYU,vYW];refine jX (qV rfl) rfl rfl rfl ?_;refine jX (zH jYZ rfl) rfl rfl rfl ?_;refine jX (jZ 2 ty22 rfl rfl rfl) rfl rfl rfl ?_;refine jX (qV rfl) rfl rfl rfl ?_;refine jX (qYU (e:=88) (qQQ hS) (by kernel_rfl) rfl rfl rfl hj h2) rfl rfl rfl ?_;refine jX (opV_fieldS (qQQ hS) hj jVK rfl) rfl rfl rfl ?_;refine jX (opV_loadS1 k 2 (qQQ hS) hj ty3 rfl rfl) rfl rfl rfl ?_;refine jX (qYU (e:=68) ((zQG (id:=100) rfl).imp (fun _ h=>pl_slc hlen h)) (by kernel_rfl) rfl rfl hpn (pl_at hpl) (by omega)) rfl rfl rfl ?_;refine jX (qXX (vs:=pc (ps.getD j.parent.toNat Po.rest)) j.parent.toNat 0 ((zQG (id:=100) rfl).imp (fun _ h=>pl_slc hlen h)) (pl_at hpl) ty68 rfl rfl) rfl rfl rfl ?_;refine jX (qJJ 7 ty68 rfl rfl rfl) rfl rfl rfl ?_;refine yKH (F:=po) (uJ en68 rfl (fun w _=>qCompose _ _ _ _ _ _ _ _ _ _ _ _ _ _ _ _ _ _ _ _ _ _ _ _ _ _ _ _ _ _ _ _ _ _ _ _ _ _ _ _ _ _ _ _ _ _ _ _  w)) rfl rfl rfl ?_; intro r50 hr50;refine zYU ?_;refine qGU ?_;refine qJK 7 ty68 rfl rfl rfl rfl rfl rfl rfl rfl ?_;refine zX ?_;refine qK ?_;refine qU ?_;refine qG (qV rfl) rfl rfl rfl ?_;refine qG (qJJ 7 ty68 rfl rfl rfl) rfl rfl rfl ?_;refine doL_bslice 53 sl69 ze68 rfl rfl rfl rfl rfl rfl rfl rfl ?_; intro b53;refine doL_append (id2:=53) 100 kGX rfl rfl rfl rfl rfl rfl rfl (by omega) (by omega) rfl rfl ?_; intro a54 c54 R54 hR54;obtain rfl:=Option.some.inj hR54;refine qG (zY rfl) rfl rfl rfl ?_;refine zX ?_;refine uZ ?_;refine qK ?_;refine qU ?_;refine qG (qV rfl) rfl rfl rfl ?_;refine qG (qKG rfl rfl (yGH (by omega))) rfl rfl rfl ?_;refine qG (zY rfl) rfl rfl rfl ?_;refine zX ?_;refine zYG (k + 1,a54,c54,ps ++ [r50]) (by refine ⟨?_,?_,?_⟩ <;> dsimp only; omega; rw [yZU hjk hak,hps]; exact congrArg (fun x=>ps ++ [x]) ((if_neg hp).trans (by rw [show r50=Po.mul (ps.getD j.parent.toNat Po.rest) r32 from hr50,hr32]; try rfl)); simp [hlen]) (by show n - (k + 1) < n - k; omega) (by dsimp only; rw [plC_snoc]; rfl) ?_ ?_ rfl
   repeat' first | exact trivial | exact True.intro | refine ⟨rfl,?_⟩
  ·
   have hp:j.parent = -1:=by simpa using hc39
   refine qZV ?_;refine qK ?_;refine qU ?_;refine qG (qV rfl) rfl rfl rfl ?_;refine qG (qJJ 7 ty68 rfl rfl rfl) rfl rfl rfl ?_;refine doL_bslice 53 sl69 ze68 rfl rfl rfl rfl rfl rfl rfl rfl ?_; intro b53;refine doL_append (id2:=53) 100 kGX rfl rfl rfl rfl rfl rfl rfl (by omega) (by omega) rfl rfl ?_; intro a54 c54 R54 hR54;obtain rfl:=Option.some.inj hR54;refine qG (zY rfl) rfl rfl rfl ?_;refine zX ?_;refine uZ ?_;refine qK ?_;refine qU ?_;refine qG (qV rfl) rfl rfl rfl ?_;refine qG (qKG rfl rfl (yGH (by omega))) rfl rfl rfl ?_;refine qG (zY rfl) rfl rfl rfl ?_;refine zX ?_;refine zYG (k + 1,a54,c54,ps ++ [r32]) (by refine ⟨?_,?_,?_⟩ <;> dsimp only; omega; rw [yZU hjk hak,hps]; exact congrArg (fun x=>ps ++ [x]) ((if_pos hp).trans hr32.symm); simp [hlen]) (by show n - (k + 1) < n - k; omega) (by dsimp only; rw [plC_snoc]; rfl) ?_ ?_ rfl
   repeat' first | exact trivial | exact True.intro | refine ⟨rfl,?_⟩
 ·
  obtain rfl:k=n:=by have:=vJY hc20; omega
  refine jQY ?_;refine qJW ?_;refine qJW ?_;refine qVV ?_;refine qK ?_;refine zK ?_;refine qU ?_;refine qG (qV rfl) rfl rfl rfl ?_;refine qG (zY rfl) rfl rfl rfl ?_;refine zX ?_;refine qK ?_;refine qQJ ?_;refine yVQ (rs:=[.tmp 4]) rfl (resC (qQY rfl) (resN)) rfl ?_;intro w2 k2;obtain ⟨_,q2,q3⟩:=k2.facts _ vZQ;exact ⟨(a,cap),trivial,rfl,k2.grow,ownD a,jJH _ _ _ _ _ _ _,fun z hz=>⟨(q2 z hz).1,(q2 z hz).2.1⟩,by dsimp only; rw [hps]; exact q3⟩
end Go.Proofs.YtgmbkkkbfbocnaaGreat
namespace Go.Proofs.YtgmbkkkbfbocnaaGreat.Nf
open Go.Rx Rt Go.Sx Go.RowKit Od Na Nb Nc Nx
theorem cj_par {i:Int} {j:J} (h:cjT (fun e=>e) i j=0) : -1≤j.parent∧j.parent < i:=by
 unfold cjT at h;by_cases h1:j.kind < 0
 ·rw [vJQ h1,vYV] at h; exact absurd h (by decide)
 by_cases h2:6 < j.kind
 ·rw [vYH h1,vYG,vJQ h2,vYV] at h; exact absurd h (by decide)
 by_cases h3:j.parent < -1
 ·rw [vYH h1,vYG,vYH h2,vYG,vJQ h3,vYV] at h; exact absurd h (by decide)
 by_cases h4:i≤j.parent
 ·rw [vYH h1,vYG,vYH h2,vYG,vYH h3,vYG,vJQ h4,vYV] at h; exact absurd h (by decide)
 omega
theorem jerr_cj {js:Nat→J} {n i:Nat} (h:jErr js n i=0):cjT (fun e=>e) i (js i)=0:=by
 unfold jErr at h;cases h1:nmB (js i).name with
 | false=>rw [h1] at h; exact absurd (show (802:Int)=0 from h) (by decide)
 | true =>
  cases h2:dup js (js i).name i 0 with
  | true=>rw [h1,h2] at h; exact absurd (show (802:Int)=0 from h) (by decide)
  | false=>rw [h1,h2] at h; exact h
theorem kZV {js:Nat→J} {n:Nat}:∀ {k p:Nat},jE js n k p=0→∀ i,p≤i→i < p + k→jErr js n i=0
 | 0,p,_,i,h1,h2=>by omega
 | k + 1,p,h,i,h1,h2=>by
  unfold jE at h;by_cases hp:jErr js n p=0
  ·rw [vJQ hp,vYV] at h;rcases Nat.eq_or_lt_of_le h1 with e | e
   ·exact e ▸ hp
   ·exact kZV h i e (by omega)
  ·rw [vYH hp,vYG] at h;exact absurd h hp
theorem rerr_je {js:Nat→J} {ms:Nat→Ms} {n m:Nat} (h:rErr js ms n m=0):jE js n n 0=0:=by
 have hn:=zHX h;unfold rErr at h;rw [vYH (show ¬ (n:Int)=0 by omega),vYH (show ¬ 10 < (n:Int) by omega),vYG,vYG] at h;by_cases hj:jE js n n 0=0
 ·exact hj
 ·rw [vYH hj,vYG] at h; exact h
theorem rerr_par {js:Nat→J} {ms:Nat→Ms} {n m:Nat} (h:rErr js ms n m=0):∀ i,i < n → -1≤(js i).parent∧(js i).parent < (i:Int):=fun i hi =>
 cj_par (jerr_cj (kZV (rerr_je h) i (Nat.zero_le _) (by omega)))
def jl (js:Nat→J) (n:Nat):List J:=(List.range n).map js
def ml (ms:Nat→Ms) (m:Nat):List Ms:=(List.range m).map ms
def bl (bx:Nat→Iv) (k:Nat):List Iv:=(List.range k).map bx
theorem jl_e (js:Nat→J) (n:Nat):(jl js n).map jp=(List.range n).map (fJ js):=by unfold jl; rw [List.map_map]; rfl
theorem ml_e (ms:Nat→Ms) (m:Nat):(ml ms m).map mp=(List.range m).map (fM ms):=by unfold ml; rw [List.map_map]; rfl
theorem bl_e (bx:Nat→Iv) (k:Nat):(bl bx k).map Rx.ivC=(List.range k).map (fB bx):=by unfold bl; rw [List.map_map]; rfl
theorem jYQ (js:Nat→J) (n:Nat):(jl js n).length=n:=by simp [jl]
theorem ml_len (ms:Nat→Ms) (m:Nat):(ml ms m).length=m:=by simp [ml]
theorem jVW (bx:Nat→Iv) (k:Nat):(bl bx k).length=k:=by simp [bl]
theorem jl_at {js:Nat→J} {n i:Nat} {j:J} (h:(jl js n)[i]? = some j):i < n∧j=js i:=by
 have hl:=(List.getElem?_eq_some_iff.1 h).1;rw [jYQ] at hl;unfold jl at h;rw [vZY,List.getElem?_range hl] at h;cases h;exact ⟨hl,rfl⟩
theorem rob_lf {js:Nat→J} {ms:Nat→Ms} {n m:Nat} {F:Nat→Prop} {w:World} {v:Value} (hF:∀ k,F k→k < w.heap.size) (h:RP F w (.a [.lf n (fJ js),.lf m (fM ms)]) v):∃ aj cj am cm,v=.agg #[.slice aj n cj,.slice am m cm]∧qUH 12 aj ((jl js n).map jc) w∧qUH 5 am ((ml ms m).map mc) w:=by
 obtain ⟨vs,rfl,ha⟩:=rp_parts h;obtain ⟨v1,vs,rfl,h1,ha⟩:=qWY ha;obtain ⟨v2,vs,rfl,h2,ha⟩:=qWY ha;obtain rfl:=yZH ha;obtain ⟨aj,cj,rfl,_,hj⟩:=yWW (sz:=12) (g:=jc) (fun _=>rfl) (fun _=>rfl) (jYQ js n) hF (zVY (jl_e js n) h1);obtain ⟨am,cm,rfl,_,hm⟩:=yWW (sz:=5) (g:=mc) (fun _=>rfl) (fun _=>rfl) (ml_len ms m) hF (zVY (ml_e ms m) h2);exact ⟨aj,cj,am,cm,rfl,hj,hm⟩
theorem box_lf {bx:Nat→Iv} {k:Nat} {F:Nat→Prop} {w:World} {v:Value} (hF:∀ k,F k→k < w.heap.size) (h:RP F w (.lf k (fB bx)) v):∃ a c,v=.slice a k c∧qUH 2 a ((bl bx k).map ivc) w:=by
 obtain ⟨a,c,rfl,_,hS⟩:=yWW (sz:=2) (g:=ivc) (fun _=>rfl) (fun _=>rfl) (jVW bx k) hF (zVY (bl_e bx k) h);exact ⟨a,c,rfl,hS⟩
def LK (js:Nat→J) (bx:Nat→Iv) (n:Nat):List Po:=lks (jl js n) (bl bx n) n
def LP (js:Nat→J) (bx:Nat→Iv) (n:Nat):Nat→Po:=fun i=>(LK js bx n).getD i Po.rest
def fP (P:Nat→Po):Nat→List PV:=fun v=>Rx.poC (P v)
theorem kJZ (js:Nat→J) (bx:Nat→Iv) (n:Nat):(LK js bx n).length=n:=lks_len _ (by rw [jYQ]; exact Nat.le_refl _) (by rw [jVW]; exact Nat.le_refl _)
theorem LK_e (js:Nat→J) (bx:Nat→Iv) (n:Nat):(LK js bx n).map Rx.poC=(List.range n).map (fP (LP js bx n)):=by
 have:=rows_fn Po.rest Rx.poC (LK js bx n)
 rw [kJZ] at this;exact this
theorem snd_kl (js:Nat→J) (ms:Nat→Ms) (bx:Nat→Iv) (n m:Nat) (hn:n≤1000) (hp:∀ i,i < n → -1≤(js i).parent∧(js i).parent < (i:Int)):yK Tryz.prog 86 [.a [.lf n (fJ js),.lf m (fM ms)],.lf n (fB bx)] (.v (.lf n (fP (LP js bx n)))):=by
 refine qZZ (Same.lf (LK_e js bx n)) (snd_told (X:=Nat) (Φ:=fun _=>True) (V:=fun b=>.slice (some ⟨b,0,none⟩) n n) (G:=fun b=>qUH 24 (some ⟨b,0,none⟩) ((LK js bx n).map pc)) (qW Tryz.func86 (by kernel_rfl) (by kernel_rfl)) (fun w F vals hF hal => ?_) (fun x w D F hP hG hd hF=>rp_told (g:=pc) (sz:=24) (fun _=>rfl) (fun _=>rfl) (kJZ js bx n) (Nat.le_refl _) (by decide) hd hG (fun _ h=>h) hF));obtain ⟨v1,vs,rfl,h1,hal⟩:=qWY hal;obtain ⟨v2,vs,rfl,h2,hal⟩:=qWY hal;obtain rfl:=yZH hal;obtain ⟨aj,cj,am,cm,rfl,hj,hm'⟩:=rob_lf hF h1;obtain ⟨ab,cb,rfl,hS⟩:=box_lf hF h2;exact kLinks aj am ab cj m cm cb n (jl js n) (bl bx n) hn (jYQ js n) (jVW bx n) (fun i j h=>by obtain ⟨hi,rfl⟩:=jl_at h; exact hp i hi) w hj hS
theorem snd_rl (js:Nat→J) (ms:Nat→Ms) (bx:Nat→Iv) (n m:Nat) (h0:rErr js ms n m=0) (hv:allV bx n=true):yK Tryz.prog 22 [.a [.lf n (fJ js),.lf m (fM ms)],.lf n (fB bx)] (.v (.lf n (fP (LP js bx n)))):=by
 have hn:=zHX h0;have hp:=rerr_par h0;have hl:((LK js bx n).map Rx.poC).length=n:=by rw [List.length_map]; exact kJZ js bx n
 refine qZZ (Same.lf (LK_e js bx n)) (jJY (e:=68) (sz:=24) (snd_toldOw (Φ:=fun _=>True) (rows:=(LK js bx n).map Rx.poC) (qW Tryz.func22 (by kernel_rfl) (by kernel_rfl)) (yHK (fun _=>rfl) _) (by decide) (fun w F vals hF hal => ?_)));have hal0:=hal;obtain ⟨v1,vs,rfl,h1,hal⟩:=qWY hal;obtain ⟨v2,vs,rfl,h2,hal⟩:=qWY hal;obtain rfl:=yZH hal;have up:∀ w':World,Grow w w'→∀ {p:PV} {v:Value},RP F w p v→RP (fun k=>k < w'.heap.size) w' p v:=fun w' g p v h=>h.mono fun k hk=>⟨vZK (hF k hk) g.size,g.block k (hF k hk)⟩
 have hC:=fun (w':World) (g:Grow w w')=>zZG (w:=w') (yWX js ms n m) rfl (qJZ (up w' g h1) zKY)
 have hB:=fun (w':World) (g:Grow w w')=>zZG (w:=w') (jJJ js ms bx n m n (by omega)) rfl (qJZ (up w' g h1) (qJZ (up w' g h2) zKY))
 obtain ⟨aj,cj,am,cm,rfl,hj,hm'⟩:=rob_lf hF h1;obtain ⟨ab,cb,rfl,hS⟩:=box_lf hF h2;rw [h0] at hC;have hB':isB bx n n=true:=by unfold isB; rw [hv,vJQ rfl]; rfl
 rw [hB'] at hB;rw [hl,zKJ (g:=pc) (fun _=>rfl)];exact rLinks aj am ab cj m cm cb n (jl js n) (bl bx n) (by omega) (jYQ js n) (jVW bx n) (fun i j h=>by obtain ⟨hi,rfl⟩:=jl_at h; exact hp i hi) w hj hS hC hB
end Go.Proofs.YtgmbkkkbfbocnaaGreat.Nf
namespace Go.Proofs.YtgmbkkkbfbocnaaGreat.Ga
open Go.Rx Rt Go.Sx Go.RowKit Od Na Nb Nc Nx Nf
structure Shp where
 link:Int
 rad:Int
 np:Nat
 pts:Nat→Z3
structure Skp where
 a:Int
 b:Int
def zP (p:Z3):List PV:=[.n .i64 p.x,.n .i64 p.y,.n .i64 p.z]
def fZ (p:Nat→Z3):Nat→List PV:=fun w=>zP (p w)
def sP (s:Shp):List PV:=[.n .i64 s.link,.n .i64 s.rad,.lf s.np (fZ s.pts)]
def fS (sh:Nat→Shp):Nat→List PV:=fun v=>sP (sh v)
def fK (sk:Nat→Skp):Nat→List PV:=fun v=>[.n .i64 (sk v).a,.n .i64 (sk v).b]
def unZ (r:List PV):Z3:=match r with
 | [.n _ x,.n _ y,.n _ z]=>⟨x,y,z⟩
 | _=>⟨0,0,0⟩
def unFZ (f:Nat→List PV):Nat→Z3:=fun w=>unZ (f w)
def unS (r:List PV):Shp:=match r with
 | [.n _ l,.n _ q,.lf k f]=>⟨l,q,k,unFZ f⟩
 | _=>⟨0,0,0,fun _=>⟨0,0,0⟩⟩
def unFS (f:Nat→List PV):Nat→Shp:=fun v=>unS (f v)
def unFK (f:Nat→List PV):Nat→Skp:=fun v=>match f v with
 | [.n _ a,.n _ b]=>⟨a,b⟩
 | _=>⟨0,0⟩
def unFJ (f:Nat→List PV):Nat→J:=fun v=>match f v with
 | [.s a0,.n _ a1,.n _ a2,.n _ a3,.n _ a4,.n _ a5,.n _ a6,.n _ a7,.n _ a8,.n _ a9,.n _ a10,.n _ a11]=>⟨a0,a1,a2,⟨a3,a4,a5⟩,a6,a7,a8,a9,a10,a11⟩
 | _=>⟨ByteArray.empty,0,0,⟨0,0,0⟩,0,0,0,0,0,0⟩
def unFM (f:Nat→List PV):Nat→Ms:=fun v=>match f v with
 | [.n _ a0,.n _ a1,.n _ a2,.n _ a3,.n _ a4]=>⟨a0,a1,⟨a2,a3,a4⟩⟩
 | _=>⟨0,0,⟨0,0,0⟩⟩
def isLk (n:Nat) (l:Int):Bool:=decide (-1≤l) && decide (l < (n:Int))
def zOk (k:Int) (p:Z3):Bool:=(!decide (p.x < -k) && !decide (k < p.x)) && ((!decide (p.y < -k) && !decide (k < p.y)) && (!decide (p.z < -k) && !decide (k < p.z)))
noncomputable def orilp (_:Nat→J) (_:Nat→Ms) (_:Nat→Shp) (_:Nat→Skp) (n m c d:Nat) (l:Int):OrS:=orS [] []
noncomputable def kXJ (_:Nat→J) (_:Nat→Ms) (_:Nat→Shp) (_:Nat→Skp) (n m c d:Nat) (l:Int):List (List Nat × jK):=[]
set_option maxRecDepth 100000 in
theorem pxilp (js:Nat→J) (ms:Nat→Ms) (sh:Nat→Shp) (sk:Nat→Skp) (n m c d:Nat) (l:Int):qQU Tf (orilp js ms sh sk n m c d l) (qZ (kXJ js ms sh sk n m c d l)) 60 98 [.a [.lf n (fJ js),.lf m (fM ms),.lf c (fS sh),.lf d (fK sk)],.n .i64 l] =
 (bif (decide ((-1)≤l)) then (bif (decide (l < (n:Int))) then some (.v (.b true),[])
 else some (.v (.b false),[]))
 else some (.v (.b false),[])):=by kernel_rfl
theorem snd_ilp (js:Nat→J) (ms:Nat→Ms) (sh:Nat→Shp) (sk:Nat→Skp) (n m c d:Nat) (l:Int):yK Tryz.prog 98 [.a [.lf n (fJ js),.lf m (fM ms),.lf c (fS sh),.lf d (fK sk)],.n .i64 l] (.v (.b (isLk n l))):=by
 refine zW (N:=60) (LO:=qZ (kXJ js ms sh sk n m c d l)) jH zG (kY (l:=[]) (m:=[]) trivial trivial) (fun p S hp => ?_) ?_
 ·refine zU (L:=qQ Tf 98) (l:=(kXJ js ms sh sk n m c d l)) (show AllP _ (kXJ js ms sh sk n m c d l) from trivial) p S hp
 ·refine (pxilp js ms sh sk n m c d l).trans ?_;unfold isLk;cases decide (-1≤l) <;> cases decide (l < (n:Int)) <;> rfl
def cil:(Nat→J) × (Nat→Ms) × (Nat→Shp) × (Nat→Skp) × Nat × Nat × Nat × Nat × Int→Prop:=fun t=>match t with | (_,_,_,_,_,_,_,_,_)=>True
def eil:(Nat→J) × (Nat→Ms) × (Nat→Shp) × (Nat→Skp) × Nat × Nat × Nat × Nat × Int→List PV:=fun t=>match t with | (js,ms,sh,sk,n,m,c,d,l)=>[.a [.lf n (fJ js),.lf m (fM ms),.lf c (fS sh),.lf d (fK sk)],.n .i64 l]
noncomputable def ril:(Nat→J) × (Nat→Ms) × (Nat→Shp) × (Nat→Skp) × Nat × Nat × Nat × Nat × Int→Ret:=fun t=>match t with | (_,_,_,_,n,_,_,_,l)=>.v (.b (isLk n l))
def dil:List PV→(Nat→J) × (Nat→Ms) × (Nat→Shp) × (Nat→Skp) × Nat × Nat × Nat × Nat × Int:=fun ps=>match ps with
 | [.a [.lf n js,.lf m ms,.lf c sh,.lf d sk],.n _ l]=>(unFJ js,unFM ms,unFS sh,unFK sk,n,m,c,d,l)
 | _=>(fun _=>⟨ByteArray.empty,0,0,⟨0,0,0⟩,0,0,0,0,0,0⟩,fun _=>⟨0,0,⟨0,0,0⟩⟩,fun _=>⟨0,0,0,fun _=>⟨0,0,0⟩⟩,fun _=>⟨0,0⟩,0,0,0,0,0)
noncomputable def o_il:List PV→Option (Bool × Ret):=o_fm dil cil eil ril
theorem ok_il:zJ Tryz.prog 98 o_il:=qQV fun t h=>by
 obtain ⟨js,ms,sh,sk,n,m,c,d,l⟩:=t;exact snd_ilp js ms sh sk n m c d l
noncomputable def orilr (_:Nat→J) (_:Nat→Ms) (n m:Nat) (l:Int):OrS:=orS [] []
noncomputable def kXY (_:Nat→J) (_:Nat→Ms) (n m:Nat) (l:Int):List (List Nat × jK):=[]
set_option maxRecDepth 100000 in
theorem pxilr (js:Nat→J) (ms:Nat→Ms) (n m:Nat) (l:Int):qQU Tf (orilr js ms n m l) (qZ (kXY js ms n m l)) 60 104 [.a [.lf n (fJ js),.lf m (fM ms)],.n .i64 l] =
 (bif (decide ((-1)≤l)) then (bif (decide (l < (n:Int))) then some (.v (.b true),[])
 else some (.v (.b false),[]))
 else some (.v (.b false),[])):=by kernel_rfl
theorem snd_ilr (js:Nat→J) (ms:Nat→Ms) (n m:Nat) (l:Int):yK Tryz.prog 104 [.a [.lf n (fJ js),.lf m (fM ms)],.n .i64 l] (.v (.b (isLk n l))):=by
 refine zW (N:=60) (LO:=qZ (kXY js ms n m l)) jH zG (kY (l:=[]) (m:=[]) trivial trivial) (fun p S hp => ?_) ?_
 ·refine zU (L:=qQ Tf 104) (l:=(kXY js ms n m l)) (show AllP _ (kXY js ms n m l) from trivial) p S hp
 ·refine (pxilr js ms n m l).trans ?_;unfold isLk;cases decide (-1≤l) <;> cases decide (l < (n:Int)) <;> rfl
def cir:(Nat→J) × (Nat→Ms) × Nat × Nat × Int→Prop:=fun t=>match t with | (_,_,_,_,_)=>True
def eir:(Nat→J) × (Nat→Ms) × Nat × Nat × Int→List PV:=fun t=>match t with | (js,ms,n,m,l)=>[.a [.lf n (fJ js),.lf m (fM ms)],.n .i64 l]
noncomputable def rir:(Nat→J) × (Nat→Ms) × Nat × Nat × Int→Ret:=fun t=>match t with | (_,_,n,_,l)=>.v (.b (isLk n l))
def dir:List PV→(Nat→J) × (Nat→Ms) × Nat × Nat × Int:=fun ps=>match ps with
 | [.a [.lf n js,.lf m ms],.n _ l]=>(unFJ js,unFM ms,n,m,l)
 | _=>(fun _=>⟨ByteArray.empty,0,0,⟨0,0,0⟩,0,0,0,0,0,0⟩,fun _=>⟨0,0,⟨0,0,0⟩⟩,0,0,0)
noncomputable def o_ir:List PV→Option (Bool × Ret):=o_fm dir cir eir rir
theorem ok_ir:zJ Tryz.prog 104 o_ir:=qQV fun t h=>by
 obtain ⟨js,ms,n,m,l⟩:=t;exact snd_ilr js ms n m l
noncomputable def orbt (x _ _:Int):OrS:=orS [] []
noncomputable def lsbt (x _ _:Int):List (List Nat × jK):=[]
set_option maxRecDepth 100000 in
theorem pxbt (x lo hi:Int):qQU Tf (orbt x lo hi) (qZ (lsbt x lo hi)) 60 105 [.n .i64 x,.n .i64 lo,.n .i64 hi] =
 (bif (decide (lo≤x)) then (bif (decide (x≤hi)) then some (.v (.b true),[])
 else some (.v (.b false),[]))
 else some (.v (.b false),[])):=by kernel_rfl
theorem snd_bt (x lo hi:Int):yK Tryz.prog 105 [.n .i64 x,.n .i64 lo,.n .i64 hi] (.v (.b (decide (lo≤x) && decide (x≤hi)))):=by
 refine zW (N:=60) (LO:=qZ (lsbt x lo hi)) jH zG (kY (l:=[]) (m:=[]) trivial trivial) (fun p S hp => ?_) ?_
 ·refine zU (L:=qQ Tf 105) (l:=(lsbt x lo hi)) (show AllP _ (lsbt x lo hi) from trivial) p S hp
 ·refine (pxbt x lo hi).trans ?_;cases decide (lo≤x) <;> cases decide (x≤hi) <;> rfl
def cbt:Int × Int × Int→Prop:=fun t=>match t with | (_,_,_)=>True
def ebt:Int × Int × Int→List PV:=fun t=>match t with | (x,lo,hi)=>[.n .i64 x,.n .i64 lo,.n .i64 hi]
noncomputable def rbt:Int × Int × Int→Ret:=fun t=>match t with | (x,lo,hi)=>.v (.b (decide (lo≤x) && decide (x≤hi)))
def dbt:List PV→Int × Int × Int:=fun ps=>match ps with
 | [.n _ x,.n _ lo,.n _ hi]=>(x,lo,hi)
 | _=>(0,0,0)
noncomputable def o_bt:List PV→Option (Bool × Ret):=o_fm dbt cbt ebt rbt
theorem ok_bt:zJ Tryz.prog 105 o_bt:=qQV fun t h=>by
 obtain ⟨x,lo,hi⟩:=t;exact snd_bt x lo hi
noncomputable def ornr (_:Z3):OrS:=orS [] []
noncomputable def lsnr (_:Z3):List (List Nat × jK):=[]
set_option maxRecDepth 100000 in
theorem pxnr (z:Z3):qQU Tf (ornr z) (qZ (lsnr z)) 60 57 [.a [.n .i64 z.x,.n .i64 z.y,.n .i64 z.z],.n .i64 4194304] =
 (bif (decide (z.x < (-4194304))) then some (.v (.b false),[])
 else (bif (decide (4194304 < z.x)) then some (.v (.b false),[])
 else (bif (decide (z.y < (-4194304))) then some (.v (.b false),[])
 else (bif (decide (4194304 < z.y)) then some (.v (.b false),[])
 else (bif (decide (z.z < (-4194304))) then some (.v (.b false),[])
 else (bif (decide (4194304 < z.z)) then some (.v (.b false),[])
 else some (.v (.b true),[]))))))):=by kernel_rfl
theorem snd_nr (z:Z3):yK Tryz.prog 57 [.a [.n .i64 z.x,.n .i64 z.y,.n .i64 z.z],.n .i64 4194304] (.v (.b (zOk 4194304 z))):=by
 refine zW (N:=60) (LO:=qZ (lsnr z)) jH zG (kY (l:=[]) (m:=[]) trivial trivial) (fun p S hp => ?_) ?_
 ·refine zU (L:=qQ Tf 57) (l:=(lsnr z)) (show AllP _ (lsnr z) from trivial) p S hp
 ·refine (pxnr z).trans ?_;unfold zOk;cases decide (z.x < -4194304) <;> cases decide (4194304 < z.x) <;> cases decide (z.y < -4194304) <;> cases decide (4194304 < z.y) <;> cases decide (z.z < -4194304) <;> cases decide (4194304 < z.z) <;> rfl
def cnr:Z3→Prop:=fun t=>match t with | _=>True
def enr:Z3→List PV:=fun t=>match t with | z=>[.a (zP z),.n .i64 4194304]
noncomputable def rnr:Z3→Ret:=fun t=>match t with | z=>.v (.b (zOk 4194304 z))
def dnr:List PV→Z3:=fun ps=>match ps with
 | [.a r,.n _ _]=>(unZ r)
 | _=>⟨0,0,0⟩
noncomputable def o_nr:List PV→Option (Bool × Ret):=o_fm dnr cnr enr rnr
theorem ok_nr:zJ Tryz.prog 57 o_nr:=qQV fun t h=>by
 revert h; revert t; intro z h
 exact snd_nr z
end Go.Proofs.YtgmbkkkbfbocnaaGreat.Ga
namespace Go.Proofs.YtgmbkkkbfbocnaaGreat.Gb
open Go.Rx Rt Go.Sx Go.RowKit Od Na Nb Nc Nx Nf Ga
def yWH (s:Shp):Bool:=allN (fun i:Nat=>zOk 4194304 (s.pts i)) s.np 0
def shE (n:Nat) (s:Shp):Int:=bif !isLk n s.link || (decide (s.rad < 1) || (decide (1048576 < s.rad) || (decide ((s.np:Int) < 1) || decide (8 < (s.np:Int))))) then 902 else bif yWH s then 0 else 805
noncomputable def orCs (_:Nat→J) (_:Nat→Ms) (_:Nat→Shp) (_:Nat→Skp) (n m c d:Nat) (s:Shp):OrS:=orS [(98,o_il)] []
noncomputable def hCs (_:Nat→J) (_:Nat→Ms) (_:Nat→Shp) (_:Nat→Skp) (n m c d:Nat) (s:Shp) (i:Int):St:=⟨[(37,.v (.lf s.np (fZ s.pts))),(38,.v (.n .i64 (s.np:Int))),(39,.v (.n .i64 i))],[]⟩
set_option maxRecDepth 100000 in
theorem rdCs (G:St→Option (Ret × Mem)) (K:Cont) (js:Nat→J) (ms:Nat→Ms) (sh:Nat→Shp) (sk:Nat→Skp) (n m c d:Nat) (s:Shp) (i:Int):kZ 60 (cxS Tf (orCs js ms sh sk n m c d s) 60 97 (ntmF Tf 97)) (evX Tf (orCs js ms sh sk n m c d s) 60 97 (ntmF Tf 97)) (qZ []) (qQ Tf 97 [0,1,0,1,1,1]) [0,1,0,1,1,1] (Tf.hint 97 (qJ (qQ Tf 97 [0,1,0,1,1,1]))) K G (hCs js ms sh sk n m c d s i) =
 (bif (decide (i < (s.np:Int))) then (bif (inB i s.np) then (bif (decide ((s.pts (i).toNat).x < (-4194304))) then (K .ret ⟨[(4,.v (.n .i64 805))],[]⟩)
 else (bif (decide (4194304 < (s.pts (i).toNat).x)) then (K .ret ⟨[(4,.v (.n .i64 805))],[]⟩)
 else (bif (decide ((s.pts (i).toNat).y < (-4194304))) then (K .ret ⟨[(4,.v (.n .i64 805))],[]⟩)
 else (bif (decide (4194304 < (s.pts (i).toNat).y)) then (K .ret ⟨[(4,.v (.n .i64 805))],[]⟩)
 else (bif (decide ((s.pts (i).toNat).z < (-4194304))) then (K .ret ⟨[(4,.v (.n .i64 805))],[]⟩)
 else (bif (decide (4194304 < (s.pts (i).toNat).z)) then (K .ret ⟨[(4,.v (.n .i64 805))],[]⟩)
 else (G (hCs js ms sh sk n m c d s (vJJ .i64 (i + 1))))))))))
 else none)
 else (K (.exit 0) ⟨[],[]⟩)):=by kernel_rfl
theorem lpCs (K:Cont) (js:Nat→J) (ms:Nat→Ms) (sh:Nat→Shp) (sk:Nat→Skp) (n m c d:Nat) (s:Shp) (_:s.np≤50):LFX 60 (cxS Tf (orCs js ms sh sk n m c d s) 60 97 (ntmF Tf 97)) (evX Tf (orCs js ms sh sk n m c d s) 60 97 (ntmF Tf 97)) (qZ []) (qQ Tf 97 [0,1,0,1,1,1]) [0,1,0,1,1,1] (Tf.hint 97 (qJ (qQ Tf 97 [0,1,0,1,1,1]))) K 60 (hCs js ms sh sk n m c d s 0)=bif (allN (fun i:Nat=>zOk 4194304 (s.pts i)) s.np 0) then (K (.exit 0) ⟨[],[]⟩) else (K .ret ⟨[(4,.v (.n .i64 805))],[]⟩):=by
 refine (uK (L:=LFX 60 (cxS Tf (orCs js ms sh sk n m c d s) 60 97 (ntmF Tf 97)) (evX Tf (orCs js ms sh sk n m c d s) 60 97 (ntmF Tf 97)) (qZ []) (qQ Tf 97 [0,1,0,1,1,1]) [0,1,0,1,1,1] (Tf.hint 97 (qJ (qQ Tf 97 [0,1,0,1,1,1]))) K) (stp:=kZ 60 (cxS Tf (orCs js ms sh sk n m c d s) 60 97 (ntmF Tf 97)) (evX Tf (orCs js ms sh sk n m c d s) 60 97 (ntmF Tf 97)) (qZ []) (qQ Tf 97 [0,1,0,1,1,1]) [0,1,0,1,1,1] (Tf.hint 97 (qJ (qQ Tf 97 [0,1,0,1,1,1]))) K) (fun _ _=>rfl) (fun (i:Nat) (_:Unit)=>hCs js ms sh sk n m c d s (i:Int)) (fun _ _=>True) (fun (i:Nat) _=>zOk 4194304 (s.pts i)) (fun _ _=>()) (c:=s.np) (fun _=>(K (.exit 0) ⟨[],[]⟩)) (fun i _=>(K .ret ⟨[(4,.v (.n .i64 805))],[]⟩)) (fun G i f hi _ => ?_) (fun _ _ _ _ _=>trivial) (fun G f _ => ?_) s.np 0 60 () (by omega) (by omega) trivial).trans ((jQ _ _ _ _ _).trans (yH _ _ _ _ _))
 ·refine (rdCs G K js ms sh sk n m c d s i).trans ?_;rw [vJQ (show (i:Int) < (s.np:Int) by omega),kW (by omega),yX (show i < s.np by omega),toN];unfold zOk;cases decide ((s.pts i).x < -4194304) <;> cases decide (4194304 < (s.pts i).x) <;> cases decide ((s.pts i).y < -4194304) <;> cases decide (4194304 < (s.pts i).y) <;> cases decide ((s.pts i).z < -4194304) <;> cases decide (4194304 < (s.pts i).z) <;> rfl
 ·refine (rdCs G K js ms sh sk n m c d s s.np).trans ?_;rw [vYH (show ¬ (s.np:Int) < (s.np:Int) by omega)];rfl
noncomputable def kXG (js:Nat→J) (ms:Nat→Ms) (sh:Nat→Shp) (sk:Nat→Skp) (n m c d:Nat) (s:Shp):List (List Nat × jK):=[([0,1,0,1,1,1],sumF (fun _:Unit=>(hCs js ms sh sk n m c d s 0)) (fun _=>()) (fun _ K=>(bif (decide (s.np≤50)) then (bif (allN (fun i:Nat=>zOk 4194304 (s.pts i)) s.np 0) then (K (.exit 0) ⟨[],[]⟩) else (K .ret ⟨[(4,.v (.n .i64 805))],[]⟩)) else none)))]
set_option maxRecDepth 100000 in
theorem pxcsh (js:Nat→J) (ms:Nat→Ms) (sh:Nat→Shp) (sk:Nat→Skp) (n m c d:Nat) (s:Shp):qQU Tf (orCs js ms sh sk n m c d s) (qZ (kXG js ms sh sk n m c d s)) 60 97 [.a [.lf n (fJ js),.lf m (fM ms),.lf c (fS sh),.lf d (fK sk)],.a (sP s)] =
 (bif (gF1 cil eil (js,ms,sh,sk,n,m,c,d,s.link)) then (bif (isLk n s.link) then (bif (decide (s.rad < 1)) then some (.v (.n .i64 902),[])
 else (bif (decide (1048576 < s.rad)) then some (.v (.n .i64 902),[])
 else (bif (decide ((s.np:Int) < 1)) then some (.v (.n .i64 902),[])
 else (bif (decide (8 < (s.np:Int))) then some (.v (.n .i64 902),[])
 else (bif (gSt (hCs js ms sh sk n m c d s 0) (hCs js ms sh sk n m c d s 0)) then (bif (decide (s.np≤50)) then (bif (allN (fun i:Nat=>zOk 4194304 (s.pts i)) s.np 0) then some (.v (.n .i64 0),[])
 else some (.v (.n .i64 805),[]))
 else none)
 else none)))))
 else some (.v (.n .i64 902),[]))
 else none):=by kernel_rfl
theorem snd_csh (js:Nat→J) (ms:Nat→Ms) (sh:Nat→Shp) (sk:Nat→Skp) (n m c d:Nat) (s:Shp):yK Tryz.prog 97 [.a [.lf n (fJ js),.lf m (fM ms),.lf c (fS sh),.lf d (fK sk)],.a (sP s)] (.v (.n .i64 (shE n s))):=by
 refine zW (N:=60) (LO:=qZ (kXG js ms sh sk n m c d s)) jH zG (kY (l:=[(98,o_il)]) (m:=[]) ⟨ok_il,trivial⟩ trivial) (fun p S hp => ?_) ?_
 ·refine zU (L:=qQ Tf 97) (l:=(kXG js ms sh sk n m c d s)) (show AllP _ (kXG js ms sh sk n m c d s) from ⟨?_,trivial⟩) p S hp
  ·dsimp only;refine kQ (T:=Tf) (o:=(orCs js ms sh sk n m c d s)) (f:=97) (LO:=qZ []) (p:=[0,1,0,1,1,1]) kJ ?_;intro t K r hr;obtain ⟨hg,hr⟩:=qY hr;have hk:=vJZ hg;exact (lpCs K js ms sh sk n m c d s hk).trans hr
 ·refine (pxcsh js ms sh sk n m c d s).trans ?_;unfold shE yWH;rw [jU (C:=cil) (t:=(js,ms,sh,sk,n,m,c,d,s.link)) trivial,yU];by_cases h:8 < (s.np:Int)
  ·rw [vJQ h];cases isLk n s.link <;> cases decide (s.rad < 1) <;> cases decide (1048576 < s.rad) <;> cases decide ((s.np:Int) < 1) <;> rfl
  ·rw [vYH h,vJQ (show s.np≤50 by omega)];cases isLk n s.link <;> cases decide (s.rad < 1) <;> cases decide (1048576 < s.rad) <;> cases decide ((s.np:Int) < 1) <;> cases allN (fun i:Nat=>zOk 4194304 (s.pts i)) s.np 0 <;> rfl
def ccs:(Nat→J) × (Nat→Ms) × (Nat→Shp) × (Nat→Skp) × Nat × Nat × Nat × Nat × Shp→Prop:=fun t=>match t with | (_,_,_,_,_,_,_,_,_)=>True
def ecs:(Nat→J) × (Nat→Ms) × (Nat→Shp) × (Nat→Skp) × Nat × Nat × Nat × Nat × Shp→List PV:=fun t=>match t with | (js,ms,sh,sk,n,m,c,d,s)=>[.a [.lf n (fJ js),.lf m (fM ms),.lf c (fS sh),.lf d (fK sk)],.a (sP s)]
noncomputable def rcs:(Nat→J) × (Nat→Ms) × (Nat→Shp) × (Nat→Skp) × Nat × Nat × Nat × Nat × Shp→Ret:=fun t=>match t with | (_,_,_,_,n,_,_,_,s)=>.v (.n .i64 (shE n s))
def dcs:List PV→(Nat→J) × (Nat→Ms) × (Nat→Shp) × (Nat→Skp) × Nat × Nat × Nat × Nat × Shp:=fun ps=>match ps with
 | [.a [.lf n js,.lf m ms,.lf c sh,.lf d sk],.a r]=>(unFJ js,unFM ms,unFS sh,unFK sk,n,m,c,d,unS r)
 | _=>(fun _=>⟨ByteArray.empty,0,0,⟨0,0,0⟩,0,0,0,0,0,0⟩,fun _=>⟨0,0,⟨0,0,0⟩⟩,fun _=>⟨0,0,0,fun _=>⟨0,0,0⟩⟩,fun _=>⟨0,0⟩,0,0,0,0,⟨0,0,0,fun _=>⟨0,0,0⟩⟩)
noncomputable def o_cs:List PV→Option (Bool × Ret):=o_fm dcs ccs ecs rcs
theorem ok_cs:zJ Tryz.prog 97 o_cs:=qQV fun t h=>by
 obtain ⟨js,ms,sh,sk,n,m,c,d,s⟩:=t;exact snd_csh js ms sh sk n m c d s
def shOk (s:Shp):Bool:=!(decide (s.rad < 1) || (decide (1048576 < s.rad) || (decide ((s.np:Int) < 1) || decide (8 < (s.np:Int))))) && yWH s
noncomputable def orPc (s:Shp):OrS:=orS [] []
noncomputable def hPc (s:Shp) (i:Int):St:=⟨[(28,.v (.lf s.np (fZ s.pts))),(29,.v (.n .i64 (s.np:Int))),(30,.v (.n .i64 i))],[]⟩
set_option maxRecDepth 100000 in
theorem rdPc (G:St→Option (Ret × Mem)) (K:Cont) (s:Shp) (i:Int):kZ 60 (cxS Tf (orPc s) 60 103 (ntmF Tf 103)) (evX Tf (orPc s) 60 103 (ntmF Tf 103)) (qZ []) (qQ Tf 103 [0,1,0,1,1]) [0,1,0,1,1] (Tf.hint 103 (qJ (qQ Tf 103 [0,1,0,1,1]))) K G (hPc s i) =
 (bif (decide (i < (s.np:Int))) then (bif (inB i s.np) then (bif (decide ((s.pts (i).toNat).x < (-4194304))) then (K .ret ⟨[(2,.v (.b false))],[]⟩)
 else (bif (decide (4194304 < (s.pts (i).toNat).x)) then (K .ret ⟨[(2,.v (.b false))],[]⟩)
 else (bif (decide ((s.pts (i).toNat).y < (-4194304))) then (K .ret ⟨[(2,.v (.b false))],[]⟩)
 else (bif (decide (4194304 < (s.pts (i).toNat).y)) then (K .ret ⟨[(2,.v (.b false))],[]⟩)
 else (bif (decide ((s.pts (i).toNat).z < (-4194304))) then (K .ret ⟨[(2,.v (.b false))],[]⟩)
 else (bif (decide (4194304 < (s.pts (i).toNat).z)) then (K .ret ⟨[(2,.v (.b false))],[]⟩)
 else (G (hPc s (vJJ .i64 (i + 1))))))))))
 else none)
 else (K (.exit 0) ⟨[],[]⟩)):=by kernel_rfl
theorem lpPc (K:Cont) (s:Shp) (_:s.np≤50):LFX 60 (cxS Tf (orPc s) 60 103 (ntmF Tf 103)) (evX Tf (orPc s) 60 103 (ntmF Tf 103)) (qZ []) (qQ Tf 103 [0,1,0,1,1]) [0,1,0,1,1] (Tf.hint 103 (qJ (qQ Tf 103 [0,1,0,1,1]))) K 60 (hPc s 0)=bif (allN (fun i:Nat=>zOk 4194304 (s.pts i)) s.np 0) then (K (.exit 0) ⟨[],[]⟩) else (K .ret ⟨[(2,.v (.b false))],[]⟩):=by
 refine (uK (L:=LFX 60 (cxS Tf (orPc s) 60 103 (ntmF Tf 103)) (evX Tf (orPc s) 60 103 (ntmF Tf 103)) (qZ []) (qQ Tf 103 [0,1,0,1,1]) [0,1,0,1,1] (Tf.hint 103 (qJ (qQ Tf 103 [0,1,0,1,1]))) K) (stp:=kZ 60 (cxS Tf (orPc s) 60 103 (ntmF Tf 103)) (evX Tf (orPc s) 60 103 (ntmF Tf 103)) (qZ []) (qQ Tf 103 [0,1,0,1,1]) [0,1,0,1,1] (Tf.hint 103 (qJ (qQ Tf 103 [0,1,0,1,1]))) K) (fun _ _=>rfl) (fun (i:Nat) (_:Unit)=>hPc s (i:Int)) (fun _ _=>True) (fun (i:Nat) _=>zOk 4194304 (s.pts i)) (fun _ _=>()) (c:=s.np) (fun _=>(K (.exit 0) ⟨[],[]⟩)) (fun i _=>(K .ret ⟨[(2,.v (.b false))],[]⟩)) (fun G i f hi _ => ?_) (fun _ _ _ _ _=>trivial) (fun G f _ => ?_) s.np 0 60 () (by omega) (by omega) trivial).trans ((jQ _ _ _ _ _).trans (yH _ _ _ _ _))
 ·refine (rdPc G K s i).trans ?_;rw [vJQ (show (i:Int) < (s.np:Int) by omega),kW (by omega),yX (show i < s.np by omega),toN];unfold zOk;cases decide ((s.pts i).x < -4194304) <;> cases decide (4194304 < (s.pts i).x) <;> cases decide ((s.pts i).y < -4194304) <;> cases decide (4194304 < (s.pts i).y) <;> cases decide ((s.pts i).z < -4194304) <;> cases decide (4194304 < (s.pts i).z) <;> rfl
 ·refine (rdPc G K s s.np).trans ?_;rw [vYH (show ¬ (s.np:Int) < (s.np:Int) by omega)];rfl
noncomputable def kUY (s:Shp):List (List Nat × jK):=[([0,1,0,1,1],sumF (fun _:Unit=>(hPc s 0)) (fun _=>()) (fun _ K=>(bif (decide (s.np≤50)) then (bif (allN (fun i:Nat=>zOk 4194304 (s.pts i)) s.np 0) then (K (.exit 0) ⟨[],[]⟩) else (K .ret ⟨[(2,.v (.b false))],[]⟩)) else none)))]
set_option maxRecDepth 100000 in
theorem pxpck (s:Shp):qQU Tf (orPc s) (qZ (kUY s)) 60 103 [.a (sP s)] =
 (bif (decide (s.rad < 1)) then some (.v (.b false),[])
 else (bif (decide (1048576 < s.rad)) then some (.v (.b false),[])
 else (bif (decide ((s.np:Int) < 1)) then some (.v (.b false),[])
 else (bif (decide (8 < (s.np:Int))) then some (.v (.b false),[])
 else (bif (gSt (hPc s 0) (hPc s 0)) then (bif (decide (s.np≤50)) then (bif (allN (fun i:Nat=>zOk 4194304 (s.pts i)) s.np 0) then some (.v (.b true),[])
 else some (.v (.b false),[]))
 else none)
 else none))))):=by kernel_rfl
theorem snd_pck (s:Shp):yK Tryz.prog 103 [.a (sP s)] (.v (.b (shOk s))):=by
 refine zW (N:=60) (LO:=qZ (kUY s)) jH zG (kY (l:=[]) (m:=[]) trivial trivial) (fun p S hp => ?_) ?_
 ·refine zU (L:=qQ Tf 103) (l:=(kUY s)) (show AllP _ (kUY s) from ⟨?_,trivial⟩) p S hp
  ·dsimp only;refine kQ (T:=Tf) (o:=(orPc s)) (f:=103) (LO:=qZ []) (p:=[0,1,0,1,1]) kJ ?_;intro t K r hr;obtain ⟨hg,hr⟩:=qY hr;have hk:=vJZ hg;exact (lpPc K s hk).trans hr
 ·refine (pxpck s).trans ?_;unfold shOk yWH;rw [yU];by_cases h:8 < (s.np:Int)
  ·rw [vJQ h];cases decide (s.rad < 1) <;> cases decide (1048576 < s.rad) <;> cases decide ((s.np:Int) < 1) <;> rfl
  ·rw [vYH h,vJQ (show s.np≤50 by omega)];cases decide (s.rad < 1) <;> cases decide (1048576 < s.rad) <;> cases decide ((s.np:Int) < 1) <;> cases allN (fun i:Nat=>zOk 4194304 (s.pts i)) s.np 0 <;> rfl
def cpk:Shp→Prop:=fun t=>match t with | _=>True
def epk:Shp→List PV:=fun t=>match t with | s=>[.a (sP s)]
noncomputable def rpk:Shp→Ret:=fun t=>match t with | s=>.v (.b (shOk s))
def dpk:List PV→Shp:=fun ps=>match ps with
 | [.a r]=>unS r
 | _=>⟨0,0,0,fun _=>⟨0,0,0⟩⟩
noncomputable def o_pk:List PV→Option (Bool × Ret):=o_fm dpk cpk epk rpk
theorem ok_pk:zJ Tryz.prog 103 o_pk:=qQV fun t h=>by
 revert h; revert t; intro s h
 exact snd_pck s
noncomputable def orRk (s:Shp):OrS:=orS [(57,o_nr)] []
noncomputable def hRk (s:Shp) (i:Int):St:=⟨[(1,.p 1 0),(3,.v (.n .i64 i))],[(1,.blk [.v (.n .i64 s.link),.v (.n .i64 s.rad),.v (.lf s.np (fZ s.pts))])]⟩
set_option maxRecDepth 100000 in
theorem rdRk (G:St→Option (Ret × Mem)) (K:Cont) (s:Shp) (i:Int):kZ 60 (cxS Tf (orRk s) 60 107 (ntmF Tf 107)) (evX Tf (orRk s) 60 107 (ntmF Tf 107)) (qZ []) (qQ Tf 107 [0,1,0,1,1]) [0,1,0,1,1] (Tf.hint 107 (qJ (qQ Tf 107 [0,1,0,1,1]))) K G (hRk s i) =
 (bif (decide (i < (s.np:Int))) then (bif (inB i s.np) then (bif (gF1 cnr enr (s.pts (i).toNat)) then (bif (zOk 4194304 (s.pts (i).toNat)) then (G (hRk s (vJJ .i64 (i + 1))))
 else (K .ret ⟨[(2,.v (.b false))],[]⟩))
 else none)
 else none)
 else (K (.exit 0) ⟨[],[]⟩)):=by kernel_rfl
theorem lpRk (K:Cont) (s:Shp) (_:s.np≤50):LFX 60 (cxS Tf (orRk s) 60 107 (ntmF Tf 107)) (evX Tf (orRk s) 60 107 (ntmF Tf 107)) (qZ []) (qQ Tf 107 [0,1,0,1,1]) [0,1,0,1,1] (Tf.hint 107 (qJ (qQ Tf 107 [0,1,0,1,1]))) K 60 (hRk s 0)=bif (allN (fun i:Nat=>zOk 4194304 (s.pts i)) s.np 0) then (K (.exit 0) ⟨[],[]⟩) else (K .ret ⟨[(2,.v (.b false))],[]⟩):=by
 refine (uK (L:=LFX 60 (cxS Tf (orRk s) 60 107 (ntmF Tf 107)) (evX Tf (orRk s) 60 107 (ntmF Tf 107)) (qZ []) (qQ Tf 107 [0,1,0,1,1]) [0,1,0,1,1] (Tf.hint 107 (qJ (qQ Tf 107 [0,1,0,1,1]))) K) (stp:=kZ 60 (cxS Tf (orRk s) 60 107 (ntmF Tf 107)) (evX Tf (orRk s) 60 107 (ntmF Tf 107)) (qZ []) (qQ Tf 107 [0,1,0,1,1]) [0,1,0,1,1] (Tf.hint 107 (qJ (qQ Tf 107 [0,1,0,1,1]))) K) (fun _ _=>rfl) (fun (i:Nat) (_:Unit)=>hRk s (i:Int)) (fun _ _=>True) (fun (i:Nat) _=>zOk 4194304 (s.pts i)) (fun _ _=>()) (c:=s.np) (fun _=>(K (.exit 0) ⟨[],[]⟩)) (fun i _=>(K .ret ⟨[(2,.v (.b false))],[]⟩)) (fun G i f hi _ => ?_) (fun _ _ _ _ _=>trivial) (fun G f _ => ?_) s.np 0 60 () (by omega) (by omega) trivial).trans ((jQ _ _ _ _ _).trans (yH _ _ _ _ _))
 ·refine (rdRk G K s i).trans ?_;rw [vJQ (show (i:Int) < (s.np:Int) by omega),kW (by omega),yX (show i < s.np by omega),toN,jU (C:=cnr) (t:=s.pts i) trivial];cases zOk 4194304 (s.pts i) <;> rfl
 ·refine (rdRk G K s s.np).trans ?_;rw [vYH (show ¬ (s.np:Int) < (s.np:Int) by omega)];rfl
noncomputable def kUQ (s:Shp):List (List Nat × jK):=[([0,1,0,1,1],sumF (fun _:Unit=>(hRk s 0)) (fun _=>()) (fun _ K=>(bif (decide (s.np≤50)) then (bif (allN (fun i:Nat=>zOk 4194304 (s.pts i)) s.np 0) then (K (.exit 0) ⟨[],[]⟩) else (K .ret ⟨[(2,.v (.b false))],[]⟩)) else none)))]
set_option maxRecDepth 100000 in
theorem pxrck (s:Shp):qQU Tf (orRk s) (qZ (kUQ s)) 60 107 [.a (sP s)] =
 (bif (decide (s.rad < 1)) then some (.v (.b false),[])
 else (bif (decide (1048576 < s.rad)) then some (.v (.b false),[])
 else (bif (decide ((s.np:Int) < 1)) then some (.v (.b false),[])
 else (bif (decide (8 < (s.np:Int))) then some (.v (.b false),[])
 else (bif (gSt (hRk s 0) (hRk s 0)) then (bif (decide (s.np≤50)) then (bif (allN (fun i:Nat=>zOk 4194304 (s.pts i)) s.np 0) then some (.v (.b true),[])
 else some (.v (.b false),[]))
 else none)
 else none))))):=by kernel_rfl
theorem snd_rck (s:Shp):yK Tryz.prog 107 [.a (sP s)] (.v (.b (shOk s))):=by
 refine zW (N:=60) (LO:=qZ (kUQ s)) jH zG (kY (l:=[(57,o_nr)]) (m:=[]) ⟨ok_nr,trivial⟩ trivial) (fun p S hp => ?_) ?_
 ·refine zU (L:=qQ Tf 107) (l:=(kUQ s)) (show AllP _ (kUQ s) from ⟨?_,trivial⟩) p S hp
  ·dsimp only;refine kQ (T:=Tf) (o:=(orRk s)) (f:=107) (LO:=qZ []) (p:=[0,1,0,1,1]) kJ ?_;intro t K r hr;obtain ⟨hg,hr⟩:=qY hr;have hk:=vJZ hg;exact (lpRk K s hk).trans hr
 ·refine (pxrck s).trans ?_;unfold shOk yWH;rw [yU];by_cases h:8 < (s.np:Int)
  ·rw [vJQ h];cases decide (s.rad < 1) <;> cases decide (1048576 < s.rad) <;> cases decide ((s.np:Int) < 1) <;> rfl
  ·rw [vYH h,vJQ (show s.np≤50 by omega)];cases decide (s.rad < 1) <;> cases decide (1048576 < s.rad) <;> cases decide ((s.np:Int) < 1) <;> cases allN (fun i:Nat=>zOk 4194304 (s.pts i)) s.np 0 <;> rfl
def crk:Shp→Prop:=fun t=>match t with | _=>True
def erk:Shp→List PV:=fun t=>match t with | s=>[.a (sP s)]
noncomputable def rrk:Shp→Ret:=fun t=>match t with | s=>.v (.b (shOk s))
def drk:List PV→Shp:=fun ps=>match ps with
 | [.a r]=>unS r
 | _=>⟨0,0,0,fun _=>⟨0,0,0⟩⟩
noncomputable def o_rk:List PV→Option (Bool × Ret):=o_fm drk crk erk rrk
theorem ok_rk:zJ Tryz.prog 107 o_rk:=qQV fun t h=>by
 revert h; revert t; intro s h
 exact snd_rck s
end Go.Proofs.YtgmbkkkbfbocnaaGreat.Gb
namespace Go.Proofs.YtgmbkkkbfbocnaaGreat.Gc
open Go.Rx Rt Go.Sx Go.RowKit Od Na Nb Nc Nx Nf Ga Gb
def shG (sh:Nat→Shp) (n c:Nat):Bool:=allN (fun i:Nat=>decide (shE n (sh i)=0)) c 0
def skG (sk:Nat→Skp) (n d:Nat):Bool:=allN (fun i:Nat=>isLk n (sk i).a && isLk n (sk i).b) d 0
def sErr (js:Nat→J) (ms:Nat→Ms) (sh:Nat→Shp) (sk:Nat→Skp) (n m c d:Nat):Int:=bif decide (rErr js ms n m=0) then (bif decide (24 < (c:Int)) then 901 else bif shG sh n c then (bif decide (64 < (d:Int)) then 903 else bif skG sk n d then 0 else 903) else shE n (sh (Rx.firstK (fun i:Nat=>decide (shE n (sh i)=0)) c 0))) else rErr js ms n m
noncomputable def orSa (js:Nat→J) (ms:Nat→Ms) (_:Nat→Shp) (_:Nat→Skp) (n m c d:Nat):OrS:=orS [(85,o_cr [.a [.lf n (fJ js),.lf m (fM ms)]] (.v (.n .i64 (rErr js ms n m)))),(97,o_cs),(98,o_il)] []
noncomputable def hSa (js:Nat→J) (ms:Nat→Ms) (sh:Nat→Shp) (sk:Nat→Skp) (n m c d:Nat) (i:Int):St:=⟨[(1,.p 1 0),(20,.v (.lf c (fS sh))),(21,.v (.n .i64 (c:Int))),(22,.v (.n .i64 i))],[(1,.blk [.v (.lf n (fJ js)),.v (.lf m (fM ms)),.v (.lf c (fS sh)),.v (.lf d (fK sk))])]⟩
set_option maxRecDepth 100000 in
theorem rdSa (G:St→Option (Ret × Mem)) (K:Cont) (js:Nat→J) (ms:Nat→Ms) (sh:Nat→Shp) (sk:Nat→Skp) (n m c d:Nat) (i:Int):kZ 100 (cxS Tf (orSa js ms sh sk n m c d) 100 50 (ntmF Tf 50)) (evX Tf (orSa js ms sh sk n m c d) 100 50 (ntmF Tf 50)) (qZ []) (qQ Tf 50 [0,1,0,1,1,1]) [0,1,0,1,1,1] (Tf.hint 50 (qJ (qQ Tf 50 [0,1,0,1,1,1]))) K G (hSa js ms sh sk n m c d i) =
 (bif (decide (i < (c:Int))) then (bif (inB i c) then (bif (gF1 ccs ecs (js,ms,sh,sk,n,m,c,d,(sh (i).toNat))) then (bif (!decide ((shE n (sh (i).toNat))=0)) then (K .ret ⟨[(1,.p 1 0),(2,.v (.n .i64 (shE n (sh (i).toNat))))],[(1,.blk [.v (.lf n (fJ js)),.v (.lf m (fM ms)),.v (.lf c (fS sh)),.v (.lf d (fK sk))])]⟩)
 else (G (hSa js ms sh sk n m c d (vJJ .i64 (i + 1)))))
 else none)
 else none)
 else (K (.exit 0) ⟨[(1,.p 1 0)],[(1,.blk [.v (.lf n (fJ js)),.v (.lf m (fM ms)),.v (.lf c (fS sh)),.v (.lf d (fK sk))])]⟩)):=by kernel_rfl
theorem lpSa (K:Cont) (js:Nat→J) (ms:Nat→Ms) (sh:Nat→Shp) (sk:Nat→Skp) (n m c d:Nat) (_:c≤50):LFX 100 (cxS Tf (orSa js ms sh sk n m c d) 100 50 (ntmF Tf 50)) (evX Tf (orSa js ms sh sk n m c d) 100 50 (ntmF Tf 50)) (qZ []) (qQ Tf 50 [0,1,0,1,1,1]) [0,1,0,1,1,1] (Tf.hint 50 (qJ (qQ Tf 50 [0,1,0,1,1,1]))) K 100 (hSa js ms sh sk n m c d 0)=bif (allN (fun i:Nat=>decide (shE n (sh i)=0)) c 0) then (K (.exit 0) ⟨[(1,.p 1 0)],[(1,.blk [.v (.lf n (fJ js)),.v (.lf m (fM ms)),.v (.lf c (fS sh)),.v (.lf d (fK sk))])]⟩) else (K .ret ⟨[(1,.p 1 0),(2,.v (.n .i64 (shE n (sh (((Rx.firstK (fun i:Nat=>decide (shE n (sh i)=0)) c 0:Nat):Int)).toNat))))],[(1,.blk [.v (.lf n (fJ js)),.v (.lf m (fM ms)),.v (.lf c (fS sh)),.v (.lf d (fK sk))])]⟩):=by
 refine (uK (L:=LFX 100 (cxS Tf (orSa js ms sh sk n m c d) 100 50 (ntmF Tf 50)) (evX Tf (orSa js ms sh sk n m c d) 100 50 (ntmF Tf 50)) (qZ []) (qQ Tf 50 [0,1,0,1,1,1]) [0,1,0,1,1,1] (Tf.hint 50 (qJ (qQ Tf 50 [0,1,0,1,1,1]))) K) (stp:=kZ 100 (cxS Tf (orSa js ms sh sk n m c d) 100 50 (ntmF Tf 50)) (evX Tf (orSa js ms sh sk n m c d) 100 50 (ntmF Tf 50)) (qZ []) (qQ Tf 50 [0,1,0,1,1,1]) [0,1,0,1,1,1] (Tf.hint 50 (qJ (qQ Tf 50 [0,1,0,1,1,1]))) K) (fun _ _=>rfl) (fun (i:Nat) (_:Unit)=>hSa js ms sh sk n m c d (i:Int)) (fun _ _=>True) (fun (i:Nat) _=>decide (shE n (sh i)=0)) (fun _ _=>()) (c:=c) (fun _=>(K (.exit 0) ⟨[(1,.p 1 0)],[(1,.blk [.v (.lf n (fJ js)),.v (.lf m (fM ms)),.v (.lf c (fS sh)),.v (.lf d (fK sk))])]⟩)) (fun i _=>(K .ret ⟨[(1,.p 1 0),(2,.v (.n .i64 (shE n (sh ((i:Int)).toNat))))],[(1,.blk [.v (.lf n (fJ js)),.v (.lf m (fM ms)),.v (.lf c (fS sh)),.v (.lf d (fK sk))])]⟩)) (fun G i f hi _ => ?_) (fun _ _ _ _ _=>trivial) (fun G f _ => ?_) c 0 100 () (by omega) (by omega) trivial).trans ((jQ _ _ _ _ _).trans (uG _ _ _ _ _))
 ·refine (rdSa G K js ms sh sk n m c d i).trans ?_;rw [vJQ (show (i:Int) < (c:Int) by omega),kW (by omega),yX (show i < c by omega),toN,jU (C:=ccs) (t:=(js,ms,sh,sk,n,m,c,d,sh i)) trivial];cases decide (shE n (sh i)=0) <;> rfl
 ·refine (rdSa G K js ms sh sk n m c d c).trans ?_;rw [vYH (show ¬ (c:Int) < (c:Int) by omega)];rfl
noncomputable def hSb (js:Nat→J) (ms:Nat→Ms) (sh:Nat→Shp) (sk:Nat→Skp) (n m c d:Nat) (i:Int):St:=⟨[(1,.p 1 0),(38,.v (.lf d (fK sk))),(39,.v (.n .i64 (d:Int))),(40,.v (.n .i64 i))],[(1,.blk [.v (.lf n (fJ js)),.v (.lf m (fM ms)),.v (.lf c (fS sh)),.v (.lf d (fK sk))])]⟩
set_option maxRecDepth 100000 in
theorem rdSb (G:St→Option (Ret × Mem)) (K:Cont) (js:Nat→J) (ms:Nat→Ms) (sh:Nat→Shp) (sk:Nat→Skp) (n m c d:Nat) (i:Int):kZ 100 (cxS Tf (orSa js ms sh sk n m c d) 100 50 (ntmF Tf 50)) (evX Tf (orSa js ms sh sk n m c d) 100 50 (ntmF Tf 50)) (qZ []) (qQ Tf 50 [0,1,0,1,1,1,1,1]) [0,1,0,1,1,1,1,1] (Tf.hint 50 (qJ (qQ Tf 50 [0,1,0,1,1,1,1,1]))) K G (hSb js ms sh sk n m c d i) =
 (bif (decide (i < (d:Int))) then (bif (inB i d) then (bif (gF1 cil eil (js,ms,sh,sk,n,m,c,d,(sk (i).toNat).a)) then (bif (isLk n ((sk (i).toNat).a)) then (bif (gF1 cil eil (js,ms,sh,sk,n,m,c,d,(sk (i).toNat).b)) then (bif (isLk n ((sk (i).toNat).b)) then (G (hSb js ms sh sk n m c d (vJJ .i64 (i + 1))))
 else (K .ret ⟨[(2,.v (.n .i64 903))],[]⟩))
 else none)
 else (K .ret ⟨[(2,.v (.n .i64 903))],[]⟩))
 else none)
 else none)
 else (K (.exit 2) ⟨[],[]⟩)):=by kernel_rfl
theorem lpSb (K:Cont) (js:Nat→J) (ms:Nat→Ms) (sh:Nat→Shp) (sk:Nat→Skp) (n m c d:Nat) (_:d≤70):LFX 100 (cxS Tf (orSa js ms sh sk n m c d) 100 50 (ntmF Tf 50)) (evX Tf (orSa js ms sh sk n m c d) 100 50 (ntmF Tf 50)) (qZ []) (qQ Tf 50 [0,1,0,1,1,1,1,1]) [0,1,0,1,1,1,1,1] (Tf.hint 50 (qJ (qQ Tf 50 [0,1,0,1,1,1,1,1]))) K 100 (hSb js ms sh sk n m c d 0)=bif (allN (fun i:Nat=>isLk n (sk i).a && isLk n (sk i).b) d 0) then (K (.exit 2) ⟨[],[]⟩) else (K .ret ⟨[(2,.v (.n .i64 903))],[]⟩):=by
 refine (uK (L:=LFX 100 (cxS Tf (orSa js ms sh sk n m c d) 100 50 (ntmF Tf 50)) (evX Tf (orSa js ms sh sk n m c d) 100 50 (ntmF Tf 50)) (qZ []) (qQ Tf 50 [0,1,0,1,1,1,1,1]) [0,1,0,1,1,1,1,1] (Tf.hint 50 (qJ (qQ Tf 50 [0,1,0,1,1,1,1,1]))) K) (stp:=kZ 100 (cxS Tf (orSa js ms sh sk n m c d) 100 50 (ntmF Tf 50)) (evX Tf (orSa js ms sh sk n m c d) 100 50 (ntmF Tf 50)) (qZ []) (qQ Tf 50 [0,1,0,1,1,1,1,1]) [0,1,0,1,1,1,1,1] (Tf.hint 50 (qJ (qQ Tf 50 [0,1,0,1,1,1,1,1]))) K) (fun _ _=>rfl) (fun (i:Nat) (_:Unit)=>hSb js ms sh sk n m c d (i:Int)) (fun _ _=>True) (fun (i:Nat) _=>isLk n (sk i).a && isLk n (sk i).b) (fun _ _=>()) (c:=d) (fun _=>(K (.exit 2) ⟨[],[]⟩)) (fun i _=>(K .ret ⟨[(2,.v (.n .i64 903))],[]⟩)) (fun G i f hi _ => ?_) (fun _ _ _ _ _=>trivial) (fun G f _ => ?_) d 0 100 () (by omega) (by omega) trivial).trans ((jQ _ _ _ _ _).trans (yH _ _ _ _ _))
 ·refine (rdSb G K js ms sh sk n m c d i).trans ?_;rw [vJQ (show (i:Int) < (d:Int) by omega),kW (by omega),yX (show i < d by omega),toN,jU (C:=cil) (t:=(js,ms,sh,sk,n,m,c,d,(sk i).a)) trivial,jU (C:=cil) (t:=(js,ms,sh,sk,n,m,c,d,(sk i).b)) trivial];cases isLk n (sk i).a <;> cases isLk n (sk i).b <;> rfl
 ·refine (rdSb G K js ms sh sk n m c d d).trans ?_;rw [vYH (show ¬ (d:Int) < (d:Int) by omega)];rfl
noncomputable def kKU (js:Nat→J) (ms:Nat→Ms) (sh:Nat→Shp) (sk:Nat→Skp) (n m c d:Nat):List (List Nat × jK):=[([0,1,0,1,1,1],sumF (fun _:Unit=>(hSa js ms sh sk n m c d 0)) (fun _=>()) (fun _ K=>(bif (decide (c≤50)) then (bif (allN (fun i:Nat=>decide (shE n (sh i)=0)) c 0) then (K (.exit 0) ⟨[(1,.p 1 0)],[(1,.blk [.v (.lf n (fJ js)),.v (.lf m (fM ms)),.v (.lf c (fS sh)),.v (.lf d (fK sk))])]⟩) else (K .ret ⟨[(1,.p 1 0),(2,.v (.n .i64 (shE n (sh (((Rx.firstK (fun i:Nat=>decide (shE n (sh i)=0)) c 0:Nat):Int)).toNat))))],[(1,.blk [.v (.lf n (fJ js)),.v (.lf m (fM ms)),.v (.lf c (fS sh)),.v (.lf d (fK sk))])]⟩)) else none))),([0,1,0,1,1,1,1,1],sumF (fun _:Unit=>(hSb js ms sh sk n m c d 0)) (fun _=>()) (fun _ K=>(bif (decide (d≤70)) then (bif (allN (fun i:Nat=>isLk n (sk i).a && isLk n (sk i).b) d 0) then (K (.exit 2) ⟨[],[]⟩) else (K .ret ⟨[(2,.v (.n .i64 903))],[]⟩)) else none)))]
set_option maxRecDepth 100000 in
theorem pxsck (js:Nat→J) (ms:Nat→Ms) (sh:Nat→Shp) (sk:Nat→Skp) (n m c d:Nat):qQU Tf (orSa js ms sh sk n m c d) (qZ (kKU js ms sh sk n m c d)) 100 50 [.a [.lf n (fJ js),.lf m (fM ms),.lf c (fS sh),.lf d (fK sk)]] =
 (bif (g1 [.a [.lf n (fJ js),.lf m (fM ms)]]) then (bif (!decide ((rErr js ms n m)=0)) then some (.v (.n .i64 (rErr js ms n m)),[])
 else (bif (decide (24 < (c:Int))) then some (.v (.n .i64 901),[])
 else (bif (gSt (hSa js ms sh sk n m c d 0) (hSa js ms sh sk n m c d 0)) then (bif (decide (c≤50)) then (bif (allN (fun i:Nat=>decide (shE n (sh i)=0)) c 0) then (bif (decide (64 < (d:Int))) then some (.v (.n .i64 903),[])
 else (bif (gSt (hSb js ms sh sk n m c d 0) (hSb js ms sh sk n m c d 0)) then (bif (decide (d≤70)) then (bif (allN (fun i:Nat=>isLk n (sk i).a && isLk n (sk i).b) d 0) then some (.v (.n .i64 0),[])
 else some (.v (.n .i64 903),[]))
 else none)
 else none))
 else some (.v (.n .i64 (shE n (sh (((Rx.firstK (fun i:Nat=>decide (shE n (sh i)=0)) c 0:Nat):Int)).toNat))),[]))
 else none)
 else none)))
 else none):=by kernel_rfl
theorem snd_sck (js:Nat→J) (ms:Nat→Ms) (sh:Nat→Shp) (sk:Nat→Skp) (n m c d:Nat):yK Tryz.prog 50 [.a [.lf n (fJ js),.lf m (fM ms),.lf c (fS sh),.lf d (fK sk)]] (.v (.n .i64 (sErr js ms sh sk n m c d))):=by
 refine zW (N:=100) (LO:=qZ (kKU js ms sh sk n m c d)) jH zG (kY (l:=[(85,o_cr [.a [.lf n (fJ js),.lf m (fM ms)]] (.v (.n .i64 (rErr js ms n m)))),(97,o_cs),(98,o_il)]) (m:=[]) ⟨zJX (jJK js ms n m),ok_cs,ok_il,trivial⟩ trivial) (fun p S hp => ?_) ?_
 ·refine zU (L:=qQ Tf 50) (l:=(kKU js ms sh sk n m c d)) (show AllP _ (kKU js ms sh sk n m c d) from ⟨?_,?_,trivial⟩) p S hp
  ·dsimp only;refine kQ (T:=Tf) (o:=(orSa js ms sh sk n m c d)) (f:=50) (LO:=qZ []) (p:=[0,1,0,1,1,1]) kJ ?_;intro t K r hr;obtain ⟨hg,hr⟩:=qY hr;have hc:=vJZ hg;exact (lpSa K js ms sh sk n m c d hc).trans hr
  ·dsimp only;refine kQ (T:=Tf) (o:=(orSa js ms sh sk n m c d)) (f:=50) (LO:=qZ []) (p:=[0,1,0,1,1,1,1,1]) kJ ?_;intro t K r hr;obtain ⟨hg,hr⟩:=qY hr;have hd:=vJZ hg;exact (lpSb K js ms sh sk n m c d hd).trans hr
 ·refine (pxsck js ms sh sk n m c d).trans ?_;unfold sErr shG skG;rw [g1_t];by_cases h:rErr js ms n m=0
  ·rw [vJQ h];by_cases hc:24 < (c:Int)
   ·rw [vJQ hc]; rfl
   rw [vYH hc,yU,vJQ (show c≤50 by omega)];cases allN (fun i:Nat=>decide (shE n (sh i)=0)) c 0 with
   | false=>simp only [Bool.not_true,Bool.not_false,vYV,vYG,toN]
   | true =>
    by_cases hd:64 < (d:Int)
    ·rw [vJQ hd]; rfl
    rw [vYH hd,yU,vJQ (show d≤70 by omega)];cases allN (fun i:Nat=>isLk n (sk i).a && isLk n (sk i).b) d 0 <;> rfl
  ·rw [vYH h]; rfl
noncomputable def orRo (js:Nat→J) (ms:Nat→Ms) (_:Nat→Shp) (_:Nat→Skp) (n m c d:Nat):OrS:=orS [(65,o_cr [.a [.lf n (fJ js),.lf m (fM ms)]] (.v (.n .i64 (rErr js ms n m)))),(104,o_ir),(105,o_bt),(57,o_nr)] []
noncomputable def hRi (js:Nat→J) (ms:Nat→Ms) (sh:Nat→Shp) (sk:Nat→Skp) (n m c d:Nat) (i:Int) (s:Shp) (k:Int):St:=⟨[(1,.p 1 0),(4,.v (.n .i64 i)),(5,.p 5 0),(6,.v (.n .i64 k))],[(1,.blk [.v (.lf n (fJ js)),.v (.lf m (fM ms)),.v (.lf c (fS sh)),.v (.lf d (fK sk))]),(5,.blk [.v (.n .i64 s.link),.v (.n .i64 s.rad),.v (.lf s.np (fZ s.pts))])]⟩
set_option maxRecDepth 100000 in
theorem rdRi (G:St→Option (Ret × Mem)) (K:Cont) (js:Nat→J) (ms:Nat→Ms) (sh:Nat→Shp) (sk:Nat→Skp) (n m c d:Nat) (i:Int) (s:Shp) (k:Int):kZ 100 (cxS Tf (orRo js ms sh sk n m c d) 100 56 (ntmF Tf 56)) (evX Tf (orRo js ms sh sk n m c d) 100 56 (ntmF Tf 56)) (qZ []) (qQ Tf 56 [0,1,1,1,0,0,1,0,0,1,0,1,1,1]) [0,1,1,1,0,0,1,0,0,1,0,1,1,1] (Tf.hint 56 (qJ (qQ Tf 56 [0,1,1,1,0,0,1,0,0,1,0,1,1,1]))) K G (hRi js ms sh sk n m c d i s k) =
 (bif (decide (k < (s.np:Int))) then (bif (inB k s.np) then (bif (gF1 cnr enr (s.pts (k).toNat)) then (bif (zOk 4194304 (s.pts (k).toNat)) then (G (hRi js ms sh sk n m c d i s (vJJ .i64 (k + 1))))
 else (K .ret ⟨[(1,.p 1 0),(2,.v (.n .i64 805)),(4,.v (.n .i64 i))],[(1,.blk [.v (.lf n (fJ js)),.v (.lf m (fM ms)),.v (.lf c (fS sh)),.v (.lf d (fK sk))])]⟩))
 else none)
 else none)
 else (K (.exit 2) ⟨[(1,.p 1 0),(4,.v (.n .i64 i))],[(1,.blk [.v (.lf n (fJ js)),.v (.lf m (fM ms)),.v (.lf c (fS sh)),.v (.lf d (fK sk))])]⟩)):=by kernel_rfl
theorem lpRi (K:Cont) (js:Nat→J) (ms:Nat→Ms) (sh:Nat→Shp) (sk:Nat→Skp) (n m c d:Nat) (i:Int) (s:Shp) (_:s.np≤50):LFX 100 (cxS Tf (orRo js ms sh sk n m c d) 100 56 (ntmF Tf 56)) (evX Tf (orRo js ms sh sk n m c d) 100 56 (ntmF Tf 56)) (qZ []) (qQ Tf 56 [0,1,1,1,0,0,1,0,0,1,0,1,1,1]) [0,1,1,1,0,0,1,0,0,1,0,1,1,1] (Tf.hint 56 (qJ (qQ Tf 56 [0,1,1,1,0,0,1,0,0,1,0,1,1,1]))) K 100 (hRi js ms sh sk n m c d i s 0)=bif (allN (fun k:Nat=>zOk 4194304 (s.pts k)) s.np 0) then (K (.exit 2) ⟨[(1,.p 1 0),(4,.v (.n .i64 i))],[(1,.blk [.v (.lf n (fJ js)),.v (.lf m (fM ms)),.v (.lf c (fS sh)),.v (.lf d (fK sk))])]⟩) else (K .ret ⟨[(1,.p 1 0),(2,.v (.n .i64 805)),(4,.v (.n .i64 i))],[(1,.blk [.v (.lf n (fJ js)),.v (.lf m (fM ms)),.v (.lf c (fS sh)),.v (.lf d (fK sk))])]⟩):=by
 refine (uK (L:=LFX 100 (cxS Tf (orRo js ms sh sk n m c d) 100 56 (ntmF Tf 56)) (evX Tf (orRo js ms sh sk n m c d) 100 56 (ntmF Tf 56)) (qZ []) (qQ Tf 56 [0,1,1,1,0,0,1,0,0,1,0,1,1,1]) [0,1,1,1,0,0,1,0,0,1,0,1,1,1] (Tf.hint 56 (qJ (qQ Tf 56 [0,1,1,1,0,0,1,0,0,1,0,1,1,1]))) K) (stp:=kZ 100 (cxS Tf (orRo js ms sh sk n m c d) 100 56 (ntmF Tf 56)) (evX Tf (orRo js ms sh sk n m c d) 100 56 (ntmF Tf 56)) (qZ []) (qQ Tf 56 [0,1,1,1,0,0,1,0,0,1,0,1,1,1]) [0,1,1,1,0,0,1,0,0,1,0,1,1,1] (Tf.hint 56 (qJ (qQ Tf 56 [0,1,1,1,0,0,1,0,0,1,0,1,1,1]))) K) (fun _ _=>rfl) (fun (k:Nat) (_:Unit)=>hRi js ms sh sk n m c d i s (k:Int)) (fun _ _=>True) (fun (k:Nat) _=>zOk 4194304 (s.pts k)) (fun _ _=>()) (c:=s.np) (fun _=>(K (.exit 2) ⟨[(1,.p 1 0),(4,.v (.n .i64 i))],[(1,.blk [.v (.lf n (fJ js)),.v (.lf m (fM ms)),.v (.lf c (fS sh)),.v (.lf d (fK sk))])]⟩)) (fun k _=>(K .ret ⟨[(1,.p 1 0),(2,.v (.n .i64 805)),(4,.v (.n .i64 i))],[(1,.blk [.v (.lf n (fJ js)),.v (.lf m (fM ms)),.v (.lf c (fS sh)),.v (.lf d (fK sk))])]⟩)) (fun G k f hi _ => ?_) (fun _ _ _ _ _=>trivial) (fun G f _ => ?_) (s.np) 0 100 () (by omega) (by omega) trivial).trans ((jQ _ _ _ _ _).trans (yH _ _ _ _ _))
 ·refine (rdRi G K js ms sh sk n m c d i s k).trans ?_;rw [vJQ (show (k:Int) < (s.np:Int) by omega),kW (by omega),yX (show k < s.np by omega),toN,jU (C:=cnr) (t:=s.pts k) trivial];cases zOk 4194304 (s.pts k) <;> rfl
 ·refine (rdRi G K js ms sh sk n m c d i s (s.np:Int)).trans ?_;rw [vYH (show ¬ (s.np:Int) < (s.np:Int) by omega)];rfl
def bkS (σ:St) (k:Nat):Shp:=match yY σ.M k with
 | some (.blk [.v (.n _ l),.v (.n _ r),.v (.lf n f)])=>⟨l,r,n,unFZ f⟩
 | _=>⟨0,0,0,fun _=>⟨0,0,0⟩⟩
theorem okRi (js:Nat→J) (ms:Nat→Ms) (sh:Nat→Shp) (sk:Nat→Skp) (n m c d:Nat):∀ p S,qZ [([0,1,1,1,0,0,1,0,0,1,0,1,1,1],sumF (fun t:Int × Shp=>(hRi js ms sh sk n m c d t.1 t.2 0)) (fun σ=>(slI σ 4,bkS σ 5)) (fun t K=>(bif (decide (t.2.np≤50)) then (bif (allN (fun k:Nat=>zOk 4194304 (t.2.pts k)) t.2.np 0) then (K (.exit 2) ⟨[(1,.p 1 0),(4,.v (.n .i64 t.1))],[(1,.blk [.v (.lf n (fJ js)),.v (.lf m (fM ms)),.v (.lf c (fS sh)),.v (.lf d (fK sk))])]⟩) else (K .ret ⟨[(1,.p 1 0),(2,.v (.n .i64 805)),(4,.v (.n .i64 t.1))],[(1,.blk [.v (.lf n (fJ js)),.v (.lf m (fM ms)),.v (.lf c (fS sh)),.v (.lf d (fK sk))])]⟩)) else none)))] p=some S→qQZ 100 (cxS Tf (orRo js ms sh sk n m c d) 100 56 (ntmF Tf 56)) (qQ Tf 56 p) S:=fun p S hp=>by
 refine zU (L:=qQ Tf 56) (l:=[([0,1,1,1,0,0,1,0,0,1,0,1,1,1],sumF (fun t:Int × Shp=>(hRi js ms sh sk n m c d t.1 t.2 0)) (fun σ=>(slI σ 4,bkS σ 5)) (fun t K=>(bif (decide (t.2.np≤50)) then (bif (allN (fun k:Nat=>zOk 4194304 (t.2.pts k)) t.2.np 0) then (K (.exit 2) ⟨[(1,.p 1 0),(4,.v (.n .i64 t.1))],[(1,.blk [.v (.lf n (fJ js)),.v (.lf m (fM ms)),.v (.lf c (fS sh)),.v (.lf d (fK sk))])]⟩) else (K .ret ⟨[(1,.p 1 0),(2,.v (.n .i64 805)),(4,.v (.n .i64 t.1))],[(1,.blk [.v (.lf n (fJ js)),.v (.lf m (fM ms)),.v (.lf c (fS sh)),.v (.lf d (fK sk))])]⟩)) else none)))]) ⟨?_,trivial⟩ p S hp;dsimp only;refine kQ (T:=Tf) (o:=(orRo js ms sh sk n m c d)) (f:=56) (LO:=qZ []) (p:=[0,1,1,1,0,0,1,0,0,1,0,1,1,1]) kJ ?_;intro t K r hr;obtain ⟨hg,hr⟩:=qY hr
 skip
 exact (lpRi K js ms sh sk n m c d t.1 t.2 (vJZ hg)).trans hr
noncomputable def hRo (js:Nat→J) (ms:Nat→Ms) (sh:Nat→Shp) (sk:Nat→Skp) (n m c d:Nat) (i:Int):St:=⟨[(1,.p 1 0),(4,.v (.n .i64 i))],[(1,.blk [.v (.lf n (fJ js)),.v (.lf m (fM ms)),.v (.lf c (fS sh)),.v (.lf d (fK sk))])]⟩
set_option maxRecDepth 100000 in
theorem rdRo (G:St→Option (Ret × Mem)) (K:Cont) (js:Nat→J) (ms:Nat→Ms) (sh:Nat→Shp) (sk:Nat→Skp) (n m c d:Nat) (i:Int):kZ 100 (cxS Tf (orRo js ms sh sk n m c d) 100 56 (ntmF Tf 56)) (evX Tf (orRo js ms sh sk n m c d) 100 56 (ntmF Tf 56)) (qZ [([0,1,1,1,0,0,1,0,0,1,0,1,1,1],sumF (fun t:Int × Shp=>(hRi js ms sh sk n m c d t.1 t.2 0)) (fun σ=>(slI σ 4,bkS σ 5)) (fun t K=>(bif (decide (t.2.np≤50)) then (bif (allN (fun k:Nat=>zOk 4194304 (t.2.pts k)) t.2.np 0) then (K (.exit 2) ⟨[(1,.p 1 0),(4,.v (.n .i64 t.1))],[(1,.blk [.v (.lf n (fJ js)),.v (.lf m (fM ms)),.v (.lf c (fS sh)),.v (.lf d (fK sk))])]⟩) else (K .ret ⟨[(1,.p 1 0),(2,.v (.n .i64 805)),(4,.v (.n .i64 t.1))],[(1,.blk [.v (.lf n (fJ js)),.v (.lf m (fM ms)),.v (.lf c (fS sh)),.v (.lf d (fK sk))])]⟩)) else none)))]) (qQ Tf 56 [0,1,0,1,1,1]) [0,1,0,1,1,1] (Tf.hint 56 (qJ (qQ Tf 56 [0,1,0,1,1,1]))) K G (hRo js ms sh sk n m c d i) =
 (bif (decide (i < (c:Int))) then (bif (inB i c) then (bif (gF1 cir eir (js,ms,n,m,(sh (i).toNat).link)) then (bif (isLk n ((sh (i).toNat).link)) then (bif (gF1 cbt ebt (((sh (i).toNat).rad),1,1048576)) then (bif (decide (1≤((sh (i).toNat).rad)) && decide (((sh (i).toNat).rad)≤1048576)) then (bif (decide (((sh (i).toNat).np:Int) < 1)) then (K .ret ⟨[(1,.p 1 0),(2,.v (.n .i64 902))],[(1,.blk [.v (.lf n (fJ js)),.v (.lf m (fM ms)),.v (.lf c (fS sh)),.v (.lf d (fK sk))])]⟩)
 else (bif (decide (8 < ((sh (i).toNat).np:Int))) then (K .ret ⟨[(1,.p 1 0),(2,.v (.n .i64 902))],[(1,.blk [.v (.lf n (fJ js)),.v (.lf m (fM ms)),.v (.lf c (fS sh)),.v (.lf d (fK sk))])]⟩)
 else (bif (gSt (hRi js ms sh sk n m c d i (sh (i).toNat) 0) (hRi js ms sh sk n m c d i (sh (i).toNat) 0)) then (bif (decide ((sh (i).toNat).np≤50)) then (bif (allN (fun k:Nat=>zOk 4194304 ((sh (i).toNat).pts k)) (sh (i).toNat).np 0) then (G (hRo js ms sh sk n m c d (vJJ .i64 (i + 1))))
 else (K .ret ⟨[(1,.p 1 0),(2,.v (.n .i64 805))],[(1,.blk [.v (.lf n (fJ js)),.v (.lf m (fM ms)),.v (.lf c (fS sh)),.v (.lf d (fK sk))])]⟩))
 else none)
 else none)))
 else (K .ret ⟨[(1,.p 1 0),(2,.v (.n .i64 902))],[(1,.blk [.v (.lf n (fJ js)),.v (.lf m (fM ms)),.v (.lf c (fS sh)),.v (.lf d (fK sk))])]⟩))
 else none)
 else (K .ret ⟨[(1,.p 1 0),(2,.v (.n .i64 902))],[(1,.blk [.v (.lf n (fJ js)),.v (.lf m (fM ms)),.v (.lf c (fS sh)),.v (.lf d (fK sk))])]⟩))
 else none)
 else none)
 else (K (.exit 0) ⟨[(1,.p 1 0)],[(1,.blk [.v (.lf n (fJ js)),.v (.lf m (fM ms)),.v (.lf c (fS sh)),.v (.lf d (fK sk))])]⟩)):=by kernel_rfl
theorem nle (a b:Int):decide (a≤b) = !decide (b < a):=by by_cases h:b < a <;> simp [h] <;> omega
theorem lpRo (K:Cont) (js:Nat→J) (ms:Nat→Ms) (sh:Nat→Shp) (sk:Nat→Skp) (n m c d:Nat) (_:c≤50):LFX 100 (cxS Tf (orRo js ms sh sk n m c d) 100 56 (ntmF Tf 56)) (evX Tf (orRo js ms sh sk n m c d) 100 56 (ntmF Tf 56)) (qZ [([0,1,1,1,0,0,1,0,0,1,0,1,1,1],sumF (fun t:Int × Shp=>(hRi js ms sh sk n m c d t.1 t.2 0)) (fun σ=>(slI σ 4,bkS σ 5)) (fun t K=>(bif (decide (t.2.np≤50)) then (bif (allN (fun k:Nat=>zOk 4194304 (t.2.pts k)) t.2.np 0) then (K (.exit 2) ⟨[(1,.p 1 0),(4,.v (.n .i64 t.1))],[(1,.blk [.v (.lf n (fJ js)),.v (.lf m (fM ms)),.v (.lf c (fS sh)),.v (.lf d (fK sk))])]⟩) else (K .ret ⟨[(1,.p 1 0),(2,.v (.n .i64 805)),(4,.v (.n .i64 t.1))],[(1,.blk [.v (.lf n (fJ js)),.v (.lf m (fM ms)),.v (.lf c (fS sh)),.v (.lf d (fK sk))])]⟩)) else none)))]) (qQ Tf 56 [0,1,0,1,1,1]) [0,1,0,1,1,1] (Tf.hint 56 (qJ (qQ Tf 56 [0,1,0,1,1,1]))) K 100 (hRo js ms sh sk n m c d 0)=bif shG sh n c then (K (.exit 0) ⟨[(1,.p 1 0)],[(1,.blk [.v (.lf n (fJ js)),.v (.lf m (fM ms)),.v (.lf c (fS sh)),.v (.lf d (fK sk))])]⟩) else (K .ret ⟨[(1,.p 1 0),(2,.v (.n .i64 (shE n (sh (Rx.firstK (fun i:Nat=>decide (shE n (sh i)=0)) c 0)))))],[(1,.blk [.v (.lf n (fJ js)),.v (.lf m (fM ms)),.v (.lf c (fS sh)),.v (.lf d (fK sk))])]⟩):=by
 refine (uK (L:=LFX 100 (cxS Tf (orRo js ms sh sk n m c d) 100 56 (ntmF Tf 56)) (evX Tf (orRo js ms sh sk n m c d) 100 56 (ntmF Tf 56)) (qZ [([0,1,1,1,0,0,1,0,0,1,0,1,1,1],sumF (fun t:Int × Shp=>(hRi js ms sh sk n m c d t.1 t.2 0)) (fun σ=>(slI σ 4,bkS σ 5)) (fun t K=>(bif (decide (t.2.np≤50)) then (bif (allN (fun k:Nat=>zOk 4194304 (t.2.pts k)) t.2.np 0) then (K (.exit 2) ⟨[(1,.p 1 0),(4,.v (.n .i64 t.1))],[(1,.blk [.v (.lf n (fJ js)),.v (.lf m (fM ms)),.v (.lf c (fS sh)),.v (.lf d (fK sk))])]⟩) else (K .ret ⟨[(1,.p 1 0),(2,.v (.n .i64 805)),(4,.v (.n .i64 t.1))],[(1,.blk [.v (.lf n (fJ js)),.v (.lf m (fM ms)),.v (.lf c (fS sh)),.v (.lf d (fK sk))])]⟩)) else none)))]) (qQ Tf 56 [0,1,0,1,1,1]) [0,1,0,1,1,1] (Tf.hint 56 (qJ (qQ Tf 56 [0,1,0,1,1,1]))) K) (stp:=kZ 100 (cxS Tf (orRo js ms sh sk n m c d) 100 56 (ntmF Tf 56)) (evX Tf (orRo js ms sh sk n m c d) 100 56 (ntmF Tf 56)) (qZ [([0,1,1,1,0,0,1,0,0,1,0,1,1,1],sumF (fun t:Int × Shp=>(hRi js ms sh sk n m c d t.1 t.2 0)) (fun σ=>(slI σ 4,bkS σ 5)) (fun t K=>(bif (decide (t.2.np≤50)) then (bif (allN (fun k:Nat=>zOk 4194304 (t.2.pts k)) t.2.np 0) then (K (.exit 2) ⟨[(1,.p 1 0),(4,.v (.n .i64 t.1))],[(1,.blk [.v (.lf n (fJ js)),.v (.lf m (fM ms)),.v (.lf c (fS sh)),.v (.lf d (fK sk))])]⟩) else (K .ret ⟨[(1,.p 1 0),(2,.v (.n .i64 805)),(4,.v (.n .i64 t.1))],[(1,.blk [.v (.lf n (fJ js)),.v (.lf m (fM ms)),.v (.lf c (fS sh)),.v (.lf d (fK sk))])]⟩)) else none)))]) (qQ Tf 56 [0,1,0,1,1,1]) [0,1,0,1,1,1] (Tf.hint 56 (qJ (qQ Tf 56 [0,1,0,1,1,1]))) K) (fun _ _=>rfl) (fun (i:Nat) (_:Unit)=>hRo js ms sh sk n m c d (i:Int)) (fun _ _=>True) (fun (i:Nat) _=>decide (shE n (sh i)=0)) (fun _ _=>()) (c:=c) (fun _=>(K (.exit 0) ⟨[(1,.p 1 0)],[(1,.blk [.v (.lf n (fJ js)),.v (.lf m (fM ms)),.v (.lf c (fS sh)),.v (.lf d (fK sk))])]⟩)) (fun i _=>(K .ret ⟨[(1,.p 1 0),(2,.v (.n .i64 (shE n (sh i))))],[(1,.blk [.v (.lf n (fJ js)),.v (.lf m (fM ms)),.v (.lf c (fS sh)),.v (.lf d (fK sk))])]⟩)) (fun G i f hi _ => ?_) (fun _ _ _ _ _=>trivial) (fun G f _ => ?_) c 0 100 () (by omega) (by omega) trivial).trans ((jQ _ _ _ _ _).trans (uG _ _ _ _ _))
 ·refine (rdRo G K js ms sh sk n m c d i).trans ?_;rw [vJQ (show (i:Int) < (c:Int) by omega),yX (show i < c by omega),toN,kW (by omega),jU (C:=cir) (t:=(js,ms,n,m,(sh i).link)) trivial,jU (C:=cbt) (t:=((sh i).rad,1,1048576)) trivial,yU,nle 1,nle _ 1048576];unfold shE yWH;by_cases h:8 < ((sh i).np:Int)
  ·rw [vJQ h];cases isLk n (sh i).link <;> cases decide ((sh i).rad < 1) <;> cases decide (1048576 < (sh i).rad) <;> cases decide (((sh i).np:Int) < 1) <;> rfl
  ·rw [vYH h,vJQ (show (sh i).np≤50 by omega)];cases isLk n (sh i).link <;> cases decide ((sh i).rad < 1) <;> cases decide (1048576 < (sh i).rad) <;> cases decide (((sh i).np:Int) < 1) <;> cases allN (fun k:Nat=>zOk 4194304 ((sh i).pts k)) (sh i).np 0 <;> rfl
 ·refine (rdRo G K js ms sh sk n m c d (c:Int)).trans ?_;rw [vYH (show ¬ (c:Int) < (c:Int) by omega)];rfl
noncomputable def hRs (js:Nat→J) (ms:Nat→Ms) (sh:Nat→Shp) (sk:Nat→Skp) (n m c d:Nat) (i:Int):St:=⟨[(1,.p 1 0),(7,.v (.n .i64 i))],[(1,.blk [.v (.lf n (fJ js)),.v (.lf m (fM ms)),.v (.lf c (fS sh)),.v (.lf d (fK sk))])]⟩
set_option maxRecDepth 100000 in
theorem rdRs (G:St→Option (Ret × Mem)) (K:Cont) (js:Nat→J) (ms:Nat→Ms) (sh:Nat→Shp) (sk:Nat→Skp) (n m c d:Nat) (i:Int):kZ 100 (cxS Tf (orRo js ms sh sk n m c d) 100 56 (ntmF Tf 56)) (evX Tf (orRo js ms sh sk n m c d) 100 56 (ntmF Tf 56)) (qZ []) (qQ Tf 56 [0,1,0,1,1,1,1,1]) [0,1,0,1,1,1,1,1] (Tf.hint 56 (qJ (qQ Tf 56 [0,1,0,1,1,1,1,1]))) K G (hRs js ms sh sk n m c d i) =
 (bif (decide (i < (d:Int))) then (bif (inB i d) then (bif (gF1 cir eir (js,ms,n,m,(sk (i).toNat).a)) then (bif (isLk n ((sk (i).toNat).a)) then (bif (inB i d) then (bif (gF1 cir eir (js,ms,n,m,(sk (i).toNat).b)) then (bif (isLk n ((sk (i).toNat).b)) then (G (hRs js ms sh sk n m c d (vJJ .i64 (i + 1))))
 else (K .ret ⟨[(2,.v (.n .i64 903))],[]⟩))
 else none)
 else none)
 else (K .ret ⟨[(2,.v (.n .i64 903))],[]⟩))
 else none)
 else none)
 else (K (.exit 4) ⟨[],[]⟩)):=by kernel_rfl
theorem lpRs (K:Cont) (js:Nat→J) (ms:Nat→Ms) (sh:Nat→Shp) (sk:Nat→Skp) (n m c d:Nat) (_:d≤70):LFX 100 (cxS Tf (orRo js ms sh sk n m c d) 100 56 (ntmF Tf 56)) (evX Tf (orRo js ms sh sk n m c d) 100 56 (ntmF Tf 56)) (qZ []) (qQ Tf 56 [0,1,0,1,1,1,1,1]) [0,1,0,1,1,1,1,1] (Tf.hint 56 (qJ (qQ Tf 56 [0,1,0,1,1,1,1,1]))) K 100 (hRs js ms sh sk n m c d 0)=bif (allN (fun i:Nat=>isLk n (sk i).a && isLk n (sk i).b) d 0) then (K (.exit 4) ⟨[],[]⟩) else (K .ret ⟨[(2,.v (.n .i64 903))],[]⟩):=by
 refine (uK (L:=LFX 100 (cxS Tf (orRo js ms sh sk n m c d) 100 56 (ntmF Tf 56)) (evX Tf (orRo js ms sh sk n m c d) 100 56 (ntmF Tf 56)) (qZ []) (qQ Tf 56 [0,1,0,1,1,1,1,1]) [0,1,0,1,1,1,1,1] (Tf.hint 56 (qJ (qQ Tf 56 [0,1,0,1,1,1,1,1]))) K) (stp:=kZ 100 (cxS Tf (orRo js ms sh sk n m c d) 100 56 (ntmF Tf 56)) (evX Tf (orRo js ms sh sk n m c d) 100 56 (ntmF Tf 56)) (qZ []) (qQ Tf 56 [0,1,0,1,1,1,1,1]) [0,1,0,1,1,1,1,1] (Tf.hint 56 (qJ (qQ Tf 56 [0,1,0,1,1,1,1,1]))) K) (fun _ _=>rfl) (fun (i:Nat) (_:Unit)=>hRs js ms sh sk n m c d (i:Int)) (fun _ _=>True) (fun (i:Nat) _=>isLk n (sk i).a && isLk n (sk i).b) (fun _ _=>()) (c:=d) (fun _=>(K (.exit 4) ⟨[],[]⟩)) (fun i _=>(K .ret ⟨[(2,.v (.n .i64 903))],[]⟩)) (fun G i f hi _ => ?_) (fun _ _ _ _ _=>trivial) (fun G f _ => ?_) d 0 100 () (by omega) (by omega) trivial).trans ((jQ _ _ _ _ _).trans (yH _ _ _ _ _))
 ·refine (rdRs G K js ms sh sk n m c d i).trans ?_;rw [vJQ (show (i:Int) < (d:Int) by omega),kW (by omega),yX (show i < d by omega),toN,jU (C:=cir) (t:=(js,ms,n,m,(sk i).a)) trivial,jU (C:=cir) (t:=(js,ms,n,m,(sk i).b)) trivial];cases isLk n (sk i).a <;> cases isLk n (sk i).b <;> rfl
 ·refine (rdRs G K js ms sh sk n m c d d).trans ?_;rw [vYH (show ¬ (d:Int) < (d:Int) by omega)];rfl
noncomputable def kKH (js:Nat→J) (ms:Nat→Ms) (sh:Nat→Shp) (sk:Nat→Skp) (n m c d:Nat):List (List Nat × jK):=[([0,1,0,1,1,1],sumF (fun _:Unit=>(hRo js ms sh sk n m c d 0)) (fun _=>()) (fun _ K=>(bif (decide (c≤50)) then (bif shG sh n c then (K (.exit 0) ⟨[(1,.p 1 0)],[(1,.blk [.v (.lf n (fJ js)),.v (.lf m (fM ms)),.v (.lf c (fS sh)),.v (.lf d (fK sk))])]⟩) else (K .ret ⟨[(1,.p 1 0),(2,.v (.n .i64 (shE n (sh (Rx.firstK (fun i:Nat=>decide (shE n (sh i)=0)) c 0)))))],[(1,.blk [.v (.lf n (fJ js)),.v (.lf m (fM ms)),.v (.lf c (fS sh)),.v (.lf d (fK sk))])]⟩)) else none))),([0,1,0,1,1,1,1,1],sumF (fun _:Unit=>(hRs js ms sh sk n m c d 0)) (fun _=>()) (fun _ K=>(bif (decide (d≤70)) then (bif (allN (fun i:Nat=>isLk n (sk i).a && isLk n (sk i).b) d 0) then (K (.exit 4) ⟨[],[]⟩) else (K .ret ⟨[(2,.v (.n .i64 903))],[]⟩)) else none)))]
set_option maxRecDepth 100000 in
theorem pxrcs (js:Nat→J) (ms:Nat→Ms) (sh:Nat→Shp) (sk:Nat→Skp) (n m c d:Nat):qQU Tf (orRo js ms sh sk n m c d) (qZ (kKH js ms sh sk n m c d)) 100 56 [.a [.lf n (fJ js),.lf m (fM ms),.lf c (fS sh),.lf d (fK sk)]] =
 (bif (g1 [.a [.lf n (fJ js),.lf m (fM ms)]]) then (bif (!decide ((rErr js ms n m)=0)) then some (.v (.n .i64 (rErr js ms n m)),[])
 else (bif (decide (24 < (c:Int))) then some (.v (.n .i64 901),[])
 else (bif (gSt (hRo js ms sh sk n m c d 0) (hRo js ms sh sk n m c d 0)) then (bif (decide (c≤50)) then (bif (shG sh n c) then (bif (decide (64 < (d:Int))) then some (.v (.n .i64 903),[])
 else (bif (gSt (hRs js ms sh sk n m c d 0) (hRs js ms sh sk n m c d 0)) then (bif (decide (d≤70)) then (bif (allN (fun i:Nat=>isLk n (sk i).a && isLk n (sk i).b) d 0) then some (.v (.n .i64 0),[])
 else some (.v (.n .i64 903),[]))
 else none)
 else none))
 else some (.v (.n .i64 (shE n (sh (Rx.firstK (fun i:Nat=>decide (shE n (sh i)=0)) c 0)))),[]))
 else none)
 else none)))
 else none):=by kernel_rfl
theorem snd_rcs (js:Nat→J) (ms:Nat→Ms) (sh:Nat→Shp) (sk:Nat→Skp) (n m c d:Nat):yK Tryz.prog 56 [.a [.lf n (fJ js),.lf m (fM ms),.lf c (fS sh),.lf d (fK sk)]] (.v (.n .i64 (sErr js ms sh sk n m c d))):=by
 refine zW (N:=100) (LO:=qZ (kKH js ms sh sk n m c d)) jH zG (kY (l:=[(65,o_cr [.a [.lf n (fJ js),.lf m (fM ms)]] (.v (.n .i64 (rErr js ms n m)))),(104,o_ir),(105,o_bt),(57,o_nr)]) (m:=[]) ⟨zJX (yWX js ms n m),ok_ir,ok_bt,ok_nr,trivial⟩ trivial) (fun p S hp => ?_) ?_
 ·refine zU (L:=qQ Tf 56) (l:=(kKH js ms sh sk n m c d)) (show AllP _ (kKH js ms sh sk n m c d) from ⟨?_,?_,trivial⟩) p S hp
  ·dsimp only;refine kQ (T:=Tf) (o:=(orRo js ms sh sk n m c d)) (f:=56) (LO:=(qZ [([0,1,1,1,0,0,1,0,0,1,0,1,1,1],sumF (fun t:Int × Shp=>(hRi js ms sh sk n m c d t.1 t.2 0)) (fun σ=>(slI σ 4,bkS σ 5)) (fun t K=>(bif (decide (t.2.np≤50)) then (bif (allN (fun k:Nat=>zOk 4194304 (t.2.pts k)) t.2.np 0) then (K (.exit 2) ⟨[(1,.p 1 0),(4,.v (.n .i64 t.1))],[(1,.blk [.v (.lf n (fJ js)),.v (.lf m (fM ms)),.v (.lf c (fS sh)),.v (.lf d (fK sk))])]⟩) else (K .ret ⟨[(1,.p 1 0),(2,.v (.n .i64 805)),(4,.v (.n .i64 t.1))],[(1,.blk [.v (.lf n (fJ js)),.v (.lf m (fM ms)),.v (.lf c (fS sh)),.v (.lf d (fK sk))])]⟩)) else none)))])) (p:=[0,1,0,1,1,1]) (okRi js ms sh sk n m c d) ?_;intro t K r hr;obtain ⟨hg,hr⟩:=qY hr
   skip
   exact (lpRo K js ms sh sk n m c d (vJZ hg)).trans hr
  ·dsimp only;refine kQ (T:=Tf) (o:=(orRo js ms sh sk n m c d)) (f:=56) (LO:=qZ []) (p:=[0,1,0,1,1,1,1,1]) kJ ?_;intro t K r hr;obtain ⟨hg,hr⟩:=qY hr;have hd:=vJZ hg;exact (lpRs K js ms sh sk n m c d hd).trans hr
 ·refine (pxrcs js ms sh sk n m c d).trans ?_;unfold sErr skG;rw [g1_t];by_cases h:rErr js ms n m=0
  ·rw [vJQ h];by_cases hc:24 < (c:Int)
   ·rw [vJQ hc]; rfl
   rw [vYH hc,yU,vJQ (show c≤50 by omega)];cases shG sh n c with
   | false=>rfl
   | true =>
    by_cases hd:64 < (d:Int)
    ·rw [vJQ hd]; rfl
    rw [vYH hd,yU,vJQ (show d≤70 by omega)];cases allN (fun i:Nat=>isLk n (sk i).a && isLk n (sk i).b) d 0 <;> rfl
  ·rw [vYH h]; rfl
end Go.Proofs.YtgmbkkkbfbocnaaGreat.Gc

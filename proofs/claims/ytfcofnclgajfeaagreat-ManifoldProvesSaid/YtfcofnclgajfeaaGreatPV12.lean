/- Part 12 of the texts behind the last one: rules and contracts. No condition. -/
import Derived.Test.YtfcofnclgajfeaaGreatPV11
open Option renaming bind_eq_some_iff → vQQ
open Option.some renaming injEq → vQZ
open Prod.mk renaming injEq → vQY
open Bool renaming and_eq_true → vQJ, and_self → vZJ, true_and → vZH
open List renaming getElem?_map → vZY
open Nat renaming lt_of_lt_of_le → vZK
open Go.IntKind renaming wrap → vJJ
namespace Go.Proofs.YtfcofnclgajfeaaGreat.Nf
open Go.Rx Rt Go.Sx Go.RowKit Od Oe Na Nb Nc Nx
theorem cj_par {i:Int} {j:J} (h:cjT (fun e=>e) i j=0) : -1≤j.parent∧j.parent < i:=by
 unfold cjT at h;by_cases h1:j.kind < 0
 ·rw [vJQ h1,vYV] at h; exact absurd h (by decide)
 by_cases h2:6 < j.kind
 ·rw [vYH h1,vYG,vJQ h2,vYV] at h; exact absurd h (by decide)
 by_cases h3:j.parent < -1
 ·rw [vYH h1,vYG,vYH h2,vYG,vJQ h3,vYV] at h; exact absurd h (by decide)
 by_cases h4:i≤j.parent
 ·rw [vYH h1,vYG,vYH h2,vYG,vYH h3,vYG,vJQ h4,vYV] at h; exact absurd h (by decide)
 omega
theorem jerr_cj {js:Nat→J} {n i:Nat} (h:jErr js n i=0):cjT (fun e=>e) i (js i)=0:=by
 unfold jErr at h;cases h1:nmB (js i).name with
 | false=>rw [h1] at h; exact absurd (show (802:Int)=0 from h) (by decide)
 | true =>
  cases h2:dup js (js i).name i 0 with
  | true=>rw [h1,h2] at h; exact absurd (show (802:Int)=0 from h) (by decide)
  | false=>rw [h1,h2] at h; exact h
theorem yWZ {js:Nat→J} {n:Nat}:∀ {k p:Nat},jE js n k p=0→∀ i,p≤i→i < p + k→jErr js n i=0
 | 0,p,_,i,h1,h2=>by omega
 | k + 1,p,h,i,h1,h2=>by
  unfold jE at h;by_cases hp:jErr js n p=0
  ·rw [vJQ hp,vYV] at h;rcases Nat.eq_or_lt_of_le h1 with e | e
   ·exact e ▸ hp
   ·exact yWZ h i e (by omega)
  ·rw [vYH hp,vYG] at h;exact absurd h hp
theorem rerr_je {js:Nat→J} {ms:Nat→Ms} {n m:Nat} (h:rErr js ms n m=0):jE js n n 0=0:=by
 have hn:=qGC h;unfold rErr at h;rw [vYH (show ¬ (n:Int)=0 by omega),vYH (show ¬ 10 < (n:Int) by omega),vYG,vYG] at h;by_cases hj:jE js n n 0=0
 ·exact hj
 ·rw [vYH hj,vYG] at h; exact h
theorem rerr_par {js:Nat→J} {ms:Nat→Ms} {n m:Nat} (h:rErr js ms n m=0):∀ i,i < n → -1≤(js i).parent∧(js i).parent < (i:Int):=fun i hi =>
 cj_par (jerr_cj (yWZ (rerr_je h) i (Nat.zero_le _) (by omega)))
def jl (js:Nat→J) (n:Nat):List J:=(List.range n).map js
def ml (ms:Nat→Ms) (m:Nat):List Ms:=(List.range m).map ms
def bl (bx:Nat→Iv) (k:Nat):List Iv:=(List.range k).map bx
theorem jl_e (js:Nat→J) (n:Nat):(jl js n).map jp=(List.range n).map (fJ js):=by unfold jl; rw [List.map_map]; rfl
theorem ml_e (ms:Nat→Ms) (m:Nat):(ml ms m).map mp=(List.range m).map (fM ms):=by unfold ml; rw [List.map_map]; rfl
theorem bl_e (bx:Nat→Iv) (k:Nat):(bl bx k).map Rx.ivC=(List.range k).map (fB bx):=by unfold bl; rw [List.map_map]; rfl
theorem yQB (js:Nat→J) (n:Nat):(jl js n).length=n:=by simp [jl]
theorem ml_len (ms:Nat→Ms) (m:Nat):(ml ms m).length=m:=by simp [ml]
theorem yKH (bx:Nat→Iv) (k:Nat):(bl bx k).length=k:=by simp [bl]
theorem jl_at {js:Nat→J} {n i:Nat} {j:J} (h:(jl js n)[i]? = some j):i < n∧j=js i:=by
 have hl:=(List.getElem?_eq_some_iff.1 h).1;rw [yQB] at hl;unfold jl at h;rw [vZY,List.getElem?_range hl] at h;cases h;exact ⟨hl,rfl⟩
theorem rob_lf {js:Nat→J} {ms:Nat→Ms} {n m:Nat} {F:Nat→Prop} {w:World} {v:Value} (hF:∀ k,F k→k < w.heap.size) (h:RP F w (.a [.lf n (fJ js),.lf m (fM ms)]) v):∃ aj cj am cm,v=.agg #[.slice aj n cj,.slice am m cm]∧qYG 12 aj ((jl js n).map jc) w∧qYG 5 am ((ml ms m).map mc) w:=by
 obtain ⟨vs,rfl,ha⟩:=rp_parts h;obtain ⟨v1,vs,rfl,h1,ha⟩:=qUA ha;obtain ⟨v2,vs,rfl,h2,ha⟩:=qUA ha;obtain rfl:=zHH ha;obtain ⟨aj,cj,rfl,_,hj⟩:=zVJ (sz:=12) (g:=jc) (fun _=>rfl) (fun _=>rfl) (yQB js n) hF (zZF (jl_e js n) h1);obtain ⟨am,cm,rfl,_,hm⟩:=zVJ (sz:=5) (g:=mc) (fun _=>rfl) (fun _=>rfl) (ml_len ms m) hF (zZF (ml_e ms m) h2);exact ⟨aj,cj,am,cm,rfl,hj,hm⟩
theorem box_lf {bx:Nat→Iv} {k:Nat} {F:Nat→Prop} {w:World} {v:Value} (hF:∀ k,F k→k < w.heap.size) (h:RP F w (.lf k (fB bx)) v):∃ a c,v=.slice a k c∧qYG 2 a ((bl bx k).map ivc) w:=by
 obtain ⟨a,c,rfl,_,hS⟩:=zVJ (sz:=2) (g:=ivc) (fun _=>rfl) (fun _=>rfl) (yKH bx k) hF (zZF (bl_e bx k) h);exact ⟨a,c,rfl,hS⟩
def LK (js:Nat→J) (bx:Nat→Iv) (n:Nat):List Po:=lks (jl js n) (bl bx n) n
def LP (js:Nat→J) (bx:Nat→Iv) (n:Nat):Nat→Po:=fun i=>(LK js bx n).getD i Po.rest
def fP (P:Nat→Po):Nat→List PV:=fun v=>Rx.poC (P v)
theorem yWD (js:Nat→J) (bx:Nat→Iv) (n:Nat):(LK js bx n).length=n:=lks_len _ (by rw [yQB]; exact Nat.le_refl _) (by rw [yKH]; exact Nat.le_refl _)
theorem LK_e (js:Nat→J) (bx:Nat→Iv) (n:Nat):(LK js bx n).map Rx.poC=(List.range n).map (fP (LP js bx n)):=by
 have:=rows_fn Po.rest Rx.poC (LK js bx n)
 rw [yWD] at this;exact this
theorem snd_kl (js:Nat→J) (ms:Nat→Ms) (bx:Nat→Iv) (n m:Nat) (hn:n≤1000) (hp:∀ i,i < n → -1≤(js i).parent∧(js i).parent < (i:Int)):yZ Tryz.prog 84 [.a [.lf n (fJ js),.lf m (fM ms)],.lf n (fB bx)] (.v (.lf n (fP (LP js bx n)))):=by
 refine qYD (Same.lf (LK_e js bx n)) (snd_told (X:=Nat) (Φ:=fun _=>True) (V:=fun b=>.slice (some ⟨b,0,none⟩) n n) (G:=fun b=>qYG 24 (some ⟨b,0,none⟩) ((LK js bx n).map pc)) (qU Tryz.func84 (by kernel_rfl) (by kernel_rfl)) (fun w F vals hF hal => ?_) (fun x w D F hP hG hd hF=>rp_told (g:=pc) (sz:=24) (fun _=>rfl) (fun _=>rfl) (yWD js bx n) (Nat.le_refl _) (by decide) hd hG (fun _ h=>h) hF));obtain ⟨v1,vs,rfl,h1,hal⟩:=qUA hal;obtain ⟨v2,vs,rfl,h2,hal⟩:=qUA hal;obtain rfl:=zHH hal;obtain ⟨aj,cj,am,cm,rfl,hj,hm'⟩:=rob_lf hF h1;obtain ⟨ab,cb,rfl,hS⟩:=box_lf hF h2;exact kLinks aj am ab cj m cm cb n (jl js n) (bl bx n) hn (yQB js n) (yKH bx n) (fun i j h=>by obtain ⟨hi,rfl⟩:=jl_at h; exact hp i hi) w hj hS
theorem snd_rl (js:Nat→J) (ms:Nat→Ms) (bx:Nat→Iv) (n m:Nat) (h0:rErr js ms n m=0) (hv:allV bx n=true):yZ Tryz.prog 72 [.a [.lf n (fJ js),.lf m (fM ms)],.lf n (fB bx)] (.v (.lf n (fP (LP js bx n)))):=by
 have hn:=qGC h0;have hp:=rerr_par h0;have hl:((LK js bx n).map Rx.poC).length=n:=by rw [List.length_map]; exact yWD js bx n
 refine qYD (Same.lf (LK_e js bx n)) (zZB (e:=115) (sz:=24) (snd_toldOw (Φ:=fun _=>True) (rows:=(LK js bx n).map Rx.poC) (qU Tryz.func72 (by kernel_rfl) (by kernel_rfl)) (zGE (fun _=>rfl) _) (by decide) (fun w F vals hF hal => ?_)));have hal0:=hal;obtain ⟨v1,vs,rfl,h1,hal⟩:=qUA hal;obtain ⟨v2,vs,rfl,h2,hal⟩:=qUA hal;obtain rfl:=zHH hal;have up:∀ w':World,Grow w w'→∀ {p:PV} {v:Value},RP F w p v→RP (fun k=>k < w'.heap.size) w' p v:=fun w' g p v h=>h.mono fun k hk=>⟨vZK (hF k hk) g.size,g.block k (hF k hk)⟩
 have hC:=fun (w':World) (g:Grow w w')=>qVB (w:=w') (zVY js ms n m) rfl (qYL (up w' g h1) yQD)
 have hB:=fun (w':World) (g:Grow w w')=>qVB (w:=w') (snd_isR js ms bx n m n (by omega)) rfl (qYL (up w' g h1) (qYL (up w' g h2) yQD))
 obtain ⟨aj,cj,am,cm,rfl,hj,hm'⟩:=rob_lf hF h1;obtain ⟨ab,cb,rfl,hS⟩:=box_lf hF h2;rw [h0] at hC;have hB':isB bx n n=true:=by unfold isB; rw [hv,vJQ rfl]; rfl
 rw [hB'] at hB;rw [hl,qGF (g:=pc) (fun _=>rfl)];exact rLinks aj am ab cj m cm cb n (jl js n) (bl bx n) (by omega) (yQB js n) (yKH bx n) (fun i j h=>by obtain ⟨hi,rfl⟩:=jl_at h; exact hp i hi) w hj hS hC hB
theorem snd_ka (js:Nat→J) (ms:Nat→Ms) (bx:Nat→Iv) (n m:Nat) (h0:rErr js ms n m=0) (hv:allV bx n=true):yZ Tryz.prog 54 [.a [.lf n (fJ js),.lf m (fM ms)],.lf n (fB bx)] (.v (.lf n (fP (LP js bx n)))):=by
 have hn:=qGC h0;refine qX (N:=60) yY yQ (OrL.ok (l:=[(83,o_cr [.a [.lf n (fJ js),.lf m (fM ms)],.lf n (fB bx)] (.v (.b (isB bx n n)))),(48,o_cr [.a [.lf n (fJ js),.lf m (fM ms)]] (.v (.n .i64 (rErr js ms n m)))),(84,o_cr [.a [.lf n (fJ js),.lf m (fM ms)],.lf n (fB bx)] (.v (.lf n (fP (LP js bx n)))))]) ⟨qJZ (snd_isP js ms bx n m n (by omega)),qJZ (yZG js ms n m),qJZ (snd_kl js ms bx n m (by omega) (rerr_par h0)),trivial⟩) ?_;refine (by kernel_rfl:_=bif (g1 [.a [.lf n (fJ js),.lf m (fM ms)],.lf n (fB bx)]) then (bif (isB bx n n) then (bif (g1 [.a [.lf n (fJ js),.lf m (fM ms)]]) then (bif (!decide ((rErr js ms n m)=0)) then some (.v (.l []),[])
 else bif (g1 [.a [.lf n (fJ js),.lf m (fM ms)],.lf n (fB bx)]) then some (.v (.lf n (fP (LP js bx n))),[])
 else none)
 else none)
 else some (.v (.l []),[]))
 else none).trans ?_
 have hB':isB bx n n=true:=by unfold isB; rw [hv,vJQ rfl]; rfl
 simp only [g1_t,hB',h0];rfl
end Go.Proofs.YtfcofnclgajfeaaGreat.Nf
namespace Go.Proofs.YtfcofnclgajfeaaGreat.Nd
open Go.Rx Rt Go.Sx Go.RowKit Od
open Na Nb Nc
theorem bcs {α:Type} {c:Bool} {x y z:α} (h1:c=true→x=z) (h2:c=false→y=z):(bif c then x else y)=z:=by
 cases c
 ·exact h2 rfl
 ·exact h1 rfl
def fC (cs:Nat→Cn):Nat→List PV:=fun v=>cp (cs v)
def COK (n:Nat) (q:Cn):Prop:=(q.kind=0 ∨ q.kind=1)∧(0≤q.link∧q.link < n)∧(-4194304≤q.p.x∧q.p.x≤4194304)∧(-4194304≤q.p.y∧q.p.y≤4194304)∧(-4194304≤q.p.z∧q.p.z≤4194304) ∧
 (-16384≤q.n.x∧q.n.x≤16384)∧(-16384≤q.n.y∧q.n.y≤16384)∧(-16384≤q.n.z∧q.n.z≤16384)∧¬ (q.n.x=0∧q.n.y=0∧q.n.z=0)∧q.lo≤q.hi ∧ -70368744177664≤q.lo∧q.hi≤70368744177664
instance (n:Nat) (q:Cn):Decidable (COK n q):=by unfold COK; exact inferInstance
def conB (n:Nat) (q:Cn):Bool:=decide (COK n q)
def cAll (cs:Nat→Cn) (n:Nat):Nat→Nat→Bool
 | 0,_=>true
 | k + 1,p=>conB n (cs p) && cAll cs n k (p + 1)
def cErr (js:Nat→J) (ms:Nat→Ms) (n m:Nat) (cs:Nat→Cn) (c:Nat):Bool:=decide (rErr js ms n m=0) && (!decide (8 < (c:Int)) && cAll cs n c 0)
noncomputable def qUD (js:Nat→J) (ms:Nat→Ms) (n m:Nat):List PV→Option (Bool × Ret):=fun ps=>match ps with
 | [r]=>some (gEq r (.a [.lf n (fJ js),.lf m (fM ms)]),.v (.n .i64 (rErr js ms n m)))
 | _=>none
theorem ok_kMc (js:Nat→J) (ms:Nat→Ms) (n m:Nat):zY Tryz.prog 48 (qUD js ms n m):=by
 intro ps r hh;unfold qUD at hh;split at hh
 ·simp only [vQZ,vQY] at hh;obtain ⟨hg,rfl⟩:=hh;obtain rfl:=qXG hg;exact yZG js ms n m
 ·cases hh
def hMc (js:Nat→J) (ms:Nat→Ms) (n m:Nat) (cs:Nat→Cn) (c:Nat) (i:Int):St:=⟨[(2,.p 2 0),(17,.v (.lf c (fC cs))),(18,.v (.n .i64 (c:Int))),(19,.v (.n .i64 i))],[(2,.blk [.v (.lf n (fJ js)),.v (.lf m (fM ms))])]⟩
def cTMc {α:Type} (n:Nat) (q:Cn) (a b:α):α:=(bif (!decide (q.kind=0)) then (bif (!decide (q.kind=1)) then b else (bif (decide (q.link < 0)) then b else (bif (decide ((n:Int)≤q.link)) then b else (bif (decide (q.p.x < (-4194304))) then b else (bif (decide (4194304 < q.p.x)) then b else (bif (decide (q.p.y < (-4194304))) then b else (bif (decide (4194304 < q.p.y)) then b else (bif (decide (q.p.z < (-4194304))) then b else (bif (decide (4194304 < q.p.z)) then b else (bif (decide (q.n.x < (-16384))) then b else (bif (decide (16384 < q.n.x)) then b else (bif (decide (q.n.y < (-16384))) then b else (bif (decide (16384 < q.n.y)) then b else (bif (decide (q.n.z < (-16384))) then b else (bif (decide (16384 < q.n.z)) then b else (bif (!((decide (q.n.x=0)) && ((decide (q.n.y=0)) && ((decide (q.n.z=0)) && true)))) then (bif (decide (q.hi < q.lo)) then b else (bif (decide (q.lo < (-70368744177664))) then b else (bif (decide (70368744177664 < q.hi)) then b else a))) else b)))))))))))))))) else (bif (decide (q.link < 0)) then b else (bif (decide ((n:Int)≤q.link)) then b else (bif (decide (q.p.x < (-4194304))) then b else (bif (decide (4194304 < q.p.x)) then b else (bif (decide (q.p.y < (-4194304))) then b else (bif (decide (4194304 < q.p.y)) then b else (bif (decide (q.p.z < (-4194304))) then b else (bif (decide (4194304 < q.p.z)) then b else (bif (decide (q.n.x < (-16384))) then b else (bif (decide (16384 < q.n.x)) then b else (bif (decide (q.n.y < (-16384))) then b else (bif (decide (16384 < q.n.y)) then b else (bif (decide (q.n.z < (-16384))) then b else (bif (decide (16384 < q.n.z)) then b else (bif (!((decide (q.n.x=0)) && ((decide (q.n.y=0)) && ((decide (q.n.z=0)) && true)))) then (bif (decide (q.hi < q.lo)) then b else (bif (decide (q.lo < (-70368744177664))) then b else (bif (decide (70368744177664 < q.hi)) then b else a))) else b))))))))))))))))
theorem cTMc_z {α:Type} (n:Nat) (q:Cn) (a b:α):cTMc n q a b=(bif (decide (¬ q.kind=0)) then (bif (decide (¬ q.kind=1)) then b else (bif (decide (q.link < 0)) then b else (bif (decide ((n:Int)≤q.link)) then b else (bif (decide (q.p.x < (-4194304))) then b else (bif (decide (4194304 < q.p.x)) then b else (bif (decide (q.p.y < (-4194304))) then b else (bif (decide (4194304 < q.p.y)) then b else (bif (decide (q.p.z < (-4194304))) then b else (bif (decide (4194304 < q.p.z)) then b else (bif (decide (q.n.x < (-16384))) then b else (bif (decide (16384 < q.n.x)) then b else (bif (decide (q.n.y < (-16384))) then b else (bif (decide (16384 < q.n.y)) then b else (bif (decide (q.n.z < (-16384))) then b else (bif (decide (16384 < q.n.z)) then b else (bif (decide (¬ (q.n.x=0∧q.n.y=0∧q.n.z=0))) then (bif (decide (q.hi < q.lo)) then b else (bif (decide (q.lo < (-70368744177664))) then b else (bif (decide (70368744177664 < q.hi)) then b else a))) else b)))))))))))))))) else (bif (decide (q.link < 0)) then b else (bif (decide ((n:Int)≤q.link)) then b else (bif (decide (q.p.x < (-4194304))) then b else (bif (decide (4194304 < q.p.x)) then b else (bif (decide (q.p.y < (-4194304))) then b else (bif (decide (4194304 < q.p.y)) then b else (bif (decide (q.p.z < (-4194304))) then b else (bif (decide (4194304 < q.p.z)) then b else (bif (decide (q.n.x < (-16384))) then b else (bif (decide (16384 < q.n.x)) then b else (bif (decide (q.n.y < (-16384))) then b else (bif (decide (16384 < q.n.y)) then b else (bif (decide (q.n.z < (-16384))) then b else (bif (decide (16384 < q.n.z)) then b else (bif (decide (¬ (q.n.x=0∧q.n.y=0∧q.n.z=0))) then (bif (decide (q.hi < q.lo)) then b else (bif (decide (q.lo < (-70368744177664))) then b else (bif (decide (70368744177664 < q.hi)) then b else a))) else b)))))))))))))))):=by
 have hz:(!((decide (q.n.x=0)) && ((decide (q.n.y=0)) && ((decide (q.n.z=0)) && true))))=decide (¬ (q.n.x=0∧q.n.y=0∧q.n.z=0)):=by
  by_cases hx:q.n.x=0 <;> by_cases hy:q.n.y=0 <;> by_cases hw:q.n.z=0 <;> simp [hx,hy,hw]
 have hk0:(!decide (q.kind=0))=decide (¬ q.kind=0):=by simp
 have hk1:(!decide (q.kind=1))=decide (¬ q.kind=1):=by simp
 unfold cTMc;rw [hz,hk0,hk1]
theorem cTMc_eq {α:Type} (n:Nat) (q:Cn) (a b:α):cTMc n q a b=bif conB n q then a else b:=by
 rw [cTMc_z];unfold conB;by_cases h:COK n q
 ·rw [vJQ h,vYV];obtain ⟨h0,⟨h1,h2⟩,⟨h3,h4⟩,⟨h5,h6⟩,⟨h7,h8⟩,⟨h9,h10⟩,⟨h11,h12⟩,⟨h13,h14⟩,h15,h16,h17,h18⟩:=h;rcases h0 with h0 | h0
  ·simp only [vYH (show ¬ ¬ q.kind=0 by omega),vJQ h15,vYH (show ¬ q.link < 0 by omega),vYH (show ¬ (n:Int)≤q.link by omega),vYH (show ¬ q.p.x < (-4194304) by omega),vYH (show ¬ 4194304 < q.p.x by omega),vYH (show ¬ q.p.y < (-4194304) by omega),vYH (show ¬ 4194304 < q.p.y by omega),vYH (show ¬ q.p.z < (-4194304) by omega),vYH (show ¬ 4194304 < q.p.z by omega),vYH (show ¬ q.n.x < (-16384) by omega),vYH (show ¬ 16384 < q.n.x by omega),vYH (show ¬ q.n.y < (-16384) by omega),vYH (show ¬ 16384 < q.n.y by omega),vYH (show ¬ q.n.z < (-16384) by omega),vYH (show ¬ 16384 < q.n.z by omega),vYH (show ¬ q.hi < q.lo by omega),vYH (show ¬ q.lo < (-70368744177664) by omega),vYH (show ¬ 70368744177664 < q.hi by omega),vYV,vYG]
  ·simp only [vJQ (show ¬ q.kind=0 by omega),vYH (show ¬ ¬ q.kind=1 by omega),vJQ h15,vYH (show ¬ q.link < 0 by omega),vYH (show ¬ (n:Int)≤q.link by omega),vYH (show ¬ q.p.x < (-4194304) by omega),vYH (show ¬ 4194304 < q.p.x by omega),vYH (show ¬ q.p.y < (-4194304) by omega),vYH (show ¬ 4194304 < q.p.y by omega),vYH (show ¬ q.p.z < (-4194304) by omega),vYH (show ¬ 4194304 < q.p.z by omega),vYH (show ¬ q.n.x < (-16384) by omega),vYH (show ¬ 16384 < q.n.x by omega),vYH (show ¬ q.n.y < (-16384) by omega),vYH (show ¬ 16384 < q.n.y by omega),vYH (show ¬ q.n.z < (-16384) by omega),vYH (show ¬ 16384 < q.n.z by omega),vYH (show ¬ q.hi < q.lo by omega),vYH (show ¬ q.lo < (-70368744177664) by omega),vYH (show ¬ 70368744177664 < q.hi by omega),vYV,vYG]
 ·rw [vYH h,vYG];exact bcs (fun _=>bcs (fun _=>rfl) (fun _=>bcs (fun _=>rfl) (fun _=>bcs (fun _=>rfl) (fun _=>bcs (fun _=>rfl) (fun _=>bcs (fun _=>rfl) (fun _=>bcs (fun _=>rfl) (fun _=>bcs (fun _=>rfl) (fun _=>bcs (fun _=>rfl) (fun _=>bcs (fun _=>rfl) (fun _=>bcs (fun _=>rfl) (fun _=>bcs (fun _=>rfl) (fun _=>bcs (fun _=>rfl) (fun _=>bcs (fun _=>rfl) (fun _=>bcs (fun _=>rfl) (fun _=>bcs (fun _=>rfl) (fun _=>bcs (fun _=>bcs (fun _=>rfl) (fun _=>bcs (fun _=>rfl) (fun _=>bcs (fun _=>rfl) (fun _=>(by simp only [decide_eq_true_eq,decide_eq_false_iff_not] at *; exact absurd (by unfold COK; refine ⟨?_,⟨?_,?_⟩,⟨?_,?_⟩,⟨?_,?_⟩,⟨?_,?_⟩,⟨?_,?_⟩,⟨?_,?_⟩,⟨?_,?_⟩,?_,?_,?_,?_⟩ <;> omega) h))))) (fun _=>rfl))))))))))))))))) (fun _=>bcs (fun _=>rfl) (fun _=>bcs (fun _=>rfl) (fun _=>bcs (fun _=>rfl) (fun _=>bcs (fun _=>rfl) (fun _=>bcs (fun _=>rfl) (fun _=>bcs (fun _=>rfl) (fun _=>bcs (fun _=>rfl) (fun _=>bcs (fun _=>rfl) (fun _=>bcs (fun _=>rfl) (fun _=>bcs (fun _=>rfl) (fun _=>bcs (fun _=>rfl) (fun _=>bcs (fun _=>rfl) (fun _=>bcs (fun _=>rfl) (fun _=>bcs (fun _=>rfl) (fun _=>bcs (fun _=>bcs (fun _=>rfl) (fun _=>bcs (fun _=>rfl) (fun _=>bcs (fun _=>rfl) (fun _=>(by simp only [decide_eq_true_eq,decide_eq_false_iff_not] at *; exact absurd (by unfold COK; refine ⟨?_,⟨?_,?_⟩,⟨?_,?_⟩,⟨?_,?_⟩,⟨?_,?_⟩,⟨?_,?_⟩,⟨?_,?_⟩,⟨?_,?_⟩,?_,?_,?_,?_⟩ <;> omega) h))))) (fun _=>rfl))))))))))))))))
set_option maxRecDepth 100000 in
theorem rdMc (G:St→Option (Ret × Mem)) (K:Cont) (js:Nat→J) (ms:Nat→Ms) (n m:Nat) (cs:Nat→Cn) (c:Nat) (i:Int):qJI 60 (cxF T (OrL.k [(48,qUD js ms n m)]) 60 30 (ntmF T 30)) (ckF T (OrL.k [(48,qUD js ms n m)]) 60) (qK T 30 [0,1,0,1,1]) (fun e τ=>match e with
 | .normal=>G (qYV ((cxF T (OrL.k [(48,qUD js ms n m)]) 60 30 (ntmF T 30)).T.hint (cxF T (OrL.k [(48,qUD js ms n m)]) 60 30 (ntmF T 30)).me (zV (qK T 30 [0,1,0,1,1]))) τ)
 | e=>K e (qZG ((cxF T (OrL.k [(48,qUD js ms n m)]) 60 30 (ntmF T 30)).T.hint (cxF T (OrL.k [(48,qUD js ms n m)]) 60 30 (ntmF T 30)).me (zV (qK T 30 [0,1,0,1,1]))) τ)) (hMc js ms n m cs c i) =
 bif decide (i < (c:Int)) then (bif inB i c then cTMc n (cs i.toNat) (G (hMc js ms n m cs c (vJJ .i64 (i + 1)))) (K .ret ⟨[(4,.v (.b false))],[]⟩) else none) else (K (.exit 0) ⟨[],[]⟩):=by kernel_rfl
theorem lpMc (K:Cont) (js:Nat→J) (ms:Nat→Ms) (n m:Nat) (cs:Nat→Cn) (c:Nat) (hc:c≤1000):∀ (k p q:Nat),p + k=c→k < q→LF 60 (cxF T (OrL.k [(48,qUD js ms n m)]) 60 30 (ntmF T 30)) (ckF T (OrL.k [(48,qUD js ms n m)]) 60) (qK T 30 [0,1,0,1,1]) ((cxF T (OrL.k [(48,qUD js ms n m)]) 60 30 (ntmF T 30)).T.hint (cxF T (OrL.k [(48,qUD js ms n m)]) 60 30 (ntmF T 30)).me (zV (qK T 30 [0,1,0,1,1]))) K q (hMc js ms n m cs c p)=bif cAll cs n k p then (K (.exit 0) ⟨[],[]⟩) else (K .ret ⟨[(4,.v (.b false))],[]⟩)
 | 0,p,q + 1,hp,hq=>by
  refine (rdMc (fun σ=>LF 60 (cxF T (OrL.k [(48,qUD js ms n m)]) 60 30 (ntmF T 30)) (ckF T (OrL.k [(48,qUD js ms n m)]) 60) (qK T 30 [0,1,0,1,1]) ((cxF T (OrL.k [(48,qUD js ms n m)]) 60 30 (ntmF T 30)).T.hint (cxF T (OrL.k [(48,qUD js ms n m)]) 60 30 (ntmF T 30)).me (zV (qK T 30 [0,1,0,1,1]))) K q σ) K js ms n m cs c p).trans ?_;rw [vYH (show ¬ (p:Int) < (c:Int) by omega)];rfl
 | k + 1,p,q + 1,hp,hq=>by
  refine (rdMc (fun σ=>LF 60 (cxF T (OrL.k [(48,qUD js ms n m)]) 60 30 (ntmF T 30)) (ckF T (OrL.k [(48,qUD js ms n m)]) 60) (qK T 30 [0,1,0,1,1]) ((cxF T (OrL.k [(48,qUD js ms n m)]) 60 30 (ntmF T 30)).T.hint (cxF T (OrL.k [(48,qUD js ms n m)]) 60 30 (ntmF T 30)).me (zV (qK T 30 [0,1,0,1,1]))) K q σ) K js ms n m cs c p).trans ?_;rw [vJQ (show (p:Int) < (c:Int) by omega),kZ (show p < c by omega),qZQ (by omega),lpMc K js ms n m cs c hc k (p + 1) q (by omega) (by omega),toN,cTMc_eq];by_cases hq:conB n (cs p)=true
  ·simp only [cAll,hq,vYV,vZH]
  ·rw [Bool.not_eq_true] at hq;simp only [cAll,hq,vYV,vYG,Bool.false_and]
set_option maxRecDepth 100000 in
theorem pxMc (js:Nat→J) (ms:Nat→Ms) (n m:Nat) (cs:Nat→Cn) (c:Nat):qKH T (OrL.k [(48,qUD js ms n m)]) (zW [([0,1,0,1,1],yW (hMc js ms n m cs c 0) (fun K=>bif decide (8 < (c:Int)) then none else (bif cAll cs n c 0 then (K (.exit 0) ⟨[],[]⟩) else (K .ret ⟨[(4,.v (.b false))],[]⟩))))]) 60 30 [(.a [.lf n (fJ js),.lf m (fM ms)]),.lf c (fC cs)] =
 (bif (gEq (.a [.lf n (fJ js),.lf m (fM ms)]) (.a [.lf n (fJ js),.lf m (fM ms)])) then (bif (!decide ((rErr js ms n m)=0)) then some (.v (.b false),[])
 else (bif (decide (8 < (c:Int))) then some (.v (.b false),[])
 else (bif gSt (hMc js ms n m cs c 0) (hMc js ms n m cs c 0) then (bif decide (8 < (c:Int)) then none else (bif cAll cs n c 0 then some (.v (.b true),[]) else some (.v (.b false),[]))) else none)))
 else none):=by kernel_rfl
theorem snd_Mc (js:Nat→J) (ms:Nat→Ms) (n m:Nat) (cs:Nat→Cn) (c:Nat):yZ Tryz.prog 30 [(.a [.lf n (fJ js),.lf m (fM ms)]),.lf c (fC cs)] (.v (.b (cErr js ms n m cs c))):=by
 refine yH (N:=60) (LO:=zW [([0,1,0,1,1],yW (hMc js ms n m cs c 0) (fun K=>bif decide (8 < (c:Int)) then none else (bif cAll cs n c 0 then (K (.exit 0) ⟨[],[]⟩) else (K .ret ⟨[(4,.v (.b false))],[]⟩))))]) yY yQ (OrL.ok (l:=[(48,qUD js ms n m)]) ⟨ok_kMc js ms n m,trivial⟩) (fun p S hp => ?_) ?_
 ·refine kQ (L:=qK T 30) (l:=[([0,1,0,1,1],yW (hMc js ms n m cs c 0) (fun K=>bif decide (8 < (c:Int)) then none else (bif cAll cs n c 0 then (K (.exit 0) ⟨[],[]⟩) else (K .ret ⟨[(4,.v (.b false))],[]⟩))))]) (show AllP _ [([0,1,0,1,1],yW (hMc js ms n m cs c 0) (fun K=>bif decide (8 < (c:Int)) then none else (bif cAll cs n c 0 then (K (.exit 0) ⟨[],[]⟩) else (K .ret ⟨[(4,.v (.b false))],[]⟩))))] from ⟨kW fun K r hr => ?_,trivial⟩) p S hp;cases hq:decide (8 < (c:Int)) with
  | true=>rw [hq] at hr; cases hr
  | false =>
   rw [hq] at hr;have h8:=vJY hq;exact (lpMc K js ms n m cs c (by omega) c 0 60 (by omega) (by omega)).trans hr
 ·refine (pxMc js ms n m cs c).trans ?_;unfold cErr;rw [jG,qWB];cases decide (rErr js ms n m=0) <;> cases decide (8 < (c:Int)) <;> cases cAll cs n c 0 <;> rfl
noncomputable def qUC (js:Nat→J) (ms:Nat→Ms) (n m:Nat):List PV→Option (Bool × Ret):=fun ps=>match ps with
 | [r]=>some (gEq r (.a [.lf n (fJ js),.lf m (fM ms)]),.v (.n .i64 (rErr js ms n m)))
 | _=>none
theorem ok_kRc (js:Nat→J) (ms:Nat→Ms) (n m:Nat):zY Tryz.prog 69 (qUC js ms n m):=by
 intro ps r hh;unfold qUC at hh;split at hh
 ·simp only [vQZ,vQY] at hh;obtain ⟨hg,rfl⟩:=hh;obtain rfl:=qXG hg;exact zVY js ms n m
 ·cases hh
def hRc (js:Nat→J) (ms:Nat→Ms) (n m:Nat) (cs:Nat→Cn) (c:Nat) (i:Int):St:=⟨[(1,.v (.lf c (fC cs))),(2,.p 2 0),(5,.v (.n .i64 i))],[(2,.blk [.v (.lf n (fJ js)),.v (.lf m (fM ms))])]⟩
def cTRc {α:Type} (n:Nat) (q:Cn) (a b:α):α:=(bif (!decide (q.kind=0)) then (bif (!decide (q.kind=1)) then b else (bif (decide (q.link < 0)) then b else (bif (decide ((n:Int)≤q.link)) then b else (bif (decide (q.p.x < (-4194304))) then b else (bif (decide (4194304 < q.p.x)) then b else (bif (decide (q.p.y < (-4194304))) then b else (bif (decide (4194304 < q.p.y)) then b else (bif (decide (q.p.z < (-4194304))) then b else (bif (decide (4194304 < q.p.z)) then b else (bif (!((decide (q.n.x=0)) && ((decide (q.n.y=0)) && ((decide (q.n.z=0)) && true)))) then (bif (decide (q.n.x < (-16384))) then b else (bif (decide (16384 < q.n.x)) then b else (bif (decide (q.n.y < (-16384))) then b else (bif (decide (16384 < q.n.y)) then b else (bif (decide (q.n.z < (-16384))) then b else (bif (decide (16384 < q.n.z)) then b else (bif (decide (q.hi < q.lo)) then b else (bif (decide (q.lo < (-70368744177664))) then b else (bif (decide (70368744177664 < q.hi)) then b else a))))))))) else b)))))))))) else (bif (decide (q.link < 0)) then b else (bif (decide ((n:Int)≤q.link)) then b else (bif (decide (q.p.x < (-4194304))) then b else (bif (decide (4194304 < q.p.x)) then b else (bif (decide (q.p.y < (-4194304))) then b else (bif (decide (4194304 < q.p.y)) then b else (bif (decide (q.p.z < (-4194304))) then b else (bif (decide (4194304 < q.p.z)) then b else (bif (!((decide (q.n.x=0)) && ((decide (q.n.y=0)) && ((decide (q.n.z=0)) && true)))) then (bif (decide (q.n.x < (-16384))) then b else (bif (decide (16384 < q.n.x)) then b else (bif (decide (q.n.y < (-16384))) then b else (bif (decide (16384 < q.n.y)) then b else (bif (decide (q.n.z < (-16384))) then b else (bif (decide (16384 < q.n.z)) then b else (bif (decide (q.hi < q.lo)) then b else (bif (decide (q.lo < (-70368744177664))) then b else (bif (decide (70368744177664 < q.hi)) then b else a))))))))) else b))))))))))
theorem cTRc_z {α:Type} (n:Nat) (q:Cn) (a b:α):cTRc n q a b=(bif (decide (¬ q.kind=0)) then (bif (decide (¬ q.kind=1)) then b else (bif (decide (q.link < 0)) then b else (bif (decide ((n:Int)≤q.link)) then b else (bif (decide (q.p.x < (-4194304))) then b else (bif (decide (4194304 < q.p.x)) then b else (bif (decide (q.p.y < (-4194304))) then b else (bif (decide (4194304 < q.p.y)) then b else (bif (decide (q.p.z < (-4194304))) then b else (bif (decide (4194304 < q.p.z)) then b else (bif (decide (¬ (q.n.x=0∧q.n.y=0∧q.n.z=0))) then (bif (decide (q.n.x < (-16384))) then b else (bif (decide (16384 < q.n.x)) then b else (bif (decide (q.n.y < (-16384))) then b else (bif (decide (16384 < q.n.y)) then b else (bif (decide (q.n.z < (-16384))) then b else (bif (decide (16384 < q.n.z)) then b else (bif (decide (q.hi < q.lo)) then b else (bif (decide (q.lo < (-70368744177664))) then b else (bif (decide (70368744177664 < q.hi)) then b else a))))))))) else b)))))))))) else (bif (decide (q.link < 0)) then b else (bif (decide ((n:Int)≤q.link)) then b else (bif (decide (q.p.x < (-4194304))) then b else (bif (decide (4194304 < q.p.x)) then b else (bif (decide (q.p.y < (-4194304))) then b else (bif (decide (4194304 < q.p.y)) then b else (bif (decide (q.p.z < (-4194304))) then b else (bif (decide (4194304 < q.p.z)) then b else (bif (decide (¬ (q.n.x=0∧q.n.y=0∧q.n.z=0))) then (bif (decide (q.n.x < (-16384))) then b else (bif (decide (16384 < q.n.x)) then b else (bif (decide (q.n.y < (-16384))) then b else (bif (decide (16384 < q.n.y)) then b else (bif (decide (q.n.z < (-16384))) then b else (bif (decide (16384 < q.n.z)) then b else (bif (decide (q.hi < q.lo)) then b else (bif (decide (q.lo < (-70368744177664))) then b else (bif (decide (70368744177664 < q.hi)) then b else a))))))))) else b)))))))))):=by
 have hz:(!((decide (q.n.x=0)) && ((decide (q.n.y=0)) && ((decide (q.n.z=0)) && true))))=decide (¬ (q.n.x=0∧q.n.y=0∧q.n.z=0)):=by
  by_cases hx:q.n.x=0 <;> by_cases hy:q.n.y=0 <;> by_cases hw:q.n.z=0 <;> simp [hx,hy,hw]
 have hk0:(!decide (q.kind=0))=decide (¬ q.kind=0):=by simp
 have hk1:(!decide (q.kind=1))=decide (¬ q.kind=1):=by simp
 unfold cTRc;rw [hz,hk0,hk1]
theorem cTRc_eq {α:Type} (n:Nat) (q:Cn) (a b:α):cTRc n q a b=bif conB n q then a else b:=by
 rw [cTRc_z];unfold conB;by_cases h:COK n q
 ·rw [vJQ h,vYV];obtain ⟨h0,⟨h1,h2⟩,⟨h3,h4⟩,⟨h5,h6⟩,⟨h7,h8⟩,⟨h9,h10⟩,⟨h11,h12⟩,⟨h13,h14⟩,h15,h16,h17,h18⟩:=h;rcases h0 with h0 | h0
  ·simp only [vYH (show ¬ ¬ q.kind=0 by omega),vJQ h15,vYH (show ¬ q.link < 0 by omega),vYH (show ¬ (n:Int)≤q.link by omega),vYH (show ¬ q.p.x < (-4194304) by omega),vYH (show ¬ 4194304 < q.p.x by omega),vYH (show ¬ q.p.y < (-4194304) by omega),vYH (show ¬ 4194304 < q.p.y by omega),vYH (show ¬ q.p.z < (-4194304) by omega),vYH (show ¬ 4194304 < q.p.z by omega),vYH (show ¬ q.n.x < (-16384) by omega),vYH (show ¬ 16384 < q.n.x by omega),vYH (show ¬ q.n.y < (-16384) by omega),vYH (show ¬ 16384 < q.n.y by omega),vYH (show ¬ q.n.z < (-16384) by omega),vYH (show ¬ 16384 < q.n.z by omega),vYH (show ¬ q.hi < q.lo by omega),vYH (show ¬ q.lo < (-70368744177664) by omega),vYH (show ¬ 70368744177664 < q.hi by omega),vYV,vYG]
  ·simp only [vJQ (show ¬ q.kind=0 by omega),vYH (show ¬ ¬ q.kind=1 by omega),vJQ h15,vYH (show ¬ q.link < 0 by omega),vYH (show ¬ (n:Int)≤q.link by omega),vYH (show ¬ q.p.x < (-4194304) by omega),vYH (show ¬ 4194304 < q.p.x by omega),vYH (show ¬ q.p.y < (-4194304) by omega),vYH (show ¬ 4194304 < q.p.y by omega),vYH (show ¬ q.p.z < (-4194304) by omega),vYH (show ¬ 4194304 < q.p.z by omega),vYH (show ¬ q.n.x < (-16384) by omega),vYH (show ¬ 16384 < q.n.x by omega),vYH (show ¬ q.n.y < (-16384) by omega),vYH (show ¬ 16384 < q.n.y by omega),vYH (show ¬ q.n.z < (-16384) by omega),vYH (show ¬ 16384 < q.n.z by omega),vYH (show ¬ q.hi < q.lo by omega),vYH (show ¬ q.lo < (-70368744177664) by omega),vYH (show ¬ 70368744177664 < q.hi by omega),vYV,vYG]
 ·rw [vYH h,vYG];exact bcs (fun _=>bcs (fun _=>rfl) (fun _=>bcs (fun _=>rfl) (fun _=>bcs (fun _=>rfl) (fun _=>bcs (fun _=>rfl) (fun _=>bcs (fun _=>rfl) (fun _=>bcs (fun _=>rfl) (fun _=>bcs (fun _=>rfl) (fun _=>bcs (fun _=>rfl) (fun _=>bcs (fun _=>rfl) (fun _=>bcs (fun _=>bcs (fun _=>rfl) (fun _=>bcs (fun _=>rfl) (fun _=>bcs (fun _=>rfl) (fun _=>bcs (fun _=>rfl) (fun _=>bcs (fun _=>rfl) (fun _=>bcs (fun _=>rfl) (fun _=>bcs (fun _=>rfl) (fun _=>bcs (fun _=>rfl) (fun _=>bcs (fun _=>rfl) (fun _=>(by simp only [decide_eq_true_eq,decide_eq_false_iff_not] at *; exact absurd (by unfold COK; refine ⟨?_,⟨?_,?_⟩,⟨?_,?_⟩,⟨?_,?_⟩,⟨?_,?_⟩,⟨?_,?_⟩,⟨?_,?_⟩,⟨?_,?_⟩,?_,?_,?_,?_⟩ <;> omega) h))))))))))) (fun _=>rfl))))))))))) (fun _=>bcs (fun _=>rfl) (fun _=>bcs (fun _=>rfl) (fun _=>bcs (fun _=>rfl) (fun _=>bcs (fun _=>rfl) (fun _=>bcs (fun _=>rfl) (fun _=>bcs (fun _=>rfl) (fun _=>bcs (fun _=>rfl) (fun _=>bcs (fun _=>rfl) (fun _=>bcs (fun _=>bcs (fun _=>rfl) (fun _=>bcs (fun _=>rfl) (fun _=>bcs (fun _=>rfl) (fun _=>bcs (fun _=>rfl) (fun _=>bcs (fun _=>rfl) (fun _=>bcs (fun _=>rfl) (fun _=>bcs (fun _=>rfl) (fun _=>bcs (fun _=>rfl) (fun _=>bcs (fun _=>rfl) (fun _=>(by simp only [decide_eq_true_eq,decide_eq_false_iff_not] at *; exact absurd (by unfold COK; refine ⟨?_,⟨?_,?_⟩,⟨?_,?_⟩,⟨?_,?_⟩,⟨?_,?_⟩,⟨?_,?_⟩,⟨?_,?_⟩,⟨?_,?_⟩,?_,?_,?_,?_⟩ <;> omega) h))))))))))) (fun _=>rfl))))))))))
set_option maxRecDepth 100000 in
theorem rdRc (G:St→Option (Ret × Mem)) (K:Cont) (js:Nat→J) (ms:Nat→Ms) (n m:Nat) (cs:Nat→Cn) (c:Nat) (i:Int):qJI 60 (cxF T (OrL.k [(69,qUC js ms n m)]) 60 43 (ntmF T 43)) (ckF T (OrL.k [(69,qUC js ms n m)]) 60) (qK T 43 [0,1,0,1,1]) (fun e τ=>match e with
 | .normal=>G (qYV ((cxF T (OrL.k [(69,qUC js ms n m)]) 60 43 (ntmF T 43)).T.hint (cxF T (OrL.k [(69,qUC js ms n m)]) 60 43 (ntmF T 43)).me (zV (qK T 43 [0,1,0,1,1]))) τ)
 | e=>K e (qZG ((cxF T (OrL.k [(69,qUC js ms n m)]) 60 43 (ntmF T 43)).T.hint (cxF T (OrL.k [(69,qUC js ms n m)]) 60 43 (ntmF T 43)).me (zV (qK T 43 [0,1,0,1,1]))) τ)) (hRc js ms n m cs c i) =
 bif decide (i < (c:Int)) then (bif inB i c then cTRc n (cs i.toNat) (G (hRc js ms n m cs c (vJJ .i64 (i + 1)))) (K .ret ⟨[(4,.v (.b false))],[]⟩) else none) else (K (.exit 0) ⟨[],[]⟩):=by kernel_rfl
theorem lpRc (K:Cont) (js:Nat→J) (ms:Nat→Ms) (n m:Nat) (cs:Nat→Cn) (c:Nat) (hc:c≤1000):∀ (k p q:Nat),p + k=c→k < q→LF 60 (cxF T (OrL.k [(69,qUC js ms n m)]) 60 43 (ntmF T 43)) (ckF T (OrL.k [(69,qUC js ms n m)]) 60) (qK T 43 [0,1,0,1,1]) ((cxF T (OrL.k [(69,qUC js ms n m)]) 60 43 (ntmF T 43)).T.hint (cxF T (OrL.k [(69,qUC js ms n m)]) 60 43 (ntmF T 43)).me (zV (qK T 43 [0,1,0,1,1]))) K q (hRc js ms n m cs c p)=bif cAll cs n k p then (K (.exit 0) ⟨[],[]⟩) else (K .ret ⟨[(4,.v (.b false))],[]⟩)
 | 0,p,q + 1,hp,hq=>by
  refine (rdRc (fun σ=>LF 60 (cxF T (OrL.k [(69,qUC js ms n m)]) 60 43 (ntmF T 43)) (ckF T (OrL.k [(69,qUC js ms n m)]) 60) (qK T 43 [0,1,0,1,1]) ((cxF T (OrL.k [(69,qUC js ms n m)]) 60 43 (ntmF T 43)).T.hint (cxF T (OrL.k [(69,qUC js ms n m)]) 60 43 (ntmF T 43)).me (zV (qK T 43 [0,1,0,1,1]))) K q σ) K js ms n m cs c p).trans ?_;rw [vYH (show ¬ (p:Int) < (c:Int) by omega)];rfl
 | k + 1,p,q + 1,hp,hq=>by
  refine (rdRc (fun σ=>LF 60 (cxF T (OrL.k [(69,qUC js ms n m)]) 60 43 (ntmF T 43)) (ckF T (OrL.k [(69,qUC js ms n m)]) 60) (qK T 43 [0,1,0,1,1]) ((cxF T (OrL.k [(69,qUC js ms n m)]) 60 43 (ntmF T 43)).T.hint (cxF T (OrL.k [(69,qUC js ms n m)]) 60 43 (ntmF T 43)).me (zV (qK T 43 [0,1,0,1,1]))) K q σ) K js ms n m cs c p).trans ?_;rw [vJQ (show (p:Int) < (c:Int) by omega),kZ (show p < c by omega),qZQ (by omega),lpRc K js ms n m cs c hc k (p + 1) q (by omega) (by omega),toN,cTRc_eq];by_cases hq:conB n (cs p)=true
  ·simp only [cAll,hq,vYV,vZH]
  ·rw [Bool.not_eq_true] at hq;simp only [cAll,hq,vYV,vYG,Bool.false_and]
set_option maxRecDepth 100000 in
theorem pxRc (js:Nat→J) (ms:Nat→Ms) (n m:Nat) (cs:Nat→Cn) (c:Nat):qKH T (OrL.k [(69,qUC js ms n m)]) (zW [([0,1,0,1,1],yW (hRc js ms n m cs c 0) (fun K=>bif decide (8 < (c:Int)) then none else (bif cAll cs n c 0 then (K (.exit 0) ⟨[],[]⟩) else (K .ret ⟨[(4,.v (.b false))],[]⟩))))]) 60 43 [(.a [.lf n (fJ js),.lf m (fM ms)]),.lf c (fC cs)] =
 (bif (gEq (.a [.lf n (fJ js),.lf m (fM ms)]) (.a [.lf n (fJ js),.lf m (fM ms)])) then (bif (!decide ((rErr js ms n m)=0)) then some (.v (.b false),[])
 else (bif (decide (8 < (c:Int))) then some (.v (.b false),[])
 else (bif gSt (hRc js ms n m cs c 0) (hRc js ms n m cs c 0) then (bif decide (8 < (c:Int)) then none else (bif cAll cs n c 0 then some (.v (.b true),[]) else some (.v (.b false),[]))) else none)))
 else none):=by kernel_rfl
theorem yJE (js:Nat→J) (ms:Nat→Ms) (n m:Nat) (cs:Nat→Cn) (c:Nat):yZ Tryz.prog 43 [(.a [.lf n (fJ js),.lf m (fM ms)]),.lf c (fC cs)] (.v (.b (cErr js ms n m cs c))):=by
 refine yH (N:=60) (LO:=zW [([0,1,0,1,1],yW (hRc js ms n m cs c 0) (fun K=>bif decide (8 < (c:Int)) then none else (bif cAll cs n c 0 then (K (.exit 0) ⟨[],[]⟩) else (K .ret ⟨[(4,.v (.b false))],[]⟩))))]) yY yQ (OrL.ok (l:=[(69,qUC js ms n m)]) ⟨ok_kRc js ms n m,trivial⟩) (fun p S hp => ?_) ?_
 ·refine kQ (L:=qK T 43) (l:=[([0,1,0,1,1],yW (hRc js ms n m cs c 0) (fun K=>bif decide (8 < (c:Int)) then none else (bif cAll cs n c 0 then (K (.exit 0) ⟨[],[]⟩) else (K .ret ⟨[(4,.v (.b false))],[]⟩))))]) (show AllP _ [([0,1,0,1,1],yW (hRc js ms n m cs c 0) (fun K=>bif decide (8 < (c:Int)) then none else (bif cAll cs n c 0 then (K (.exit 0) ⟨[],[]⟩) else (K .ret ⟨[(4,.v (.b false))],[]⟩))))] from ⟨kW fun K r hr => ?_,trivial⟩) p S hp;cases hq:decide (8 < (c:Int)) with
  | true=>rw [hq] at hr; cases hr
  | false =>
   rw [hq] at hr;have h8:=vJY hq;exact (lpRc K js ms n m cs c (by omega) c 0 60 (by omega) (by omega)).trans hr
 ·refine (pxRc js ms n m cs c).trans ?_;unfold cErr;rw [jG,qWB];cases decide (rErr js ms n m=0) <;> cases decide (8 < (c:Int)) <;> cases cAll cs n c 0 <;> rfl
end Go.Proofs.YtfcofnclgajfeaaGreat.Nd
namespace Go.Proofs.YtfcofnclgajfeaaGreat.Ng
open Go.Rx Rt Go.Sx Go.RowKit Od Oe Na Nb Nc Nd Nx Nf
noncomputable def vr (c:Cn) (p:Po):Int × Int:=bif decide (c.kind=1) then (dot (Z3.mk c.n.x c.n.y c.n.z).x (Z3.mk c.n.x c.n.y c.n.z).y (Z3.mk c.n.x c.n.y c.n.z).z (M3.apply p.r (V3.of (Z3.mk c.p.x c.p.y c.p.z))).x.lo (M3.apply p.r (V3.of (Z3.mk c.p.x c.p.y c.p.z))).x.hi (M3.apply p.r (V3.of (Z3.mk c.p.x c.p.y c.p.z))).y.lo (M3.apply p.r (V3.of (Z3.mk c.p.x c.p.y c.p.z))).y.hi (M3.apply p.r (V3.of (Z3.mk c.p.x c.p.y c.p.z))).z.lo (M3.apply p.r (V3.of (Z3.mk c.p.x c.p.y c.p.z))).z.hi) else (dot (Z3.mk c.n.x c.n.y c.n.z).x (Z3.mk c.n.x c.n.y c.n.z).y (Z3.mk c.n.x c.n.y c.n.z).z (Po.app p (V3.of (Z3.mk c.p.x c.p.y c.p.z))).x.lo (Po.app p (V3.of (Z3.mk c.p.x c.p.y c.p.z))).x.hi (Po.app p (V3.of (Z3.mk c.p.x c.p.y c.p.z))).y.lo (Po.app p (V3.of (Z3.mk c.p.x c.p.y c.p.z))).y.hi (Po.app p (V3.of (Z3.mk c.p.x c.p.y c.p.z))).z.lo (Po.app p (V3.of (Z3.mk c.p.x c.p.y c.p.z))).z.hi)
def vOk (js:Nat→J) (ms:Nat→Ms) (bx:Nat→Iv) (n m k:Nat) (c:Cn):Bool:=(cErr js ms n m (fun _=>c) 1) && pIn js ms bx n m k
noncomputable def vLo (js:Nat→J) (ms:Nat→Ms) (bx:Nat→Iv) (n m k:Nat) (c:Cn):Int:=bif vOk js ms bx n m k c then (vr c (LP js bx n c.link.toNat)).1 else 0
noncomputable def vHi (js:Nat→J) (ms:Nat→Ms) (bx:Nat→Iv) (n m k:Nat) (c:Cn):Int:=bif vOk js ms bx n m k c then (vr c (LP js bx n c.link.toNat)).2 else 0
theorem qUH {js:Nat→J} {ms:Nat→Ms} {n m:Nat} {cs:Nat→Cn} {c:Nat} (h:cErr js ms n m cs c=true):rErr js ms n m=0∧c≤8∧∀ i,i < c→COK n (cs i):=by
 unfold cErr at h;simp only [vQJ,decide_eq_true_eq,Bool.not_eq_true',decide_eq_false_iff_not] at h;refine ⟨h.1,by omega,?_⟩;have key:∀ k p,cAll cs n k p=true→∀ i,p≤i→i < p + k→COK n (cs i):=by
  intro k;induction k with
  | zero=>intro p _ i h1 h2; omega
  | succ k ih =>
   intro p hp i h1 h2;unfold cAll at hp;rw [vQJ] at hp;rcases Nat.eq_or_lt_of_le h1 with e | e
   ·subst e;exact vJZ hp.1
   ·exact ih (p + 1) hp.2 i e (by omega)
 exact fun i hi=>key c 0 h.2.2 i (Nat.zero_le _) (by omega)
theorem one_cn (c:Cn):([cp c]:List (List PV))=(List.range 1).map (fC (fun _=>c)):=rfl
theorem snd_Rc1 (js:Nat→J) (ms:Nat→Ms) (n m:Nat) (c:Cn):yZ Tryz.prog 43 [.a [.lf n (fJ js),.lf m (fM ms)],.l [cp c]] (.v (.b (cErr js ms n m (fun _=>c) 1))):=snd_same (ps:=[.a [.lf n (fJ js),.lf m (fM ms)],.lf 1 (fC (fun _=>c))]) ⟨Same.refl _,Same.lf (one_cn c),trivial⟩ (Same.refl _) (yJE js ms n m (fun _=>c) 1)
theorem pIn_links (js:Nat→J) (ms:Nat→Ms) (bx:Nat→Iv) (n m k:Nat) (h:pIn js ms bx n m k=true):yZ Tryz.prog 54 [.a [.lf n (fJ js),.lf m (fM ms)],.lf k (fB bx)] (.v (.lf n (fP (LP js bx n)))):=by
 obtain ⟨h0,rfl,hv⟩:=pIn_n h;exact snd_ka js ms bx n m h0 (allN_iff.2 fun i _ hi=>hv i (by omega))
theorem rIn_links (js:Nat→J) (ms:Nat→Ms) (bx:Nat→Iv) (n m k:Nat) (h:pIn js ms bx n m k=true):yZ Tryz.prog 72 [.a [.lf n (fJ js),.lf m (fM ms)],.lf k (fB bx)] (.v (.lf n (fP (LP js bx n)))):=by
 obtain ⟨h0,rfl,hv⟩:=pIn_n h;exact snd_rl js ms bx n m h0 (allN_iff.2 fun i _ hi=>hv i (by omega))
theorem inB_link {n:Nat} {x:Int} (h:0≤x∧x < (n:Int)):inB x n=true:=by
 unfold inB;rw [vJQ h.1,vJQ (show x.toNat < n by omega)]; rfl
noncomputable def qWU:List PV→Option (Bool × Ret):=fun ps=>match ps with
 | [.a z']=>(z3D z').bind fun z=>some (true,.v (.a (v3C (V3.of z))))
 | _=>none
theorem zUH:zY Tryz.prog 73 qWU:=by
 intro ps r h;unfold qWU at h;split at h
 ·simp only [vQQ,vQZ,vQY] at h;obtain ⟨z,hz,hg,rfl⟩:=h;rw [zKD hz];exact qJ (qU Tryz.func73 (by kernel_rfl) (by kernel_rfl)) rfl rfl (fun w=>rPoint _ _ _ w)
 ·cases h
noncomputable def L13:OrL:=(73,qWU) :: L12
theorem L13_ok:AllP (fun x:Nat × (List PV→Option (Bool × Ret))=>zY Tryz.prog x.1 x.2) L13:=⟨zUH,L12_ok⟩
noncomputable def zGQ:List PV→Option (Bool × Ret):=fun ps=>match ps with
 | [.a p',.a v']=>(poD p').bind fun p=>(v3D v').bind fun v=>some (true,.v (.a (v3C (Po.app p v))))
 | _=>none
theorem ok_qApply:zY Tryz.prog 74 zGQ:=by
 intro ps r h;unfold zGQ at h;split at h
 ·simp only [vQQ,vQZ,vQY] at h;obtain ⟨p,hp,v,hv,hg,rfl⟩:=h;rw [zWA hp];rw [qUI hv];exact qJ (qU Tryz.func74 (by kernel_rfl) (by kernel_rfl)) rfl rfl (fun w=>qApply _ _ _ _ _ _ _ _ _ _ _ _ _ _ _ _ _ _ _ _ _ _ _ _ _ _ _ _ _ _ w)
 ·cases h
noncomputable def L14:OrL:=(74,zGQ) :: L13
theorem L14_ok:AllP (fun x:Nat × (List PV→Option (Bool × Ret))=>zY Tryz.prog x.1 x.2) L14:=⟨ok_qApply,L13_ok⟩
noncomputable def qWX:List PV→Option (Bool × Ret):=fun ps=>match ps with
 | [.a m',.a v']=>(m3D m').bind fun m=>(v3D v').bind fun v=>some (true,.v (.a (v3C (M3.apply m v))))
 | _=>none
theorem zUA:zY Tryz.prog 75 qWX:=by
 intro ps r h;unfold qWX at h;split at h
 ·simp only [vQQ,vQZ,vQY] at h;obtain ⟨m,hm,v,hv,hg,rfl⟩:=h;rw [zJA hm];rw [qUI hv];exact qJ (qU Tryz.func75 (by kernel_rfl) (by kernel_rfl)) rfl rfl (fun w=>rApply _ _ _ _ _ _ _ _ _ _ _ _ _ _ _ _ _ _ _ _ _ _ _ _ w)
 ·cases h
noncomputable def L15:OrL:=(75,qWX) :: L14
theorem L15_ok:AllP (fun x:Nat × (List PV→Option (Bool × Ret))=>zY Tryz.prog x.1 x.2) L15:=⟨zUA,L14_ok⟩
set_option maxRecDepth 100000 in
theorem tr_rDot (nx:Int) (ny:Int) (nz:Int) (v0:Int) (v1:Int) (v2:Int) (v3:Int) (v4:Int) (v5:Int):runK T (OrL.k L15) 60 76 [.a [.n .i64 nx,.n .i64 ny,.n .i64 nz],.a [.n .i64 v0,.n .i64 v1,.n .i64 v2,.n .i64 v3,.n .i64 v4,.n .i64 v5]] =
 bif (!((decide (nx=0)) && ((decide (ny=0)) && ((decide (nz=0)) && true)))) then (bif (decide (nx < (-16384))) then some (.v (.t [.n .i64 0,.n .i64 0]),[])
  else bif (decide (16384 < nx)) then some (.v (.t [.n .i64 0,.n .i64 0]),[])
  else bif (decide (ny < (-16384))) then some (.v (.t [.n .i64 0,.n .i64 0]),[])
  else bif (decide (16384 < ny)) then some (.v (.t [.n .i64 0,.n .i64 0]),[])
  else bif (decide (nz < (-16384))) then some (.v (.t [.n .i64 0,.n .i64 0]),[])
  else bif (decide (16384 < nz)) then some (.v (.t [.n .i64 0,.n .i64 0]),[])
  else bif (decide (v0 < (-268435456))) then some (.v (.t [.n .i64 0,.n .i64 0]),[])
  else bif (decide (v1 < v0)) then some (.v (.t [.n .i64 0,.n .i64 0]),[])
  else bif (decide (268435456 < v1)) then some (.v (.t [.n .i64 0,.n .i64 0]),[])
  else bif (decide (v2 < (-268435456))) then some (.v (.t [.n .i64 0,.n .i64 0]),[])
  else bif (decide (v3 < v2)) then some (.v (.t [.n .i64 0,.n .i64 0]),[])
  else bif (decide (268435456 < v3)) then some (.v (.t [.n .i64 0,.n .i64 0]),[])
  else bif (decide (v4 < (-268435456))) then some (.v (.t [.n .i64 0,.n .i64 0]),[])
  else bif (decide (v5 < v4)) then some (.v (.t [.n .i64 0,.n .i64 0]),[])
  else bif (decide (268435456 < v5)) then some (.v (.t [.n .i64 0,.n .i64 0]),[])
  else some (.v (.t [.n .i64 (vJJ .i64 ((vJJ .i64 ((vJJ .i64 (0 + (min (vJJ .i64 (nx * v0)) (vJJ .i64 (nx * v1))))) + (min (vJJ .i64 (ny * v2)) (vJJ .i64 (ny * v3))))) + (min (vJJ .i64 (nz * v4)) (vJJ .i64 (nz * v5))))),.n .i64 (vJJ .i64 ((vJJ .i64 ((vJJ .i64 (0 + (max (vJJ .i64 (nx * v0)) (vJJ .i64 (nx * v1))))) + (max (vJJ .i64 (ny * v2)) (vJJ .i64 (ny * v3))))) + (max (vJJ .i64 (nz * v4)) (vJJ .i64 (nz * v5)))))]),[]))
 else some (.v (.t [.n .i64 0,.n .i64 0]),[]):=by kernel_rfl
theorem sp_rDot (nx ny nz v0 v1 v2 v3 v4 v5:Int):runK T (OrL.k L15) 60 76 [.a [.n .i64 nx,.n .i64 ny,.n .i64 nz],.a [.n .i64 v0,.n .i64 v1,.n .i64 v2,.n .i64 v3,.n .i64 v4,.n .i64 v5]]=some (.v (.t [.n .i64 (dot nx ny nz v0 v1 v2 v3 v4 v5).1,.n .i64 (dot nx ny nz v0 v1 v2 v3 v4 v5).2]),[]):=by
 rw [tr_rDot,← sp_sDot,tr_sDot];cases (!((decide (nx=0)) && ((decide (ny=0)) && ((decide (nz=0)) && true)))) with
 | true=>rfl
 | false=>simp only [vYG,Bool.cond_self]
noncomputable def yXU:List PV→Option (Bool × Ret):=fun ps=>match ps with
 | [.a z',.a v']=>(z3D z').bind fun z=>(v3D v').bind fun v=>some (true,.v (.t [.n .i64 (dot z.x z.y z.z v.x.lo v.x.hi v.y.lo v.y.hi v.z.lo v.z.hi).1,.n .i64 (dot z.x z.y z.z v.x.lo v.x.hi v.y.lo v.y.hi v.z.lo v.z.hi).2]))
 | _=>none
theorem ok_rDot:zY Tryz.prog 76 yXU:=by
 intro ps r h;unfold yXU at h;split at h
 ·simp only [vQQ,vQZ,vQY] at h;obtain ⟨z,hz,v,hv,hg,rfl⟩:=h;rw [zKD hz];rw [qUI hv];exact qX yY yQ (OrL.ok L15_ok) (sp_rDot _ _ _ _ _ _ _ _ _)
 ·cases h
noncomputable def L16:OrL:=(76,yXU) :: L15
theorem L16_ok:AllP (fun x:Nat × (List PV→Option (Bool × Ret))=>zY Tryz.prog x.1 x.2) L16:=⟨ok_rDot,L15_ok⟩
set_option maxRecDepth 100000 in
theorem tr_RV (js:Nat→J) (ms:Nat→Ms) (bx:Nat→Iv) (n m k:Nat) (c:Cn):runK T (OrL.k ((43,o_cr [.a [.lf n (fJ js),.lf m (fM ms)],.l [cp c]] (.v (.b (cErr js ms n m (fun _=>c) 1)))) :: (46,o_cr [.a [.lf n (fJ js),.lf m (fM ms)],.lf k (fB bx)] (.v (.b (rIn js ms bx n m k)))) :: (72,o_lk [.a [.lf n (fJ js),.lf m (fM ms)],.lf k (fB bx)] (pIn js ms bx n m k) (.v (.lf n (fP (LP js bx n))))) :: L16)) 60 47 [.a [.lf n (fJ js),.lf m (fM ms)],.a (cp c),.lf k (fB bx)] =
 bif (g1 [.a [.lf n (fJ js),.lf m (fM ms)],.l [(cp c)]]) then (bif (cErr js ms n m (fun _=>c) 1) then (bif (g1 [.a [.lf n (fJ js),.lf m (fM ms)],.lf k (fB bx)]) then (bif (rIn js ms bx n m k) then (bif (g1 [.a [.lf n (fJ js),.lf m (fM ms)],.lf k (fB bx)] && pIn js ms bx n m k) then (bif (inB c.link n) then (bif (decide (c.kind=0)) then some (.v (.t [.a [.n .i64 (dot (Z3.mk c.n.x c.n.y c.n.z).x (Z3.mk c.n.x c.n.y c.n.z).y (Z3.mk c.n.x c.n.y c.n.z).z (Po.app (LP js bx n (c.link).toNat) (V3.of (Z3.mk c.p.x c.p.y c.p.z))).x.lo (Po.app (LP js bx n (c.link).toNat) (V3.of (Z3.mk c.p.x c.p.y c.p.z))).x.hi (Po.app (LP js bx n (c.link).toNat) (V3.of (Z3.mk c.p.x c.p.y c.p.z))).y.lo (Po.app (LP js bx n (c.link).toNat) (V3.of (Z3.mk c.p.x c.p.y c.p.z))).y.hi (Po.app (LP js bx n (c.link).toNat) (V3.of (Z3.mk c.p.x c.p.y c.p.z))).z.lo (Po.app (LP js bx n (c.link).toNat) (V3.of (Z3.mk c.p.x c.p.y c.p.z))).z.hi).1,.n .i64 (dot (Z3.mk c.n.x c.n.y c.n.z).x (Z3.mk c.n.x c.n.y c.n.z).y (Z3.mk c.n.x c.n.y c.n.z).z (Po.app (LP js bx n (c.link).toNat) (V3.of (Z3.mk c.p.x c.p.y c.p.z))).x.lo (Po.app (LP js bx n (c.link).toNat) (V3.of (Z3.mk c.p.x c.p.y c.p.z))).x.hi (Po.app (LP js bx n (c.link).toNat) (V3.of (Z3.mk c.p.x c.p.y c.p.z))).y.lo (Po.app (LP js bx n (c.link).toNat) (V3.of (Z3.mk c.p.x c.p.y c.p.z))).y.hi (Po.app (LP js bx n (c.link).toNat) (V3.of (Z3.mk c.p.x c.p.y c.p.z))).z.lo (Po.app (LP js bx n (c.link).toNat) (V3.of (Z3.mk c.p.x c.p.y c.p.z))).z.hi).2],.b true]),[])
 else some (.v (.t [.a [.n .i64 (dot (Z3.mk c.n.x c.n.y c.n.z).x (Z3.mk c.n.x c.n.y c.n.z).y (Z3.mk c.n.x c.n.y c.n.z).z (M3.apply (LP js bx n (c.link).toNat).r (V3.of (Z3.mk c.p.x c.p.y c.p.z))).x.lo (M3.apply (LP js bx n (c.link).toNat).r (V3.of (Z3.mk c.p.x c.p.y c.p.z))).x.hi (M3.apply (LP js bx n (c.link).toNat).r (V3.of (Z3.mk c.p.x c.p.y c.p.z))).y.lo (M3.apply (LP js bx n (c.link).toNat).r (V3.of (Z3.mk c.p.x c.p.y c.p.z))).y.hi (M3.apply (LP js bx n (c.link).toNat).r (V3.of (Z3.mk c.p.x c.p.y c.p.z))).z.lo (M3.apply (LP js bx n (c.link).toNat).r (V3.of (Z3.mk c.p.x c.p.y c.p.z))).z.hi).1,.n .i64 (dot (Z3.mk c.n.x c.n.y c.n.z).x (Z3.mk c.n.x c.n.y c.n.z).y (Z3.mk c.n.x c.n.y c.n.z).z (M3.apply (LP js bx n (c.link).toNat).r (V3.of (Z3.mk c.p.x c.p.y c.p.z))).x.lo (M3.apply (LP js bx n (c.link).toNat).r (V3.of (Z3.mk c.p.x c.p.y c.p.z))).x.hi (M3.apply (LP js bx n (c.link).toNat).r (V3.of (Z3.mk c.p.x c.p.y c.p.z))).y.lo (M3.apply (LP js bx n (c.link).toNat).r (V3.of (Z3.mk c.p.x c.p.y c.p.z))).y.hi (M3.apply (LP js bx n (c.link).toNat).r (V3.of (Z3.mk c.p.x c.p.y c.p.z))).z.lo (M3.apply (LP js bx n (c.link).toNat).r (V3.of (Z3.mk c.p.x c.p.y c.p.z))).z.hi).2],.b true]),[]))
 else none)
 else none)
 else some (.v (.t [.a [.n .i64 0,.n .i64 0],.b false]),[]))
 else none)
 else some (.v (.t [.a [.n .i64 0,.n .i64 0],.b false]),[]))
 else none:=by kernel_rfl
theorem snd_RV (js:Nat→J) (ms:Nat→Ms) (bx:Nat→Iv) (n m k:Nat) (c:Cn) (hkk:k≤50):yZ Tryz.prog 47 [.a [.lf n (fJ js),.lf m (fM ms)],.a (cp c),.lf k (fB bx)] (.v (.t [.a [.n .i64 (vLo js ms bx n m k c),.n .i64 (vHi js ms bx n m k c)],.b (vOk js ms bx n m k c)])):=by
 refine qX (N:=60) yY yQ (OrL.ok (l:=((43,o_cr [.a [.lf n (fJ js),.lf m (fM ms)],.l [cp c]] (.v (.b (cErr js ms n m (fun _=>c) 1)))) :: (46,o_cr [.a [.lf n (fJ js),.lf m (fM ms)],.lf k (fB bx)] (.v (.b (rIn js ms bx n m k)))) :: (72,o_lk [.a [.lf n (fJ js),.lf m (fM ms)],.lf k (fB bx)] (pIn js ms bx n m k) (.v (.lf n (fP (LP js bx n))))) :: L16)) ⟨qJZ (snd_Rc1 js ms n m c),qJZ (snd_rIn js ms bx n m k hkk),zVC (fun h=>rIn_links js ms bx n m k h),L16_ok⟩) ?_;refine (tr_RV js ms bx n m k c).trans ?_;unfold vLo vHi vOk;simp only [g1_t,vZH];rw [in_eq];cases hc:(cErr js ms n m (fun _=>c) 1) with
 | false=>rfl
 | true =>
  cases hi:pIn js ms bx n m k with
  | false=>rfl
  | true =>
   obtain ⟨_,_,hh⟩:=qUH hc;have hk:=(hh 0 (by omega)).2.1;have hkk:=(hh 0 (by omega)).1;simp only [vYV,vZJ,inB_link hk];unfold vr;rcases hkk with h | h
   ·rw [vJQ h,vYH (show ¬ c.kind=1 by omega)]; rfl
   ·rw [vYH (show ¬ c.kind=0 by omega),vJQ h]; rfl
end Go.Proofs.YtfcofnclgajfeaaGreat.Ng
namespace Go.Proofs.YtfcofnclgajfeaaGreat.Nj
open Go.Rx Rt Go.Sx Go.RowKit Od Oe Na Nb Nc Nd Nx Nf Ng
noncomputable def vI (js:Nat→J) (bx:Nat→Iv) (n:Nat) (cs:Nat→Cn):Nat→Iv:=fun i=>⟨(vr (cs i) (LP js bx n (cs i).link.toNat)).1,(vr (cs i) (LP js bx n (cs i).link.toNat)).2⟩
def hVa (js:Nat→J) (_:Nat→Ms) (bx:Nat→Iv) (n m k:Nat) (cs:Nat→Cn) (c:Nat) (i:Int) (rows:List (List PV)):St:=⟨[(7,.v (.lf n (fun v=>[.n .i64 (LP js bx n v).r.x.x.lo,.n .i64 (LP js bx n v).r.x.x.hi,.n .i64 (LP js bx n v).r.x.y.lo,.n .i64 (LP js bx n v).r.x.y.hi,.n .i64 (LP js bx n v).r.x.z.lo,.n .i64 (LP js bx n v).r.x.z.hi,.n .i64 (LP js bx n v).r.y.x.lo,.n .i64 (LP js bx n v).r.y.x.hi,.n .i64 (LP js bx n v).r.y.y.lo,.n .i64 (LP js bx n v).r.y.y.hi,.n .i64 (LP js bx n v).r.y.z.lo,.n .i64 (LP js bx n v).r.y.z.hi,.n .i64 (LP js bx n v).r.z.x.lo,.n .i64 (LP js bx n v).r.z.x.hi,.n .i64 (LP js bx n v).r.z.y.lo,.n .i64 (LP js bx n v).r.z.y.hi,.n .i64 (LP js bx n v).r.z.z.lo,.n .i64 (LP js bx n v).r.z.z.hi,.n .i64 (LP js bx n v).t.x.lo,.n .i64 (LP js bx n v).t.x.hi,.n .i64 (LP js bx n v).t.y.lo,.n .i64 (LP js bx n v).t.y.hi,.n .i64 (LP js bx n v).t.z.lo,.n .i64 (LP js bx n v).t.z.hi]))),(8,.o 20),(21,.v (.lf c (fC cs))),(22,.v (.n .i64 (c:Int))),(23,.v (.n .i64 i))],[(20,.reg 47 2 (.l rows))]⟩
set_option maxRecDepth 100000 in
theorem rdVa (G:St→Option (Ret × Mem)) (K:Cont) (js:Nat→J) (ms:Nat→Ms) (bx:Nat→Iv) (n m k:Nat) (cs:Nat→Cn) (c:Nat) (i:Int) (rows:List (List PV)):qWL 60 (cxF T (OrL.k ((54,o_lk [.a [.lf n (fJ js),.lf m (fM ms)],.lf k (fB bx)] (pIn js ms bx n m k) (.v (.lf n (fP (LP js bx n))))) :: L16)) 60 32 (ntmF T 32)) (ckF T (OrL.k ((54,o_lk [.a [.lf n (fJ js),.lf m (fM ms)],.lf k (fB bx)] (pIn js ms bx n m k) (.v (.lf n (fP (LP js bx n))))) :: L16)) 60) (qK T 32 [0,1,0,1,1,1]) ((cxF T (OrL.k ((54,o_lk [.a [.lf n (fJ js),.lf m (fM ms)],.lf k (fB bx)] (pIn js ms bx n m k) (.v (.lf n (fP (LP js bx n))))) :: L16)) 60 32 (ntmF T 32)).T.hint (cxF T (OrL.k ((54,o_lk [.a [.lf n (fJ js),.lf m (fM ms)],.lf k (fB bx)] (pIn js ms bx n m k) (.v (.lf n (fP (LP js bx n))))) :: L16)) 60 32 (ntmF T 32)).me (zV (qK T 32 [0,1,0,1,1,1]))) K G (hVa js ms bx n m k cs c i rows) =
 (bif (decide (i < (c:Int))) then (bif (inB i c) then (bif (decide ((cs (i).toNat).kind=1)) then (bif (inB (cs (i).toNat).link n) then (bif (decide (rows.length + 1≤1000000)) then (G (hVa js ms bx n m k cs c (vJJ .i64 (i + 1)) ((rows ++ [[.n .i64 (dot (cs (i).toNat).n.x (cs (i).toNat).n.y (cs (i).toNat).n.z (M3.apply (LP js bx n ((cs (i).toNat).link).toNat).r (V3.of (cs (i).toNat).p)).x.lo (M3.apply (LP js bx n ((cs (i).toNat).link).toNat).r (V3.of (cs (i).toNat).p)).x.hi (M3.apply (LP js bx n ((cs (i).toNat).link).toNat).r (V3.of (cs (i).toNat).p)).y.lo (M3.apply (LP js bx n ((cs (i).toNat).link).toNat).r (V3.of (cs (i).toNat).p)).y.hi (M3.apply (LP js bx n ((cs (i).toNat).link).toNat).r (V3.of (cs (i).toNat).p)).z.lo (M3.apply (LP js bx n ((cs (i).toNat).link).toNat).r (V3.of (cs (i).toNat).p)).z.hi).1,.n .i64 (dot (cs (i).toNat).n.x (cs (i).toNat).n.y (cs (i).toNat).n.z (M3.apply (LP js bx n ((cs (i).toNat).link).toNat).r (V3.of (cs (i).toNat).p)).x.lo (M3.apply (LP js bx n ((cs (i).toNat).link).toNat).r (V3.of (cs (i).toNat).p)).x.hi (M3.apply (LP js bx n ((cs (i).toNat).link).toNat).r (V3.of (cs (i).toNat).p)).y.lo (M3.apply (LP js bx n ((cs (i).toNat).link).toNat).r (V3.of (cs (i).toNat).p)).y.hi (M3.apply (LP js bx n ((cs (i).toNat).link).toNat).r (V3.of (cs (i).toNat).p)).z.lo (M3.apply (LP js bx n ((cs (i).toNat).link).toNat).r (V3.of (cs (i).toNat).p)).z.hi).2]]))))
 else none)
 else none)
 else (bif (inB (cs (i).toNat).link n) then (bif (decide (rows.length + 1≤1000000)) then (G (hVa js ms bx n m k cs c (vJJ .i64 (i + 1)) ((rows ++ [[.n .i64 (dot (cs (i).toNat).n.x (cs (i).toNat).n.y (cs (i).toNat).n.z (Po.app (LP js bx n ((cs (i).toNat).link).toNat) (V3.of (cs (i).toNat).p)).x.lo (Po.app (LP js bx n ((cs (i).toNat).link).toNat) (V3.of (cs (i).toNat).p)).x.hi (Po.app (LP js bx n ((cs (i).toNat).link).toNat) (V3.of (cs (i).toNat).p)).y.lo (Po.app (LP js bx n ((cs (i).toNat).link).toNat) (V3.of (cs (i).toNat).p)).y.hi (Po.app (LP js bx n ((cs (i).toNat).link).toNat) (V3.of (cs (i).toNat).p)).z.lo (Po.app (LP js bx n ((cs (i).toNat).link).toNat) (V3.of (cs (i).toNat).p)).z.hi).1,.n .i64 (dot (cs (i).toNat).n.x (cs (i).toNat).n.y (cs (i).toNat).n.z (Po.app (LP js bx n ((cs (i).toNat).link).toNat) (V3.of (cs (i).toNat).p)).x.lo (Po.app (LP js bx n ((cs (i).toNat).link).toNat) (V3.of (cs (i).toNat).p)).x.hi (Po.app (LP js bx n ((cs (i).toNat).link).toNat) (V3.of (cs (i).toNat).p)).y.lo (Po.app (LP js bx n ((cs (i).toNat).link).toNat) (V3.of (cs (i).toNat).p)).y.hi (Po.app (LP js bx n ((cs (i).toNat).link).toNat) (V3.of (cs (i).toNat).p)).z.lo (Po.app (LP js bx n ((cs (i).toNat).link).toNat) (V3.of (cs (i).toNat).p)).z.hi).2]]))))
 else none)
 else none))
 else none)
 else (K (.exit 0) ⟨[(8,.o 20)],[(20,.reg 47 2 (.l rows))]⟩)):=by kernel_rfl
theorem lpVa (K:Cont) (js:Nat→J) (ms:Nat→Ms) (bx:Nat→Iv) (n m k:Nat) (cs:Nat→Cn) (c:Nat) (hc:(cErr js ms n m cs c)=true):LF 60 (cxF T (OrL.k ((54,o_lk [.a [.lf n (fJ js),.lf m (fM ms)],.lf k (fB bx)] (pIn js ms bx n m k) (.v (.lf n (fP (LP js bx n))))) :: L16)) 60 32 (ntmF T 32)) (ckF T (OrL.k ((54,o_lk [.a [.lf n (fJ js),.lf m (fM ms)],.lf k (fB bx)] (pIn js ms bx n m k) (.v (.lf n (fP (LP js bx n))))) :: L16)) 60) (qK T 32 [0,1,0,1,1,1]) ((cxF T (OrL.k ((54,o_lk [.a [.lf n (fJ js),.lf m (fM ms)],.lf k (fB bx)] (pIn js ms bx n m k) (.v (.lf n (fP (LP js bx n))))) :: L16)) 60 32 (ntmF T 32)).T.hint (cxF T (OrL.k ((54,o_lk [.a [.lf n (fJ js),.lf m (fM ms)],.lf k (fB bx)] (pIn js ms bx n m k) (.v (.lf n (fP (LP js bx n))))) :: L16)) 60 32 (ntmF T 32)).me (zV (qK T 32 [0,1,0,1,1,1]))) K 60 (hVa js ms bx n m k cs c 0 [])=(K (.exit 0) ⟨[(8,.o 20)],[(20,.reg 47 2 (.l ((List.range c).map (fun i:Nat=>[.n .i64 (vI js bx n cs i).lo,.n .i64 (vI js bx n cs i).hi]))))]⟩):=by
 obtain ⟨_,h8,hq⟩:=qUH hc;refine (yXF (c:=c) (hVa js ms bx n m k cs c) (fun i:Nat=>[.n .i64 (vI js bx n cs i).lo,.n .i64 (vI js bx n cs i).hi]) (fun rows=>(K (.exit 0) ⟨[(8,.o 20)],[(20,.reg 47 2 (.l rows))]⟩)) (fun G i rows hi hl => ?_) (fun G rows hl => ?_) c 0 60 [] rfl (by omega) (by omega)).trans (congrArg (fun rows=>(K (.exit 0) ⟨[(8,.o 20)],[(20,.reg 47 2 (.l rows))]⟩)) (rng0 c _))
 ·refine (rdVa G K js ms bx n m k cs c i rows).trans ?_;rw [vJQ (show (i:Int) < (c:Int) by omega),qZQ (by omega),kZ (show i < c by omega),vJQ (show rows.length + 1≤1000000 by omega),toN,inB_link (hq i hi).2.1];unfold vI vr;cases decide ((cs i).kind=1) <;> rfl
 ·refine (rdVa G K js ms bx n m k cs c c rows).trans ?_;rw [vYH (show ¬ (c:Int) < (c:Int) by omega)];rfl
set_option maxRecDepth 100000 in
theorem pxvals (js:Nat→J) (ms:Nat→Ms) (bx:Nat→Iv) (n m k:Nat) (cs:Nat→Cn) (c:Nat):qKH T (OrL.k ((54,o_lk [.a [.lf n (fJ js),.lf m (fM ms)],.lf k (fB bx)] (pIn js ms bx n m k) (.v (.lf n (fP (LP js bx n))))) :: L16)) (zW [([0,1,0,1,1,1],yW (hVa js ms bx n m k cs c 0 []) (fun K=>(bif (cErr js ms n m cs c) then (K (.exit 0) ⟨[(8,.o 20)],[(20,.reg 47 2 (.l ((List.range c).map (fun i:Nat=>[.n .i64 (vI js bx n cs i).lo,.n .i64 (vI js bx n cs i).hi]))))]⟩) else none)))]) 60 32 [.a [.lf n (fJ js),.lf m (fM ms)],.lf c (fC cs),.lf k (fB bx)] =
 (bif (g1 [.a [.lf n (fJ js),.lf m (fM ms)],.lf k (fB bx)] && pIn js ms bx n m k) then (bif (decide (0≤(c:Int))) then (bif (decide ((c:Int)≤1000000)) then (bif (gSt (hVa js ms bx n m k cs c 0 []) (hVa js ms bx n m k cs c 0 [])) then (bif (cErr js ms n m cs c) then some (.ow 47 2 (.l ((List.range c).map (fun i:Nat=>[.n .i64 (vI js bx n cs i).lo,.n .i64 (vI js bx n cs i).hi]))),[])
 else none)
 else none)
 else none)
 else none)
 else none):=by kernel_rfl
theorem snd_vals (js:Nat→J) (ms:Nat→Ms) (bx:Nat→Iv) (n m k:Nat) (cs:Nat→Cn) (c:Nat) (hc:(cErr js ms n m cs c)=true) (hp:pIn js ms bx n m k=true):yZ Tryz.prog 32 [.a [.lf n (fJ js),.lf m (fM ms)],.lf c (fC cs),.lf k (fB bx)] (.ow 47 2 (.l ((List.range c).map (fun i:Nat=>[.n .i64 (vI js bx n cs i).lo,.n .i64 (vI js bx n cs i).hi])))):=by
 refine yH (N:=60) (LO:=zW [([0,1,0,1,1,1],yW (hVa js ms bx n m k cs c 0 []) (fun K=>(bif (cErr js ms n m cs c) then (K (.exit 0) ⟨[(8,.o 20)],[(20,.reg 47 2 (.l ((List.range c).map (fun i:Nat=>[.n .i64 (vI js bx n cs i).lo,.n .i64 (vI js bx n cs i).hi]))))]⟩) else none)))]) yY yQ (OrL.ok (l:=((54,o_lk [.a [.lf n (fJ js),.lf m (fM ms)],.lf k (fB bx)] (pIn js ms bx n m k) (.v (.lf n (fP (LP js bx n))))) :: L16)) ⟨zVC (fun h=>pIn_links js ms bx n m k h),L16_ok⟩) (fun p S hp => ?_) ?_
 ·refine kQ (L:=qK T 32) (l:=[([0,1,0,1,1,1],yW (hVa js ms bx n m k cs c 0 []) (fun K=>(bif (cErr js ms n m cs c) then (K (.exit 0) ⟨[(8,.o 20)],[(20,.reg 47 2 (.l ((List.range c).map (fun i:Nat=>[.n .i64 (vI js bx n cs i).lo,.n .i64 (vI js bx n cs i).hi]))))]⟩) else none)))]) (show AllP _ [([0,1,0,1,1,1],yW (hVa js ms bx n m k cs c 0 []) (fun K=>(bif (cErr js ms n m cs c) then (K (.exit 0) ⟨[(8,.o 20)],[(20,.reg 47 2 (.l ((List.range c).map (fun i:Nat=>[.n .i64 (vI js bx n cs i).lo,.n .i64 (vI js bx n cs i).hi]))))]⟩) else none)))] from ⟨kW fun K r hr => ?_,trivial⟩) p S hp
  ·obtain ⟨hg,hr⟩:=qQ hr;have hc:=hg;exact (lpVa K js ms bx n m k cs c hc).trans hr
 ·refine (pxvals js ms bx n m k cs c).trans ?_;obtain ⟨_,h8,hq⟩:=qUH hc;rw [jG,hc];simp only [g1_t,hp,vZJ,vYV,vJQ (show (0:Int)≤(c:Int) by omega),vJQ (show (c:Int)≤1000000 by omega)]
theorem snd_valsF (js:Nat→J) (ms:Nat→Ms) (bx:Nat→Iv) (n m k:Nat) (cs:Nat→Cn) (c:Nat) (hc:(cErr js ms n m cs c)=true) (hp:pIn js ms bx n m k=true):yZ Tryz.prog 32 [.a [.lf n (fJ js),.lf m (fM ms)],.lf c (fC cs),.lf k (fB bx)] (.v (.lf c (fB (vI js bx n cs)))):=qYD (Same.lf rfl) (zZB (snd_vals js ms bx n m k cs c hc hp))
def hHo (cs:Nat→Cn) (vs:Nat→Iv) (c:Nat) (i:Int):St:=⟨[(1,.v (.lf c (fB vs))),(7,.v (.lf c (fC cs))),(8,.v (.n .i64 (c:Int))),(9,.v (.n .i64 i))],[]⟩
set_option maxRecDepth 100000 in
theorem rdHo (G:St→Option (Ret × Mem)) (K:Cont) (cs:Nat→Cn) (vs:Nat→Iv) (c:Nat) (i:Int):qWL 60 (cxF T (OrL.k ([]:OrL)) 60 45 (ntmF T 45)) (ckF T (OrL.k ([]:OrL)) 60) (qK T 45 [0,1,0,1]) ((cxF T (OrL.k ([]:OrL)) 60 45 (ntmF T 45)).T.hint (cxF T (OrL.k ([]:OrL)) 60 45 (ntmF T 45)).me (zV (qK T 45 [0,1,0,1]))) K G (hHo cs vs c i) =
 (bif (decide (i < (c:Int))) then (bif (inB i c) then (bif (inB i c) then (bif (decide ((vs (i).toNat).lo < (cs (i).toNat).lo)) then (K .ret ⟨[(4,.v (.b false))],[]⟩)
 else (bif (inB i c) then (bif (decide ((cs (i).toNat).hi < (vs (i).toNat).hi)) then (K .ret ⟨[(4,.v (.b false))],[]⟩)
 else (G (hHo cs vs c (vJJ .i64 (i + 1)))))
 else none))
 else none)
 else none)
 else (K (.exit 0) ⟨[],[]⟩)):=by kernel_rfl
def inR (c:Cn) (v:Iv):Bool:=!(decide (v.lo < c.lo)) && !(decide (c.hi < v.hi))
def outR (c:Cn) (v:Iv):Bool:=decide (v.hi < c.lo) || decide (c.hi < v.lo)
theorem lpHo (K:Cont) (cs:Nat→Cn) (vs:Nat→Iv) (c:Nat) (_:c≤50):LF 60 (cxF T (OrL.k ([]:OrL)) 60 45 (ntmF T 45)) (ckF T (OrL.k ([]:OrL)) 60) (qK T 45 [0,1,0,1]) ((cxF T (OrL.k ([]:OrL)) 60 45 (ntmF T 45)).T.hint (cxF T (OrL.k ([]:OrL)) 60 45 (ntmF T 45)).me (zV (qK T 45 [0,1,0,1]))) K 60 (hHo cs vs c 0)=bif (allN (fun i:Nat=>inR (cs i) (vs i)) c 0) then (K (.exit 0) ⟨[],[]⟩) else (K .ret ⟨[(4,.v (.b false))],[]⟩):=by
 refine (qWF (c:=c) (hHo cs vs c) (fun i:Nat=>inR (cs i) (vs i)) (K (.exit 0) ⟨[],[]⟩) (fun i:Nat=>(K .ret ⟨[(4,.v (.b false))],[]⟩)) (fun G i hi => ?_) (fun G => ?_) c 0 60 (by omega) (by omega)).trans (qZF _ _ _ _ _)
 ·refine (rdHo G K cs vs c i).trans ?_;rw [vJQ (show (i:Int) < (c:Int) by omega),qZQ (by omega),kZ (show i < c by omega),toN];unfold inR;cases decide ((vs i).lo < (cs i).lo) <;> cases decide ((cs i).hi < (vs i).hi) <;> rfl
 ·refine (rdHo G K cs vs c c).trans ?_;rw [vYH (show ¬ (c:Int) < (c:Int) by omega)];rfl
def yYI (cs:Nat→Cn) (vs:Nat→Iv) (c:Nat):Bool:=(allN (fun i:Nat=>inR (cs i) (vs i)) c 0)
set_option maxRecDepth 100000 in
theorem pxhold (cs:Nat→Cn) (vs:Nat→Iv) (c:Nat):qKH T (OrL.k ([]:OrL)) (zW [([0,1,0,1],yW (hHo cs vs c 0) (fun K=>(bif (decide (c≤50)) then (bif (allN (fun i:Nat=>inR (cs i) (vs i)) c 0) then (K (.exit 0) ⟨[],[]⟩) else (K .ret ⟨[(4,.v (.b false))],[]⟩)) else none)))]) 60 45 [.lf c (fC cs),.lf c (fB vs)] =
 (bif (gSt (hHo cs vs c 0) (hHo cs vs c 0)) then (bif (decide (c≤50)) then (bif (allN (fun i:Nat=>inR (cs i) (vs i)) c 0) then some (.v (.b true),[])
 else some (.v (.b false),[]))
 else none)
 else none):=by kernel_rfl
theorem snd_hold (cs:Nat→Cn) (vs:Nat→Iv) (c:Nat) (hc:c≤50):yZ Tryz.prog 45 [.lf c (fC cs),.lf c (fB vs)] (.v (.b (yYI cs vs c))):=by
 refine yH (N:=60) (LO:=zW [([0,1,0,1],yW (hHo cs vs c 0) (fun K=>(bif (decide (c≤50)) then (bif (allN (fun i:Nat=>inR (cs i) (vs i)) c 0) then (K (.exit 0) ⟨[],[]⟩) else (K .ret ⟨[(4,.v (.b false))],[]⟩)) else none)))]) yY yQ (OrL.ok (l:=([]:OrL)) trivial) (fun p S hp => ?_) ?_
 ·refine kQ (L:=qK T 45) (l:=[([0,1,0,1],yW (hHo cs vs c 0) (fun K=>(bif (decide (c≤50)) then (bif (allN (fun i:Nat=>inR (cs i) (vs i)) c 0) then (K (.exit 0) ⟨[],[]⟩) else (K .ret ⟨[(4,.v (.b false))],[]⟩)) else none)))]) (show AllP _ [([0,1,0,1],yW (hHo cs vs c 0) (fun K=>(bif (decide (c≤50)) then (bif (allN (fun i:Nat=>inR (cs i) (vs i)) c 0) then (K (.exit 0) ⟨[],[]⟩) else (K .ret ⟨[(4,.v (.b false))],[]⟩)) else none)))] from ⟨kW fun K r hr => ?_,trivial⟩) p S hp
  ·obtain ⟨hg,hr⟩:=qQ hr;have hc:=vJZ hg;exact (lpHo K cs vs c hc).trans hr
 ·refine (pxhold cs vs c).trans ?_;unfold yYI;rw [jG,vJQ hc];cases (allN (fun i:Nat=>inR (cs i) (vs i)) c 0) <;> rfl
def unC (ps:List PV):Cn:=match ps with
 | [.n _ a,.n _ b,.n _ c,.n _ d,.n _ e,.n _ f,.n _ g,.n _ h,.n _ i,.n _ j]=>⟨a,b,⟨c,d,e⟩,⟨f,g,h⟩,i,j⟩
 | _=>⟨0,0,⟨0,0,0⟩,⟨0,0,0⟩,0,0⟩
noncomputable def resV (js:Nat→J) (ms:Nat→Ms) (bx:Nat→Iv) (n m k:Nat) (c:Cn):PV:=.t [.a [.n .i64 (vLo js ms bx n m k c),.n .i64 (vHi js ms bx n m k c)],.b (vOk js ms bx n m k c)]
noncomputable def o_rv (js:Nat→J) (ms:Nat→Ms) (bx:Nat→Iv) (n m k:Nat):List PV→Option (Bool × Ret):=fun ps=>match ps with
 | [r,.a c,b]=>some (gEq (.t ps) (.t [.a [.lf n (fJ js),.lf m (fM ms)],.a (cp (unC c)),.lf k (fB bx)]) && decide (k≤50),.v (resV js ms bx n m k (unC c)))
 | _=>none
theorem ok_rv (js:Nat→J) (ms:Nat→Ms) (bx:Nat→Iv) (n m k:Nat):zY Tryz.prog 47 (o_rv js ms bx n m k):=by
 intro ps q hh;unfold o_rv at hh;split at hh
 ·simp only [vQZ,vQY,vQJ] at hh;obtain ⟨⟨hg,hb⟩,rfl⟩:=hh
  have:=qXG hg
  simp only [PV.t.injEq] at this;rw [this];exact snd_RV js ms bx n m k _ (vJZ hb)
 ·cases hh
def hRh (js:Nat→J) (ms:Nat→Ms) (bx:Nat→Iv) (n m k:Nat) (cs:Nat→Cn) (c:Nat) (i:Int):St:=⟨[(1,.v (.lf c (fC cs))),(2,.v (.lf k (fB bx))),(3,.p 3 0),(7,.v (.n .i64 i))],[(3,.blk [.v (.lf n (fJ js)),.v (.lf m (fM ms))])]⟩
set_option maxRecDepth 100000 in
theorem rdRh (G:St→Option (Ret × Mem)) (K:Cont) (js:Nat→J) (ms:Nat→Ms) (bx:Nat→Iv) (n m k:Nat) (cs:Nat→Cn) (c:Nat) (i:Int):qWL 60 (cxF T (OrL.k [(43,o_cr [.a [.lf n (fJ js),.lf m (fM ms)],.lf c (fC cs)] (.v (.b (cErr js ms n m cs c)))),(46,o_lk [.a [.lf n (fJ js),.lf m (fM ms)],.lf k (fB bx)] (decide (k≤50)) (.v (.b (rIn js ms bx n m k)))),(47,o_rv js ms bx n m k)]) 60 28 (ntmF T 28)) (ckF T (OrL.k [(43,o_cr [.a [.lf n (fJ js),.lf m (fM ms)],.lf c (fC cs)] (.v (.b (cErr js ms n m cs c)))),(46,o_lk [.a [.lf n (fJ js),.lf m (fM ms)],.lf k (fB bx)] (decide (k≤50)) (.v (.b (rIn js ms bx n m k)))),(47,o_rv js ms bx n m k)]) 60) (qK T 28 [0,1,0,1,1]) ((cxF T (OrL.k [(43,o_cr [.a [.lf n (fJ js),.lf m (fM ms)],.lf c (fC cs)] (.v (.b (cErr js ms n m cs c)))),(46,o_lk [.a [.lf n (fJ js),.lf m (fM ms)],.lf k (fB bx)] (decide (k≤50)) (.v (.b (rIn js ms bx n m k)))),(47,o_rv js ms bx n m k)]) 60 28 (ntmF T 28)).T.hint (cxF T (OrL.k [(43,o_cr [.a [.lf n (fJ js),.lf m (fM ms)],.lf c (fC cs)] (.v (.b (cErr js ms n m cs c)))),(46,o_lk [.a [.lf n (fJ js),.lf m (fM ms)],.lf k (fB bx)] (decide (k≤50)) (.v (.b (rIn js ms bx n m k)))),(47,o_rv js ms bx n m k)]) 60 28 (ntmF T 28)).me (zV (qK T 28 [0,1,0,1,1]))) K G (hRh js ms bx n m k cs c i) =
 (bif (decide (i < (c:Int))) then (bif (inB i c) then (bif (g1 [.a [.lf n (fJ js),.lf m (fM ms)],.a [.n .i64 (cs (i).toNat).kind,.n .i64 (cs (i).toNat).link,.n .i64 (cs (i).toNat).p.x,.n .i64 (cs (i).toNat).p.y,.n .i64 (cs (i).toNat).p.z,.n .i64 (cs (i).toNat).n.x,.n .i64 (cs (i).toNat).n.y,.n .i64 (cs (i).toNat).n.z,.n .i64 (cs (i).toNat).lo,.n .i64 (cs (i).toNat).hi],.lf k (fB bx)] && decide (k≤50)) then (bif (vOk js ms bx n m k (cs (i).toNat)) then (bif (inB i c) then (bif (decide ((vLo js ms bx n m k (cs (i).toNat)) < (cs (i).toNat).lo)) then (K .ret ⟨[(6,.v (.b false))],[]⟩)
 else (bif (inB i c) then (bif (decide ((cs (i).toNat).hi < (vHi js ms bx n m k (cs (i).toNat)))) then (K .ret ⟨[(6,.v (.b false))],[]⟩)
 else (G (hRh js ms bx n m k cs c (vJJ .i64 (i + 1)))))
 else none))
 else none)
 else (bif (inB i c) then (bif (decide ((vLo js ms bx n m k (cs (i).toNat)) < (cs (i).toNat).lo)) then (K .ret ⟨[(6,.v (.b false))],[]⟩)
 else (bif (inB i c) then (bif (decide ((cs (i).toNat).hi < (vHi js ms bx n m k (cs (i).toNat)))) then (K .ret ⟨[(6,.v (.b false))],[]⟩)
 else (G (hRh js ms bx n m k cs c (vJJ .i64 (i + 1)))))
 else none))
 else none))
 else none)
 else none)
 else (K (.exit 0) ⟨[],[]⟩)):=by kernel_rfl
theorem lpRh (K:Cont) (js:Nat→J) (ms:Nat→Ms) (bx:Nat→Iv) (n m k:Nat) (cs:Nat→Cn) (c:Nat) (_:c≤50) (hk:k≤50):LF 60 (cxF T (OrL.k [(43,o_cr [.a [.lf n (fJ js),.lf m (fM ms)],.lf c (fC cs)] (.v (.b (cErr js ms n m cs c)))),(46,o_lk [.a [.lf n (fJ js),.lf m (fM ms)],.lf k (fB bx)] (decide (k≤50)) (.v (.b (rIn js ms bx n m k)))),(47,o_rv js ms bx n m k)]) 60 28 (ntmF T 28)) (ckF T (OrL.k [(43,o_cr [.a [.lf n (fJ js),.lf m (fM ms)],.lf c (fC cs)] (.v (.b (cErr js ms n m cs c)))),(46,o_lk [.a [.lf n (fJ js),.lf m (fM ms)],.lf k (fB bx)] (decide (k≤50)) (.v (.b (rIn js ms bx n m k)))),(47,o_rv js ms bx n m k)]) 60) (qK T 28 [0,1,0,1,1]) ((cxF T (OrL.k [(43,o_cr [.a [.lf n (fJ js),.lf m (fM ms)],.lf c (fC cs)] (.v (.b (cErr js ms n m cs c)))),(46,o_lk [.a [.lf n (fJ js),.lf m (fM ms)],.lf k (fB bx)] (decide (k≤50)) (.v (.b (rIn js ms bx n m k)))),(47,o_rv js ms bx n m k)]) 60 28 (ntmF T 28)).T.hint (cxF T (OrL.k [(43,o_cr [.a [.lf n (fJ js),.lf m (fM ms)],.lf c (fC cs)] (.v (.b (cErr js ms n m cs c)))),(46,o_lk [.a [.lf n (fJ js),.lf m (fM ms)],.lf k (fB bx)] (decide (k≤50)) (.v (.b (rIn js ms bx n m k)))),(47,o_rv js ms bx n m k)]) 60 28 (ntmF T 28)).me (zV (qK T 28 [0,1,0,1,1]))) K 60 (hRh js ms bx n m k cs c 0)=bif (allN (fun i:Nat=>inR (cs i) ⟨vLo js ms bx n m k (cs i),vHi js ms bx n m k (cs i)⟩) c 0) then (K (.exit 0) ⟨[],[]⟩) else (K .ret ⟨[(6,.v (.b false))],[]⟩):=by
 refine (qWF (c:=c) (hRh js ms bx n m k cs c) (fun i:Nat=>inR (cs i) ⟨vLo js ms bx n m k (cs i),vHi js ms bx n m k (cs i)⟩) (K (.exit 0) ⟨[],[]⟩) (fun i:Nat=>(K .ret ⟨[(6,.v (.b false))],[]⟩)) (fun G i hi => ?_) (fun G => ?_) c 0 60 (by omega) (by omega)).trans (qZF _ _ _ _ _)
 ·refine (rdRh G K js ms bx n m k cs c i).trans ?_;simp only [vJQ (show (i:Int) < (c:Int) by omega),qZQ (show i < 1000000 by omega),kZ (show i < c by omega),toN,g1_t,vJQ hk,vZJ,vYV];unfold inR;cases vOk js ms bx n m k (cs i) <;> cases decide (vLo js ms bx n m k (cs i) < (cs i).lo) <;> cases decide ((cs i).hi < vHi js ms bx n m k (cs i)) <;> rfl
 ·refine (rdRh G K js ms bx n m k cs c c).trans ?_;rw [vYH (show ¬ (c:Int) < (c:Int) by omega)];rfl
noncomputable def yJL (js:Nat→J) (ms:Nat→Ms) (bx:Nat→Iv) (n m k:Nat) (cs:Nat→Cn) (c:Nat):Bool:=(allN (fun i:Nat=>inR (cs i) ⟨vLo js ms bx n m k (cs i),vHi js ms bx n m k (cs i)⟩) c 0)
set_option maxRecDepth 100000 in
theorem pxRHo (js:Nat→J) (ms:Nat→Ms) (bx:Nat→Iv) (n m k:Nat) (cs:Nat→Cn) (c:Nat):qKH T (OrL.k [(43,o_cr [.a [.lf n (fJ js),.lf m (fM ms)],.lf c (fC cs)] (.v (.b (cErr js ms n m cs c)))),(46,o_lk [.a [.lf n (fJ js),.lf m (fM ms)],.lf k (fB bx)] (decide (k≤50)) (.v (.b (rIn js ms bx n m k)))),(47,o_rv js ms bx n m k)]) (zW [([0,1,0,1,1],yW (hRh js ms bx n m k cs c 0) (fun K=>(bif (decide (c≤50) && decide (k≤50)) then (bif (allN (fun i:Nat=>inR (cs i) ⟨vLo js ms bx n m k (cs i),vHi js ms bx n m k (cs i)⟩) c 0) then (K (.exit 0) ⟨[],[]⟩) else (K .ret ⟨[(6,.v (.b false))],[]⟩)) else none)))]) 60 28 [.a [.lf n (fJ js),.lf m (fM ms)],.lf c (fC cs),.lf k (fB bx)] =
 (bif (g1 [.a [.lf n (fJ js),.lf m (fM ms)],.lf c (fC cs)]) then (bif (cErr js ms n m cs c) then (bif (g1 [.a [.lf n (fJ js),.lf m (fM ms)],.lf k (fB bx)] && decide (k≤50)) then (bif (rIn js ms bx n m k) then (bif (gSt (hRh js ms bx n m k cs c 0) (hRh js ms bx n m k cs c 0)) then (bif (decide (c≤50) && decide (k≤50)) then (bif (allN (fun i:Nat=>inR (cs i) ⟨vLo js ms bx n m k (cs i),vHi js ms bx n m k (cs i)⟩) c 0) then some (.v (.b true),[])
 else some (.v (.b false),[]))
 else none)
 else none)
 else some (.v (.b false),[]))
 else none)
 else some (.v (.b false),[]))
 else none):=by kernel_rfl
theorem snd_RHo (js:Nat→J) (ms:Nat→Ms) (bx:Nat→Iv) (n m k:Nat) (cs:Nat→Cn) (c:Nat) (hk:k≤50):yZ Tryz.prog 28 [.a [.lf n (fJ js),.lf m (fM ms)],.lf c (fC cs),.lf k (fB bx)] (.v (.b ((cErr js ms n m cs c) && (rIn js ms bx n m k && yJL js ms bx n m k cs c)))):=by
 refine yH (N:=60) (LO:=zW [([0,1,0,1,1],yW (hRh js ms bx n m k cs c 0) (fun K=>(bif (decide (c≤50) && decide (k≤50)) then (bif (allN (fun i:Nat=>inR (cs i) ⟨vLo js ms bx n m k (cs i),vHi js ms bx n m k (cs i)⟩) c 0) then (K (.exit 0) ⟨[],[]⟩) else (K .ret ⟨[(6,.v (.b false))],[]⟩)) else none)))]) yY yQ (OrL.ok (l:=[(43,o_cr [.a [.lf n (fJ js),.lf m (fM ms)],.lf c (fC cs)] (.v (.b (cErr js ms n m cs c)))),(46,o_lk [.a [.lf n (fJ js),.lf m (fM ms)],.lf k (fB bx)] (decide (k≤50)) (.v (.b (rIn js ms bx n m k)))),(47,o_rv js ms bx n m k)]) ⟨qJZ (yJE js ms n m cs c),zVC (fun h=>snd_rIn js ms bx n m k (vJZ h)),ok_rv js ms bx n m k,trivial⟩) (fun p S hp => ?_) ?_
 ·refine kQ (L:=qK T 28) (l:=[([0,1,0,1,1],yW (hRh js ms bx n m k cs c 0) (fun K=>(bif (decide (c≤50) && decide (k≤50)) then (bif (allN (fun i:Nat=>inR (cs i) ⟨vLo js ms bx n m k (cs i),vHi js ms bx n m k (cs i)⟩) c 0) then (K (.exit 0) ⟨[],[]⟩) else (K .ret ⟨[(6,.v (.b false))],[]⟩)) else none)))]) (show AllP _ [([0,1,0,1,1],yW (hRh js ms bx n m k cs c 0) (fun K=>(bif (decide (c≤50) && decide (k≤50)) then (bif (allN (fun i:Nat=>inR (cs i) ⟨vLo js ms bx n m k (cs i),vHi js ms bx n m k (cs i)⟩) c 0) then (K (.exit 0) ⟨[],[]⟩) else (K .ret ⟨[(6,.v (.b false))],[]⟩)) else none)))] from ⟨kW fun K r hr => ?_,trivial⟩) p S hp
  ·obtain ⟨hg,hr⟩:=qQ hr;rw [vQJ] at hg;have hc:=vJZ hg.1;have hk:=vJZ hg.2;exact (lpRh K js ms bx n m k cs c hc hk).trans hr
 ·refine (pxRHo js ms bx n m k cs c).trans ?_;unfold yJL;simp only [jG,g1_t,vJQ hk,vZH];cases hc:(cErr js ms n m cs c) with
  | false=>rfl
  | true =>
   have h8:=(qUH hc).2.1;simp only [vJQ (show c≤50 by omega),vZH,Bool.and_true];cases rIn js ms bx n m k <;> cases (allN (fun i:Nat=>inR (cs i) ⟨vLo js ms bx n m k (cs i),vHi js ms bx n m k (cs i)⟩) c 0) <;> rfl
theorem cErr_one {js:Nat→J} {ms:Nat→Ms} {n m:Nat} {cs:Nat→Cn} {c:Nat} (h:cErr js ms n m cs c=true) {i:Nat} (hi:i < c):cErr js ms n m (fun _=>cs i) 1=true:=by
 obtain ⟨h0,h8,hh⟩:=qUH h;unfold cErr;rw [vJQ h0,vYH (show ¬ (8:Int) < ((1:Nat):Int) by decide)];show conB n (cs i) && true=true;simp only [decide_true,Bool.and_true];exact vJQ (hh i hi)
theorem yUB (js:Nat→J) (ms:Nat→Ms) (bx:Nat→Iv) (n m k:Nat) (cs:Nat→Cn) (c:Nat) (hc:(cErr js ms n m cs c)=true) {i:Nat} (hi:i < c):vOk js ms bx n m k (cs i)=pIn js ms bx n m k:=by
 unfold vOk;rw [cErr_one hc hi,vZH]
theorem vI_of (js:Nat→J) (ms:Nat→Ms) (bx:Nat→Iv) (n m k:Nat) (cs:Nat→Cn) (c:Nat) (hc:(cErr js ms n m cs c)=true) (hp:pIn js ms bx n m k=true) {i:Nat} (hi:i < c):(⟨vLo js ms bx n m k (cs i),vHi js ms bx n m k (cs i)⟩:Iv)=vI js bx n cs i:=by
 unfold vI vLo vHi;rw [yUB js ms bx n m k cs c hc hi,hp];rfl
theorem hold_eq (js:Nat→J) (ms:Nat→Ms) (bx:Nat→Iv) (n m k:Nat) (cs:Nat→Cn) (c:Nat):((cErr js ms n m cs c) && (rIn js ms bx n m k && yJL js ms bx n m k cs c))=((cErr js ms n m cs c) && (pIn js ms bx n m k && yYI cs (vI js bx n cs) c)):=by
 cases hc:(cErr js ms n m cs c) with
 | false=>rfl
 | true =>
  rw [in_eq];cases hp:pIn js ms bx n m k with
  | false=>rfl
  | true =>
   simp only [vZH];unfold yJL yYI;exact zJU fun j _ hj=>by rw [vI_of js ms bx n m k cs c hc hp (by omega)]
theorem snd_RHo' (js:Nat→J) (ms:Nat→Ms) (bx:Nat→Iv) (n m k:Nat) (cs:Nat→Cn) (c:Nat) (hk:k≤50):yZ Tryz.prog 28 [.a [.lf n (fJ js),.lf m (fM ms)],.lf c (fC cs),.lf k (fB bx)] (.v (.b ((cErr js ms n m cs c) && (pIn js ms bx n m k && yYI cs (vI js bx n cs) c)))):=by
 have h:=snd_RHo js ms bx n m k cs c hk;rw [hold_eq] at h;exact h
end Go.Proofs.YtfcofnclgajfeaaGreat.Nj
namespace Go.Proofs.YtfcofnclgajfeaaGreat.Nl
open Go.Rx Rt Go.Sx Go.RowKit Od Na Nb Nc Nd Nx Nf Ng Nj
def hEq (js:Nat→J) (q:Nat→Int) (n k:Nat) (i:Int):St:=⟨[(1,.v (.lf k (fQ q))),(2,.v (.f 59 [] [])),(14,.v (.lf n (fJ js))),(15,.v (.n .i64 (n:Int))),(16,.v (.n .i64 i))],[]⟩
set_option maxRecDepth 100000 in
theorem rdEq (G:St→Option (Ret × Mem)) (K:Cont) (js:Nat→J) (q:Nat→Int) (n k:Nat) (i:Int):qWL 60 (cxF T (OrL.k ([]:OrL)) 60 58 (ntmF T 58)) (ckF T (OrL.k ([]:OrL)) 60) (qK T 58 [0,1,0,1,1]) ((cxF T (OrL.k ([]:OrL)) 60 58 (ntmF T 58)).T.hint (cxF T (OrL.k ([]:OrL)) 60 58 (ntmF T 58)).me (zV (qK T 58 [0,1,0,1,1]))) K G (hEq js q n k i) =
 (bif (decide (i < (n:Int))) then (bif (inB i n) then (bif (inB i k) then (bif (decide ((js (i).toNat).lo≤(q (i).toNat))) then (bif (decide ((q (i).toNat)≤(js (i).toNat).hi)) then (G (hEq js q n k (vJJ .i64 (i + 1))))
 else (K .ret ⟨[(6,.v (.b false))],[]⟩))
 else (K .ret ⟨[(6,.v (.b false))],[]⟩))
 else none)
 else none)
 else (K (.exit 0) ⟨[],[]⟩)):=by kernel_rfl
theorem lpEq (K:Cont) (js:Nat→J) (q:Nat→Int) (n k:Nat) (_:n≤50) (_:n=k):LF 60 (cxF T (OrL.k ([]:OrL)) 60 58 (ntmF T 58)) (ckF T (OrL.k ([]:OrL)) 60) (qK T 58 [0,1,0,1,1]) ((cxF T (OrL.k ([]:OrL)) 60 58 (ntmF T 58)).T.hint (cxF T (OrL.k ([]:OrL)) 60 58 (ntmF T 58)).me (zV (qK T 58 [0,1,0,1,1]))) K 60 (hEq js q n k 0)=bif (allN (fun i:Nat=>decide ((js i).lo≤q i) && decide (q i≤(js i).hi)) n 0) then (K (.exit 0) ⟨[],[]⟩) else (K .ret ⟨[(6,.v (.b false))],[]⟩):=by
 refine (qWF (c:=n) (hEq js q n k) (fun i:Nat=>decide ((js i).lo≤q i) && decide (q i≤(js i).hi)) (K (.exit 0) ⟨[],[]⟩) (fun i:Nat=>(K .ret ⟨[(6,.v (.b false))],[]⟩)) (fun G i hi => ?_) (fun G => ?_) n 0 60 (by omega) (by omega)).trans (qZF _ _ _ _ _)
 ·refine (rdEq G K js q n k i).trans ?_;rw [vJQ (show (i:Int) < (n:Int) by omega),qZQ (by omega),kZ (show i < n by omega),kZ (show i < k by omega),toN];cases decide ((js i).lo≤q i) <;> cases decide (q i≤(js i).hi) <;> rfl
 ·refine (rdEq G K js q n k n).trans ?_;rw [vYH (show ¬ (n:Int) < (n:Int) by omega)];rfl
def insQ (js:Nat→J) (q:Nat→Int) (n k:Nat):Bool:=decide ((n:Int)=(k:Int)) && (allN (fun i:Nat=>decide ((js i).lo≤q i) && decide (q i≤(js i).hi)) n 0)
set_option maxRecDepth 100000 in
theorem pxeveryQ (js:Nat→J) (q:Nat→Int) (n k:Nat):qKH T (OrL.k ([]:OrL)) (zW [([0,1,0,1,1],yW (hEq js q n k 0) (fun K=>(bif (decide ((n:Int)=(k:Int)) && decide (n≤50)) then (bif (allN (fun i:Nat=>decide ((js i).lo≤q i) && decide (q i≤(js i).hi)) n 0) then (K (.exit 0) ⟨[],[]⟩) else (K .ret ⟨[(6,.v (.b false))],[]⟩)) else none)))]) 60 58 [.lf n (fJ js),.lf k (fQ q),.f 59 [] []] =
 (bif (!decide ((n:Int)=(k:Int))) then some (.v (.b false),[])
 else (bif (gSt (hEq js q n k 0) (hEq js q n k 0)) then (bif (decide ((n:Int)=(k:Int)) && decide (n≤50)) then (bif (allN (fun i:Nat=>decide ((js i).lo≤q i) && decide (q i≤(js i).hi)) n 0) then some (.v (.b true),[])
 else some (.v (.b false),[]))
 else none)
 else none)):=by kernel_rfl
theorem snd_everyQ (js:Nat→J) (q:Nat→Int) (n k:Nat) (hn:n≤50):yZ Tryz.prog 58 [.lf n (fJ js),.lf k (fQ q),.f 59 [] []] (.v (.b (insQ js q n k))):=by
 refine yH (N:=60) (LO:=zW [([0,1,0,1,1],yW (hEq js q n k 0) (fun K=>(bif (decide ((n:Int)=(k:Int)) && decide (n≤50)) then (bif (allN (fun i:Nat=>decide ((js i).lo≤q i) && decide (q i≤(js i).hi)) n 0) then (K (.exit 0) ⟨[],[]⟩) else (K .ret ⟨[(6,.v (.b false))],[]⟩)) else none)))]) yY yQ (OrL.ok (l:=([]:OrL)) trivial) (fun p S hp => ?_) ?_
 ·refine kQ (L:=qK T 58) (l:=[([0,1,0,1,1],yW (hEq js q n k 0) (fun K=>(bif (decide ((n:Int)=(k:Int)) && decide (n≤50)) then (bif (allN (fun i:Nat=>decide ((js i).lo≤q i) && decide (q i≤(js i).hi)) n 0) then (K (.exit 0) ⟨[],[]⟩) else (K .ret ⟨[(6,.v (.b false))],[]⟩)) else none)))]) (show AllP _ [([0,1,0,1,1],yW (hEq js q n k 0) (fun K=>(bif (decide ((n:Int)=(k:Int)) && decide (n≤50)) then (bif (allN (fun i:Nat=>decide ((js i).lo≤q i) && decide (q i≤(js i).hi)) n 0) then (K (.exit 0) ⟨[],[]⟩) else (K .ret ⟨[(6,.v (.b false))],[]⟩)) else none)))] from ⟨kW fun K r hr => ?_,trivial⟩) p S hp
  ·obtain ⟨hg,hr⟩:=qQ hr;rw [vQJ] at hg;have hn:=vJZ hg.2;have hk:n=k:=by have:=vJZ hg.1; omega
   exact (lpEq K js q n k hn hk).trans hr
 ·refine (pxeveryQ js q n k).trans ?_;unfold insQ;rw [jG,vJQ hn];cases decide ((n:Int)=(k:Int)) <;> cases (allN (fun i:Nat=>decide ((js i).lo≤q i) && decide (q i≤(js i).hi)) n 0) <;> rfl
def qIn (js:Nat→J) (ms:Nat→Ms) (q:Nat→Int) (n m k:Nat):Bool:=decide (rErr js ms n m=0) && insQ js q n k
theorem snd_qIn (js:Nat→J) (ms:Nat→Ms) (q:Nat→Int) (n m k:Nat):yZ Tryz.prog 33 [.a [.lf n (fJ js),.lf m (fM ms)],.lf k (fQ q)] (.v (.b (qIn js ms q n m k))):=by
 refine qX (N:=60) yY yQ (OrL.ok (l:=[(48,o_cr [.a [.lf n (fJ js),.lf m (fM ms)]] (.v (.n .i64 (rErr js ms n m)))),(58,o_lk [.lf n (fJ js),.lf k (fQ q),.f 59 [] []] (decide (n≤50)) (.v (.b (insQ js q n k))))]) ⟨qJZ (yZG js ms n m),zVC (fun h=>snd_everyQ js q n k (vJZ h)),trivial⟩) ?_;refine (by kernel_rfl:_=bif (g1 [.a [.lf n (fJ js),.lf m (fM ms)]]) then (bif (decide ((rErr js ms n m)=0)) then (bif (g1 [.lf n (fJ js),.lf k (fQ q),.f 59 [] []] && decide (n≤50)) then (bif (insQ js q n k) then some (.v (.b true),[])
 else some (.v (.b false),[]))
 else none)
 else some (.v (.b false),[]))
 else none).trans ?_
 unfold qIn;rw [g1_t,g1_t];by_cases h:rErr js ms n m=0
 ·have:=qGC h
  rw [vJQ h,vJQ (show n≤50 by omega)];cases insQ js q n k <;> rfl
 ·rw [vYH h]; rfl
def hRi (js:Nat→J) (ms:Nat→Ms) (q:Nat→Int) (n m k:Nat) (i:Int):St:=⟨[(1,.v (.lf k (fQ q))),(2,.p 2 0),(5,.v (.n .i64 i))],[(2,.blk [.v (.lf n (fJ js)),.v (.lf m (fM ms))])]⟩
set_option maxRecDepth 100000 in
theorem rdRi (G:St→Option (Ret × Mem)) (K:Cont) (js:Nat→J) (ms:Nat→Ms) (q:Nat→Int) (n m k:Nat) (i:Int):qWL 60 (cxF T (OrL.k [(69,o_cr [.a [.lf n (fJ js),.lf m (fM ms)]] (.v (.n .i64 (rErr js ms n m))))]) 60 63 (ntmF T 63)) (ckF T (OrL.k [(69,o_cr [.a [.lf n (fJ js),.lf m (fM ms)]] (.v (.n .i64 (rErr js ms n m))))]) 60) (qK T 63 [0,1,0,1,1]) ((cxF T (OrL.k [(69,o_cr [.a [.lf n (fJ js),.lf m (fM ms)]] (.v (.n .i64 (rErr js ms n m))))]) 60 63 (ntmF T 63)).T.hint (cxF T (OrL.k [(69,o_cr [.a [.lf n (fJ js),.lf m (fM ms)]] (.v (.n .i64 (rErr js ms n m))))]) 60 63 (ntmF T 63)).me (zV (qK T 63 [0,1,0,1,1]))) K G (hRi js ms q n m k i) =
 (bif (decide (i < (k:Int))) then (bif (inB i k) then (bif (inB i n) then (bif (decide ((q (i).toNat) < (js (i).toNat).lo)) then (K .ret ⟨[(4,.v (.b false))],[]⟩)
 else (bif (inB i k) then (bif (inB i n) then (bif (decide ((js (i).toNat).hi < (q (i).toNat))) then (K .ret ⟨[(4,.v (.b false))],[]⟩)
 else (G (hRi js ms q n m k (vJJ .i64 (i + 1)))))
 else none)
 else none))
 else none)
 else none)
 else (K (.exit 0) ⟨[],[]⟩)):=by kernel_rfl
theorem lpRi (K:Cont) (js:Nat→J) (ms:Nat→Ms) (q:Nat→Int) (n m k:Nat) (_:k≤50) (_:n=k):LF 60 (cxF T (OrL.k [(69,o_cr [.a [.lf n (fJ js),.lf m (fM ms)]] (.v (.n .i64 (rErr js ms n m))))]) 60 63 (ntmF T 63)) (ckF T (OrL.k [(69,o_cr [.a [.lf n (fJ js),.lf m (fM ms)]] (.v (.n .i64 (rErr js ms n m))))]) 60) (qK T 63 [0,1,0,1,1]) ((cxF T (OrL.k [(69,o_cr [.a [.lf n (fJ js),.lf m (fM ms)]] (.v (.n .i64 (rErr js ms n m))))]) 60 63 (ntmF T 63)).T.hint (cxF T (OrL.k [(69,o_cr [.a [.lf n (fJ js),.lf m (fM ms)]] (.v (.n .i64 (rErr js ms n m))))]) 60 63 (ntmF T 63)).me (zV (qK T 63 [0,1,0,1,1]))) K 60 (hRi js ms q n m k 0)=bif (allN (fun i:Nat => !decide (q i < (js i).lo) && !decide ((js i).hi < q i)) k 0) then (K (.exit 0) ⟨[],[]⟩) else (K .ret ⟨[(4,.v (.b false))],[]⟩):=by
 refine (qWF (c:=k) (hRi js ms q n m k) (fun i:Nat => !decide (q i < (js i).lo) && !decide ((js i).hi < q i)) (K (.exit 0) ⟨[],[]⟩) (fun i:Nat=>(K .ret ⟨[(4,.v (.b false))],[]⟩)) (fun G i hi => ?_) (fun G => ?_) k 0 60 (by omega) (by omega)).trans (qZF _ _ _ _ _)
 ·refine (rdRi G K js ms q n m k i).trans ?_;rw [vJQ (show (i:Int) < (k:Int) by omega),qZQ (by omega),kZ (show i < k by omega),kZ (show i < n by omega),toN];cases decide (q i < (js i).lo) <;> cases decide ((js i).hi < q i) <;> rfl
 ·refine (rdRi G K js ms q n m k k).trans ?_;rw [vYH (show ¬ (k:Int) < (k:Int) by omega)];rfl
def rqIn (js:Nat→J) (ms:Nat→Ms) (q:Nat→Int) (n m k:Nat):Bool:=decide (rErr js ms n m=0) && (decide ((k:Int)=(n:Int)) && (allN (fun i:Nat => !decide (q i < (js i).lo) && !decide ((js i).hi < q i)) k 0))
set_option maxRecDepth 100000 in
theorem pxrqIn0 (js:Nat→J) (ms:Nat→Ms) (q:Nat→Int) (n m k:Nat):qKH T (OrL.k [(69,o_cr [.a [.lf n (fJ js),.lf m (fM ms)]] (.v (.n .i64 (rErr js ms n m))))]) (zW [([0,1,0,1,1],yW (hRi js ms q n m k 0) (fun K=>(bif (decide (k≤50) && decide (n=k)) then (bif (allN (fun i:Nat => !decide (q i < (js i).lo) && !decide ((js i).hi < q i)) k 0) then (K (.exit 0) ⟨[],[]⟩) else (K .ret ⟨[(4,.v (.b false))],[]⟩)) else none)))]) 60 63 [.a [.lf n (fJ js),.lf m (fM ms)],.lf k (fQ q)] =
 (bif (g1 [.a [.lf n (fJ js),.lf m (fM ms)]]) then (bif (!decide ((rErr js ms n m)=0)) then some (.v (.b false),[])
 else (bif (!decide ((k:Int)=(n:Int))) then some (.v (.b false),[])
 else (bif (gSt (hRi js ms q n m k 0) (hRi js ms q n m k 0)) then (bif (decide (k≤50) && decide (n=k)) then (bif (allN (fun i:Nat => !decide (q i < (js i).lo) && !decide ((js i).hi < q i)) k 0) then some (.v (.b true),[])
 else some (.v (.b false),[]))
 else none)
 else none)))
 else none):=by kernel_rfl
theorem snd_rqIn0 (js:Nat→J) (ms:Nat→Ms) (q:Nat→Int) (n m k:Nat):yZ Tryz.prog 63 [.a [.lf n (fJ js),.lf m (fM ms)],.lf k (fQ q)] (.v (.b (rqIn js ms q n m k))):=by
 refine yH (N:=60) (LO:=zW [([0,1,0,1,1],yW (hRi js ms q n m k 0) (fun K=>(bif (decide (k≤50) && decide (n=k)) then (bif (allN (fun i:Nat => !decide (q i < (js i).lo) && !decide ((js i).hi < q i)) k 0) then (K (.exit 0) ⟨[],[]⟩) else (K .ret ⟨[(4,.v (.b false))],[]⟩)) else none)))]) yY yQ (OrL.ok (l:=[(69,o_cr [.a [.lf n (fJ js),.lf m (fM ms)]] (.v (.n .i64 (rErr js ms n m))))]) ⟨qJZ (zVY js ms n m),trivial⟩) (fun p S hp => ?_) ?_
 ·refine kQ (L:=qK T 63) (l:=[([0,1,0,1,1],yW (hRi js ms q n m k 0) (fun K=>(bif (decide (k≤50) && decide (n=k)) then (bif (allN (fun i:Nat => !decide (q i < (js i).lo) && !decide ((js i).hi < q i)) k 0) then (K (.exit 0) ⟨[],[]⟩) else (K .ret ⟨[(4,.v (.b false))],[]⟩)) else none)))]) (show AllP _ [([0,1,0,1,1],yW (hRi js ms q n m k 0) (fun K=>(bif (decide (k≤50) && decide (n=k)) then (bif (allN (fun i:Nat => !decide (q i < (js i).lo) && !decide ((js i).hi < q i)) k 0) then (K (.exit 0) ⟨[],[]⟩) else (K .ret ⟨[(4,.v (.b false))],[]⟩)) else none)))] from ⟨kW fun K r hr => ?_,trivial⟩) p S hp
  ·obtain ⟨hg,hr⟩:=qQ hr;rw [vQJ] at hg;have hk:=vJZ hg.1;have hn:=vJZ hg.2;exact (lpRi K js ms q n m k hk hn).trans hr
 ·refine (pxrqIn0 js ms q n m k).trans ?_;unfold rqIn;rw [g1_t];by_cases h:rErr js ms n m=0
  ·have:=qGC h
   rw [vJQ h];by_cases e:k=n
   ·subst e;rw [jG,vJQ (show k≤50 by omega),vJQ (show k=k from rfl),vJQ (show (k:Int)=(k:Int) from rfl)];cases (allN (fun i:Nat => !decide (q i < (js i).lo) && !decide ((js i).hi < q i)) k 0) <;> rfl
   ·rw [vYH (show ¬ (k:Int)=(n:Int) by omega)];rfl
  ·rw [vYH h]; rfl
theorem nlt (a b:Int):(!decide (a < b))=decide (b≤a):=by by_cases h:a < b <;> simp [h] <;> omega
theorem rqIn_eq (js:Nat→J) (ms:Nat→Ms) (q:Nat→Int) (n m k:Nat):rqIn js ms q n m k=qIn js ms q n m k:=by
 unfold rqIn qIn insQ;by_cases e:n=k
 ·subst e;simp only [nlt]
 ·rw [vYH (show ¬ (n:Int)=(k:Int) by omega),vYH (show ¬ (k:Int)=(n:Int) by omega)]; rfl
theorem snd_rqIn (js:Nat→J) (ms:Nat→Ms) (q:Nat→Int) (n m k:Nat):yZ Tryz.prog 63 [.a [.lf n (fJ js),.lf m (fM ms)],.lf k (fQ q)] (.v (.b (qIn js ms q n m k))):=by
 have h:=snd_rqIn0 js ms q n m k;rw [rqIn_eq] at h;exact h
theorem qJB {js:Nat→J} {ms:Nat→Ms} {q:Nat→Int} {n m k:Nat} (h:qIn js ms q n m k=true):rErr js ms n m=0∧n=k∧∀ i,i < n→(js i).lo≤q i∧q i≤(js i).hi:=by
 unfold qIn insQ at h;simp only [vQJ,decide_eq_true_eq] at h;refine ⟨h.1,by omega,fun i hi => ?_⟩
 have:=allN_iff.1 h.2.2 i (Nat.zero_le _) (by omega)
 simpa [vQJ,decide_eq_true_eq] using this
end Go.Proofs.YtfcofnclgajfeaaGreat.Nl
namespace Go.Proofs.YtfcofnclgajfeaaGreat.Nm
open Go.Rx Rt Go.Sx Go.RowKit Od Na Nb Nc Nx Nl
def hSx (q:Nat→Int) (k:Nat) (i:Int):St:=⟨[(0,.v (.lf k (fQ q))),(1,.v (.f 142 [] [])),(7,.v (.n .i64 (k:Int))),(8,.v (.n .i64 i))],[]⟩
set_option maxRecDepth 100000 in
theorem rdSx (G:St→Option (Ret × Mem)) (K:Cont) (q:Nat→Int) (k:Nat) (i:Int):qWL 60 (cxF T (OrL.k ([]:OrL)) 60 153 (ntmF T 153)) (ckF T (OrL.k ([]:OrL)) 60) (qK T 153 [0,1,0,1]) ((cxF T (OrL.k ([]:OrL)) 60 153 (ntmF T 153)).T.hint (cxF T (OrL.k ([]:OrL)) 60 153 (ntmF T 153)).me (zV (qK T 153 [0,1,0,1]))) K G (hSx q k i) =
 (bif (decide (i < (k:Int))) then (bif (inB i k) then (bif (decide ((q (i).toNat) < (-2147483648))) then (K .ret ⟨[(4,.v (.n .i64 i))],[]⟩)
 else (bif (decide (2147483648 < (q (i).toNat))) then (K .ret ⟨[(4,.v (.n .i64 i))],[]⟩)
 else (G (hSx q k (vJJ .i64 (i + 1))))))
 else none)
 else (K (.exit 0) ⟨[],[]⟩)):=by kernel_rfl
theorem lpSx (K:Cont) (q:Nat→Int) (k:Nat) (_:k≤50):LF 60 (cxF T (OrL.k ([]:OrL)) 60 153 (ntmF T 153)) (ckF T (OrL.k ([]:OrL)) 60) (qK T 153 [0,1,0,1]) ((cxF T (OrL.k ([]:OrL)) 60 153 (ntmF T 153)).T.hint (cxF T (OrL.k ([]:OrL)) 60 153 (ntmF T 153)).me (zV (qK T 153 [0,1,0,1]))) K 60 (hSx q k 0)=bif (allN (fun i:Nat => !decide (q i < -2147483648) && !decide (2147483648 < q i)) k 0) then (K (.exit 0) ⟨[],[]⟩) else (K .ret ⟨[(4,.v (.n .i64 ((Rx.firstK (fun i:Nat => !decide (q i < -2147483648) && !decide (2147483648 < q i)) k 0:Nat):Int)))],[]⟩):=by
 refine (qWF (c:=k) (hSx q k) (fun i:Nat => !decide (q i < -2147483648) && !decide (2147483648 < q i)) (K (.exit 0) ⟨[],[]⟩) (fun i:Nat=>(K .ret ⟨[(4,.v (.n .i64 (i:Int)))],[]⟩)) (fun G i hi => ?_) (fun G => ?_) k 0 60 (by omega) (by omega)).trans (qJL _ _ _ _ _)
 ·refine (rdSx G K q k i).trans ?_;rw [vJQ (show (i:Int) < (k:Int) by omega),qZQ (by omega),kZ (show i < k by omega),toN];cases decide (q i < -2147483648) <;> cases decide (2147483648 < q i) <;> rfl
 ·refine (rdSx G K q k k).trans ?_;rw [vYH (show ¬ (k:Int) < (k:Int) by omega)];rfl
def smQ (q:Nat→Int) (k:Nat):Bool:=(allN (fun i:Nat => !decide (q i < -2147483648) && !decide (2147483648 < q i)) k 0)
set_option maxRecDepth 100000 in
theorem pxsidx (q:Nat→Int) (k:Nat):qKH T (OrL.k ([]:OrL)) (zW [([0,1,0,1],yW (hSx q k 0) (fun K=>(bif (decide (k≤50)) then (bif (allN (fun i:Nat => !decide (q i < -2147483648) && !decide (2147483648 < q i)) k 0) then (K (.exit 0) ⟨[],[]⟩) else (K .ret ⟨[(4,.v (.n .i64 ((Rx.firstK (fun i:Nat => !decide (q i < -2147483648) && !decide (2147483648 < q i)) k 0:Nat):Int)))],[]⟩)) else none)))]) 60 153 [.lf k (fQ q),.f 142 [] []] =
 (bif (gSt (hSx q k 0) (hSx q k 0)) then (bif (decide (k≤50)) then (bif (allN (fun i:Nat => !decide (q i < -2147483648) && !decide (2147483648 < q i)) k 0) then some (.v (.n .i64 (-1)),[])
 else some (.v (.n .i64 ((Rx.firstK (fun i:Nat => !decide (q i < -2147483648) && !decide (2147483648 < q i)) k 0:Nat):Int)),[]))
 else none)
 else none):=by kernel_rfl
theorem snd_sidx (q:Nat→Int) (k:Nat) (hk:k≤50):yZ Tryz.prog 153 [.lf k (fQ q),.f 142 [] []] (.v (.n .i64 (bif smQ q k then -1 else ((Rx.firstK (fun i:Nat => !decide (q i < -2147483648) && !decide (2147483648 < q i)) k 0:Nat):Int)))):=by
 refine yH (N:=60) (LO:=zW [([0,1,0,1],yW (hSx q k 0) (fun K=>(bif (decide (k≤50)) then (bif (allN (fun i:Nat => !decide (q i < -2147483648) && !decide (2147483648 < q i)) k 0) then (K (.exit 0) ⟨[],[]⟩) else (K .ret ⟨[(4,.v (.n .i64 ((Rx.firstK (fun i:Nat => !decide (q i < -2147483648) && !decide (2147483648 < q i)) k 0:Nat):Int)))],[]⟩)) else none)))]) yY yQ (OrL.ok (l:=([]:OrL)) trivial) (fun p S hp => ?_) ?_
 ·refine kQ (L:=qK T 153) (l:=[([0,1,0,1],yW (hSx q k 0) (fun K=>(bif (decide (k≤50)) then (bif (allN (fun i:Nat => !decide (q i < -2147483648) && !decide (2147483648 < q i)) k 0) then (K (.exit 0) ⟨[],[]⟩) else (K .ret ⟨[(4,.v (.n .i64 ((Rx.firstK (fun i:Nat => !decide (q i < -2147483648) && !decide (2147483648 < q i)) k 0:Nat):Int)))],[]⟩)) else none)))]) (show AllP _ [([0,1,0,1],yW (hSx q k 0) (fun K=>(bif (decide (k≤50)) then (bif (allN (fun i:Nat => !decide (q i < -2147483648) && !decide (2147483648 < q i)) k 0) then (K (.exit 0) ⟨[],[]⟩) else (K .ret ⟨[(4,.v (.n .i64 ((Rx.firstK (fun i:Nat => !decide (q i < -2147483648) && !decide (2147483648 < q i)) k 0:Nat):Int)))],[]⟩)) else none)))] from ⟨kW fun K r hr => ?_,trivial⟩) p S hp
  ·obtain ⟨hg,hr⟩:=qQ hr;have hk:=vJZ hg;exact (lpSx K q k hk).trans hr
 ·refine (pxsidx q k).trans ?_;unfold smQ;rw [jG,vJQ hk];cases (allN (fun i:Nat => !decide (q i < -2147483648) && !decide (2147483648 < q i)) k 0) <;> rfl
theorem snd_scon (q:Nat→Int) (k:Nat) (hk:k≤50):yZ Tryz.prog 141 [.lf k (fQ q),.f 142 [] []] (.v (.b (!smQ q k))):=by
 refine qX (N:=60) yY yQ (OrL.ok (l:=[(153,o_cr [.lf k (fQ q),.f 142 [] []] (.v (.n .i64 (bif smQ q k then -1 else ((Rx.firstK (fun i:Nat => !decide (q i < -2147483648) && !decide (2147483648 < q i)) k 0:Nat):Int)))))]) ⟨qJZ (snd_sidx q k hk),trivial⟩) ?_;refine (by kernel_rfl:_=bif (g1 [.lf k (fQ q),.f 142 [] []]) then (bif (decide (0≤(bif smQ q k then -1 else ((Rx.firstK (fun i:Nat => !decide (q i < -2147483648) && !decide (2147483648 < q i)) k 0:Nat):Int)))) then some (.v (.b true),[])
 else some (.v (.b false),[]))
 else none).trans ?_
 rw [g1_t];cases smQ q k with
 | true=>rfl
 | false =>
  rw [vYG,vJQ (show 0≤((Rx.firstK (fun i:Nat => !decide (q i < -2147483648) && !decide (2147483648 < q i)) k 0:Nat):Int) by omega)];rfl
theorem snd_sm (q:Nat→Int) (k:Nat) (hk:k≤50):yZ Tryz.prog 121 [.lf k (fQ q)] (.v (.b (smQ q k))):=by
 refine qX (N:=60) yY yQ (OrL.ok (l:=[(141,o_cr [.lf k (fQ q),.f 142 [] []] (.v (.b (!smQ q k))))]) ⟨qJZ (snd_scon q k hk),trivial⟩) ?_;refine (by kernel_rfl:_=bif (g1 [.lf k (fQ q),.f 142 [] []]) then (bif (!smQ q k) then some (.v (.b false),[])
 else some (.v (.b true),[]))
 else none).trans ?_
 rw [g1_t];cases smQ q k <;> rfl
def hSr (q:Nat→Int) (k:Nat) (i:Int):St:=⟨[(0,.v (.lf k (fQ q))),(3,.v (.n .i64 i))],[]⟩
set_option maxRecDepth 100000 in
theorem rdSr (G:St→Option (Ret × Mem)) (K:Cont) (q:Nat→Int) (k:Nat) (i:Int):qWL 60 (cxF T (OrL.k ([]:OrL)) 60 94 (ntmF T 94)) (ckF T (OrL.k ([]:OrL)) 60) (qK T 94 [0,1,0,1]) ((cxF T (OrL.k ([]:OrL)) 60 94 (ntmF T 94)).T.hint (cxF T (OrL.k ([]:OrL)) 60 94 (ntmF T 94)).me (zV (qK T 94 [0,1,0,1]))) K G (hSr q k i) =
 (bif (decide (i < (k:Int))) then (bif (inB i k) then (bif (decide ((q (i).toNat) < (-2147483648))) then (K .ret ⟨[(2,.v (.b false))],[]⟩)
 else (bif (inB i k) then (bif (decide (2147483648 < (q (i).toNat))) then (K .ret ⟨[(2,.v (.b false))],[]⟩)
 else (G (hSr q k (vJJ .i64 (i + 1)))))
 else none))
 else none)
 else (K (.exit 0) ⟨[],[]⟩)):=by kernel_rfl
theorem lpSr (K:Cont) (q:Nat→Int) (k:Nat) (_:k≤50):LF 60 (cxF T (OrL.k ([]:OrL)) 60 94 (ntmF T 94)) (ckF T (OrL.k ([]:OrL)) 60) (qK T 94 [0,1,0,1]) ((cxF T (OrL.k ([]:OrL)) 60 94 (ntmF T 94)).T.hint (cxF T (OrL.k ([]:OrL)) 60 94 (ntmF T 94)).me (zV (qK T 94 [0,1,0,1]))) K 60 (hSr q k 0)=bif (allN (fun i:Nat => !decide (q i < -2147483648) && !decide (2147483648 < q i)) k 0) then (K (.exit 0) ⟨[],[]⟩) else (K .ret ⟨[(2,.v (.b false))],[]⟩):=by
 refine (qWF (c:=k) (hSr q k) (fun i:Nat => !decide (q i < -2147483648) && !decide (2147483648 < q i)) (K (.exit 0) ⟨[],[]⟩) (fun i:Nat=>(K .ret ⟨[(2,.v (.b false))],[]⟩)) (fun G i hi => ?_) (fun G => ?_) k 0 60 (by omega) (by omega)).trans (qZF _ _ _ _ _)
 ·refine (rdSr G K q k i).trans ?_;rw [vJQ (show (i:Int) < (k:Int) by omega),qZQ (by omega),kZ (show i < k by omega),toN];cases decide (q i < -2147483648) <;> cases decide (2147483648 < q i) <;> rfl
 ·refine (rdSr G K q k k).trans ?_;rw [vYH (show ¬ (k:Int) < (k:Int) by omega)];rfl
set_option maxRecDepth 100000 in
theorem pxrsm (q:Nat→Int) (k:Nat):qKH T (OrL.k ([]:OrL)) (zW [([0,1,0,1],yW (hSr q k 0) (fun K=>(bif (decide (k≤50)) then (bif (allN (fun i:Nat => !decide (q i < -2147483648) && !decide (2147483648 < q i)) k 0) then (K (.exit 0) ⟨[],[]⟩) else (K .ret ⟨[(2,.v (.b false))],[]⟩)) else none)))]) 60 94 [.lf k (fQ q)] =
 (bif (gSt (hSr q k 0) (hSr q k 0)) then (bif (decide (k≤50)) then (bif (allN (fun i:Nat => !decide (q i < -2147483648) && !decide (2147483648 < q i)) k 0) then some (.v (.b true),[])
 else some (.v (.b false),[]))
 else none)
 else none):=by kernel_rfl
theorem snd_rsm (q:Nat→Int) (k:Nat) (hk:k≤50):yZ Tryz.prog 94 [.lf k (fQ q)] (.v (.b (smQ q k))):=by
 refine yH (N:=60) (LO:=zW [([0,1,0,1],yW (hSr q k 0) (fun K=>(bif (decide (k≤50)) then (bif (allN (fun i:Nat => !decide (q i < -2147483648) && !decide (2147483648 < q i)) k 0) then (K (.exit 0) ⟨[],[]⟩) else (K .ret ⟨[(2,.v (.b false))],[]⟩)) else none)))]) yY yQ (OrL.ok (l:=([]:OrL)) trivial) (fun p S hp => ?_) ?_
 ·refine kQ (L:=qK T 94) (l:=[([0,1,0,1],yW (hSr q k 0) (fun K=>(bif (decide (k≤50)) then (bif (allN (fun i:Nat => !decide (q i < -2147483648) && !decide (2147483648 < q i)) k 0) then (K (.exit 0) ⟨[],[]⟩) else (K .ret ⟨[(2,.v (.b false))],[]⟩)) else none)))]) (show AllP _ [([0,1,0,1],yW (hSr q k 0) (fun K=>(bif (decide (k≤50)) then (bif (allN (fun i:Nat => !decide (q i < -2147483648) && !decide (2147483648 < q i)) k 0) then (K (.exit 0) ⟨[],[]⟩) else (K .ret ⟨[(2,.v (.b false))],[]⟩)) else none)))] from ⟨kW fun K r hr => ?_,trivial⟩) p S hp
  ·obtain ⟨hg,hr⟩:=qQ hr;have hk:=vJZ hg;exact (lpSr K q k hk).trans hr
 ·refine (pxrsm q k).trans ?_;unfold smQ;rw [jG,vJQ hk];cases (allN (fun i:Nat => !decide (q i < -2147483648) && !decide (2147483648 < q i)) k 0) <;> rfl
theorem runS_fillJ {β:Type} {g h:Nat→Int} {KX:(Nat→Int) × (Nat→Int)→β} {KR:Nat→(Nat→Int) × (Nat→Int)→β}:∀ k p t,runS (fun _ _=>true) (fun (i:Nat) (t:(Nat→Int) × (Nat→Int))=>((fun v=>bif Nat.beq v i then g i else t.1 v),(fun v=>bif Nat.beq v i then h i else t.2 v))) KX KR k p t=KX (qVI g k p t.1,qVI h k p t.2)
 | 0,_,_=>rfl
 | k + 1,p,t=>by
  simp only [runS,vYV];exact runS_fillJ k (p + 1) _
end Go.Proofs.YtfcofnclgajfeaaGreat.Nm

/- Part 13 of the texts behind the last one: rules and contracts. No condition. -/
import Derived.Test.YtmffoiemmlcmfaaGreatPE12
open Option.some renaming injEq → vQZ
open Prod.mk renaming injEq → vQY
open Bool renaming and_eq_true → vQJ, and_self → vZJ, true_and → vZH
open List renaming getElem?_eq_getElem → vQK
open Classical renaming propDecidable → vYJ
open Go.IntKind renaming wrap → vJJ
namespace Go.Proofs.YtmffoiemmlcmfaaGreat.Nn
open Go.Rx Rt Go.Sx Go.RowKit Od Ov Pc Na Nb Nc Nd Nx Nf Ng Nj Nl Nm
noncomputable def qLo (js:Nat→J) (ms:Nat→Ms) (q:Nat→Int) (n m k:Nat) (c:Cn):Int:=vLo js ms (ptB q) n m (bif smQ q k then k else 0) c
noncomputable def qHi (js:Nat→J) (ms:Nat→Ms) (q:Nat→Int) (n m k:Nat) (c:Cn):Int:=vHi js ms (ptB q) n m (bif smQ q k then k else 0) c
def qOk (js:Nat→J) (ms:Nat→Ms) (q:Nat→Int) (n m k:Nat) (c:Cn):Bool:=vOk js ms (ptB q) n m (bif smQ q k then k else 0) c
noncomputable def mvQ (js:Nat→J) (ms:Nat→Ms) (q:Nat→Int) (n m k:Nat) (c:Cn):Int:=(vJJ .i64 (qLo js ms q n m k c + qHi js ms q n m k c)) / 2
theorem snd_val (js:Nat→J) (ms:Nat→Ms) (q:Nat→Int) (n m k:Nat) (c:Cn) (hk:k≤50):zH Tryz.prog 100 [.a [.lf n (fJ js),.lf m (fM ms)],.a (cp c),.lf k (fQ q)] (.v (.n .i64 (mvQ js ms q n m k c))):=by
 refine qG (N:=60) yJ yQ (OrL.ok (l:=[(30,o_lk [.lf k (fQ q)] (decide (k≤50)) (.v (.lf (bif smQ q k then k else 0) (fB (ptB q))))),(129,o_cr [.a [.lf n (fJ js),.lf m (fM ms)],.a (cp c),.lf (bif smQ q k then k else 0) (fB (ptB q))] (.v (.t [.a [.n .i64 (qLo js ms q n m k c),.n .i64 (qHi js ms q n m k c)],.b (qOk js ms q n m k c)])))]) ⟨qXG (fun h=>kXV q k (vJZ h)),qZX (snd_V js ms (ptB q) n m (bif smQ q k then k else 0) c),trivial⟩) ?_;refine (by kernel_rfl:_=bif (g1 [.lf k (fQ q)] && decide (k≤50)) then (bif (g1 [.a [.lf n (fJ js),.lf m (fM ms)],.a (cp c),.lf (bif smQ q k then k else 0) (fB (ptB q))]) then (bif (qOk js ms q n m k c) then some (.v (.n .i64 ((vJJ .i64 ((qLo js ms q n m k c) + (qHi js ms q n m k c))).fdiv (2 ^ 1))),[])
 else some (.v (.n .i64 ((vJJ .i64 ((qLo js ms q n m k c) + (qHi js ms q n m k c))).fdiv (2 ^ 1))),[]))
 else none)
 else none).trans ?_
 unfold mvQ;simp only [g1_t,vJQ hk,vZJ,vYV,Int.fdiv_eq_ediv_of_nonneg _ (show (0:Int)≤2 ^ 1 by decide),Bool.cond_self];rfl
theorem yXZ {q:Nat→Int} {k:Nat} (hk:k≤50):(bif smQ q k then k else 0)≤50:=by cases smQ q k <;> simp <;> omega
theorem snd_mv (js:Nat→J) (ms:Nat→Ms) (q:Nat→Int) (n m k:Nat) (c:Cn) (hk:k≤50):zH Tryz.prog 113 [.a [.lf n (fJ js),.lf m (fM ms)],.a (cp c),.lf k (fQ q)] (.v (.n .i64 (mvQ js ms q n m k c))):=by
 refine qG (N:=60) yJ yQ (OrL.ok (l:=[(13,o_lk [.lf k (fQ q)] (decide (k≤50)) (.v (.lf (bif smQ q k then k else 0) (fB (ptB q))))),(23,o_lk [.a [.lf n (fJ js),.lf m (fM ms)],.a (cp c),.lf (bif smQ q k then k else 0) (fB (ptB q))] (decide (k≤50)) (.v (.t [.a [.n .i64 (qLo js ms q n m k c),.n .i64 (qHi js ms q n m k c)],.b (qOk js ms q n m k c)]))),(108,Ta.o_rFloor)]) ⟨qXG (fun h=>zQY q k (vJZ h)),qXG (fun h=>jWZ js ms (ptB q) n m (bif smQ q k then k else 0) c (yXZ (vJZ h))),Ta.ok_rFloor,trivial⟩) ?_;refine (by kernel_rfl:_=bif (g1 [.lf k (fQ q)] && decide (k≤50)) then (bif (g1 [.a [.lf n (fJ js),.lf m (fM ms)],.a (cp c),.lf (bif smQ q k then k else 0) (fB (ptB q))] && decide (k≤50)) then (bif (qOk js ms q n m k c) then (bif (Ta.iw (vJJ .i64 ((qLo js ms q n m k c) + (qHi js ms q n m k c)))) then some (.v (.n .i64 ((vJJ .i64 ((qLo js ms q n m k c) + (qHi js ms q n m k c))) / 2)),[])
 else none)
 else bif (Ta.iw (vJJ .i64 ((qLo js ms q n m k c) + (qHi js ms q n m k c)))) then some (.v (.n .i64 ((vJJ .i64 ((qLo js ms q n m k c) + (qHi js ms q n m k c))) / 2)),[])
 else none)
 else none)
 else none).trans ?_
 unfold mvQ;simp only [g1_t,vJQ hk,vZJ,vYV,Ta.iww,Bool.cond_self]
def unFQ (f:Nat→List PV):Nat→Int:=fun i=>match f i with
 | [.n _ x]=>x
 | _=>0
noncomputable def gFQ (f:Nat→List PV):Bool:=@decide (f=fQ (unFQ f)) (vYJ _)
theorem zXQ {f:Nat→List PV} {q:Nat→Int} (h:f=fQ q):gFQ f=true∧unFQ f=q:=by
 subst h;exact ⟨@vJQ _ (vYJ _) rfl,rfl⟩
theorem yHG {f:Nat→List PV} (h:gFQ f=true):f=fQ (unFQ f):=@vJZ _ (vYJ _) h
noncomputable def o_vq (js:Nat→J) (ms:Nat→Ms) (n m:Nat) (c:Cn):List PV→Option (Bool × Ret):=fun ps=>match ps with
 | [r,c',.lf k f]=>some (gEq (.t [r,c']) (.t [.a [.lf n (fJ js),.lf m (fM ms)],.a (cp c)]) && (decide (k≤50) && gFQ f),.v (.n .i64 (mvQ js ms (unFQ f) n m k c)))
 | _=>none
theorem ok_vq (js:Nat→J) (ms:Nat→Ms) (n m:Nat) (c:Cn):zW Tryz.prog 100 (o_vq js ms n m c):=by
 intro ps r hh;unfold o_vq at hh;split at hh
 ·simp only [vQZ,vQY,vQJ] at hh;obtain ⟨⟨hg,hk,hf⟩,rfl⟩:=hh;have e:=zJQ hg;simp only [PV.t.injEq,List.cons.injEq,and_true] at e;obtain ⟨e1,e2⟩:=e;rename_i k f
  have:=snd_val js ms (unFQ f) n m k c (vJZ hk)
  rw [← yHG hf] at this;rw [e1,e2];exact this
 ·cases hh
theorem ok_mq (js:Nat→J) (ms:Nat→Ms) (n m:Nat) (c:Cn):zW Tryz.prog 113 (o_vq js ms n m c):=by
 intro ps r hh;unfold o_vq at hh;split at hh
 ·simp only [vQZ,vQY,vQJ] at hh;obtain ⟨⟨hg,hk,hf⟩,rfl⟩:=hh;have e:=zJQ hg;simp only [PV.t.injEq,List.cons.injEq,and_true] at e;obtain ⟨e1,e2⟩:=e;rename_i k f
  have:=snd_mv js ms (unFQ f) n m k c (vJZ hk)
  rw [← yHG hf] at this;rw [e1,e2];exact this
 ·cases hh
end Go.Proofs.YtmffoiemmlcmfaaGreat.Nn
namespace Go.Proofs.YtmffoiemmlcmfaaGreat.No
open Go.Rx Rt Go.Sx Go.RowKit Od Ov Pc Na Nb Nc Nd Nx Nf Ng Nj Nl Nm Nn
theorem qHY {f e sz:Nat} {ps:List PV} {rows rows':Go.Rx.Rows} (h:rows.L=rows'.L) (hs:zH Tryz.prog f ps (.ow e sz rows)):zH Tryz.prog f ps (.ow e sz rows'):=by
 refine ⟨hs.1,fun w F vals hF hal=>(hs.2 w F vals hF hal).mono fun _ w' ⟨v,F',he,hg,f1,f2,hr⟩=>⟨v,F',he,hg,f1,f2,?_⟩⟩;have e:rows.len=rows'.len:=by rw [← Rows.len_L,h,Rows.len_L]
 simp only [RRet,e,h] at hr ⊢;exact hr
theorem cl_1 (x0:Int):zH Tryz.prog 31 [.l [[.n .i64 x0]]] (.ow 2 1 (.l [[.n .i64 x0]])):=qG (N:=60) yJ yQ (OrL.ok (l:=[]) trivial) (by kernel_rfl)
theorem cl_2 (x0 x1:Int):zH Tryz.prog 31 [.l [[.n .i64 x0],[.n .i64 x1]]] (.ow 2 1 (.l [[.n .i64 x0],[.n .i64 x1]])):=qG (N:=60) yJ yQ (OrL.ok (l:=[]) trivial) (by kernel_rfl)
theorem cl_3 (x0 x1 x2:Int):zH Tryz.prog 31 [.l [[.n .i64 x0],[.n .i64 x1],[.n .i64 x2]]] (.ow 2 1 (.l [[.n .i64 x0],[.n .i64 x1],[.n .i64 x2]])):=qG (N:=60) yJ yQ (OrL.ok (l:=[]) trivial) (by kernel_rfl)
theorem cl_4 (x0 x1 x2 x3:Int):zH Tryz.prog 31 [.l [[.n .i64 x0],[.n .i64 x1],[.n .i64 x2],[.n .i64 x3]]] (.ow 2 1 (.l [[.n .i64 x0],[.n .i64 x1],[.n .i64 x2],[.n .i64 x3]])):=qG (N:=60) yJ yQ (OrL.ok (l:=[]) trivial) (by kernel_rfl)
theorem cl_5 (x0 x1 x2 x3 x4:Int):zH Tryz.prog 31 [.l [[.n .i64 x0],[.n .i64 x1],[.n .i64 x2],[.n .i64 x3],[.n .i64 x4]]] (.ow 2 1 (.l [[.n .i64 x0],[.n .i64 x1],[.n .i64 x2],[.n .i64 x3],[.n .i64 x4]])):=qG (N:=60) yJ yQ (OrL.ok (l:=[]) trivial) (by kernel_rfl)
theorem cl_6 (x0 x1 x2 x3 x4 x5:Int):zH Tryz.prog 31 [.l [[.n .i64 x0],[.n .i64 x1],[.n .i64 x2],[.n .i64 x3],[.n .i64 x4],[.n .i64 x5]]] (.ow 2 1 (.l [[.n .i64 x0],[.n .i64 x1],[.n .i64 x2],[.n .i64 x3],[.n .i64 x4],[.n .i64 x5]])):=qG (N:=60) yJ yQ (OrL.ok (l:=[]) trivial) (by kernel_rfl)
theorem cl_7 (x0 x1 x2 x3 x4 x5 x6:Int):zH Tryz.prog 31 [.l [[.n .i64 x0],[.n .i64 x1],[.n .i64 x2],[.n .i64 x3],[.n .i64 x4],[.n .i64 x5],[.n .i64 x6]]] (.ow 2 1 (.l [[.n .i64 x0],[.n .i64 x1],[.n .i64 x2],[.n .i64 x3],[.n .i64 x4],[.n .i64 x5],[.n .i64 x6]])):=qG (N:=60) yJ yQ (OrL.ok (l:=[]) trivial) (by kernel_rfl)
theorem cl_8 (x0 x1 x2 x3 x4 x5 x6 x7:Int):zH Tryz.prog 31 [.l [[.n .i64 x0],[.n .i64 x1],[.n .i64 x2],[.n .i64 x3],[.n .i64 x4],[.n .i64 x5],[.n .i64 x6],[.n .i64 x7]]] (.ow 2 1 (.l [[.n .i64 x0],[.n .i64 x1],[.n .i64 x2],[.n .i64 x3],[.n .i64 x4],[.n .i64 x5],[.n .i64 x6],[.n .i64 x7]])):=qG (N:=60) yJ yQ (OrL.ok (l:=[]) trivial) (by kernel_rfl)
theorem cl_9 (x0 x1 x2 x3 x4 x5 x6 x7 x8:Int):zH Tryz.prog 31 [.l [[.n .i64 x0],[.n .i64 x1],[.n .i64 x2],[.n .i64 x3],[.n .i64 x4],[.n .i64 x5],[.n .i64 x6],[.n .i64 x7],[.n .i64 x8]]] (.ow 2 1 (.l [[.n .i64 x0],[.n .i64 x1],[.n .i64 x2],[.n .i64 x3],[.n .i64 x4],[.n .i64 x5],[.n .i64 x6],[.n .i64 x7],[.n .i64 x8]])):=qG (N:=60) yJ yQ (OrL.ok (l:=[]) trivial) (by kernel_rfl)
theorem cl_10 (x0 x1 x2 x3 x4 x5 x6 x7 x8 x9:Int):zH Tryz.prog 31 [.l [[.n .i64 x0],[.n .i64 x1],[.n .i64 x2],[.n .i64 x3],[.n .i64 x4],[.n .i64 x5],[.n .i64 x6],[.n .i64 x7],[.n .i64 x8],[.n .i64 x9]]] (.ow 2 1 (.l [[.n .i64 x0],[.n .i64 x1],[.n .i64 x2],[.n .i64 x3],[.n .i64 x4],[.n .i64 x5],[.n .i64 x6],[.n .i64 x7],[.n .i64 x8],[.n .i64 x9]])):=qG (N:=60) yJ yQ (OrL.ok (l:=[]) trivial) (by kernel_rfl)
theorem zHV (q:Nat→Int) (k:Nat) (h:1≤k∧k≤10):zH Tryz.prog 31 [.lf k (fQ q)] (.ow 2 1 (.fo k (fQ q))):=by
 have:k=1 ∨ k=2 ∨ k=3 ∨ k=4 ∨ k=5 ∨ k=6 ∨ k=7 ∨ k=8 ∨ k=9 ∨ k=10:=by omega
 rcases this with rfl | rfl | rfl | rfl | rfl | rfl | rfl | rfl | rfl | rfl
 ·exact qHY rfl (qZK (fun _ _ _=>Sames.al (ys:=[_]) ⟨Same.l rfl,trivial⟩) (cl_1 (q 0)))
 ·exact qHY rfl (qZK (fun _ _ _=>Sames.al (ys:=[_]) ⟨Same.l rfl,trivial⟩) (cl_2 (q 0) (q 1)))
 ·exact qHY rfl (qZK (fun _ _ _=>Sames.al (ys:=[_]) ⟨Same.l rfl,trivial⟩) (cl_3 (q 0) (q 1) (q 2)))
 ·exact qHY rfl (qZK (fun _ _ _=>Sames.al (ys:=[_]) ⟨Same.l rfl,trivial⟩) (cl_4 (q 0) (q 1) (q 2) (q 3)))
 ·exact qHY rfl (qZK (fun _ _ _=>Sames.al (ys:=[_]) ⟨Same.l rfl,trivial⟩) (cl_5 (q 0) (q 1) (q 2) (q 3) (q 4)))
 ·exact qHY rfl (qZK (fun _ _ _=>Sames.al (ys:=[_]) ⟨Same.l rfl,trivial⟩) (cl_6 (q 0) (q 1) (q 2) (q 3) (q 4) (q 5)))
 ·exact qHY rfl (qZK (fun _ _ _=>Sames.al (ys:=[_]) ⟨Same.l rfl,trivial⟩) (cl_7 (q 0) (q 1) (q 2) (q 3) (q 4) (q 5) (q 6)))
 ·exact qHY rfl (qZK (fun _ _ _=>Sames.al (ys:=[_]) ⟨Same.l rfl,trivial⟩) (cl_8 (q 0) (q 1) (q 2) (q 3) (q 4) (q 5) (q 6) (q 7)))
 ·exact qHY rfl (qZK (fun _ _ _=>Sames.al (ys:=[_]) ⟨Same.l rfl,trivial⟩) (cl_9 (q 0) (q 1) (q 2) (q 3) (q 4) (q 5) (q 6) (q 7) (q 8)))
 ·exact qHY rfl (qZK (fun _ _ _=>Sames.al (ys:=[_]) ⟨Same.l rfl,trivial⟩) (cl_10 (q 0) (q 1) (q 2) (q 3) (q 4) (q 5) (q 6) (q 7) (q 8) (q 9)))
theorem bz {c:Bool} {x y:Int} (h:(bif c then x else y)=0) (hx:x ≠ 0):c=false∧y=0:=by
 cases c with
 | true=>exact absurd h hx
 | false=>exact ⟨rfl,h⟩
theorem cj_lim {i:Int} {j:J} (h:cjT (fun e=>e) i j=0) : -4194304≤j.lo∧j.lo≤j.hi∧j.hi≤4194304:=by
 unfold cjT at h
 iterate 10 obtain ⟨_,h⟩:=bz h (by decide)
 by_cases k0:j.kind=0
 ·rw [vJQ k0,vYV] at h;obtain ⟨a,h⟩:=bz h (by decide);obtain ⟨b,h⟩:=bz h (by decide);obtain ⟨c,h⟩:=bz h (by decide);have a:=vJY a;have b:=vJY b;have c:=vJY c;omega
 rw [vYH k0,vYG] at h;by_cases k1:j.kind=1
 ·rw [vJQ k1,vYV] at h;obtain ⟨a,h⟩:=bz h (by decide);obtain ⟨b,h⟩:=bz h (by decide);obtain ⟨c,h⟩:=bz h (by decide);have a:=vJY a;have b:=vJY b;have c:=vJY c;omega
 rw [vYH k1,vYG] at h;by_cases k2:j.kind=2
 ·rw [vJQ k2,vYV] at h;obtain ⟨a,h⟩:=bz h (by decide);obtain ⟨b,h⟩:=bz h (by decide);obtain ⟨c,h⟩:=bz h (by decide);have a:=vJY a;have b:=vJY b;have c:=vJY c;omega
 rw [vYH k2,vYG] at h;by_cases k3:j.kind=3
 ·rw [vJQ k3,vYV] at h;obtain ⟨a,h⟩:=bz h (by decide);obtain ⟨b,h⟩:=bz h (by decide);obtain ⟨c,h⟩:=bz h (by decide);have a:=vJY a;have b:=vJY b;have c:=vJY c;omega
 rw [vYH k3,vYG] at h;obtain ⟨a,h⟩:=bz h (by decide);obtain ⟨b,h⟩:=bz h (by decide);obtain ⟨c,h⟩:=bz h (by decide);have a:=vJY a;have b:=vJY b;have c:=vJY c;omega
theorem yQY {js:Nat→J} {ms:Nat→Ms} {n m:Nat} (h:rErr js ms n m=0):∀ i,i < n → -4194304≤(js i).lo∧(js i).lo≤(js i).hi∧(js i).hi≤4194304:=fun i hi =>
 cj_lim (jerr_cj (kGZ (rerr_je h) i (Nat.zero_le _) (by omega)))
def gA (js:Nat→J) (q:Nat→Int) (i:Nat):Int:=max (vJJ .i64 (q i - 64)) (js i).lo
def gB (js:Nat→J) (q:Nat→Int) (i:Nat):Int:=min (vJJ .i64 (q i + 64)) (js i).hi
def upd (q:Nat→Int) (i:Nat) (x:Int):Nat→Int:=fun v=>bif Nat.beq v i then x else q v
noncomputable def grd (js:Nat→J) (ms:Nat→Ms) (q:Nat→Int) (n m k:Nat) (c:Cn) (i:Nat):Int:=bif decide (gA js q i=gB js q i) then 0 else vJJ .i64 ((vJJ .i64 ((vJJ .i64 (mvQ js ms (upd q i (gB js q i)) n m k c - mvQ js ms (upd q i (gA js q i)) n m k c)) * 128)).tdiv (vJJ .i64 (gB js q i - gA js q i)))
theorem gFQ_lam (X:Nat→Int):gFQ (fun v=>[.n .i64 (X v)])=true:=(zXQ (q:=X) rfl).1
theorem unFQ_lam (X:Nat→Int):unFQ (fun v=>[.n .i64 (X v)])=X:=rfl
theorem bif2 (b:Bool) (x y z:Int):(bif b then x else bif b then y else z)=bif b then x else z:=by cases b <;> rfl
theorem updq (q:Nat→Int) (v i:Nat):(bif Nat.beq v i then q i else q v)=q v:=by
 rw [zHX];by_cases h:v=i
 ·rw [vJQ h,h]; rfl
 ·rw [vYH h]; rfl
theorem gab {js:Nat→J} {ms:Nat→Ms} {q:Nat→Int} {n m k i:Nat} (h:qIn js ms q n m k=true) (hi:i < n) (e:¬ gA js q i=gB js q i):¬ vJJ .i64 (gB js q i - gA js q i)=0:=by
 obtain ⟨h0,_,hq⟩:=qJK h;have h1:=yQY h0 i hi;have h2:=hq i hi;unfold gA gB at e ⊢;rw [zK (x:=q i - 64) (by omega),zK (x:=q i + 64) (by omega)] at e ⊢;rw [zK (by omega)];omega
noncomputable def orGr (js:Nat→J) (ms:Nat→Ms) (q:Nat→Int) (n m k:Nat) (c:Cn):OrL:=[(28,o_cr [.a [.lf n (fJ js),.lf m (fM ms)],.lf k (fQ q)] (.v (.b (qIn js ms q n m k)))),(27,o_cr [.a [.lf n (fJ js),.lf m (fM ms)],.l [cp c]] (.v (.b (cErr js ms n m (fun _=>c) 1)))),(100,o_vq js ms n m c),(31,o_lk [.lf k (fQ q)] (decide (1≤k∧k≤10)) (.ow 2 1 (.fo k (fQ q))))]
noncomputable def hGr (js:Nat→J) (ms:Nat→Ms) (q:Nat→Int) (n m k:Nat) (c:Cn) (i:Int) (g:Nat→Int) (t:Nat→Int):St:=⟨[(2,.v (.lf k (fQ q))),(3,.p 3 0),(4,.p 4 0),(8,.o 29),(9,.o 31),(33,.v (.lf n (fJ js))),(34,.v (.n .i64 (n:Int))),(35,.v (.n .i64 i))],[(3,.blk [.v (.lf n (fJ js)),.v (.lf m (fM ms))]),(4,.blk [.v (.n .i64 c.kind),.v (.n .i64 c.link),.v (.n .i64 c.p.x),.v (.n .i64 c.p.y),.v (.n .i64 c.p.z),.v (.n .i64 c.n.x),.v (.n .i64 c.n.y),.v (.n .i64 c.n.z),.v (.n .i64 c.lo),.v (.n .i64 c.hi)]),(29,.reg 2 1 (.fo (k:Int).toNat (fQ g))),(31,.reg 2 1 (.fo k (fun v=>[.n .i64 (t v)])))]⟩
set_option maxRecDepth 100000 in
theorem rdGr (G:St→Option (Ret × Mem)) (K:Cont) (js:Nat→J) (ms:Nat→Ms) (q:Nat→Int) (n m k:Nat) (c:Cn) (i:Int) (g:Nat→Int) (t:Nat→Int):qZW 60 (cxF Tf (OrL.k (orGr js ms q n m k c)) 60 97 (ntmF Tf 97)) (ckF Tf (OrL.k (orGr js ms q n m k c)) 60) (zZ []) (qY Tf 97 [0,1,0,1,1,1,1]) [0,1,0,1,1,1,1] (Tf.hint 97 (zY (qY Tf 97 [0,1,0,1,1,1,1]))) K G (hGr js ms q n m k c i g t) =
 (bif (decide (i < (n:Int))) then (bif (inB i n) then (bif (inB i k) then (bif (inB i k) then (bif (decide ((max (vJJ .i64 ((q (i).toNat) - 64)) (js (i).toNat).lo)=(min (vJJ .i64 ((q (i).toNat) + 64)) (js (i).toNat).hi))) then (G (hGr js ms q n m k c (vJJ .i64 (i + 1)) (fun v=>(g v)) (fun v=>(t v))))
 else (bif (inB i k) then (bif (gEq (.t [.a [.lf n (fJ js),.lf m (fM ms)],.a (cp c)]) (.t [.a [.lf n (fJ js),.lf m (fM ms)],.a (cp c)]) && (decide (k≤50) && gFQ (fun v=>[.n .i64 (bif (Nat.beq v (i).toNat) then (max (vJJ .i64 ((q (i).toNat) - 64)) (js (i).toNat).lo) else (t v))]))) then (bif (inB i k) then (bif (gEq (.t [.a [.lf n (fJ js),.lf m (fM ms)],.a (cp c)]) (.t [.a [.lf n (fJ js),.lf m (fM ms)],.a (cp c)]) && (decide (k≤50) && gFQ (fun v=>[.n .i64 (bif (Nat.beq v (i).toNat) then (min (vJJ .i64 ((q (i).toNat) + 64)) (js (i).toNat).hi) else (bif (Nat.beq v (i).toNat) then (max (vJJ .i64 ((q (i).toNat) - 64)) (js (i).toNat).lo) else (t v)))]))) then (bif (inB i k) then (bif (inB i k) then (bif (decide ((vJJ .i64 ((min (vJJ .i64 ((q (i).toNat) + 64)) (js (i).toNat).hi) - (max (vJJ .i64 ((q (i).toNat) - 64)) (js (i).toNat).lo)))=0)) then none
 else (bif (inB i (k:Int).toNat) then (G (hGr js ms q n m k c (vJJ .i64 (i + 1)) (fun v=>(bif (Nat.beq v (i).toNat) then (vJJ .i64 ((vJJ .i64 ((vJJ .i64 ((mvQ js ms (unFQ (fun v=>[.n .i64 (bif (Nat.beq v (i).toNat) then (min (vJJ .i64 ((q (i).toNat) + 64)) (js (i).toNat).hi) else (bif (Nat.beq v (i).toNat) then (max (vJJ .i64 ((q (i).toNat) - 64)) (js (i).toNat).lo) else (t v)))])) n m k c) - (mvQ js ms (unFQ (fun v=>[.n .i64 (bif (Nat.beq v (i).toNat) then (max (vJJ .i64 ((q (i).toNat) - 64)) (js (i).toNat).lo) else (t v))])) n m k c))) * 128)).tdiv (vJJ .i64 ((min (vJJ .i64 ((q (i).toNat) + 64)) (js (i).toNat).hi) - (max (vJJ .i64 ((q (i).toNat) - 64)) (js (i).toNat).lo))))) else (g v))) (fun v=>(bif (Nat.beq v (i).toNat) then (q (i).toNat) else (bif (Nat.beq v (i).toNat) then (min (vJJ .i64 ((q (i).toNat) + 64)) (js (i).toNat).hi) else (bif (Nat.beq v (i).toNat) then (max (vJJ .i64 ((q (i).toNat) - 64)) (js (i).toNat).lo) else (t v)))))))
 else none))
 else none)
 else none)
 else none)
 else none)
 else none)
 else none))
 else none)
 else none)
 else none)
 else (K (.exit 0) ⟨[(8,.o 29)],[(29,.reg 2 1 (.fo (k:Int).toNat (fQ g)))]⟩)):=by kernel_rfl
theorem lpGr (K:Cont) (js:Nat→J) (ms:Nat→Ms) (q:Nat→Int) (n m k:Nat) (c:Cn) (h:qIn js ms q n m k=true):LFL 60 (cxF Tf (OrL.k (orGr js ms q n m k c)) 60 97 (ntmF Tf 97)) (ckF Tf (OrL.k (orGr js ms q n m k c)) 60) (zZ []) (qY Tf 97 [0,1,0,1,1,1,1]) [0,1,0,1,1,1,1] (Tf.hint 97 (zY (qY Tf 97 [0,1,0,1,1,1,1]))) K 60 (hGr js ms q n m k c 0 (fun v=>0) (fun v=>(q v)))=(K (.exit 0) ⟨[(8,.o 29)],[(29,.reg 2 1 (.fo (k:Int).toNat (fQ (qZG (grd js ms q n m k c) n 0 (fun v=>0)))))]⟩):=by
 obtain ⟨h0,rfl,hq⟩:=qJK h;have h10:=qXU h0;refine (qWK (L:=LFL 60 (cxF Tf (OrL.k (orGr js ms q n m n c)) 60 97 (ntmF Tf 97)) (ckF Tf (OrL.k (orGr js ms q n m n c)) 60) (zZ []) (qY Tf 97 [0,1,0,1,1,1,1]) [0,1,0,1,1,1,1] (Tf.hint 97 (zY (qY Tf 97 [0,1,0,1,1,1,1]))) K) (stp:=qZW 60 (cxF Tf (OrL.k (orGr js ms q n m n c)) 60 97 (ntmF Tf 97)) (ckF Tf (OrL.k (orGr js ms q n m n c)) 60) (zZ []) (qY Tf 97 [0,1,0,1,1,1,1]) [0,1,0,1,1,1,1] (Tf.hint 97 (zY (qY Tf 97 [0,1,0,1,1,1,1]))) K) (fun _ _=>rfl) (fun (i:Nat) (t:Nat→Int)=>hGr js ms q n m n c (i:Int) t q) (fun i t=>∀ v,i≤v→t v=0) (fun _ _=>true) (fun (i:Nat) t=>(fun v=>bif Nat.beq v i then grd js ms q n m n c i else t v)) (c:=n) (fun t=>(K (.exit 0) ⟨[(8,.o 29)],[(29,.reg 2 1 (.fo (n:Int).toNat (fQ t)))]⟩)) (fun _ _=>none) (fun G i t hi hv => ?_) (fun i t _ hv _ v h => ?_) (fun G t _ => ?_) n 0 60 (fun v=>0) (by omega) (by omega) (fun _ _=>rfl)).trans (zJW n 0 _)
 ·refine (rdGr G K js ms q n m n c i t q).trans ?_;have eA:max (vJJ .i64 (q i - 64)) (js i).lo=gA js q i:=rfl;have eB:min (vJJ .i64 (q i + 64)) (js i).hi=gB js q i:=rfl;simp only [vJQ (show (i:Int) < (n:Int) by omega),qQQ (show i < 1000000 by omega),yW (show i < n by omega),toN,vYV,qXZ,vJQ (show n≤50 by omega),vZH,gFQ_lam,unFQ_lam,bif2,updq q,eA,eB];by_cases e:gA js q i=gB js q i
  ·rw [vJQ e,vYV]
   have:(fun v=>t v)=(fun v=>bif Nat.beq v i then grd js ms q n m n c i else t v):=by
    funext v;rw [zHX];by_cases hvi:v=i
    ·rw [vJQ hvi,vYV,hv v (by omega)];unfold grd;rw [vJQ e]; rfl
    ·rw [vYH hvi]; rfl
   rw [this]
  ·rw [vYH e,vYG,vYH (gab h hi e),vYG]
   have:grd js ms q n m n c i=vJJ .i64 ((vJJ .i64 ((vJJ .i64 (mvQ js ms (upd q i (gB js q i)) n m n c - mvQ js ms (upd q i (gA js q i)) n m n c)) * 128)).tdiv (vJJ .i64 (gB js q i - gA js q i))):=by
    unfold grd;rw [vYH e]; rfl
   rw [this];rfl
 ·show (bif Nat.beq v i then _ else t v)=0;rw [zHX,vYH (show ¬ v=i by omega)];exact hv v (by omega)
 ·refine (rdGr G K js ms q n m n c n t q).trans ?_;rw [vYH (show ¬ (n:Int) < (n:Int) by omega)];rfl
noncomputable def grF (js:Nat→J) (ms:Nat→Ms) (q:Nat→Int) (n m k:Nat) (c:Cn):Nat→Int:=(qZG (grd js ms q n m k c) n 0 (fun v=>0))
noncomputable def kJH (js:Nat→J) (ms:Nat→Ms) (q:Nat→Int) (n m k:Nat) (c:Cn):List (List Nat × qKX):=[([0,1,0,1,1,1,1],sumF (fun _:Unit=>(hGr js ms q n m k c 0 (fun v=>0) (fun v=>(q v)))) (fun _=>()) (fun _ K=>(bif (qIn js ms q n m k) then (K (.exit 0) ⟨[(8,.o 29)],[(29,.reg 2 1 (.fo (k:Int).toNat (fQ (grF js ms q n m k c))))]⟩) else none)))]
set_option maxRecDepth 100000 in
theorem pxgrd0 (js:Nat→J) (ms:Nat→Ms) (q:Nat→Int) (n m k:Nat) (c:Cn):qYH Tf (OrL.k (orGr js ms q n m k c)) (zZ (kJH js ms q n m k c)) 60 97 [.a [.lf n (fJ js),.lf m (fM ms)],.a (cp c),.lf k (fQ q)] =
 (bif (g1 [.a [.lf n (fJ js),.lf m (fM ms)],.l [(cp c)]]) then (bif (cErr js ms n m (fun _=>c) 1) then (bif (g1 [.a [.lf n (fJ js),.lf m (fM ms)],.lf k (fQ q)]) then (bif (qIn js ms q n m k) then (bif (decide (0≤(k:Int))) then (bif (decide ((k:Int)≤(k:Int))) then (bif (decide ((k:Int)≤1000000)) then (bif (g1 [.lf k (fQ q)] && decide (1≤k∧k≤10)) then (bif (gSt (hGr js ms q n m k c 0 (fun v=>0) (fun v=>(q v))) (hGr js ms q n m k c 0 (fun v=>0) (fun v=>(q v)))) then (bif (qIn js ms q n m k) then some (.v (.t [.lf (k:Int).toNat (fQ (grF js ms q n m k c)),.b true]),[])
 else none)
 else none)
 else none)
 else none)
 else none)
 else none)
 else some (.v (.t [.l [],.b false]),[]))
 else none)
 else some (.v (.t [.l [],.b false]),[]))
 else none):=by kernel_rfl
theorem snd_grd0 (js:Nat→J) (ms:Nat→Ms) (q:Nat→Int) (n m k:Nat) (c:Cn):zH Tryz.prog 97 [.a [.lf n (fJ js),.lf m (fM ms)],.a (cp c),.lf k (fQ q)] (bif ((cErr js ms n m (fun _=>c) 1) && qIn js ms q n m k) then .v (.t [.lf (k:Int).toNat (fQ (grF js ms q n m k c)),.b true]) else .v (.t [.l [],.b false])):=by
 refine kX (N:=60) (LO:=zZ (kJH js ms q n m k c)) qVU yQ (OrL.ok (l:=(orGr js ms q n m k c)) ⟨qZX (jGV js ms q n m k),qZX (snd_Mc1 js ms n m c),ok_vq js ms n m c,qXG (fun h=>zHV q k (vJZ h)),trivial⟩) (fun p S hp => ?_) ?_
 ·refine kV (L:=qY Tf 97) (l:=(kJH js ms q n m k c)) (show AllP _ (kJH js ms q n m k c) from ⟨?_,trivial⟩) p S hp
  ·dsimp only;refine qZH (T:=Tf) (ok:=(OrL.k (orGr js ms q n m k c))) (f:=97) (LO:=zZ []) (p:=[0,1,0,1,1,1,1]) qJG ?_;intro _ K r hr;obtain ⟨hg,hr⟩:=qH hr;have h:=hg;exact (lpGr K js ms q n m k c h).trans hr
 ·refine (pxgrd0 js ms q n m k c).trans ?_;simp only [g1_t,yG,vYV];cases hc:(cErr js ms n m (fun _=>c) 1) with
  | false=>rfl
  | true =>
   cases h:qIn js ms q n m k with
   | false=>rfl
   | true =>
    obtain ⟨h0,rfl,hq⟩:=qJK h;have h10:=qXU h0;simp only [vYV,vZH,vJQ (show (0:Int)≤(n:Int) by omega),vJQ (show (n:Int)≤(n:Int) by omega),vJQ (show (n:Int)≤1000000 by omega),vJQ (show 1≤n∧n≤10 by omega)]
theorem snd_grd (js:Nat→J) (ms:Nat→Ms) (q:Nat→Int) (n m k:Nat) (c:Cn):zH Tryz.prog 97 [.a [.lf n (fJ js),.lf m (fM ms)],.a (cp c),.lf k (fQ q)] (.v (.t [.lf (bif ((cErr js ms n m (fun _=>c) 1) && qIn js ms q n m k) then k else 0) (fQ (grF js ms q n m k c)),.b ((cErr js ms n m (fun _=>c) 1) && qIn js ms q n m k)])):=by
 have h0:=snd_grd0 js ms q n m k c;cases h:((cErr js ms n m (fun _=>c) 1) && qIn js ms q n m k) with
 | true =>
  rw [h,vYV,toN] at h0;exact h0
 | false =>
  rw [h,vYG] at h0;exact qQW (Same.t (xs:=[_,_]) ⟨Same.lf rfl,Same.refl _,trivial⟩) h0
noncomputable def orGh (js:Nat→J) (ms:Nat→Ms) (q:Nat→Int) (n m k:Nat) (c:Cn):OrL:=[(75,o_cr [.a [.lf n (fJ js),.lf m (fM ms)],.lf k (fQ q)] (.v (.b (qIn js ms q n m k)))),(34,o_cr [.a [.lf n (fJ js),.lf m (fM ms)],.l [cp c]] (.v (.b (cErr js ms n m (fun _=>c) 1)))),(113,o_vq js ms n m c)]
noncomputable def hGh (js:Nat→J) (ms:Nat→Ms) (q:Nat→Int) (n m k:Nat) (c:Cn) (i:Int) (r:Nat) (f:Nat→List PV):St:=⟨[(2,.v (.lf k (fQ q))),(3,.p 3 0),(4,.p 4 0),(8,.o 76),(9,.v (.n .i64 i))],[(3,.blk [.v (.lf n (fJ js)),.v (.lf m (fM ms))]),(4,.blk [.v (.n .i64 c.kind),.v (.n .i64 c.link),.v (.n .i64 c.p.x),.v (.n .i64 c.p.y),.v (.n .i64 c.p.z),.v (.n .i64 c.n.x),.v (.n .i64 c.n.y),.v (.n .i64 c.n.z),.v (.n .i64 c.lo),.v (.n .i64 c.hi)]),(76,.reg 2 1 (.fo r f))]⟩
set_option maxRecDepth 100000 in
theorem rdGh (G:St→Option (Ret × Mem)) (K:Cont) (js:Nat→J) (ms:Nat→Ms) (q:Nat→Int) (n m k:Nat) (c:Cn) (i:Int) (r:Nat) (f:Nat→List PV):qZW 60 (cxF Tf (OrL.k (orGh js ms q n m k c)) 60 110 (ntmF Tf 110)) (ckF Tf (OrL.k (orGh js ms q n m k c)) 60) (zZ []) (qY Tf 110 [0,1,0,1,1,1]) [0,1,0,1,1,1] (Tf.hint 110 (zY (qY Tf 110 [0,1,0,1,1,1]))) K G (hGh js ms q n m k c i r f) =
 (bif (decide (i < (k:Int))) then (bif (inB i k) then (bif (inB i n) then (bif (inB i k) then (bif (inB i n) then (bif (!decide ((max (vJJ .i64 ((q (i).toNat) - 64)) (js (i).toNat).lo)=(min (vJJ .i64 ((q (i).toNat) + 64)) (js (i).toNat).hi))) then (bif (decide (k≤1000000)) then (bif (inB i k) then (bif (gEq (.t [.a [.lf n (fJ js),.lf m (fM ms)],.a (cp c)]) (.t [.a [.lf n (fJ js),.lf m (fM ms)],.a (cp c)]) && (decide (k≤50) && gFQ (fun v=>[.n .i64 (bif (Nat.beq v (i).toNat) then (min (vJJ .i64 ((q (i).toNat) + 64)) (js (i).toNat).hi) else (q v))]))) then (bif (decide (k≤1000000)) then (bif (inB i k) then (bif (gEq (.t [.a [.lf n (fJ js),.lf m (fM ms)],.a (cp c)]) (.t [.a [.lf n (fJ js),.lf m (fM ms)],.a (cp c)]) && (decide (k≤50) && gFQ (fun v=>[.n .i64 (bif (Nat.beq v (i).toNat) then (max (vJJ .i64 ((q (i).toNat) - 64)) (js (i).toNat).lo) else (q v))]))) then (bif (decide ((vJJ .i64 ((min (vJJ .i64 ((q (i).toNat) + 64)) (js (i).toNat).hi) - (max (vJJ .i64 ((q (i).toNat) - 64)) (js (i).toNat).lo)))=0)) then none
 else (bif (decide (r + 1≤1000000)) then (G (hGh js ms q n m k c (vJJ .i64 (i + 1)) (r + 1) (fun v=>qJQ (Nat.beq v r) [.n .i64 (vJJ .i64 ((vJJ .i64 ((vJJ .i64 ((mvQ js ms (unFQ (fun v=>[.n .i64 (bif (Nat.beq v (i).toNat) then (min (vJJ .i64 ((q (i).toNat) + 64)) (js (i).toNat).hi) else (q v))])) n m k c) - (mvQ js ms (unFQ (fun v=>[.n .i64 (bif (Nat.beq v (i).toNat) then (max (vJJ .i64 ((q (i).toNat) - 64)) (js (i).toNat).lo) else (q v))])) n m k c))) * 128)).tdiv (vJJ .i64 ((min (vJJ .i64 ((q (i).toNat) + 64)) (js (i).toNat).hi) - (max (vJJ .i64 ((q (i).toNat) - 64)) (js (i).toNat).lo)))))] (f v))))
 else none))
 else none)
 else none)
 else none)
 else none)
 else none)
 else none)
 else (bif (decide (r + 1≤1000000)) then (G (hGh js ms q n m k c (vJJ .i64 (i + 1)) (r + 1) (fun v=>qJQ (Nat.beq v r) [.n .i64 0] (f v))))
 else none))
 else none)
 else none)
 else none)
 else none)
 else (K (.exit 0) ⟨[(8,.o 76)],[(76,.reg 2 1 (.fo r f))]⟩)):=by kernel_rfl
theorem lpGh (K:Cont) (js:Nat→J) (ms:Nat→Ms) (q:Nat→Int) (n m k:Nat) (c:Cn) (h:qIn js ms q n m k=true):LFL 60 (cxF Tf (OrL.k (orGh js ms q n m k c)) 60 110 (ntmF Tf 110)) (ckF Tf (OrL.k (orGh js ms q n m k c)) 60) (zZ []) (qY Tf 110 [0,1,0,1,1,1]) [0,1,0,1,1,1] (Tf.hint 110 (zY (qY Tf 110 [0,1,0,1,1,1]))) K 60 (hGh js ms q n m k c 0 0 (fun v=>[.n .i64 0]))=(K (.exit 0) ⟨[(8,.o 76)],[(76,.reg 2 1 (.fo k (zXJ (fun i:Nat=>[.n .i64 (grd js ms q n m k c i)]) k 0 (fun v=>[.n .i64 0]))))]⟩):=by
 obtain ⟨h0,hn,hq⟩:=qJK h;have h10:=qXU h0;refine (qWK (L:=LFL 60 (cxF Tf (OrL.k (orGh js ms q n m k c)) 60 110 (ntmF Tf 110)) (ckF Tf (OrL.k (orGh js ms q n m k c)) 60) (zZ []) (qY Tf 110 [0,1,0,1,1,1]) [0,1,0,1,1,1] (Tf.hint 110 (zY (qY Tf 110 [0,1,0,1,1,1]))) K) (stp:=qZW 60 (cxF Tf (OrL.k (orGh js ms q n m k c)) 60 110 (ntmF Tf 110)) (ckF Tf (OrL.k (orGh js ms q n m k c)) 60) (zZ []) (qY Tf 110 [0,1,0,1,1,1]) [0,1,0,1,1,1] (Tf.hint 110 (zY (qY Tf 110 [0,1,0,1,1,1]))) K) (fun _ _=>rfl) (fun (i:Nat) (f:Nat→List PV)=>hGh js ms q n m k c (i:Int) i f) (fun _ _=>True) (fun _ _=>true) (fun (i:Nat) f v=>qJQ (Nat.beq v i) ([.n .i64 (grd js ms q n m k c i)]) (f v)) (c:=k) (fun f=>(K (.exit 0) ⟨[(8,.o 76)],[(76,.reg 2 1 (.fo k f))]⟩)) (fun _ _=>none) (fun G i f hi _ => ?_) (fun _ _ _ _ _=>trivial) (fun G f _ => ?_) k 0 60 (fun v=>[.n .i64 0]) (by omega) (by omega) trivial).trans (zHH k 0 (fun v=>[.n .i64 0]))
 ·have eA:max (vJJ .i64 (q i - 64)) (js i).lo=gA js q i:=rfl;have eB:min (vJJ .i64 (q i + 64)) (js i).hi=gB js q i:=rfl;refine (rdGh G K js ms q n m k c (i:Int) i f).trans ?_;simp only [vJQ (show (i:Int) < (k:Int) by omega),qQQ (show i < 1000000 by omega),yW (show i < k by omega),yW (show i < n by omega),toN,vYV,qXZ,vJQ (show k≤50 by omega),vJQ (show k≤1000000 by omega),vJQ (show i + 1≤1000000 by omega),vZH,gFQ_lam,unFQ_lam,bif2,eA,eB];by_cases e:gA js q i=gB js q i
  ·rw [vJQ e,Bool.not_true,vYG]
   have:grd js ms q n m k c i=0:=by
    unfold grd;rw [vJQ e]; rfl
   rw [this]
  ·rw [vYH e,Bool.not_false,vYV,vYH (gab h (show i < n by omega) e),vYG]
   have:grd js ms q n m k c i=vJJ .i64 ((vJJ .i64 ((vJJ .i64 (mvQ js ms (upd q i (gB js q i)) n m k c - mvQ js ms (upd q i (gA js q i)) n m k c)) * 128)).tdiv (vJJ .i64 (gB js q i - gA js q i))):=by
    unfold grd;rw [vYH e]; rfl
   rw [this];rfl
 ·refine (rdGh G K js ms q n m k c (k:Int) k f).trans ?_;rw [vYH (show ¬ (k:Int) < (k:Int) by omega)];rfl
noncomputable def jKK (js:Nat→J) (ms:Nat→Ms) (q:Nat→Int) (n m k:Nat) (c:Cn):List (List Nat × qKX):=[([0,1,0,1,1,1],sumF (fun _:Unit=>(hGh js ms q n m k c 0 0 (fun v=>[.n .i64 0]))) (fun _=>()) (fun _ K=>(bif (qIn js ms q n m k) then (K (.exit 0) ⟨[(8,.o 76)],[(76,.reg 2 1 (.fo k (zXJ (fun i:Nat=>[.n .i64 (grd js ms q n m k c i)]) k 0 (fun v=>[.n .i64 0]))))]⟩) else none)))]
set_option maxRecDepth 100000 in
theorem pxrgrd0 (js:Nat→J) (ms:Nat→Ms) (q:Nat→Int) (n m k:Nat) (c:Cn):qYH Tf (OrL.k (orGh js ms q n m k c)) (zZ (jKK js ms q n m k c)) 60 110 [.a [.lf n (fJ js),.lf m (fM ms)],.a (cp c),.lf k (fQ q)] =
 (bif (g1 [.a [.lf n (fJ js),.lf m (fM ms)],.l [(cp c)]]) then (bif (cErr js ms n m (fun _=>c) 1) then (bif (g1 [.a [.lf n (fJ js),.lf m (fM ms)],.lf k (fQ q)]) then (bif (qIn js ms q n m k) then (bif (g1 [.a [.lf n (fJ js),.lf m (fM ms)],.lf k (fQ q)]) then (bif (qIn js ms q n m k) then (bif (gSt (hGh js ms q n m k c 0 0 (fun v=>[.n .i64 0])) (hGh js ms q n m k c 0 0 (fun v=>[.n .i64 0]))) then (bif (qIn js ms q n m k) then some (.v (.t [.lf k (zXJ (fun i:Nat=>[.n .i64 (grd js ms q n m k c i)]) k 0 (fun v=>[.n .i64 0])),.b true]),[])
 else none)
 else none)
 else some (.v (.t [.l [],.b false]),[]))
 else none)
 else some (.v (.t [.l [],.b false]),[]))
 else none)
 else some (.v (.t [.l [],.b false]),[]))
 else none):=by kernel_rfl
theorem snd_rgrd0 (js:Nat→J) (ms:Nat→Ms) (q:Nat→Int) (n m k:Nat) (c:Cn):zH Tryz.prog 110 [.a [.lf n (fJ js),.lf m (fM ms)],.a (cp c),.lf k (fQ q)] (bif ((cErr js ms n m (fun _=>c) 1) && qIn js ms q n m k) then .v (.t [.lf k (zXJ (fun i:Nat=>[.n .i64 (grd js ms q n m k c i)]) k 0 (fun v=>[.n .i64 0])),.b true]) else .v (.t [.l [],.b false])):=by
 refine kX (N:=60) (LO:=zZ (jKK js ms q n m k c)) qVU yQ (OrL.ok (l:=(orGh js ms q n m k c)) ⟨qZX (jYW js ms q n m k),qZX (snd_Rc1 js ms n m c),ok_mq js ms n m c,trivial⟩) (fun p S hp => ?_) ?_
 ·refine kV (L:=qY Tf 110) (l:=(jKK js ms q n m k c)) (show AllP _ (jKK js ms q n m k c) from ⟨?_,trivial⟩) p S hp
  ·dsimp only;refine qZH (T:=Tf) (ok:=(OrL.k (orGh js ms q n m k c))) (f:=110) (LO:=zZ []) (p:=[0,1,0,1,1,1]) qJG ?_;intro _ K r hr;obtain ⟨hg,hr⟩:=qH hr;have h:=hg;exact (lpGh K js ms q n m k c h).trans hr
 ·refine (pxrgrd0 js ms q n m k c).trans ?_;simp only [g1_t,yG,vYV];cases hc:(cErr js ms n m (fun _=>c) 1) with
  | false=>rfl
  | true =>
   cases h:qIn js ms q n m k with
   | false=>rfl
   | true=>rfl
theorem snd_rgrd (js:Nat→J) (ms:Nat→Ms) (q:Nat→Int) (n m k:Nat) (c:Cn):zH Tryz.prog 110 [.a [.lf n (fJ js),.lf m (fM ms)],.a (cp c),.lf k (fQ q)] (.v (.t [.lf (bif ((cErr js ms n m (fun _=>c) 1) && qIn js ms q n m k) then k else 0) (fQ (grF js ms q n m k c)),.b ((cErr js ms n m (fun _=>c) 1) && qIn js ms q n m k)])):=by
 have h0:=snd_rgrd0 js ms q n m k c;cases h:((cErr js ms n m (fun _=>c) 1) && qIn js ms q n m k) with
 | true =>
  rw [h,vYV] at h0;rw [vQJ] at h;obtain ⟨_,hn,_⟩:=qJK h.2;refine qQW (Same.t (xs:=[_,_]) ⟨zQJ fun j (hj:j < k) => ?_,Same.refl _,trivial⟩) h0;rw [yZY,if_pos (by omega)];show [PV.n .i64 _]=[PV.n .i64 (qZG _ n 0 _ j)];rw [zZH (by omega)]
 | false =>
  rw [h,vYG] at h0;exact qQW (Same.t (xs:=[_,_]) ⟨Same.lf rfl,Same.refl _,trivial⟩) h0
end Go.Proofs.YtmffoiemmlcmfaaGreat.No
namespace Go.Proofs.YtmffoiemmlcmfaaGreat.Nq
open Go.Rx Rt Go.Sx Go.RowKit Od Ov Pc Na Nb Nc Nd Nx Nf Ng Nj Nl Nm Nn No
def p2 (s:Int):Int:=vJJ .i64 (1 * 2 ^ (min s.toNat 64))
def rdE (g:Nat→Int) (s:Int) (i:Nat):Int:=vJJ .i64 ((g i).tdiv (p2 s))
def fit (x:Int):Bool:=decide (-32768≤x) && decide (x≤32768)
def fitA (g:Nat→Int) (k:Nat) (s:Int):Bool:=allN (fun i=>fit (rdE g s i)) k 0
theorem p2_pow (m:Nat) (h:m≤62):p2 (m:Int)=2 ^ m:=by
 unfold p2;rw [toN,Nat.min_eq_left (by omega),Int.one_mul];have h1:(2:Int) ^ m≤2 ^ 62:=by
  have:=Nat.pow_le_pow_right (show 1≤2 by decide) h
  exact_mod_cast this
 have h2:(0:Int)≤2 ^ m:=Int.pow_nonneg (by decide);exact zK (by omega)
theorem jZG {s:Int} (h:0≤s∧s≤62):0 < p2 s:=by
 obtain ⟨m,rfl⟩:=Int.eq_ofNat_of_zero_le h.1;rw [p2_pow m (by omega)];exact Int.pow_pos (by decide)
def slI (σ:St) (k:Nat):Int:=match qYV σ.S k with
 | some (.v (.n _ x))=>x
 | _=>0
def rwI (σ:St) (k:Nat):Nat→Int:=match yK σ.M k with
 | some (.reg _ _ (.fo _ f))=>fun v=>match f v with
  | [.n _ x]=>x
  | _=>0
 | _=>fun _=>0
theorem runS_red {β:Type} {e:Nat→Int} {KX:Bool × (Nat→Int)→β} {KR:Nat→Bool × (Nat→Int)→β}:∀ k p t,runS (fun _ _=>true) (fun (i:Nat) (t:Bool × (Nat→Int))=>(t.1 && fit (e i),(fun v=>bif Nat.beq v i then e i else t.2 v))) KX KR k p t=KX (t.1 && allN (fun i=>fit (e i)) k p,qZG e k p t.2)
 | 0,_,t=>by simp only [runS,allN,qZG,Bool.and_true]
 | k + 1,p,t=>by
  simp only [runS,vYV];rw [runS_red k (p + 1)];simp only [allN,qZG,Bool.and_assoc]
noncomputable def orRi (g:Nat→Int) (k:Nat):OrL:=([]:OrL)
noncomputable def hRi (g:Nat→Int) (k:Nat) (i:Int) (s:Int) (b:Bool) (h:Nat→Int):St:=⟨[(0,.v (.lf k (fQ g))),(4,.o 11),(5,.v (.n .i64 s)),(6,.v (.b (b))),(14,.v (.lf k (fQ g))),(15,.v (.n .i64 (k:Int))),(16,.v (.n .i64 i))],[(11,.reg 2 1 (.fo (k:Int).toNat (fun v=>[.n .i64 (h v)])))]⟩
set_option maxRecDepth 100000 in
theorem rdRi (G:St→Option (Ret × Mem)) (K:Cont) (g:Nat→Int) (k:Nat) (i:Int) (s:Int) (b:Bool) (h:Nat→Int):qZW 60 (cxF Tf (OrL.k (orRi g k)) 60 98 (ntmF Tf 98)) (ckF Tf (OrL.k (orRi g k)) 60) (zZ []) (qY Tf 98 [0,1,0,1,0,0,0,0,1,1,1]) [0,1,0,1,0,0,0,0,1,1,1] (Tf.hint 98 (zY (qY Tf 98 [0,1,0,1,0,0,0,0,1,1,1]))) K G (hRi g k i s b h) =
 (bif (decide (i < (k:Int))) then (bif (inB i k) then (bif (decide (0≤s)) then (bif (decide ((vJJ .i64 (1 * 2 ^ (min (s).toNat 64)))=0)) then none
 else (bif (inB i (k:Int).toNat) then (bif b then (bif (inB i (k:Int).toNat) then (bif (decide ((-32768)≤(bif (Nat.beq (i).toNat (i).toNat) then (vJJ .i64 ((g (i).toNat).tdiv (vJJ .i64 (1 * 2 ^ (min (s).toNat 64))))) else (h (i).toNat)))) then (bif (inB i (k:Int).toNat) then (bif (decide ((bif (Nat.beq (i).toNat (i).toNat) then (vJJ .i64 ((g (i).toNat).tdiv (vJJ .i64 (1 * 2 ^ (min (s).toNat 64))))) else (h (i).toNat))≤32768)) then (G (hRi g k (vJJ .i64 (i + 1)) s true (fun v=>(bif (Nat.beq v (i).toNat) then (vJJ .i64 ((g (i).toNat).tdiv (vJJ .i64 (1 * 2 ^ (min (s).toNat 64))))) else (h v)))))
 else (G (hRi g k (vJJ .i64 (i + 1)) s false (fun v=>(bif (Nat.beq v (i).toNat) then (vJJ .i64 ((g (i).toNat).tdiv (vJJ .i64 (1 * 2 ^ (min (s).toNat 64))))) else (h v))))))
 else none)
 else (G (hRi g k (vJJ .i64 (i + 1)) s false (fun v=>(bif (Nat.beq v (i).toNat) then (vJJ .i64 ((g (i).toNat).tdiv (vJJ .i64 (1 * 2 ^ (min (s).toNat 64))))) else (h v))))))
 else none)
 else (G (hRi g k (vJJ .i64 (i + 1)) s false (fun v=>(bif (Nat.beq v (i).toNat) then (vJJ .i64 ((g (i).toNat).tdiv (vJJ .i64 (1 * 2 ^ (min (s).toNat 64))))) else (h v))))))
 else none))
 else none)
 else none)
 else (K (.exit 2) ⟨[(0,.v (.lf k (fQ g))),(4,.o 11),(5,.v (.n .i64 s)),(6,.v (.b (b)))],[(11,.reg 2 1 (.fo (k:Int).toNat (fun v=>[.n .i64 (h v)])))]⟩)):=by kernel_rfl
theorem lpRi (K:Cont) (g:Nat→Int) (k:Nat) (s:Int) (h0:Nat→Int) (hs:0≤s∧s≤62) (hk:k≤50):LFL 60 (cxF Tf (OrL.k (orRi g k)) 60 98 (ntmF Tf 98)) (ckF Tf (OrL.k (orRi g k)) 60) (zZ []) (qY Tf 98 [0,1,0,1,0,0,0,0,1,1,1]) [0,1,0,1,0,0,0,0,1,1,1] (Tf.hint 98 (zY (qY Tf 98 [0,1,0,1,0,0,0,0,1,1,1]))) K 60 (hRi g k 0 s true h0)=(K (.exit 2) ⟨[(0,.v (.lf k (fQ g))),(4,.o 11),(5,.v (.n .i64 s)),(6,.v (.b (fitA g k s)))],[(11,.reg 2 1 (.fo (k:Int).toNat (fun v=>[.n .i64 ((qZG (rdE g s) k 0 h0) v)])))]⟩):=by
 refine (qWK (L:=LFL 60 (cxF Tf (OrL.k (orRi g k)) 60 98 (ntmF Tf 98)) (ckF Tf (OrL.k (orRi g k)) 60) (zZ []) (qY Tf 98 [0,1,0,1,0,0,0,0,1,1,1]) [0,1,0,1,0,0,0,0,1,1,1] (Tf.hint 98 (zY (qY Tf 98 [0,1,0,1,0,0,0,0,1,1,1]))) K) (stp:=qZW 60 (cxF Tf (OrL.k (orRi g k)) 60 98 (ntmF Tf 98)) (ckF Tf (OrL.k (orRi g k)) 60) (zZ []) (qY Tf 98 [0,1,0,1,0,0,0,0,1,1,1]) [0,1,0,1,0,0,0,0,1,1,1] (Tf.hint 98 (zY (qY Tf 98 [0,1,0,1,0,0,0,0,1,1,1]))) K) (fun _ _=>rfl) (fun (i:Nat) (t:Bool × (Nat→Int))=>hRi g k (i:Int) s t.1 t.2) (fun _ _=>True) (fun _ _=>true) (fun (i:Nat) t=>(t.1 && fit (rdE g s i),(fun v=>bif Nat.beq v i then rdE g s i else t.2 v))) (c:=k) (fun t=>(K (.exit 2) ⟨[(0,.v (.lf k (fQ g))),(4,.o 11),(5,.v (.n .i64 s)),(6,.v (.b (t.1)))],[(11,.reg 2 1 (.fo (k:Int).toNat (fun v=>[.n .i64 (t.2 v)])))]⟩)) (fun _ _=>none) (fun G i t hi _ => ?_) (fun _ _ _ _ _=>trivial) (fun G t _ => ?_) k 0 60 (true,h0) (by omega) (by omega) trivial).trans ((runS_red k 0 _).trans (by rw [vZH]; rfl))
 ·refine (rdRi G K g k i s t.1 t.2).trans ?_;have e:vJJ .i64 (1 * 2 ^ (min s.toNat 64))=p2 s:=rfl;have e2:vJJ .i64 ((g i).tdiv (p2 s))=rdE g s i:=rfl;have hp:=jZG hs;have bb:Nat.beq i i=true:=by rw [zHX,vJQ rfl]
  simp only [vJQ (show (i:Int) < (k:Int) by omega),qQQ (show i < 1000000 by omega),yW (show i < k by omega),toN,vYV,vJQ hs.1,e,e2,vYH (show ¬ p2 s=0 by omega),vYG,bb];unfold fit;cases t.1 <;> cases decide (-32768≤rdE g s i) <;> cases decide (rdE g s i≤32768) <;> rfl
 ·refine (rdRi G K g k k s t.1 t.2).trans ?_;rw [vYH (show ¬ (k:Int) < (k:Int) by omega)];rfl
theorem okRi (g:Nat→Int) (k:Nat):∀ p S,zZ [([0,1,0,1,0,0,0,0,1,1,1],sumF (fun t:Int × (Nat→Int)=>(hRi g k 0 t.1 true t.2)) (fun σ=>(slI σ 5,rwI σ 11)) (fun t K=>(bif (decide (0≤t.1∧t.1≤62) && decide (k≤50)) then (K (.exit 2) ⟨[(0,.v (.lf k (fQ g))),(4,.o 11),(5,.v (.n .i64 t.1)),(6,.v (.b (fitA g k t.1)))],[(11,.reg 2 1 (.fo (k:Int).toNat (fun v=>[.n .i64 ((qZG (rdE g t.1) k 0 t.2) v)])))]⟩) else none)))] p=some S→qGY 60 (cxF Tf (OrL.k (orRi g k)) 60 98 (ntmF Tf 98)) (qY Tf 98 p) S:=fun p S hp=>by
 refine kV (L:=qY Tf 98) (l:=[([0,1,0,1,0,0,0,0,1,1,1],sumF (fun t:Int × (Nat→Int)=>(hRi g k 0 t.1 true t.2)) (fun σ=>(slI σ 5,rwI σ 11)) (fun t K=>(bif (decide (0≤t.1∧t.1≤62) && decide (k≤50)) then (K (.exit 2) ⟨[(0,.v (.lf k (fQ g))),(4,.o 11),(5,.v (.n .i64 t.1)),(6,.v (.b (fitA g k t.1)))],[(11,.reg 2 1 (.fo (k:Int).toNat (fun v=>[.n .i64 ((qZG (rdE g t.1) k 0 t.2) v)])))]⟩) else none)))]) ⟨?_,trivial⟩ p S hp;dsimp only;refine qZH (T:=Tf) (ok:=(OrL.k (orRi g k))) (f:=98) (LO:=zZ []) (p:=[0,1,0,1,0,0,0,0,1,1,1]) qJG ?_;intro t K r hr;obtain ⟨hg,hr⟩:=qH hr;rw [vQJ] at hg;exact (lpRi K g k t.1 t.2 (vJZ hg.1) (vJZ hg.2)).trans hr
noncomputable def hRo (g:Nat→Int) (k:Nat) (s:Int) (h:Nat→Int):St:=⟨[(0,.v (.lf k (fQ g))),(4,.o 11),(5,.v (.n .i64 s))],[(11,.reg 2 1 (.fo (k:Int).toNat (fun v=>[.n .i64 (h v)])))]⟩
set_option maxRecDepth 100000 in
theorem rdRo (G:St→Option (Ret × Mem)) (K:Cont) (g:Nat→Int) (k:Nat) (s:Int) (h:Nat→Int):qZW 60 (cxF Tf (OrL.k (orRi g k)) 60 98 (ntmF Tf 98)) (ckF Tf (OrL.k (orRi g k)) 60) (zZ [([0,1,0,1,0,0,0,0,1,1,1],sumF (fun t:Int × (Nat→Int)=>(hRi g k 0 t.1 true t.2)) (fun σ=>(slI σ 5,rwI σ 11)) (fun t K=>(bif (decide (0≤t.1∧t.1≤62) && decide (k≤50)) then (K (.exit 2) ⟨[(0,.v (.lf k (fQ g))),(4,.o 11),(5,.v (.n .i64 t.1)),(6,.v (.b (fitA g k t.1)))],[(11,.reg 2 1 (.fo (k:Int).toNat (fun v=>[.n .i64 ((qZG (rdE g t.1) k 0 t.2) v)])))]⟩) else none)))]) (qY Tf 98 [0,1,1,1]) [0,1,1,1] (Tf.hint 98 (zY (qY Tf 98 [0,1,1,1]))) K G (hRo g k s h) =
 (bif (gSt (hRi g k 0 s true (fun v=>(h v))) (hRi g k 0 s true (fun v=>(h v)))) then (bif (decide (0≤s∧s≤62) && decide (k≤50)) then (bif (fitA g k s) then (K .ret ⟨[(2,.o 11),(3,.v (.n .i64 s))],[(11,.reg 2 1 (.fo (k:Int).toNat (fun v=>[.n .i64 (qZG (rdE g s) k 0 (fun v=>(h v)) v)])))]⟩)
 else (G (hRo g k (vJJ .i64 (s + 1)) (fun v=>(qZG (rdE g s) k 0 (fun v=>(h v)) v)))))
 else none)
 else none):=by kernel_rfl
def kRed (g:Nat→Int) (k:Nat):Nat→Nat→Nat
 | 0,s=>s
 | m + 1,s=>bif fitA g k (s:Int) then s else kRed g k m (s + 1)
theorem kRed_spec (g:Nat→Int) (k:Nat):∀ m s,fitA g k ((s + m:Nat):Int)=true→s≤kRed g k m s∧kRed g k m s≤s + m∧fitA g k (kRed g k m s:Int)=true∧∀ j:Nat,s≤j→j < kRed g k m s→fitA g k (j:Int)=false
 | 0,s,h=>⟨Nat.le_refl _,Nat.le_refl _,h,fun j h1 h2=>absurd h2 (by show ¬ j < s; omega)⟩
 | m + 1,s,h=>by
  cases hf:fitA g k (s:Int) with
  | true =>
   have e:kRed g k (m + 1) s=s:=by rw [kRed,hf]; rfl
   rw [e];exact ⟨Nat.le_refl _,by omega,hf,fun j h1 h2=>absurd h2 (by omega)⟩
  | false =>
   have e:kRed g k (m + 1) s=kRed g k m (s + 1):=by rw [kRed,hf]; rfl
   rw [e];obtain ⟨a,b,c,d⟩:=kRed_spec g k m (s + 1) (by rw [show s + 1 + m=s + (m + 1) by omega]; exact h);refine ⟨by omega,by omega,c,fun j h1 h2 => ?_⟩;by_cases hj:j=s
   ·rw [hj]; exact hf
   ·exact d j (by omega) h2
def kR (g:Nat→Int) (k:Nat):Nat:=kRed g k 48 0
def jUQ (g:Nat→Int) (k:Nat):Nat→Nat→Int
 | 0=>fun _=>0
 | s + 1=>qZG (rdE g (s:Int)) k 0 (jUQ g k s)
theorem fit48 {g:Nat→Int} {k:Nat} (hg:∀ i,i < k→In64 (g i)):fitA g k ((0 + 48:Nat):Int)=true:=allN_iff.2 fun i _ hi=>by
 have h:=hg i (by omega);unfold In64 at h;have e:p2 ((0 + 48:Nat):Int)=281474976710656:=by rw [p2_pow _ (by omega)]; rfl
 unfold fit rdE;rw [e];have h1 : -32768≤(g i).tdiv 281474976710656∧(g i).tdiv 281474976710656≤32768:=by
  rcases Int.le_total 0 (g i) with hp | hp
  ·rw [Int.tdiv_eq_ediv_of_nonneg hp]; omega
  ·have:(g i).tdiv 281474976710656 = -((-(g i)) / 281474976710656):=by
    rw [← Int.tdiv_eq_ediv_of_nonneg (show 0 ≤ -(g i) by omega),Int.neg_tdiv]; omega
   rw [this]; omega
 rw [zK (by omega),vJQ h1.1,vJQ h1.2]; rfl
theorem yKV {g:Nat→Int} {k:Nat} (hg:∀ i,i < k→In64 (g i)):kR g k≤48∧fitA g k (kR g k:Int)=true∧∀ j:Nat,j < kR g k→fitA g k (j:Int)=false:=by
 obtain ⟨_,b,c,d⟩:=kRed_spec g k 48 0 (fit48 hg);exact ⟨by unfold kR; omega,c,fun j hj=>d j (Nat.zero_le _) hj⟩
theorem lpRo (K:Cont) (g:Nat→Int) (k:Nat) (hg:∀ i,i < k→In64 (g i)) (hk:k≤50):LFL 60 (cxF Tf (OrL.k (orRi g k)) 60 98 (ntmF Tf 98)) (ckF Tf (OrL.k (orRi g k)) 60) (zZ [([0,1,0,1,0,0,0,0,1,1,1],sumF (fun t:Int × (Nat→Int)=>(hRi g k 0 t.1 true t.2)) (fun σ=>(slI σ 5,rwI σ 11)) (fun t K=>(bif (decide (0≤t.1∧t.1≤62) && decide (k≤50)) then (K (.exit 2) ⟨[(0,.v (.lf k (fQ g))),(4,.o 11),(5,.v (.n .i64 t.1)),(6,.v (.b (fitA g k t.1)))],[(11,.reg 2 1 (.fo (k:Int).toNat (fun v=>[.n .i64 ((qZG (rdE g t.1) k 0 t.2) v)])))]⟩) else none)))]) (qY Tf 98 [0,1,1,1]) [0,1,1,1] (Tf.hint 98 (zY (qY Tf 98 [0,1,1,1]))) K 60 (hRo g k 0 (fun v=>0))=(K .ret ⟨[(2,.o 11),(3,.v (.n .i64 (kR g k:Int)))],[(11,.reg 2 1 (.fo (k:Int).toNat (fun v=>[.n .i64 (jUQ g k (kR g k + 1) v)])))]⟩):=by
 obtain ⟨h1,h2,h3⟩:=yKV hg;refine (qWK (L:=LFL 60 (cxF Tf (OrL.k (orRi g k)) 60 98 (ntmF Tf 98)) (ckF Tf (OrL.k (orRi g k)) 60) (zZ [([0,1,0,1,0,0,0,0,1,1,1],sumF (fun t:Int × (Nat→Int)=>(hRi g k 0 t.1 true t.2)) (fun σ=>(slI σ 5,rwI σ 11)) (fun t K=>(bif (decide (0≤t.1∧t.1≤62) && decide (k≤50)) then (K (.exit 2) ⟨[(0,.v (.lf k (fQ g))),(4,.o 11),(5,.v (.n .i64 t.1)),(6,.v (.b (fitA g k t.1)))],[(11,.reg 2 1 (.fo (k:Int).toNat (fun v=>[.n .i64 ((qZG (rdE g t.1) k 0 t.2) v)])))]⟩) else none)))]) (qY Tf 98 [0,1,1,1]) [0,1,1,1] (Tf.hint 98 (zY (qY Tf 98 [0,1,1,1]))) K) (stp:=qZW 60 (cxF Tf (OrL.k (orRi g k)) 60 98 (ntmF Tf 98)) (ckF Tf (OrL.k (orRi g k)) 60) (zZ [([0,1,0,1,0,0,0,0,1,1,1],sumF (fun t:Int × (Nat→Int)=>(hRi g k 0 t.1 true t.2)) (fun σ=>(slI σ 5,rwI σ 11)) (fun t K=>(bif (decide (0≤t.1∧t.1≤62) && decide (k≤50)) then (K (.exit 2) ⟨[(0,.v (.lf k (fQ g))),(4,.o 11),(5,.v (.n .i64 t.1)),(6,.v (.b (fitA g k t.1)))],[(11,.reg 2 1 (.fo (k:Int).toNat (fun v=>[.n .i64 ((qZG (rdE g t.1) k 0 t.2) v)])))]⟩) else none)))]) (qY Tf 98 [0,1,1,1]) [0,1,1,1] (Tf.hint 98 (zY (qY Tf 98 [0,1,1,1]))) K) (fun _ _=>rfl) (fun (i:Nat) (_:Unit)=>hRo g k (i:Int) (jUQ g k i)) (fun _ _=>True) (fun i _ => !fitA g k (i:Int)) (fun _ _=>()) (c:=kR g k) (fun _=>(K .ret ⟨[(2,.o 11),(3,.v (.n .i64 (kR g k:Int)))],[(11,.reg 2 1 (.fo (k:Int).toNat (fun v=>[.n .i64 (jUQ g k (kR g k + 1) v)])))]⟩)) (fun _ _=>none) (fun G i _ hi _ => ?_) (fun _ _ _ _ _=>trivial) (fun G _ _ => ?_) (kR g k) 0 60 () (by omega) (by omega) trivial).trans (yXJ (f:=fun _=>()) (kR g k) 0 (fun _ _ _=>rfl) (fun i _ hi=>by rw [h3 i (by omega)]; rfl))
 ·refine (rdRo G K g k i (jUQ g k i)).trans ?_;rw [yG,vYV,vJQ (show 0≤(i:Int)∧(i:Int)≤62 by omega),vJQ hk,h3 i hi,qQQ (show i < 1000000 by omega)];rfl
 ·refine (rdRo G K g k (kR g k:Int) (jUQ g k (kR g k))).trans ?_;rw [yG,vYV,vJQ (show 0≤(kR g k:Int)∧(kR g k:Int)≤62 by omega),vJQ hk,h2];rfl
noncomputable def gI64 (g:Nat→Int) (k:Nat):Bool:=@decide (∀ i,i < k→In64 (g i)) (vYJ _)
theorem kZU {g:Nat→Int} {k:Nat} (h:gI64 g k=true):∀ i,i < k→In64 (g i):=@vJZ _ (vYJ _) h
theorem gI64_of {g:Nat→Int} {k:Nat} (h:∀ i,i < k→In64 (g i)):gI64 g k=true:=@vJQ _ (vYJ _) h
noncomputable def kJX (g:Nat→Int) (k:Nat):List (List Nat × qKX):=[([0,1,1,1],sumF (fun _:Unit=>(hRo g k 0 (fun v=>0))) (fun _=>()) (fun _ K=>(bif (gI64 g k && decide (k≤50)) then (K .ret ⟨[(2,.o 11),(3,.v (.n .i64 (kR g k:Int)))],[(11,.reg 2 1 (.fo (k:Int).toNat (fun v=>[.n .i64 (jUQ g k (kR g k + 1) v)])))]⟩) else none)))]
set_option maxRecDepth 100000 in
theorem pxred0 (g:Nat→Int) (k:Nat):qYH Tf (OrL.k (orRi g k)) (zZ (kJX g k)) 60 98 [.lf k (fQ g)] =
 (bif (decide (0≤(k:Int))) then (bif (decide ((k:Int)≤(k:Int))) then (bif (decide ((k:Int)≤1000000)) then (bif (gSt (hRo g k 0 (fun v=>0)) (hRo g k 0 (fun v=>0))) then (bif (gI64 g k && decide (k≤50)) then some (.v (.t [.lf (k:Int).toNat (fun v=>[.n .i64 (jUQ g k (kR g k + 1) v)]),.n .i64 (kR g k:Int)]),[])
 else none)
 else none)
 else none)
 else none)
 else none):=by kernel_rfl
theorem snd_red0 (g:Nat→Int) (k:Nat) (hg:∀ i,i < k→In64 (g i)) (hk:k≤50):zH Tryz.prog 98 [.lf k (fQ g)] (.v (.t [.lf (k:Int).toNat (fun v=>[.n .i64 (jUQ g k (kR g k + 1) v)]),.n .i64 (kR g k:Int)])):=by
 refine kX (N:=60) (LO:=zZ (kJX g k)) qVU yQ (OrL.ok (l:=(orRi g k)) trivial) (fun p S hp => ?_) ?_
 ·refine kV (L:=qY Tf 98) (l:=(kJX g k)) (show AllP _ (kJX g k) from ⟨?_,trivial⟩) p S hp
  ·dsimp only;refine qZH (T:=Tf) (ok:=(OrL.k (orRi g k))) (f:=98) (LO:=(zZ [([0,1,0,1,0,0,0,0,1,1,1],sumF (fun t:Int × (Nat→Int)=>(hRi g k 0 t.1 true t.2)) (fun σ=>(slI σ 5,rwI σ 11)) (fun t K=>(bif (decide (0≤t.1∧t.1≤62) && decide (k≤50)) then (K (.exit 2) ⟨[(0,.v (.lf k (fQ g))),(4,.o 11),(5,.v (.n .i64 t.1)),(6,.v (.b (fitA g k t.1)))],[(11,.reg 2 1 (.fo (k:Int).toNat (fun v=>[.n .i64 ((qZG (rdE g t.1) k 0 t.2) v)])))]⟩) else none)))])) (p:=[0,1,1,1]) (okRi g k) ?_;intro _ K r hr;obtain ⟨hg,hr⟩:=qH hr;rw [vQJ] at hg;exact (lpRo K g k (kZU hg.1) (vJZ hg.2)).trans hr
 ·refine (pxred0 g k).trans ?_;simp only [yG,vYV,gI64_of hg,vJQ hk,vZJ,vJQ (show (0:Int)≤(k:Int) by omega),vJQ (show (k:Int)≤(k:Int) by omega),vJQ (show (k:Int)≤1000000 by omega)]
theorem snd_red (g:Nat→Int) (k:Nat) (hg:∀ i,i < k→In64 (g i)) (hk:k≤50):zH Tryz.prog 98 [.lf k (fQ g)] (.v (.t [.lf k (fQ (rdE g (kR g k:Int))),.n .i64 (kR g k:Int)])):=by
 have h:=snd_red0 g k hg hk;rw [toN] at h;refine qQW (Same.t (xs:=[_,_]) ⟨zQJ fun j (hj:j < k) => ?_,Same.refl _,trivial⟩) h;show [PV.n .i64 (qZG _ k 0 _ j)]=[PV.n .i64 _];rw [zZH hj]
end Go.Proofs.YtmffoiemmlcmfaaGreat.Nq
namespace Go.Proofs.YtmffoiemmlcmfaaGreat.Nr
open Go.Rx Rt Go.Sx Go.RowKit Od Ov Pc Na Nb Nc Nd Nx Nf Ng Nj Nl Nm Nn No Nq
def gOk (js:Nat→J) (ms:Nat→Ms) (q:Nat→Int) (n m k:Nat) (c:Cn):Bool:=((cErr js ms n m (fun _=>c) 1) && qIn js ms q n m k)
def gN (js:Nat→J) (ms:Nat→Ms) (q:Nat→Int) (n m k:Nat) (c:Cn):Nat:=bif gOk js ms q n m k c then k else 0
noncomputable def gK (js:Nat→J) (ms:Nat→Ms) (q:Nat→Int) (n m k:Nat) (c:Cn):Nat:=kR (grF js ms q n m k c) (gN js ms q n m k c)
noncomputable def hF (js:Nat→J) (ms:Nat→Ms) (q:Nat→Int) (n m k:Nat) (c:Cn):Nat→Int:=rdE (grF js ms q n m k c) (gK js ms q n m k c:Int)
noncomputable def hQ (js:Nat→J) (ms:Nat→Ms) (q:Nat→Int) (n m k:Nat) (c:Cn):Bool:=(cErr js ms n m (fun _=>c) 1 && (pIn js ms (ptB q) n m (bif smQ q k then k else 0) && yZQ (fun _=>c) (vI js (ptB q) n (fun _=>c)) 1))
def zWY {τ:Type} (nx:Nat→τ→τ):Nat→Nat→τ→τ
 | 0,_,s=>s
 | m + 1,p,s=>zWY nx m (p + 1) (nx p s)
theorem zZX {τ β:Type} {nx:Nat→τ→τ} {KX:τ→β} {KR:Nat→τ→β}:∀ m p s,runS (fun _ _=>true) nx KX KR m p s=KX (zWY nx m p s)
 | 0,_,_=>rfl
 | m + 1,p,s=>by
  simp only [runS,vYV,zWY];exact zZX m (p + 1) _
theorem snd_hq (js:Nat→J) (ms:Nat→Ms) (q:Nat→Int) (n m k:Nat) (c:Cn):zH Tryz.prog 29 [.a [.lf n (fJ js),.lf m (fM ms)],.l [cp c],.lf (bif smQ q k then k else 0) (fB (ptB q))] (.v (.b (hQ js ms q n m k c))) :=
 qZK (fun _ _ _=>Sames.al (ys:=[_,_,_]) ⟨Same.refl _,Same.lf rfl,Same.refl _,trivial⟩) (kXG js ms (ptB q) n m (bif smQ q k then k else 0) (fun _=>c) 1)
theorem snd_rhq (js:Nat→J) (ms:Nat→Ms) (q:Nat→Int) (n m k:Nat) (c:Cn) (hk:k≤50):zH Tryz.prog 12 [.a [.lf n (fJ js),.lf m (fM ms)],.l [cp c],.lf (bif smQ q k then k else 0) (fB (ptB q))] (.v (.b (hQ js ms q n m k c))) :=
 qZK (fun _ _ _=>Sames.al (ys:=[_,_,_]) ⟨Same.refl _,Same.lf rfl,Same.refl _,trivial⟩) (snd_RHo' js ms (ptB q) n m (bif smQ q k then k else 0) (fun _=>c) 1 (yXZ hk))
noncomputable def orSa (js:Nat→J) (ms:Nat→Ms) (q:Nat→Int) (n m k:Nat) (c:Cn):OrL:=[(30,o_lk [.lf k (fQ q)] (decide (k≤50)) (.v (.lf (bif smQ q k then k else 0) (fB (ptB q))))),(29,o_cr [.a [.lf n (fJ js),.lf m (fM ms)],.l [cp c],.lf (bif smQ q k then k else 0) (fB (ptB q))] (.v (.b (hQ js ms q n m k c)))),(31,o_lk [.lf k (fQ q)] (decide (1≤k∧k≤10)) (.ow 2 1 (.fo k (fQ q)))),(97,o_cr [.a [.lf n (fJ js),.lf m (fM ms)],.a (cp c),.lf k (fQ q)] (.v (.t [.lf (gN js ms q n m k c) (fQ (grF js ms q n m k c)),.b (gOk js ms q n m k c)]))),(100,o_vq js ms n m c),(98,o_lk [.lf (gN js ms q n m k c) (fQ (grF js ms q n m k c))] (gI64 (grF js ms q n m k c) (gN js ms q n m k c) && decide ((gN js ms q n m k c)≤50)) (.v (.t [.lf (gN js ms q n m k c) (fQ (hF js ms q n m k c)),.n .i64 ((gK js ms q n m k c):Int)])))]
noncomputable def hSa (js:Nat→J) (ms:Nat→Ms) (q:Nat→Int) (n m k:Nat) (c:Cn) (i:Int) (s:Int):St:=⟨[(2,.v (.lf k (fQ q))),(3,.p 3 0),(4,.p 4 0),(10,.v (.lf (gN js ms q n m k c) (fQ (hF js ms q n m k c)))),(11,.v (.n .i64 ((gK js ms q n m k c):Int))),(12,.v (.n .i64 s)),(42,.v (.lf (gN js ms q n m k c) (fQ (hF js ms q n m k c)))),(43,.v (.n .i64 ((gN js ms q n m k c):Int))),(44,.v (.n .i64 i))],[(3,.blk [.v (.lf n (fJ js)),.v (.lf m (fM ms))]),(4,.blk [.v (.n .i64 c.kind),.v (.n .i64 c.link),.v (.n .i64 c.p.x),.v (.n .i64 c.p.y),.v (.n .i64 c.p.z),.v (.n .i64 c.n.x),.v (.n .i64 c.n.y),.v (.n .i64 c.n.z),.v (.n .i64 c.lo),.v (.n .i64 c.hi)])]⟩
set_option maxRecDepth 100000 in
theorem rdSa (G:St→Option (Ret × Mem)) (K:Cont) (js:Nat→J) (ms:Nat→Ms) (q:Nat→Int) (n m k:Nat) (c:Cn) (i:Int) (s:Int):qZW 60 (cxF Tf (OrL.k (orSa js ms q n m k c)) 60 66 (ntmF Tf 66)) (ckF Tf (OrL.k (orSa js ms q n m k c)) 60) (zZ []) (qY Tf 66 [0,1,0,1,1,1,1,1,1]) [0,1,0,1,1,1,1,1,1] (Tf.hint 66 (zY (qY Tf 66 [0,1,0,1,1,1,1,1,1]))) K G (hSa js ms q n m k c i s) =
 (bif (decide (i < ((gN js ms q n m k c):Int))) then (bif (inB i (gN js ms q n m k c)) then (G (hSa js ms q n m k c (vJJ .i64 (i + 1)) (vJJ .i64 (s + (vJJ .i64 (((hF js ms q n m k c) (i).toNat) * ((hF js ms q n m k c) (i).toNat)))))))
 else none)
 else (K (.exit 0) ⟨[(2,.v (.lf k (fQ q))),(3,.p 3 0),(4,.p 4 0),(10,.v (.lf (gN js ms q n m k c) (fQ (hF js ms q n m k c)))),(11,.v (.n .i64 ((gK js ms q n m k c):Int))),(12,.v (.n .i64 s))],[(3,.blk [.v (.lf n (fJ js)),.v (.lf m (fM ms))]),(4,.blk [.v (.n .i64 c.kind),.v (.n .i64 c.link),.v (.n .i64 c.p.x),.v (.n .i64 c.p.y),.v (.n .i64 c.p.z),.v (.n .i64 c.n.x),.v (.n .i64 c.n.y),.v (.n .i64 c.n.z),.v (.n .i64 c.lo),.v (.n .i64 c.hi)])]⟩)):=by kernel_rfl
theorem lpSa (K:Cont) (js:Nat→J) (ms:Nat→Ms) (q:Nat→Int) (n m k:Nat) (c:Cn) (hk:(gN js ms q n m k c)≤50):LFL 60 (cxF Tf (OrL.k (orSa js ms q n m k c)) 60 66 (ntmF Tf 66)) (ckF Tf (OrL.k (orSa js ms q n m k c)) 60) (zZ []) (qY Tf 66 [0,1,0,1,1,1,1,1,1]) [0,1,0,1,1,1,1,1,1] (Tf.hint 66 (zY (qY Tf 66 [0,1,0,1,1,1,1,1,1]))) K 60 (hSa js ms q n m k c 0 0)=(K (.exit 0) ⟨[(2,.v (.lf k (fQ q))),(3,.p 3 0),(4,.p 4 0),(10,.v (.lf (gN js ms q n m k c) (fQ (hF js ms q n m k c)))),(11,.v (.n .i64 ((gK js ms q n m k c):Int))),(12,.v (.n .i64 (zWY (fun (i:Nat) (s:Int)=>vJJ .i64 (s + vJJ .i64 ((hF js ms q n m k c) i * (hF js ms q n m k c) i))) (gN js ms q n m k c) 0 0)))],[(3,.blk [.v (.lf n (fJ js)),.v (.lf m (fM ms))]),(4,.blk [.v (.n .i64 c.kind),.v (.n .i64 c.link),.v (.n .i64 c.p.x),.v (.n .i64 c.p.y),.v (.n .i64 c.p.z),.v (.n .i64 c.n.x),.v (.n .i64 c.n.y),.v (.n .i64 c.n.z),.v (.n .i64 c.lo),.v (.n .i64 c.hi)])]⟩):=by
 refine (qWK (L:=LFL 60 (cxF Tf (OrL.k (orSa js ms q n m k c)) 60 66 (ntmF Tf 66)) (ckF Tf (OrL.k (orSa js ms q n m k c)) 60) (zZ []) (qY Tf 66 [0,1,0,1,1,1,1,1,1]) [0,1,0,1,1,1,1,1,1] (Tf.hint 66 (zY (qY Tf 66 [0,1,0,1,1,1,1,1,1]))) K) (stp:=qZW 60 (cxF Tf (OrL.k (orSa js ms q n m k c)) 60 66 (ntmF Tf 66)) (ckF Tf (OrL.k (orSa js ms q n m k c)) 60) (zZ []) (qY Tf 66 [0,1,0,1,1,1,1,1,1]) [0,1,0,1,1,1,1,1,1] (Tf.hint 66 (zY (qY Tf 66 [0,1,0,1,1,1,1,1,1]))) K) (fun _ _=>rfl) (fun (i:Nat) (s:Int)=>hSa js ms q n m k c (i:Int) s) (fun _ _=>True) (fun _ _=>true) (fun (i:Nat) (s:Int)=>vJJ .i64 (s + vJJ .i64 ((hF js ms q n m k c) i * (hF js ms q n m k c) i))) (c:=(gN js ms q n m k c)) (fun s=>(K (.exit 0) ⟨[(2,.v (.lf k (fQ q))),(3,.p 3 0),(4,.p 4 0),(10,.v (.lf (gN js ms q n m k c) (fQ (hF js ms q n m k c)))),(11,.v (.n .i64 ((gK js ms q n m k c):Int))),(12,.v (.n .i64 s))],[(3,.blk [.v (.lf n (fJ js)),.v (.lf m (fM ms))]),(4,.blk [.v (.n .i64 c.kind),.v (.n .i64 c.link),.v (.n .i64 c.p.x),.v (.n .i64 c.p.y),.v (.n .i64 c.p.z),.v (.n .i64 c.n.x),.v (.n .i64 c.n.y),.v (.n .i64 c.n.z),.v (.n .i64 c.lo),.v (.n .i64 c.hi)])]⟩)) (fun _ _=>none) (fun G i s hi _ => ?_) (fun _ _ _ _ _=>trivial) (fun G s _ => ?_) (gN js ms q n m k c) 0 60 0 (by omega) (by omega) trivial).trans (zZX (gN js ms q n m k c) 0 _)
 ·refine (rdSa G K js ms q n m k c i s).trans ?_;simp only [vJQ (show (i:Int) < ((gN js ms q n m k c):Int) by omega),qQQ (show i < 1000000 by omega),yW (show i < (gN js ms q n m k c) by omega),toN,vYV]
  all_goals rfl
 ·refine (rdSa G K js ms q n m k c (gN js ms q n m k c) s).trans ?_;rw [vYH (show ¬ ((gN js ms q n m k c):Int) < ((gN js ms q n m k c):Int) by omega)];rfl
noncomputable def sS (js:Nat→J) (ms:Nat→Ms) (q:Nat→Int) (n m k:Nat) (c:Cn):Int:=(zWY (fun (i:Nat) (s:Int)=>vJJ .i64 (s + vJJ .i64 ((hF js ms q n m k c) i * (hF js ms q n m k c) i))) (gN js ms q n m k c) 0 0)
noncomputable def fE (js:Nat→J) (ms:Nat→Ms) (q:Nat→Int) (n m k:Nat) (c:Cn):Int:=(min (max (vJJ .i64 ((vJJ .i64 ((vJJ .i64 (((vJJ .i64 (c.lo + c.hi)).fdiv (2 ^ 1)) - (mvQ js ms (unFQ (fQ q)) n m k c))) * 128)).tdiv (vJJ .i64 (1 * 2 ^ (min ((gK js ms q n m k c):Int).toNat 64))))) (-17592186044416)) 17592186044416)
noncomputable def hSb (js:Nat→J) (ms:Nat→Ms) (q:Nat→Int) (n m k:Nat) (c:Cn) (i:Int) (x:Nat→Int):St:=⟨[(2,.v (.lf k (fQ q))),(10,.v (.lf (gN js ms q n m k c) (fQ (hF js ms q n m k c)))),(12,.v (.n .i64 (sS js ms q n m k c))),(16,.v (.n .i64 (fE js ms q n m k c))),(17,.o 78),(80,.v (.lf n (fJ js))),(81,.v (.n .i64 (n:Int))),(82,.v (.n .i64 i))],[(78,.reg 2 1 (.fo (k:Int).toNat (fun v=>[.n .i64 (x v)])))]⟩
set_option maxRecDepth 100000 in
theorem rdSb (G:St→Option (Ret × Mem)) (K:Cont) (js:Nat→J) (ms:Nat→Ms) (q:Nat→Int) (n m k:Nat) (c:Cn) (i:Int) (x:Nat→Int):qZW 60 (cxF Tf (OrL.k (orSa js ms q n m k c)) 60 66 (ntmF Tf 66)) (ckF Tf (OrL.k (orSa js ms q n m k c)) 60) (zZ []) (qY Tf 66 [0,1,0,1,1,1,1,1,1,1,1,1,1,1,1]) [0,1,0,1,1,1,1,1,1,1,1,1,1,1,1] (Tf.hint 66 (zY (qY Tf 66 [0,1,0,1,1,1,1,1,1,1,1,1,1,1,1]))) K G (hSb js ms q n m k c i x) =
 (bif (decide (i < (n:Int))) then (bif (inB i n) then (bif (inB i k) then (bif (inB i (gN js ms q n m k c)) then (bif (decide ((sS js ms q n m k c)=0)) then none
 else (bif (inB i (k:Int).toNat) then (G (hSb js ms q n m k c (vJJ .i64 (i + 1)) (fun v=>(bif (Nat.beq v (i).toNat) then (min (max (vJJ .i64 ((q (i).toNat) + (vJJ .i64 ((vJJ .i64 ((fE js ms q n m k c) * ((hF js ms q n m k c) (i).toNat))).tdiv (sS js ms q n m k c))))) (js (i).toNat).lo) (js (i).toNat).hi) else (x v)))))
 else none))
 else none)
 else none)
 else none)
 else (K (.exit 2) ⟨[(17,.o 78)],[(78,.reg 2 1 (.fo (k:Int).toNat (fun v=>[.n .i64 (x v)])))]⟩)):=by kernel_rfl
noncomputable def nxE (js:Nat→J) (ms:Nat→Ms) (q:Nat→Int) (n m k:Nat) (c:Cn) (i:Nat):Int:=min (max (vJJ .i64 (q i + vJJ .i64 ((vJJ .i64 (fE js ms q n m k c * hF js ms q n m k c i)).tdiv (sS js ms q n m k c)))) (js i).lo) (js i).hi
theorem qUY {js:Nat→J} {ms:Nat→Ms} {q:Nat→Int} {n m k:Nat} {c:Cn} (h:gOk js ms q n m k c=true):cErr js ms n m (fun _=>c) 1=true∧qIn js ms q n m k=true∧rErr js ms n m=0∧n=k∧gN js ms q n m k c=k∧1≤n∧n≤10:=by
 have h':=h;unfold gOk at h';rw [vQJ] at h';obtain ⟨h0,hn,_⟩:=qJK h'.2
 have:=qXU h0
 exact ⟨h'.1,h'.2,h0,hn,by unfold gN; rw [h]; rfl,this.1,this.2⟩
theorem hq_gok {js:Nat→J} {ms:Nat→Ms} {q:Nat→Int} {n m k:Nat} {c:Cn} (h:hQ js ms q n m k c=true):gOk js ms q n m k c=true:=by
 unfold hQ at h;simp only [vQJ] at h;obtain ⟨hc,hp,_⟩:=h;obtain ⟨h0,hn,_⟩:=uYZ hp;have h1:=qXU h0;unfold pIn insB at hp;simp only [vQJ] at hp;have hk:n=k:=by
  cases hs:smQ q k with
  | true=>rw [hs] at hn; exact hn
  | false=>rw [hs] at hn; exact absurd hn (by show ¬ n=0; omega)
 unfold gOk qIn insQ;rw [hc,vJQ h0,vJQ (show (n:Int)=(k:Int) by omega)];simp only [vZH];refine allN_iff.2 fun i h1 h2 => ?_
 have:=allN_iff.1 hp.2.2 i h1 h2
 unfold Iv.within ptB at this;simp only [vQJ,decide_eq_true_eq] at this;rw [vJQ this.1.2,vJQ this.2]; rfl
theorem jVY (js:Nat→J) (ms:Nat→Ms) (q:Nat→Int) (n m k:Nat) (c:Cn) (j:Nat) (h:j < n):In64 (grF js ms q n m k c j):=by
 unfold grF;rw [zZH h];unfold grd;cases decide (gA js q j=gB js q j) with
 | true=>show In64 0; unfold In64; omega
 | false=>exact Ta.iw_of (Ta.iww _)
theorem lpSb (K:Cont) (js:Nat→J) (ms:Nat→Ms) (q:Nat→Int) (n m k:Nat) (c:Cn) (h:gOk js ms q n m k c=true) (hs:¬ sS js ms q n m k c=0):LFL 60 (cxF Tf (OrL.k (orSa js ms q n m k c)) 60 66 (ntmF Tf 66)) (ckF Tf (OrL.k (orSa js ms q n m k c)) 60) (zZ []) (qY Tf 66 [0,1,0,1,1,1,1,1,1,1,1,1,1,1,1]) [0,1,0,1,1,1,1,1,1,1,1,1,1,1,1] (Tf.hint 66 (zY (qY Tf 66 [0,1,0,1,1,1,1,1,1,1,1,1,1,1,1]))) K 60 (hSb js ms q n m k c 0 (fun v=>0))=(K (.exit 2) ⟨[(17,.o 78)],[(78,.reg 2 1 (.fo (k:Int).toNat (fun v=>[.n .i64 ((qZG (fun i:Nat=>(nxE js ms q n m k c i)) n 0 (fun v=>0)) v)])))]⟩):=by
 obtain ⟨_,_,_,hnk,hgk,h1,h10⟩:=qUY h;refine (qWK (L:=LFL 60 (cxF Tf (OrL.k (orSa js ms q n m k c)) 60 66 (ntmF Tf 66)) (ckF Tf (OrL.k (orSa js ms q n m k c)) 60) (zZ []) (qY Tf 66 [0,1,0,1,1,1,1,1,1,1,1,1,1,1,1]) [0,1,0,1,1,1,1,1,1,1,1,1,1,1,1] (Tf.hint 66 (zY (qY Tf 66 [0,1,0,1,1,1,1,1,1,1,1,1,1,1,1]))) K) (stp:=qZW 60 (cxF Tf (OrL.k (orSa js ms q n m k c)) 60 66 (ntmF Tf 66)) (ckF Tf (OrL.k (orSa js ms q n m k c)) 60) (zZ []) (qY Tf 66 [0,1,0,1,1,1,1,1,1,1,1,1,1,1,1]) [0,1,0,1,1,1,1,1,1,1,1,1,1,1,1] (Tf.hint 66 (zY (qY Tf 66 [0,1,0,1,1,1,1,1,1,1,1,1,1,1,1]))) K) (fun _ _=>rfl) (fun (i:Nat) (t:(Nat→Int))=>hSb js ms q n m k c (i:Int) t) (fun _ _=>True) (fun _ _=>true) (fun (i:Nat) t=>(fun v=>bif Nat.beq v i then (nxE js ms q n m k c i) else t v)) (c:=n) (fun t=>(K (.exit 2) ⟨[(17,.o 78)],[(78,.reg 2 1 (.fo (k:Int).toNat (fun v=>[.n .i64 (t v)])))]⟩)) (fun _ _=>none) (fun G i t hi _ => ?_) (fun _ _ _ _ _=>trivial) (fun G t _ => ?_) n 0 60 (fun v=>0) (by omega) (by omega) trivial).trans (zJW n 0 _)
 ·refine (rdSb G K js ms q n m k c i t).trans ?_;simp only [vJQ (show (i:Int) < (n:Int) by omega),qQQ (show i < 1000000 by omega),yW (show i < n by omega),yW (show i < k by omega),yW (show i < gN js ms q n m k c by omega),toN,vYV,vYH hs,vYG]
  all_goals rfl
 ·refine (rdSb G K js ms q n m k c n t).trans ?_;rw [vYH (show ¬ (n:Int) < (n:Int) by omega)];rfl
noncomputable def kJJ (js:Nat→J) (ms:Nat→Ms) (q:Nat→Int) (n m k:Nat) (c:Cn):List (List Nat × qKX):=[([0,1,0,1,1,1,1,1,1],sumF (fun _:Unit=>(hSa js ms q n m k c 0 0)) (fun _=>()) (fun _ K=>(bif (decide ((gN js ms q n m k c)≤50)) then (K (.exit 0) ⟨[(2,.v (.lf k (fQ q))),(3,.p 3 0),(4,.p 4 0),(10,.v (.lf (gN js ms q n m k c) (fQ (hF js ms q n m k c)))),(11,.v (.n .i64 ((gK js ms q n m k c):Int))),(12,.v (.n .i64 (zWY (fun (i:Nat) (s:Int)=>vJJ .i64 (s + vJJ .i64 ((hF js ms q n m k c) i * (hF js ms q n m k c) i))) (gN js ms q n m k c) 0 0)))],[(3,.blk [.v (.lf n (fJ js)),.v (.lf m (fM ms))]),(4,.blk [.v (.n .i64 c.kind),.v (.n .i64 c.link),.v (.n .i64 c.p.x),.v (.n .i64 c.p.y),.v (.n .i64 c.p.z),.v (.n .i64 c.n.x),.v (.n .i64 c.n.y),.v (.n .i64 c.n.z),.v (.n .i64 c.lo),.v (.n .i64 c.hi)])]⟩) else none))),([0,1,0,1,1,1,1,1,1,1,1,1,1,1,1],sumF (fun _:Unit=>(hSb js ms q n m k c 0 (fun v=>0))) (fun _=>()) (fun _ K=>(bif (gOk js ms q n m k c && !decide (sS js ms q n m k c=0)) then (K (.exit 2) ⟨[(17,.o 78)],[(78,.reg 2 1 (.fo (k:Int).toNat (fun v=>[.n .i64 ((qZG (fun i:Nat=>(nxE js ms q n m k c i)) n 0 (fun v=>0)) v)])))]⟩) else none)))]
set_option maxRecDepth 100000 in
theorem pxstp0 (js:Nat→J) (ms:Nat→Ms) (q:Nat→Int) (n m k:Nat) (c:Cn):qYH Tf (OrL.k (orSa js ms q n m k c)) (zZ (kJJ js ms q n m k c)) 60 66 [.a [.lf n (fJ js),.lf m (fM ms)],.a (cp c),.lf k (fQ q)] =
 (bif (g1 [.lf k (fQ q)] && decide (k≤50)) then (bif (g1 [.a [.lf n (fJ js),.lf m (fM ms)],.l [(cp c)],.lf (bif smQ q k then k else 0) (fB (ptB q))]) then (bif (hQ js ms q n m k c) then (bif (g1 [.lf k (fQ q)] && decide (1≤k∧k≤10)) then some (.v (.t [.lf k (fQ q),.b true]),[])
 else none)
 else (bif (g1 [.a [.lf n (fJ js),.lf m (fM ms)],.a (cp c),.lf k (fQ q)]) then (bif (gOk js ms q n m k c) then (bif (g1 [.lf (gN js ms q n m k c) (fQ (grF js ms q n m k c))] && (gI64 (grF js ms q n m k c) (gN js ms q n m k c) && decide ((gN js ms q n m k c)≤50))) then (bif (gSt (hSa js ms q n m k c 0 0) (hSa js ms q n m k c 0 0)) then (bif (decide ((gN js ms q n m k c)≤50)) then (bif (decide ((sS js ms q n m k c)=0)) then (bif (g1 [.lf k (fQ q)] && decide (1≤k∧k≤10)) then some (.v (.t [.lf k (fQ q),.b true]),[])
 else none)
 else (bif (gEq (.t [.a [.lf n (fJ js),.lf m (fM ms)],.a (cp c)]) (.t [.a [.lf n (fJ js),.lf m (fM ms)],.a (cp c)]) && (decide (k≤50) && gFQ (fQ q))) then (bif (decide (0≤((gK js ms q n m k c):Int))) then (bif (decide ((vJJ .i64 (1 * 2 ^ (min ((gK js ms q n m k c):Int).toNat 64)))=0)) then none
 else (bif (decide (0≤(k:Int))) then (bif (decide ((k:Int)≤(k:Int))) then (bif (decide ((k:Int)≤1000000)) then (bif (gSt (hSb js ms q n m k c 0 (fun v=>0)) (hSb js ms q n m k c 0 (fun v=>0))) then (bif (gOk js ms q n m k c && !decide (sS js ms q n m k c=0)) then some (.v (.t [.lf (k:Int).toNat (fun v=>[.n .i64 ((qZG (fun i:Nat=>(nxE js ms q n m k c i)) n 0 (fun v=>0)) v)]),.b true]),[])
 else none)
 else none)
 else none)
 else none)
 else none))
 else none)
 else none))
 else none)
 else none)
 else none)
 else some (.v (.t [.l [],.b false]),[]))
 else none))
 else none)
 else none):=by kernel_rfl
theorem snd_stp0 (js:Nat→J) (ms:Nat→Ms) (q:Nat→Int) (n m k:Nat) (c:Cn) (hk:k≤50):zH Tryz.prog 66 [.a [.lf n (fJ js),.lf m (fM ms)],.a (cp c),.lf k (fQ q)] (bif hQ js ms q n m k c || (gOk js ms q n m k c && decide (sS js ms q n m k c=0)) then .v (.t [.lf k (fQ q),.b true]) else bif gOk js ms q n m k c then .v (.t [.lf (k:Int).toNat (fQ (qZG (fun i:Nat=>(nxE js ms q n m k c i)) n 0 (fun v=>0))),.b true]) else .v (.t [.l [],.b false])):=by
 refine kX (N:=60) (LO:=zZ (kJJ js ms q n m k c)) qVU yQ (OrL.ok (l:=(orSa js ms q n m k c)) ⟨qXG (fun h=>kXV q k (vJZ h)),qZX (snd_hq js ms q n m k c),qXG (fun h=>zHV q k (vJZ h)),qZX (snd_grd js ms q n m k c),ok_vq js ms n m c,qXG (fun h=>by rw [vQJ] at h; exact snd_red _ _ (kZU h.1) (vJZ h.2)),trivial⟩) (fun p S hp => ?_) ?_
 ·refine kV (L:=qY Tf 66) (l:=(kJJ js ms q n m k c)) (show AllP _ (kJJ js ms q n m k c) from ⟨?_,?_,trivial⟩) p S hp
  ·dsimp only;refine qZH (T:=Tf) (ok:=(OrL.k (orSa js ms q n m k c))) (f:=66) (LO:=zZ []) (p:=[0,1,0,1,1,1,1,1,1]) qJG ?_;intro _ K r hr;obtain ⟨hg,hr⟩:=qH hr;have hk:=vJZ hg;exact (lpSa K js ms q n m k c hk).trans hr
  ·dsimp only;refine qZH (T:=Tf) (ok:=(OrL.k (orSa js ms q n m k c))) (f:=66) (LO:=zZ []) (p:=[0,1,0,1,1,1,1,1,1,1,1,1,1,1,1]) qJG ?_;intro _ K r hr;obtain ⟨hg,hr⟩:=qH hr;rw [vQJ] at hg;have hs:¬ sS js ms q n m k c=0:=by simpa using hg.2
   exact (lpSb K js ms q n m k c hg.1 hs).trans hr
 ·refine (pxstp0 js ms q n m k c).trans ?_;have hf:gFQ (fQ q)=true:=(zXQ rfl).1;simp only [g1_t,yG,qXZ,vJQ hk,hf,vZH,Bool.and_true,vYV];cases hh:hQ js ms q n m k c with
  | true =>
   obtain ⟨_,_,_,hnk,hgk,h1,h10⟩:=qUY (hq_gok hh);rw [vJQ (show 1≤k∧k≤10 by omega)]; rfl
  | false =>
   cases h:gOk js ms q n m k c with
   | false=>rfl
   | true =>
    obtain ⟨_,_,_,hnk,hgk,h1,h10⟩:=qUY h;have hg:gI64 (grF js ms q n m k c) (gN js ms q n m k c)=true:=gI64_of fun j hj=>jVY js ms q n m k c j (by omega)
    have hK:gK js ms q n m k c≤48:=(yKV (g:=grF js ms q n m k c) (k:=gN js ms q n m k c) (kZU hg)).1;have hp:=jZG (s:=(gK js ms q n m k c:Int)) (by omega);have hp':¬ vJJ .i64 (1 * 2 ^ (min (gK js ms q n m k c:Int).toNat 64))=0:=by show ¬ p2 _=0; omega
    by_cases hs:sS js ms q n m k c=0
    ·simp only [hg,vJQ (show gN js ms q n m k c≤50 by omega),vYV,vYG,vZJ,vJQ hs,vJQ (show 1≤k∧k≤10 by omega)];rfl
    ·simp only [hg,vJQ (show gN js ms q n m k c≤50 by omega),vYV,vYG,vZJ,vYH hs,vYH hp',vJQ (show (0:Int)≤(gK js ms q n m k c:Int) by omega),vJQ (show (0:Int)≤(k:Int) by omega),vJQ (show (k:Int)≤(k:Int) by omega),vJQ (show (k:Int)≤1000000 by omega),Bool.not_false];rfl
noncomputable def stQ (js:Nat→J) (ms:Nat→Ms) (q:Nat→Int) (n m k:Nat) (c:Cn):Nat→Int:=fun i=>bif hQ js ms q n m k c || decide (sS js ms q n m k c=0) then q i else nxE js ms q n m k c i
theorem snd_stp (js:Nat→J) (ms:Nat→Ms) (q:Nat→Int) (n m k:Nat) (c:Cn) (hk:k≤50):zH Tryz.prog 66 [.a [.lf n (fJ js),.lf m (fM ms)],.a (cp c),.lf k (fQ q)] (.v (.t [.lf (gN js ms q n m k c) (fQ (stQ js ms q n m k c)),.b (gOk js ms q n m k c)])):=by
 have h0:=snd_stp0 js ms q n m k c hk;cases h:gOk js ms q n m k c with
 | true =>
  obtain ⟨_,_,_,hnk,hgk,h1,h10⟩:=qUY h;rw [hgk];rw [h,vZH] at h0;cases hh:hQ js ms q n m k c || decide (sS js ms q n m k c=0) with
  | true =>
   rw [hh,vYV] at h0;have e:stQ js ms q n m k c=q:=by funext i; unfold stQ; rw [hh]; rfl
   rw [e];exact h0
  | false =>
   rw [hh,vYG,vYV,toN] at h0;refine qQW (Same.t (xs:=[_,_]) ⟨zQJ fun j (hj:j < k) => ?_,Same.refl _,trivial⟩) h0;show [PV.n .i64 (qZG _ n 0 _ j)]=[PV.n .i64 (stQ js ms q n m k c j)];unfold stQ;rw [zZH (show j < n by omega),hh]; rfl
 | false =>
  have hh:hQ js ms q n m k c=false:=by
   cases e:hQ js ms q n m k c with
   | false=>rfl
   | true=>rw [hq_gok e] at h; cases h
  rw [h,hh] at h0;have e:gN js ms q n m k c=0:=by unfold gN; rw [h]; rfl
  rw [e];exact qQW (Same.t (xs:=[_,_]) ⟨Same.lf rfl,Same.refl _,trivial⟩) h0
end Go.Proofs.YtmffoiemmlcmfaaGreat.Nr
namespace Go.Proofs.YtmffoiemmlcmfaaGreat.Ns
open Go.Rx Rt Go.Sx Go.RowKit Od Ov Pc Na Nb Nc Nd Nx Nf Ng Nj Nl Nm Nn No Nq Nr
theorem yVJ {β:Type} (good:Nat→Bool) (KX:β) (KR:Nat→β):∀ k p,runS (fun (i:Nat) (_:Unit)=>good i) (fun _ _=>()) (fun _=>KX) (fun i _=>KR i) k p ()=yUU good KX KR k p
 | 0,_=>rfl
 | k + 1,p=>by simp only [runS,yUU,yVJ good KX KR k (p + 1)]
noncomputable def orFt (g:Nat→Int) (k:Nat) (s:Int):OrL:=([]:OrL)
noncomputable def hFt (g:Nat→Int) (k:Nat) (s:Int) (i:Int):St:=⟨[(0,.v (.lf k (fQ g))),(1,.v (.n .u64 s)),(5,.v (.n .i64 i))],[]⟩
set_option maxRecDepth 100000 in
theorem rdFt (G:St→Option (Ret × Mem)) (K:Cont) (g:Nat→Int) (k:Nat) (s:Int) (i:Int):qZW 60 (cxF Tf (OrL.k (orFt g k s)) 60 111 (ntmF Tf 111)) (ckF Tf (OrL.k (orFt g k s)) 60) (zZ []) (qY Tf 111 [0,1,0,1]) [0,1,0,1] (Tf.hint 111 (zY (qY Tf 111 [0,1,0,1]))) K G (hFt g k s i) =
 (bif (decide (i < (k:Int))) then (bif (inB i k) then (bif (decide (0≤s)) then (bif (decide ((vJJ .i64 (1 * 2 ^ (min (s).toNat 64)))=0)) then none
 else (bif (decide ((vJJ .i64 ((g (i).toNat).tdiv (vJJ .i64 (1 * 2 ^ (min (s).toNat 64))))) < (-32768))) then (K .ret ⟨[(4,.v (.b false))],[]⟩)
 else (bif (decide (32768 < (vJJ .i64 ((g (i).toNat).tdiv (vJJ .i64 (1 * 2 ^ (min (s).toNat 64))))))) then (K .ret ⟨[(4,.v (.b false))],[]⟩)
 else (G (hFt g k s (vJJ .i64 (i + 1)))))))
 else none)
 else none)
 else (K (.exit 0) ⟨[],[]⟩)):=by kernel_rfl
theorem lpFt (K:Cont) (g:Nat→Int) (k:Nat) (s:Int) (hs:0≤s∧s≤62) (hk:k≤50):LFL 60 (cxF Tf (OrL.k (orFt g k s)) 60 111 (ntmF Tf 111)) (ckF Tf (OrL.k (orFt g k s)) 60) (zZ []) (qY Tf 111 [0,1,0,1]) [0,1,0,1] (Tf.hint 111 (zY (qY Tf 111 [0,1,0,1]))) K 60 (hFt g k s 0)=bif (allN (fun i:Nat => !decide (rdE g s i < -32768) && !decide (32768 < rdE g s i)) k 0) then (K (.exit 0) ⟨[],[]⟩) else (K .ret ⟨[(4,.v (.b false))],[]⟩):=by
 refine (qWK (L:=LFL 60 (cxF Tf (OrL.k (orFt g k s)) 60 111 (ntmF Tf 111)) (ckF Tf (OrL.k (orFt g k s)) 60) (zZ []) (qY Tf 111 [0,1,0,1]) [0,1,0,1] (Tf.hint 111 (zY (qY Tf 111 [0,1,0,1]))) K) (stp:=qZW 60 (cxF Tf (OrL.k (orFt g k s)) 60 111 (ntmF Tf 111)) (ckF Tf (OrL.k (orFt g k s)) 60) (zZ []) (qY Tf 111 [0,1,0,1]) [0,1,0,1] (Tf.hint 111 (zY (qY Tf 111 [0,1,0,1]))) K) (fun _ _=>rfl) (fun (i:Nat) (_:Unit)=>hFt g k s (i:Int)) (fun _ _=>True) (fun (i:Nat) _ => !decide (rdE g s i < -32768) && !decide (32768 < rdE g s i)) (fun _ _=>()) (c:=k) (fun _=>(K (.exit 0) ⟨[],[]⟩)) (fun i _=>(K .ret ⟨[(4,.v (.b false))],[]⟩)) (fun G i f hi _ => ?_) (fun _ _ _ _ _=>trivial) (fun G f _ => ?_) k 0 60 () (by omega) (by omega) trivial).trans ((yVJ _ _ _ _ _).trans (qYJ _ _ _ _ _))
 ·have e:vJJ .i64 (1 * 2 ^ (min s.toNat 64))=p2 s:=rfl;have e2:vJJ .i64 ((g i).tdiv (p2 s))=rdE g s i:=rfl;have hp:=jZG hs;refine (rdFt G K g k s i).trans ?_;simp only [vJQ (show (i:Int) < (k:Int) by omega),qQQ (show i < 1000000 by omega),yW (show i < k by omega),toN,vYV,vJQ hs.1,e,e2,vYH (show ¬ p2 s=0 by omega),vYG];cases decide (rdE g s i < -32768) <;> cases decide (32768 < rdE g s i) <;> rfl
 ·refine (rdFt G K g k s k).trans ?_;rw [vYH (show ¬ (k:Int) < (k:Int) by omega)];rfl
noncomputable def uQJ (g:Nat→Int) (k:Nat) (s:Int):List (List Nat × qKX):=[([0,1,0,1],sumF (fun _:Unit=>(hFt g k s 0)) (fun _=>()) (fun _ K=>(bif (decide (0≤s∧s≤62) && decide (k≤50)) then (bif (allN (fun i:Nat => !decide (rdE g s i < -32768) && !decide (32768 < rdE g s i)) k 0) then (K (.exit 0) ⟨[],[]⟩) else (K .ret ⟨[(4,.v (.b false))],[]⟩)) else none)))]
set_option maxRecDepth 100000 in
theorem pxft0 (g:Nat→Int) (k:Nat) (s:Int):qYH Tf (OrL.k (orFt g k s)) (zZ (uQJ g k s)) 60 111 [.lf k (fQ g),.n .u64 s] =
 (bif (gSt (hFt g k s 0) (hFt g k s 0)) then (bif (decide (0≤s∧s≤62) && decide (k≤50)) then (bif (allN (fun i:Nat => !decide (rdE g s i < -32768) && !decide (32768 < rdE g s i)) k 0) then some (.v (.b true),[])
 else some (.v (.b false),[]))
 else none)
 else none):=by kernel_rfl
theorem snd_ft0 (g:Nat→Int) (k:Nat) (s:Int) (hs:0≤s∧s≤62) (hk:k≤50):zH Tryz.prog 111 [.lf k (fQ g),.n .u64 s] (.v (.b (allN (fun i:Nat => !decide (rdE g s i < -32768) && !decide (32768 < rdE g s i)) k 0))):=by
 refine kX (N:=60) (LO:=zZ (uQJ g k s)) qVU yQ (OrL.ok (l:=(orFt g k s)) trivial) (fun p S hp => ?_) ?_
 ·refine kV (L:=qY Tf 111) (l:=(uQJ g k s)) (show AllP _ (uQJ g k s) from ⟨?_,trivial⟩) p S hp
  ·dsimp only;refine qZH (T:=Tf) (ok:=(OrL.k (orFt g k s))) (f:=111) (LO:=zZ []) (p:=[0,1,0,1]) qJG ?_;intro _ K r hr;obtain ⟨hg,hr⟩:=qH hr;rw [vQJ] at hg;exact (lpFt K g k s (vJZ hg.1) (vJZ hg.2)).trans hr
 ·refine (pxft0 g k s).trans ?_;rw [yG,vJQ hs,vJQ hk];cases (allN (fun i:Nat => !decide (rdE g s i < -32768) && !decide (32768 < rdE g s i)) k 0) <;> rfl
theorem fit_nlt (x:Int):(!decide (x < -32768) && !decide (32768 < x))=fit x:=by
 unfold fit;rw [nlt,nlt]
theorem snd_ft (g:Nat→Int) (k:Nat) (s:Int) (hs:0≤s∧s≤62) (hk:k≤50):zH Tryz.prog 111 [.lf k (fQ g),.n .u64 s] (.v (.b (fitA g k s))):=by
 have h:=snd_ft0 g k s hs hk;simp only [fit_nlt] at h;exact h
noncomputable def o_ft (g:Nat→Int) (k:Nat):List PV→Option (Bool × Ret):=fun ps=>match ps with
 | [a,.n .u64 s]=>some (gEq (.t [a,.n .u64 s]) (.t [.lf k (fQ g),.n .u64 s]) && (decide (0≤s∧s≤62) && decide (k≤50)),.v (.b (fitA g k s)))
 | _=>none
theorem ok_ft (g:Nat→Int) (k:Nat):zW Tryz.prog 111 (o_ft g k):=by
 intro ps r hh;unfold o_ft at hh;split at hh
 ·simp only [vQZ,vQY,vQJ] at hh;obtain ⟨⟨hg,hs,hk⟩,rfl⟩:=hh;have e:=zJQ hg;simp only [PV.t.injEq] at e;rw [e];exact snd_ft g k _ (vJZ hs) (vJZ hk)
 ·cases hh
theorem u64_nat {p:Nat} (h:p < 1000000):IntKind.u64.wrap ((p:Int) + 1)=((p + 1:Nat):Int):=by
 unfold IntKind.wrap;have hb:IntKind.u64.bits=64:=rfl;have hs:IntKind.u64.signed=false:=rfl;simp only [hb,hs,Bool.false_and,Bool.false_eq_true,if_false];omega
noncomputable def orTa (js:Nat→J) (ms:Nat→Ms) (q:Nat→Int) (n m k:Nat) (c:Cn):OrL:=[(110,o_cr [.a [.lf n (fJ js),.lf m (fM ms)],.a (cp c),.lf k (fQ q)] (.v (.t [.lf (gN js ms q n m k c) (fQ (grF js ms q n m k c)),.b (gOk js ms q n m k c)]))),(12,o_lk [.a [.lf n (fJ js),.lf m (fM ms)],.l [cp c],.lf (bif smQ q k then k else 0) (fB (ptB q))] (decide (k≤50)) (.v (.b (hQ js ms q n m k c)))),(13,o_lk [.lf k (fQ q)] (decide (k≤50)) (.v (.lf (bif smQ q k then k else 0) (fB (ptB q))))),(113,o_vq js ms n m c),(108,Ta.o_rFloor),(111,o_ft (grF js ms q n m k c) (gN js ms q n m k c))]
noncomputable def hTa (js:Nat→J) (ms:Nat→Ms) (q:Nat→Int) (n m k:Nat) (c:Cn) (s:Int):St:=⟨[(2,.v (.lf k (fQ q))),(3,.p 3 0),(4,.p 4 0),(8,.v (.lf (gN js ms q n m k c) (fQ (grF js ms q n m k c)))),(10,.v (.n .u64 s))],[(3,.blk [.v (.lf n (fJ js)),.v (.lf m (fM ms))]),(4,.blk [.v (.n .i64 c.kind),.v (.n .i64 c.link),.v (.n .i64 c.p.x),.v (.n .i64 c.p.y),.v (.n .i64 c.p.z),.v (.n .i64 c.n.x),.v (.n .i64 c.n.y),.v (.n .i64 c.n.z),.v (.n .i64 c.lo),.v (.n .i64 c.hi)])]⟩
set_option maxRecDepth 100000 in
theorem rdTa (G:St→Option (Ret × Mem)) (K:Cont) (js:Nat→J) (ms:Nat→Ms) (q:Nat→Int) (n m k:Nat) (c:Cn) (s:Int):qZW 60 (cxF Tf (OrL.k (orTa js ms q n m k c)) 60 76 (ntmF Tf 76)) (ckF Tf (OrL.k (orTa js ms q n m k c)) 60) (zZ []) (qY Tf 76 [0,0,1,1,1,1,1]) [0,0,1,1,1,1,1] (Tf.hint 76 (zY (qY Tf 76 [0,0,1,1,1,1,1]))) K G (hTa js ms q n m k c s) =
 (bif (gEq (.t [.lf (gN js ms q n m k c) (fQ (grF js ms q n m k c)),.n .u64 s]) (.t [.lf (gN js ms q n m k c) (fQ (grF js ms q n m k c)),.n .u64 s]) && (decide (0≤s∧s≤62) && decide ((gN js ms q n m k c)≤50))) then (bif (fitA (grF js ms q n m k c) (gN js ms q n m k c) s) then (K (.exit 0) ⟨[(2,.v (.lf k (fQ q))),(3,.p 3 0),(4,.p 4 0),(8,.v (.lf (gN js ms q n m k c) (fQ (grF js ms q n m k c)))),(10,.v (.n .u64 s))],[(3,.blk [.v (.lf n (fJ js)),.v (.lf m (fM ms))]),(4,.blk [.v (.n .i64 c.kind),.v (.n .i64 c.link),.v (.n .i64 c.p.x),.v (.n .i64 c.p.y),.v (.n .i64 c.p.z),.v (.n .i64 c.n.x),.v (.n .i64 c.n.y),.v (.n .i64 c.n.z),.v (.n .i64 c.lo),.v (.n .i64 c.hi)])]⟩)
 else (G (hTa js ms q n m k c (IntKind.u64.wrap (s + 1)))))
 else none):=by kernel_rfl
theorem lpTa (K:Cont) (js:Nat→J) (ms:Nat→Ms) (q:Nat→Int) (n m k:Nat) (c:Cn) (h:gOk js ms q n m k c=true):LFL 60 (cxF Tf (OrL.k (orTa js ms q n m k c)) 60 76 (ntmF Tf 76)) (ckF Tf (OrL.k (orTa js ms q n m k c)) 60) (zZ []) (qY Tf 76 [0,0,1,1,1,1,1]) [0,0,1,1,1,1,1] (Tf.hint 76 (zY (qY Tf 76 [0,0,1,1,1,1,1]))) K 60 (hTa js ms q n m k c 0)=(K (.exit 0) ⟨[(2,.v (.lf k (fQ q))),(3,.p 3 0),(4,.p 4 0),(8,.v (.lf (gN js ms q n m k c) (fQ (grF js ms q n m k c)))),(10,.v (.n .u64 ((gK js ms q n m k c):Int)))],[(3,.blk [.v (.lf n (fJ js)),.v (.lf m (fM ms))]),(4,.blk [.v (.n .i64 c.kind),.v (.n .i64 c.link),.v (.n .i64 c.p.x),.v (.n .i64 c.p.y),.v (.n .i64 c.p.z),.v (.n .i64 c.n.x),.v (.n .i64 c.n.y),.v (.n .i64 c.n.z),.v (.n .i64 c.lo),.v (.n .i64 c.hi)])]⟩):=by
 obtain ⟨_,_,_,hnk,hgk,h1,h10⟩:=qUY h;obtain ⟨h4,h2,h3⟩:=yKV (g:=grF js ms q n m k c) (k:=gN js ms q n m k c) fun j hj=>jVY js ms q n m k c j (by omega)
 refine (qWK (L:=LFL 60 (cxF Tf (OrL.k (orTa js ms q n m k c)) 60 76 (ntmF Tf 76)) (ckF Tf (OrL.k (orTa js ms q n m k c)) 60) (zZ []) (qY Tf 76 [0,0,1,1,1,1,1]) [0,0,1,1,1,1,1] (Tf.hint 76 (zY (qY Tf 76 [0,0,1,1,1,1,1]))) K) (stp:=qZW 60 (cxF Tf (OrL.k (orTa js ms q n m k c)) 60 76 (ntmF Tf 76)) (ckF Tf (OrL.k (orTa js ms q n m k c)) 60) (zZ []) (qY Tf 76 [0,0,1,1,1,1,1]) [0,0,1,1,1,1,1] (Tf.hint 76 (zY (qY Tf 76 [0,0,1,1,1,1,1]))) K) (fun _ _=>rfl) (fun (i:Nat) (_:Unit)=>hTa js ms q n m k c (i:Int)) (fun _ _=>True) (fun i _ => !fitA (grF js ms q n m k c) (gN js ms q n m k c) (i:Int)) (fun _ _=>()) (c:=kR (grF js ms q n m k c) (gN js ms q n m k c)) (fun _=>(K (.exit 0) ⟨[(2,.v (.lf k (fQ q))),(3,.p 3 0),(4,.p 4 0),(8,.v (.lf (gN js ms q n m k c) (fQ (grF js ms q n m k c)))),(10,.v (.n .u64 ((gK js ms q n m k c):Int)))],[(3,.blk [.v (.lf n (fJ js)),.v (.lf m (fM ms))]),(4,.blk [.v (.n .i64 c.kind),.v (.n .i64 c.link),.v (.n .i64 c.p.x),.v (.n .i64 c.p.y),.v (.n .i64 c.p.z),.v (.n .i64 c.n.x),.v (.n .i64 c.n.y),.v (.n .i64 c.n.z),.v (.n .i64 c.lo),.v (.n .i64 c.hi)])]⟩)) (fun _ _=>none) (fun G i _ hi _ => ?_) (fun _ _ _ _ _=>trivial) (fun G _ _ => ?_) (kR (grF js ms q n m k c) (gN js ms q n m k c)) 0 60 () (by omega) (by omega) trivial).trans (yXJ (f:=fun _=>()) _ 0 (fun _ _ _=>rfl) (fun i _ hi=>by rw [h3 i (by omega)]; rfl))
 ·refine (rdTa G K js ms q n m k c i).trans ?_;rw [qXZ,vJQ (show 0≤(i:Int)∧(i:Int)≤62 by omega),vJQ (show gN js ms q n m k c≤50 by omega),h3 i hi,u64_nat (show i < 1000000 by omega)];rfl
 ·refine (rdTa G K js ms q n m k c (kR (grF js ms q n m k c) (gN js ms q n m k c):Int)).trans ?_;rw [qXZ,vJQ (show 0≤(kR (grF js ms q n m k c) (gN js ms q n m k c):Int)∧(kR (grF js ms q n m k c) (gN js ms q n m k c):Int)≤62 by omega),vJQ (show gN js ms q n m k c≤50 by omega),h2];rfl
noncomputable def hTb (js:Nat→J) (ms:Nat→Ms) (q:Nat→Int) (n m k:Nat) (c:Cn) (i:Int) (s:Int):St:=⟨[(2,.v (.lf k (fQ q))),(3,.p 3 0),(4,.p 4 0),(8,.v (.lf (gN js ms q n m k c) (fQ (grF js ms q n m k c)))),(10,.v (.n .u64 ((gK js ms q n m k c):Int))),(11,.v (.n .i64 s)),(12,.v (.n .i64 i))],[(3,.blk [.v (.lf n (fJ js)),.v (.lf m (fM ms))]),(4,.blk [.v (.n .i64 c.kind),.v (.n .i64 c.link),.v (.n .i64 c.p.x),.v (.n .i64 c.p.y),.v (.n .i64 c.p.z),.v (.n .i64 c.n.x),.v (.n .i64 c.n.y),.v (.n .i64 c.n.z),.v (.n .i64 c.lo),.v (.n .i64 c.hi)])]⟩
set_option maxRecDepth 100000 in
theorem rdTb (G:St→Option (Ret × Mem)) (K:Cont) (js:Nat→J) (ms:Nat→Ms) (q:Nat→Int) (n m k:Nat) (c:Cn) (i:Int) (s:Int):qZW 60 (cxF Tf (OrL.k (orTa js ms q n m k c)) 60 76 (ntmF Tf 76)) (ckF Tf (OrL.k (orTa js ms q n m k c)) 60) (zZ []) (qY Tf 76 [0,1,0,1,1,1,1,1,1,1]) [0,1,0,1,1,1,1,1,1,1] (Tf.hint 76 (zY (qY Tf 76 [0,1,0,1,1,1,1,1,1,1]))) K G (hTb js ms q n m k c i s) =
 (bif (decide (i < ((gN js ms q n m k c):Int))) then (bif (inB i (gN js ms q n m k c)) then (bif (decide (0≤((gK js ms q n m k c):Int))) then (bif (decide ((vJJ .i64 (1 * 2 ^ (min ((gK js ms q n m k c):Int).toNat 64)))=0)) then none
 else (bif (inB i (gN js ms q n m k c)) then (bif (decide (0≤((gK js ms q n m k c):Int))) then (bif (decide ((vJJ .i64 (1 * 2 ^ (min ((gK js ms q n m k c):Int).toNat 64)))=0)) then none
 else (G (hTb js ms q n m k c (vJJ .i64 (i + 1)) (vJJ .i64 (s + (vJJ .i64 ((vJJ .i64 (((grF js ms q n m k c) (i).toNat).tdiv (vJJ .i64 (1 * 2 ^ (min ((gK js ms q n m k c):Int).toNat 64))))) * (vJJ .i64 (((grF js ms q n m k c) (i).toNat).tdiv (vJJ .i64 (1 * 2 ^ (min ((gK js ms q n m k c):Int).toNat 64))))))))))))
 else none)
 else none))
 else none)
 else none)
 else (K (.exit 2) ⟨[(2,.v (.lf k (fQ q))),(3,.p 3 0),(4,.p 4 0),(8,.v (.lf (gN js ms q n m k c) (fQ (grF js ms q n m k c)))),(10,.v (.n .u64 ((gK js ms q n m k c):Int))),(11,.v (.n .i64 s))],[(3,.blk [.v (.lf n (fJ js)),.v (.lf m (fM ms))]),(4,.blk [.v (.n .i64 c.kind),.v (.n .i64 c.link),.v (.n .i64 c.p.x),.v (.n .i64 c.p.y),.v (.n .i64 c.p.z),.v (.n .i64 c.n.x),.v (.n .i64 c.n.y),.v (.n .i64 c.n.z),.v (.n .i64 c.lo),.v (.n .i64 c.hi)])]⟩)):=by kernel_rfl
theorem lpTb (K:Cont) (js:Nat→J) (ms:Nat→Ms) (q:Nat→Int) (n m k:Nat) (c:Cn) (h:(gOk js ms q n m k c)=true):LFL 60 (cxF Tf (OrL.k (orTa js ms q n m k c)) 60 76 (ntmF Tf 76)) (ckF Tf (OrL.k (orTa js ms q n m k c)) 60) (zZ []) (qY Tf 76 [0,1,0,1,1,1,1,1,1,1]) [0,1,0,1,1,1,1,1,1,1] (Tf.hint 76 (zY (qY Tf 76 [0,1,0,1,1,1,1,1,1,1]))) K 60 (hTb js ms q n m k c 0 0)=(K (.exit 2) ⟨[(2,.v (.lf k (fQ q))),(3,.p 3 0),(4,.p 4 0),(8,.v (.lf (gN js ms q n m k c) (fQ (grF js ms q n m k c)))),(10,.v (.n .u64 ((gK js ms q n m k c):Int))),(11,.v (.n .i64 (zWY (fun (i:Nat) (s:Int)=>vJJ .i64 (s + vJJ .i64 ((hF js ms q n m k c) i * (hF js ms q n m k c) i))) (gN js ms q n m k c) 0 0)))],[(3,.blk [.v (.lf n (fJ js)),.v (.lf m (fM ms))]),(4,.blk [.v (.n .i64 c.kind),.v (.n .i64 c.link),.v (.n .i64 c.p.x),.v (.n .i64 c.p.y),.v (.n .i64 c.p.z),.v (.n .i64 c.n.x),.v (.n .i64 c.n.y),.v (.n .i64 c.n.z),.v (.n .i64 c.lo),.v (.n .i64 c.hi)])]⟩):=by
 obtain ⟨_,_,h00,hnk,hgk,h1,h10⟩:=qUY h;have hK:gK js ms q n m k c≤48:=(yKV (g:=grF js ms q n m k c) (k:=gN js ms q n m k c) fun j hj=>jVY js ms q n m k c j (by omega)).1;have hp:=jZG (s:=(gK js ms q n m k c:Int)) (by omega);refine (qWK (L:=LFL 60 (cxF Tf (OrL.k (orTa js ms q n m k c)) 60 76 (ntmF Tf 76)) (ckF Tf (OrL.k (orTa js ms q n m k c)) 60) (zZ []) (qY Tf 76 [0,1,0,1,1,1,1,1,1,1]) [0,1,0,1,1,1,1,1,1,1] (Tf.hint 76 (zY (qY Tf 76 [0,1,0,1,1,1,1,1,1,1]))) K) (stp:=qZW 60 (cxF Tf (OrL.k (orTa js ms q n m k c)) 60 76 (ntmF Tf 76)) (ckF Tf (OrL.k (orTa js ms q n m k c)) 60) (zZ []) (qY Tf 76 [0,1,0,1,1,1,1,1,1,1]) [0,1,0,1,1,1,1,1,1,1] (Tf.hint 76 (zY (qY Tf 76 [0,1,0,1,1,1,1,1,1,1]))) K) (fun _ _=>rfl) (fun (i:Nat) (s:Int)=>hTb js ms q n m k c (i:Int) s) (fun _ _=>True) (fun _ _=>true) (fun (i:Nat) (s:Int)=>vJJ .i64 (s + vJJ .i64 ((hF js ms q n m k c) i * (hF js ms q n m k c) i))) (c:=(gN js ms q n m k c)) (fun s=>(K (.exit 2) ⟨[(2,.v (.lf k (fQ q))),(3,.p 3 0),(4,.p 4 0),(8,.v (.lf (gN js ms q n m k c) (fQ (grF js ms q n m k c)))),(10,.v (.n .u64 ((gK js ms q n m k c):Int))),(11,.v (.n .i64 s))],[(3,.blk [.v (.lf n (fJ js)),.v (.lf m (fM ms))]),(4,.blk [.v (.n .i64 c.kind),.v (.n .i64 c.link),.v (.n .i64 c.p.x),.v (.n .i64 c.p.y),.v (.n .i64 c.p.z),.v (.n .i64 c.n.x),.v (.n .i64 c.n.y),.v (.n .i64 c.n.z),.v (.n .i64 c.lo),.v (.n .i64 c.hi)])]⟩)) (fun _ _=>none) (fun G i s hi _ => ?_) (fun _ _ _ _ _=>trivial) (fun G s _ => ?_) (gN js ms q n m k c) 0 60 0 (by omega) (by omega) trivial).trans (zZX (gN js ms q n m k c) 0 _)
 ·have e:vJJ .i64 (1 * 2 ^ (min (gK js ms q n m k c) 64))=p2 (gK js ms q n m k c:Int):=by unfold p2; rw [toN]
  have e2:vJJ .i64 ((grF js ms q n m k c i).tdiv (p2 (gK js ms q n m k c:Int)))=hF js ms q n m k c i:=rfl;refine (rdTb G K js ms q n m k c i s).trans ?_;simp only [vJQ (show (i:Int) < ((gN js ms q n m k c):Int) by omega),qQQ (show i < 1000000 by omega),yW (show i < gN js ms q n m k c by omega),toN,vYV,vJQ (show 0≤(gK js ms q n m k c:Int) by omega),e,e2,vYH (show ¬ p2 (gK js ms q n m k c:Int)=0 by omega),vYG]
  all_goals rfl
 ·refine (rdTb G K js ms q n m k c (gN js ms q n m k c) s).trans ?_;rw [vYH (show ¬ ((gN js ms q n m k c):Int) < ((gN js ms q n m k c):Int) by omega)];rfl
noncomputable def fR (js:Nat→J) (ms:Nat→Ms) (q:Nat→Int) (n m k:Nat) (c:Cn):Int:=(max (-17592186044416) (min (vJJ .i64 ((vJJ .i64 ((vJJ .i64 (((vJJ .i64 (c.lo + c.hi)) / 2) - (mvQ js ms (unFQ (fQ q)) n m k c))) * 128)).tdiv (vJJ .i64 (1 * 2 ^ (min ((gK js ms q n m k c):Int).toNat 64))))) 17592186044416))
noncomputable def hTc (js:Nat→J) (ms:Nat→Ms) (q:Nat→Int) (n m k:Nat) (c:Cn) (i:Int) (r:Nat) (f:Nat→List PV):St:=⟨[(2,.v (.lf k (fQ q))),(3,.p 3 0),(8,.v (.lf (gN js ms q n m k c) (fQ (grF js ms q n m k c)))),(10,.v (.n .u64 ((gK js ms q n m k c):Int))),(11,.v (.n .i64 (sS js ms q n m k c))),(13,.v (.n .i64 (fR js ms q n m k c))),(14,.o 122),(15,.v (.n .i64 i))],[(3,.blk [.v (.lf n (fJ js)),.v (.lf m (fM ms))]),(122,.reg 2 1 (.fo r f))]⟩
set_option maxRecDepth 100000 in
theorem rdTc (G:St→Option (Ret × Mem)) (K:Cont) (js:Nat→J) (ms:Nat→Ms) (q:Nat→Int) (n m k:Nat) (c:Cn) (i:Int) (r:Nat) (f:Nat→List PV):qZW 60 (cxF Tf (OrL.k (orTa js ms q n m k c)) 60 76 (ntmF Tf 76)) (ckF Tf (OrL.k (orTa js ms q n m k c)) 60) (zZ []) (qY Tf 76 [0,1,0,1,1,1,1,1,1,1,1,1,1,1,1]) [0,1,0,1,1,1,1,1,1,1,1,1,1,1,1] (Tf.hint 76 (zY (qY Tf 76 [0,1,0,1,1,1,1,1,1,1,1,1,1,1,1]))) K G (hTc js ms q n m k c i r f) =
 (bif (decide (i < (k:Int))) then (bif (inB i k) then (bif (inB i (gN js ms q n m k c)) then (bif (decide (0≤((gK js ms q n m k c):Int))) then (bif (decide ((vJJ .i64 (1 * 2 ^ (min ((gK js ms q n m k c):Int).toNat 64)))=0)) then none
 else (bif (decide ((sS js ms q n m k c)=0)) then none
 else (bif (inB i n) then (bif (inB i n) then (bif (decide (r + 1≤1000000)) then (G (hTc js ms q n m k c (vJJ .i64 (i + 1)) (r + 1) (fun v=>qJQ (Nat.beq v r) [.n .i64 (max (js (i).toNat).lo (min (vJJ .i64 ((q (i).toNat) + (vJJ .i64 ((vJJ .i64 ((fR js ms q n m k c) * (vJJ .i64 (((grF js ms q n m k c) (i).toNat).tdiv (vJJ .i64 (1 * 2 ^ (min ((gK js ms q n m k c):Int).toNat 64))))))).tdiv (sS js ms q n m k c))))) (js (i).toNat).hi))] (f v))))
 else none)
 else none)
 else none)))
 else none)
 else none)
 else none)
 else (K (.exit 4) ⟨[(14,.o 122)],[(122,.reg 2 1 (.fo r f))]⟩)):=by kernel_rfl
theorem fR_eq (js:Nat→J) (ms:Nat→Ms) (q:Nat→Int) (n m k:Nat) (c:Cn):fR js ms q n m k c=fE js ms q n m k c:=by
 unfold fR fE;rw [Int.fdiv_eq_ediv_of_nonneg _ (show (0:Int)≤2 ^ 1 by decide),show (2:Int) ^ 1=2 from rfl];generalize vJJ .i64 (Int.tdiv _ _)=z;omega
theorem lpTc (K:Cont) (js:Nat→J) (ms:Nat→Ms) (q:Nat→Int) (n m k:Nat) (c:Cn) (h:gOk js ms q n m k c=true) (hs:¬ sS js ms q n m k c=0):LFL 60 (cxF Tf (OrL.k (orTa js ms q n m k c)) 60 76 (ntmF Tf 76)) (ckF Tf (OrL.k (orTa js ms q n m k c)) 60) (zZ []) (qY Tf 76 [0,1,0,1,1,1,1,1,1,1,1,1,1,1,1]) [0,1,0,1,1,1,1,1,1,1,1,1,1,1,1] (Tf.hint 76 (zY (qY Tf 76 [0,1,0,1,1,1,1,1,1,1,1,1,1,1,1]))) K 60 (hTc js ms q n m k c 0 0 (fun v=>[.n .i64 0]))=(K (.exit 4) ⟨[(14,.o 122)],[(122,.reg 2 1 (.fo k (zXJ (fun i:Nat=>[.n .i64 (nxE js ms q n m k c i)]) k 0 (fun v=>[.n .i64 0]))))]⟩):=by
 obtain ⟨_,_,h00,hnk,hgk,h1,h10⟩:=qUY h;have hK:gK js ms q n m k c≤48:=(yKV (g:=grF js ms q n m k c) (k:=gN js ms q n m k c) fun j hj=>jVY js ms q n m k c j (by omega)).1;have hp:=jZG (s:=(gK js ms q n m k c:Int)) (by omega);refine (qWK (L:=LFL 60 (cxF Tf (OrL.k (orTa js ms q n m k c)) 60 76 (ntmF Tf 76)) (ckF Tf (OrL.k (orTa js ms q n m k c)) 60) (zZ []) (qY Tf 76 [0,1,0,1,1,1,1,1,1,1,1,1,1,1,1]) [0,1,0,1,1,1,1,1,1,1,1,1,1,1,1] (Tf.hint 76 (zY (qY Tf 76 [0,1,0,1,1,1,1,1,1,1,1,1,1,1,1]))) K) (stp:=qZW 60 (cxF Tf (OrL.k (orTa js ms q n m k c)) 60 76 (ntmF Tf 76)) (ckF Tf (OrL.k (orTa js ms q n m k c)) 60) (zZ []) (qY Tf 76 [0,1,0,1,1,1,1,1,1,1,1,1,1,1,1]) [0,1,0,1,1,1,1,1,1,1,1,1,1,1,1] (Tf.hint 76 (zY (qY Tf 76 [0,1,0,1,1,1,1,1,1,1,1,1,1,1,1]))) K) (fun _ _=>rfl) (fun (i:Nat) (f:Nat→List PV)=>hTc js ms q n m k c (i:Int) i f) (fun _ _=>True) (fun _ _=>true) (fun (i:Nat) f v=>qJQ (Nat.beq v i) ([.n .i64 (nxE js ms q n m k c i)]) (f v)) (c:=k) (fun f=>(K (.exit 4) ⟨[(14,.o 122)],[(122,.reg 2 1 (.fo k f))]⟩)) (fun _ _=>none) (fun G i f hi _ => ?_) (fun _ _ _ _ _=>trivial) (fun G f _ => ?_) k 0 60 (fun v=>[.n .i64 0]) (by omega) (by omega) trivial).trans (zHH k 0 (fun v=>[.n .i64 0]))
 ·have e:vJJ .i64 (1 * 2 ^ (min (gK js ms q n m k c) 64))=p2 (gK js ms q n m k c:Int):=by unfold p2; rw [toN]
  have e2:vJJ .i64 ((grF js ms q n m k c i).tdiv (p2 (gK js ms q n m k c:Int)))=hF js ms q n m k c i:=rfl;refine (rdTc G K js ms q n m k c (i:Int) i f).trans ?_;simp only [vJQ (show (i:Int) < (k:Int) by omega),qQQ (show i < 1000000 by omega),yW (show i < gN js ms q n m k c by omega),toN,vYV,vJQ (show 0≤(gK js ms q n m k c:Int) by omega),e,e2,fR_eq,vYH hs,yW (show i < k by omega),yW (show i < n by omega),vJQ (show i + 1≤1000000 by omega),vYH (show ¬ p2 (gK js ms q n m k c:Int)=0 by omega),vYG];have hl:=(yQY h00 i (by omega)).2.1;have ew:max (js i).lo (min (vJJ .i64 (q i + vJJ .i64 ((vJJ .i64 (fE js ms q n m k c * hF js ms q n m k c i)).tdiv (sS js ms q n m k c)))) (js i).hi)=nxE js ms q n m k c i:=by unfold nxE; omega
  rw [ew]
 ·refine (rdTc G K js ms q n m k c (k:Int) k f).trans ?_;rw [vYH (show ¬ (k:Int) < (k:Int) by omega)];rfl
noncomputable def kJY (js:Nat→J) (ms:Nat→Ms) (q:Nat→Int) (n m k:Nat) (c:Cn):List (List Nat × qKX):=[([0,0,1,1,1,1,1],sumF (fun _:Unit=>(hTa js ms q n m k c 0)) (fun _=>()) (fun _ K=>(bif (gOk js ms q n m k c) then (K (.exit 0) ⟨[(2,.v (.lf k (fQ q))),(3,.p 3 0),(4,.p 4 0),(8,.v (.lf (gN js ms q n m k c) (fQ (grF js ms q n m k c)))),(10,.v (.n .u64 ((gK js ms q n m k c):Int)))],[(3,.blk [.v (.lf n (fJ js)),.v (.lf m (fM ms))]),(4,.blk [.v (.n .i64 c.kind),.v (.n .i64 c.link),.v (.n .i64 c.p.x),.v (.n .i64 c.p.y),.v (.n .i64 c.p.z),.v (.n .i64 c.n.x),.v (.n .i64 c.n.y),.v (.n .i64 c.n.z),.v (.n .i64 c.lo),.v (.n .i64 c.hi)])]⟩) else none))),([0,1,0,1,1,1,1,1,1,1],sumF (fun _:Unit=>(hTb js ms q n m k c 0 0)) (fun _=>()) (fun _ K=>(bif (gOk js ms q n m k c) then (K (.exit 2) ⟨[(2,.v (.lf k (fQ q))),(3,.p 3 0),(4,.p 4 0),(8,.v (.lf (gN js ms q n m k c) (fQ (grF js ms q n m k c)))),(10,.v (.n .u64 ((gK js ms q n m k c):Int))),(11,.v (.n .i64 (zWY (fun (i:Nat) (s:Int)=>vJJ .i64 (s + vJJ .i64 ((hF js ms q n m k c) i * (hF js ms q n m k c) i))) (gN js ms q n m k c) 0 0)))],[(3,.blk [.v (.lf n (fJ js)),.v (.lf m (fM ms))]),(4,.blk [.v (.n .i64 c.kind),.v (.n .i64 c.link),.v (.n .i64 c.p.x),.v (.n .i64 c.p.y),.v (.n .i64 c.p.z),.v (.n .i64 c.n.x),.v (.n .i64 c.n.y),.v (.n .i64 c.n.z),.v (.n .i64 c.lo),.v (.n .i64 c.hi)])]⟩) else none))),([0,1,0,1,1,1,1,1,1,1,1,1,1,1,1],sumF (fun _:Unit=>(hTc js ms q n m k c 0 0 (fun v=>[.n .i64 0]))) (fun _=>()) (fun _ K=>(bif (gOk js ms q n m k c && !decide (sS js ms q n m k c=0)) then (K (.exit 4) ⟨[(14,.o 122)],[(122,.reg 2 1 (.fo k (zXJ (fun i:Nat=>[.n .i64 (nxE js ms q n m k c i)]) k 0 (fun v=>[.n .i64 0]))))]⟩) else none)))]
set_option maxRecDepth 100000 in
theorem pxstt0 (js:Nat→J) (ms:Nat→Ms) (q:Nat→Int) (n m k:Nat) (c:Cn):qYH Tf (OrL.k (orTa js ms q n m k c)) (zZ (kJY js ms q n m k c)) 60 76 [.a [.lf n (fJ js),.lf m (fM ms)],.a (cp c),.lf k (fQ q)] =
 (bif (g1 [.a [.lf n (fJ js),.lf m (fM ms)],.a (cp c),.lf k (fQ q)]) then (bif (gOk js ms q n m k c) then (bif (g1 [.lf k (fQ q)] && decide (k≤50)) then (bif (g1 [.a [.lf n (fJ js),.lf m (fM ms)],.l [(cp c)],.lf (bif smQ q k then k else 0) (fB (ptB q))] && decide (k≤50)) then (bif (hQ js ms q n m k c) then some (.v (.t [.lf k (fQ q),.b true]),[])
 else (bif (gSt (hTa js ms q n m k c 0) (hTa js ms q n m k c 0)) then (bif (gOk js ms q n m k c) then (bif (gSt (hTb js ms q n m k c 0 0) (hTb js ms q n m k c 0 0)) then (bif (gOk js ms q n m k c) then (bif (decide ((sS js ms q n m k c)=0)) then some (.v (.t [.lf k (fQ q),.b true]),[])
 else (bif (Ta.iw (vJJ .i64 (c.lo + c.hi))) then (bif (gEq (.t [.a [.lf n (fJ js),.lf m (fM ms)],.a (cp c)]) (.t [.a [.lf n (fJ js),.lf m (fM ms)],.a (cp c)]) && (decide (k≤50) && gFQ (fQ q))) then (bif (decide (0≤((gK js ms q n m k c):Int))) then (bif (decide ((vJJ .i64 (1 * 2 ^ (min ((gK js ms q n m k c):Int).toNat 64)))=0)) then none
 else (bif (gSt (hTc js ms q n m k c 0 0 (fun v=>[.n .i64 0])) (hTc js ms q n m k c 0 0 (fun v=>[.n .i64 0]))) then (bif (gOk js ms q n m k c && !decide (sS js ms q n m k c=0)) then some (.v (.t [.lf k (zXJ (fun i:Nat=>[.n .i64 (nxE js ms q n m k c i)]) k 0 (fun v=>[.n .i64 0])),.b true]),[])
 else none)
 else none))
 else none)
 else none)
 else none))
 else none)
 else none)
 else none)
 else none))
 else none)
 else none)
 else some (.v (.t [.l [],.b false]),[]))
 else none):=by kernel_rfl
theorem snd_stt0 (js:Nat→J) (ms:Nat→Ms) (q:Nat→Int) (n m k:Nat) (c:Cn) (hk:k≤50):zH Tryz.prog 76 [.a [.lf n (fJ js),.lf m (fM ms)],.a (cp c),.lf k (fQ q)] (bif gOk js ms q n m k c then (bif hQ js ms q n m k c || decide (sS js ms q n m k c=0) then .v (.t [.lf k (fQ q),.b true]) else .v (.t [.lf k (zXJ (fun i:Nat=>[.n .i64 (nxE js ms q n m k c i)]) k 0 (fun v=>[.n .i64 0])),.b true])) else .v (.t [.l [],.b false])):=by
 refine kX (N:=60) (LO:=zZ (kJY js ms q n m k c)) qVU yQ (OrL.ok (l:=(orTa js ms q n m k c)) ⟨qZX (snd_rgrd js ms q n m k c),qXG (fun h=>snd_rhq js ms q n m k c (vJZ h)),qXG (fun h=>zQY q k (vJZ h)),ok_mq js ms n m c,Ta.ok_rFloor,ok_ft _ _,trivial⟩) (fun p S hp => ?_) ?_
 ·refine kV (L:=qY Tf 76) (l:=(kJY js ms q n m k c)) (show AllP _ (kJY js ms q n m k c) from ⟨?_,?_,?_,trivial⟩) p S hp
  ·dsimp only;refine qZH (T:=Tf) (ok:=(OrL.k (orTa js ms q n m k c))) (f:=76) (LO:=zZ []) (p:=[0,0,1,1,1,1,1]) qJG ?_;intro _ K r hr;obtain ⟨hg,hr⟩:=qH hr
   skip
   exact (lpTa K js ms q n m k c hg).trans hr
  ·dsimp only;refine qZH (T:=Tf) (ok:=(OrL.k (orTa js ms q n m k c))) (f:=76) (LO:=zZ []) (p:=[0,1,0,1,1,1,1,1,1,1]) qJG ?_;intro _ K r hr;obtain ⟨hg,hr⟩:=qH hr
   skip
   exact (lpTb K js ms q n m k c hg).trans hr
  ·dsimp only;refine qZH (T:=Tf) (ok:=(OrL.k (orTa js ms q n m k c))) (f:=76) (LO:=zZ []) (p:=[0,1,0,1,1,1,1,1,1,1,1,1,1,1,1]) qJG ?_;intro _ K r hr;obtain ⟨hg,hr⟩:=qH hr;rw [vQJ] at hg;have hs:¬ sS js ms q n m k c=0:=by simpa using hg.2
   exact (lpTc K js ms q n m k c hg.1 hs).trans hr
 ·refine (pxstt0 js ms q n m k c).trans ?_;have hf:gFQ (fQ q)=true:=(zXQ rfl).1;simp only [g1_t,yG,qXZ,vJQ hk,hf,Ta.iww,vZH,Bool.and_true,vYV];cases h:gOk js ms q n m k c with
  | false=>rfl
  | true =>
   cases hh:hQ js ms q n m k c with
   | true=>rfl
   | false =>
    obtain ⟨_,_,_,hnk,hgk,h1,h10⟩:=qUY h;have hK:gK js ms q n m k c≤48:=(yKV (g:=grF js ms q n m k c) (k:=gN js ms q n m k c) fun j hj=>jVY js ms q n m k c j (by omega)).1;have hp:=jZG (s:=(gK js ms q n m k c:Int)) (by omega);have hp':¬ vJJ .i64 (1 * 2 ^ (min (gK js ms q n m k c:Int).toNat 64))=0:=by show ¬ p2 _=0; omega
    by_cases hs:sS js ms q n m k c=0
    ·simp only [vJQ hs,vYV,vYG,Bool.or_true]
    ·simp only [vYV,vYG,vYH hs,vYH hp',vJQ (show (0:Int)≤(gK js ms q n m k c:Int) by omega),Bool.not_false,Bool.or_false,vZJ]
     try rfl
theorem snd_stt (js:Nat→J) (ms:Nat→Ms) (q:Nat→Int) (n m k:Nat) (c:Cn) (hk:k≤50):zH Tryz.prog 76 [.a [.lf n (fJ js),.lf m (fM ms)],.a (cp c),.lf k (fQ q)] (.v (.t [.lf (gN js ms q n m k c) (fQ (stQ js ms q n m k c)),.b (gOk js ms q n m k c)])):=by
 have h0:=snd_stt0 js ms q n m k c hk;cases h:gOk js ms q n m k c with
 | true =>
  obtain ⟨_,_,_,hnk,hgk,h1,h10⟩:=qUY h;rw [hgk];rw [h,vYV] at h0;cases hh:hQ js ms q n m k c || decide (sS js ms q n m k c=0) with
  | true =>
   rw [hh,vYV] at h0;have e:stQ js ms q n m k c=q:=by funext i; unfold stQ; rw [hh]; rfl
   rw [e];exact h0
  | false =>
   rw [hh,vYG] at h0;refine qQW (Same.t (xs:=[_,_]) ⟨zQJ fun j (hj:j < k) => ?_,Same.refl _,trivial⟩) h0;rw [yZY,if_pos (by omega)];show [PV.n .i64 _]=[PV.n .i64 (stQ js ms q n m k c j)];unfold stQ;rw [hh]; rfl
 | false =>
  rw [h,vYG] at h0;have e:gN js ms q n m k c=0:=by unfold gN; rw [h]; rfl
  rw [e];exact qQW (Same.t (xs:=[_,_]) ⟨Same.lf rfl,Same.refl _,trivial⟩) h0
end Go.Proofs.YtmffoiemmlcmfaaGreat.Ns
namespace Go.Sx
theorem jKX {js:List J} {bx:List Iv}:∀ n,n≤js.length→n≤bx.length→(lks js bx n).length=n
 | 0,_,_=>rfl
 | n + 1,h1,h2=>by
  have e1:js[n]? = some js[n]:=vQK (by omega);have e2:bx[n]? = some bx[n]:=vQK (by omega);rw [yQX e1 e2,List.length_append,jKX n (by omega) (by omega)];rfl
end Go.Sx
namespace Go.Sx
def ic (x:Int):List Value:=[.int .i64 x]
def icC (cs:List Int):List Value:=(cs.map ic).flatten
theorem jKG (cs:List Int) (x:Int):icC (cs ++ [x])=icC cs ++ ic x:=by simp [icC]
def cfgs (l:List Int) (js:List J):Nat→List Int × Nat
 | 0=>([],0)
 | k + 1=>match js[k]? with
  | some j=>if srcR l (cfgs l js k).2 6=0 then ((cfgs l js k).1 ++ [j.lo],(cfgs l js k).2 + 1) else if srcR l (cfgs l js k).2 6=1 then ((cfgs l js k).1 ++ [j.hi],(cfgs l js k).2 + 1)
   else ((cfgs l js k).1 ++ [j.lo + srcR l ((cfgs l js k).2 + 1) (j.hi - j.lo + 1)],(cfgs l js k).2 + 1 + 1)
  | none=>cfgs l js k
theorem cfg_0 {l:List Int} {js:List J} {k q:Nat} {j:J} {cs:List Int} {r:Int} (hjk:js[k]? = some j) (h:cfgs l js k=(cs,q)) (hr:r=srcR l q 6) (h0:r=0):cfgs l js (k + 1)=(cs ++ [j.lo],q + 1):=by
 simp only [cfgs,hjk,h,← hr,h0,if_pos]
theorem cfg_1 {l:List Int} {js:List J} {k q:Nat} {j:J} {cs:List Int} {r:Int} (hjk:js[k]? = some j) (h:cfgs l js k=(cs,q)) (hr:r=srcR l q 6) (h1:r=1):cfgs l js (k + 1)=(cs ++ [j.hi],q + 1):=by
 simp only [cfgs,hjk,h,← hr,h1];rfl
theorem cfg_2 {l:List Int} {js:List J} {k q:Nat} {j:J} {cs:List Int} {r x:Int} (hjk:js[k]? = some j) (h:cfgs l js k=(cs,q)) (hr:r=srcR l q 6) (h0:¬ r=0) (h1:¬ r=1) (hx:x=srcR l (q + 1) (j.hi - j.lo + 1)):cfgs l js (k + 1)=(cs ++ [j.lo + x],q + 1 + 1):=by
 simp only [cfgs,hjk,h,← hr,if_neg h0,if_neg h1,← hx]
theorem cfgs_len {l:List Int} {js:List J}:∀ k,k≤js.length→(cfgs l js k).1.length=k
 | 0,_=>rfl
 | k + 1,h=>by
  have hk:js[k]? = some js[k]:=vQK (by omega);have h2:=cfgs_len (l:=l) (js:=js) k (by omega);simp only [cfgs,hk];split
  ·simp [h2]
  ·split <;> simp [h2]
end Go.Sx
namespace Go.Sx
def Ex (a:Iv):Prop:=a.lo=a.hi
end Go.Sx

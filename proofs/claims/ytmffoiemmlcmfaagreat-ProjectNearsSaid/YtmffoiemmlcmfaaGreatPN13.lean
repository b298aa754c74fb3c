/- Part 13 of the texts behind the last one: rules and contracts. No condition. -/
import Derived.Test.YtmffoiemmlcmfaaGreatPN12
open Option.some renaming injEq → vQZ
open Prod.mk renaming injEq → vQY
open Bool renaming and_eq_true → vQJ, and_self → vZJ, true_and → vZH
open List renaming getElem?_eq_getElem → vQK, mem_of_getElem? → vQG, mem_cons_self → vZQ, getElem?_map → vZY
open Classical renaming propDecidable → vYJ
open Go.IntKind renaming wrap → vJZ
namespace Go.Proofs.YtmffoiemmlcmfaaGreat.No
open Go.Rx Rt Go.Sx Go.RowKit Od Ov Pc Na Nb Nc Nd Nx Nf Ng Nj Nl Nm Nn
theorem qHQ {f e sz:Nat} {ps:List PV} {rows rows':Go.Rx.Rows} (h:rows.L=rows'.L) (hs:zH Tryz.prog f ps (.ow e sz rows)):zH Tryz.prog f ps (.ow e sz rows'):=by
 refine ⟨hs.1,fun w F vals hF hal=>(hs.2 w F vals hF hal).mono fun _ w' ⟨v,F',he,hg,f1,f2,hr⟩=>⟨v,F',he,hg,f1,f2,?_⟩⟩;have e:rows.len=rows'.len:=by rw [← Rows.len_L,h,Rows.len_L]
 simp only [RRet,e,h] at hr ⊢;exact hr
theorem cl_1 (x0:Int):zH Tryz.prog 31 [.l [[.n .i64 x0]]] (.ow 2 1 (.l [[.n .i64 x0]])):=qG (N:=60) yJ yY (OrL.ok (l:=[]) trivial) (by kernel_rfl)
theorem cl_2 (x0 x1:Int):zH Tryz.prog 31 [.l [[.n .i64 x0],[.n .i64 x1]]] (.ow 2 1 (.l [[.n .i64 x0],[.n .i64 x1]])):=qG (N:=60) yJ yY (OrL.ok (l:=[]) trivial) (by kernel_rfl)
theorem cl_3 (x0 x1 x2:Int):zH Tryz.prog 31 [.l [[.n .i64 x0],[.n .i64 x1],[.n .i64 x2]]] (.ow 2 1 (.l [[.n .i64 x0],[.n .i64 x1],[.n .i64 x2]])):=qG (N:=60) yJ yY (OrL.ok (l:=[]) trivial) (by kernel_rfl)
theorem cl_4 (x0 x1 x2 x3:Int):zH Tryz.prog 31 [.l [[.n .i64 x0],[.n .i64 x1],[.n .i64 x2],[.n .i64 x3]]] (.ow 2 1 (.l [[.n .i64 x0],[.n .i64 x1],[.n .i64 x2],[.n .i64 x3]])):=qG (N:=60) yJ yY (OrL.ok (l:=[]) trivial) (by kernel_rfl)
theorem cl_5 (x0 x1 x2 x3 x4:Int):zH Tryz.prog 31 [.l [[.n .i64 x0],[.n .i64 x1],[.n .i64 x2],[.n .i64 x3],[.n .i64 x4]]] (.ow 2 1 (.l [[.n .i64 x0],[.n .i64 x1],[.n .i64 x2],[.n .i64 x3],[.n .i64 x4]])):=qG (N:=60) yJ yY (OrL.ok (l:=[]) trivial) (by kernel_rfl)
theorem cl_6 (x0 x1 x2 x3 x4 x5:Int):zH Tryz.prog 31 [.l [[.n .i64 x0],[.n .i64 x1],[.n .i64 x2],[.n .i64 x3],[.n .i64 x4],[.n .i64 x5]]] (.ow 2 1 (.l [[.n .i64 x0],[.n .i64 x1],[.n .i64 x2],[.n .i64 x3],[.n .i64 x4],[.n .i64 x5]])):=qG (N:=60) yJ yY (OrL.ok (l:=[]) trivial) (by kernel_rfl)
theorem cl_7 (x0 x1 x2 x3 x4 x5 x6:Int):zH Tryz.prog 31 [.l [[.n .i64 x0],[.n .i64 x1],[.n .i64 x2],[.n .i64 x3],[.n .i64 x4],[.n .i64 x5],[.n .i64 x6]]] (.ow 2 1 (.l [[.n .i64 x0],[.n .i64 x1],[.n .i64 x2],[.n .i64 x3],[.n .i64 x4],[.n .i64 x5],[.n .i64 x6]])):=qG (N:=60) yJ yY (OrL.ok (l:=[]) trivial) (by kernel_rfl)
theorem cl_8 (x0 x1 x2 x3 x4 x5 x6 x7:Int):zH Tryz.prog 31 [.l [[.n .i64 x0],[.n .i64 x1],[.n .i64 x2],[.n .i64 x3],[.n .i64 x4],[.n .i64 x5],[.n .i64 x6],[.n .i64 x7]]] (.ow 2 1 (.l [[.n .i64 x0],[.n .i64 x1],[.n .i64 x2],[.n .i64 x3],[.n .i64 x4],[.n .i64 x5],[.n .i64 x6],[.n .i64 x7]])):=qG (N:=60) yJ yY (OrL.ok (l:=[]) trivial) (by kernel_rfl)
theorem cl_9 (x0 x1 x2 x3 x4 x5 x6 x7 x8:Int):zH Tryz.prog 31 [.l [[.n .i64 x0],[.n .i64 x1],[.n .i64 x2],[.n .i64 x3],[.n .i64 x4],[.n .i64 x5],[.n .i64 x6],[.n .i64 x7],[.n .i64 x8]]] (.ow 2 1 (.l [[.n .i64 x0],[.n .i64 x1],[.n .i64 x2],[.n .i64 x3],[.n .i64 x4],[.n .i64 x5],[.n .i64 x6],[.n .i64 x7],[.n .i64 x8]])):=qG (N:=60) yJ yY (OrL.ok (l:=[]) trivial) (by kernel_rfl)
theorem cl_10 (x0 x1 x2 x3 x4 x5 x6 x7 x8 x9:Int):zH Tryz.prog 31 [.l [[.n .i64 x0],[.n .i64 x1],[.n .i64 x2],[.n .i64 x3],[.n .i64 x4],[.n .i64 x5],[.n .i64 x6],[.n .i64 x7],[.n .i64 x8],[.n .i64 x9]]] (.ow 2 1 (.l [[.n .i64 x0],[.n .i64 x1],[.n .i64 x2],[.n .i64 x3],[.n .i64 x4],[.n .i64 x5],[.n .i64 x6],[.n .i64 x7],[.n .i64 x8],[.n .i64 x9]])):=qG (N:=60) yJ yY (OrL.ok (l:=[]) trivial) (by kernel_rfl)
theorem zHV (q:Nat→Int) (k:Nat) (h:1≤k∧k≤10):zH Tryz.prog 31 [.lf k (fQ q)] (.ow 2 1 (.fo k (fQ q))):=by
 have:k=1 ∨ k=2 ∨ k=3 ∨ k=4 ∨ k=5 ∨ k=6 ∨ k=7 ∨ k=8 ∨ k=9 ∨ k=10:=by omega
 rcases this with rfl | rfl | rfl | rfl | rfl | rfl | rfl | rfl | rfl | rfl
 ·exact qHQ rfl (qYG (fun _ _ _=>Sames.al (ys:=[_]) ⟨Same.l rfl,trivial⟩) (cl_1 (q 0)))
 ·exact qHQ rfl (qYG (fun _ _ _=>Sames.al (ys:=[_]) ⟨Same.l rfl,trivial⟩) (cl_2 (q 0) (q 1)))
 ·exact qHQ rfl (qYG (fun _ _ _=>Sames.al (ys:=[_]) ⟨Same.l rfl,trivial⟩) (cl_3 (q 0) (q 1) (q 2)))
 ·exact qHQ rfl (qYG (fun _ _ _=>Sames.al (ys:=[_]) ⟨Same.l rfl,trivial⟩) (cl_4 (q 0) (q 1) (q 2) (q 3)))
 ·exact qHQ rfl (qYG (fun _ _ _=>Sames.al (ys:=[_]) ⟨Same.l rfl,trivial⟩) (cl_5 (q 0) (q 1) (q 2) (q 3) (q 4)))
 ·exact qHQ rfl (qYG (fun _ _ _=>Sames.al (ys:=[_]) ⟨Same.l rfl,trivial⟩) (cl_6 (q 0) (q 1) (q 2) (q 3) (q 4) (q 5)))
 ·exact qHQ rfl (qYG (fun _ _ _=>Sames.al (ys:=[_]) ⟨Same.l rfl,trivial⟩) (cl_7 (q 0) (q 1) (q 2) (q 3) (q 4) (q 5) (q 6)))
 ·exact qHQ rfl (qYG (fun _ _ _=>Sames.al (ys:=[_]) ⟨Same.l rfl,trivial⟩) (cl_8 (q 0) (q 1) (q 2) (q 3) (q 4) (q 5) (q 6) (q 7)))
 ·exact qHQ rfl (qYG (fun _ _ _=>Sames.al (ys:=[_]) ⟨Same.l rfl,trivial⟩) (cl_9 (q 0) (q 1) (q 2) (q 3) (q 4) (q 5) (q 6) (q 7) (q 8)))
 ·exact qHQ rfl (qYG (fun _ _ _=>Sames.al (ys:=[_]) ⟨Same.l rfl,trivial⟩) (cl_10 (q 0) (q 1) (q 2) (q 3) (q 4) (q 5) (q 6) (q 7) (q 8) (q 9)))
theorem bz {c:Bool} {x y:Int} (h:(bif c then x else y)=0) (hx:x ≠ 0):c=false∧y=0:=by
 cases c with
 | true=>exact absurd h hx
 | false=>exact ⟨rfl,h⟩
theorem cj_lim {i:Int} {j:J} (h:cjT (fun e=>e) i j=0) : -4194304≤j.lo∧j.lo≤j.hi∧j.hi≤4194304:=by
 unfold cjT at h
 iterate 10 obtain ⟨_,h⟩:=bz h (by decide)
 by_cases k0:j.kind=0
 ·rw [vYG k0,cond_true] at h;obtain ⟨a,h⟩:=bz h (by decide);obtain ⟨b,h⟩:=bz h (by decide);obtain ⟨c,h⟩:=bz h (by decide);have a:=vJQ a;have b:=vJQ b;have c:=vJQ c;omega
 rw [vYV k0,cond_false] at h;by_cases k1:j.kind=1
 ·rw [vYG k1,cond_true] at h;obtain ⟨a,h⟩:=bz h (by decide);obtain ⟨b,h⟩:=bz h (by decide);obtain ⟨c,h⟩:=bz h (by decide);have a:=vJQ a;have b:=vJQ b;have c:=vJQ c;omega
 rw [vYV k1,cond_false] at h;by_cases k2:j.kind=2
 ·rw [vYG k2,cond_true] at h;obtain ⟨a,h⟩:=bz h (by decide);obtain ⟨b,h⟩:=bz h (by decide);obtain ⟨c,h⟩:=bz h (by decide);have a:=vJQ a;have b:=vJQ b;have c:=vJQ c;omega
 rw [vYV k2,cond_false] at h;by_cases k3:j.kind=3
 ·rw [vYG k3,cond_true] at h;obtain ⟨a,h⟩:=bz h (by decide);obtain ⟨b,h⟩:=bz h (by decide);obtain ⟨c,h⟩:=bz h (by decide);have a:=vJQ a;have b:=vJQ b;have c:=vJQ c;omega
 rw [vYV k3,cond_false] at h;obtain ⟨a,h⟩:=bz h (by decide);obtain ⟨b,h⟩:=bz h (by decide);obtain ⟨c,h⟩:=bz h (by decide);have a:=vJQ a;have b:=vJQ b;have c:=vJQ c;omega
theorem yQZ {js:Nat→J} {ms:Nat→Ms} {n m:Nat} (h:rErr js ms n m=0):∀ i,i < n → -4194304≤(js i).lo∧(js i).lo≤(js i).hi∧(js i).hi≤4194304:=fun i hi =>
 cj_lim (kQX (kJU (jGW h) i (Nat.zero_le _) (by omega)))
def gA (js:Nat→J) (q:Nat→Int) (i:Nat):Int:=max (vJZ .i64 (q i - 64)) (js i).lo
def gB (js:Nat→J) (q:Nat→Int) (i:Nat):Int:=min (vJZ .i64 (q i + 64)) (js i).hi
def upd (q:Nat→Int) (i:Nat) (x:Int):Nat→Int:=fun v=>bif Nat.beq v i then x else q v
noncomputable def grd (js:Nat→J) (ms:Nat→Ms) (q:Nat→Int) (n m k:Nat) (c:Cn) (i:Nat):Int:=bif decide (gA js q i=gB js q i) then 0 else vJZ .i64 ((vJZ .i64 ((vJZ .i64 (mvQ js ms (upd q i (gB js q i)) n m k c - mvQ js ms (upd q i (gA js q i)) n m k c)) * 128)).tdiv (vJZ .i64 (gB js q i - gA js q i)))
theorem gFQ_lam (X:Nat→Int):gFQ (fun v=>[.n .i64 (X v)])=true:=(zWJ (q:=X) rfl).1
theorem unFQ_lam (X:Nat→Int):unFQ (fun v=>[.n .i64 (X v)])=X:=rfl
theorem bif2 (b:Bool) (x y z:Int):(bif b then x else bif b then y else z)=bif b then x else z:=by cases b <;> rfl
theorem updq (q:Nat→Int) (v i:Nat):(bif Nat.beq v i then q i else q v)=q v:=by
 rw [zJQ];by_cases h:v=i
 ·rw [vYG h,h]; rfl
 ·rw [vYV h]; rfl
theorem gab {js:Nat→J} {ms:Nat→Ms} {q:Nat→Int} {n m k i:Nat} (h:qIn js ms q n m k=true) (hi:i < n) (e:¬ gA js q i=gB js q i):¬ vJZ .i64 (gB js q i - gA js q i)=0:=by
 obtain ⟨h0,_,hq⟩:=qUU h;have h1:=yQZ h0 i hi;have h2:=hq i hi;unfold gA gB at e ⊢;rw [zY (x:=q i - 64) (by omega),zY (x:=q i + 64) (by omega)] at e ⊢;rw [zY (by omega)];omega
noncomputable def orGr (js:Nat→J) (ms:Nat→Ms) (q:Nat→Int) (n m k:Nat) (c:Cn):OrL:=[(28,o_cr [.a [.lf n (fJ js),.lf m (fM ms)],.lf k (fQ q)] (.v (.b (qIn js ms q n m k)))),(27,o_cr [.a [.lf n (fJ js),.lf m (fM ms)],.l [cp c]] (.v (.b (cErr js ms n m (fun _=>c) 1)))),(100,o_vq js ms n m c),(31,o_lk [.lf k (fQ q)] (decide (1≤k∧k≤10)) (.ow 2 1 (.fo k (fQ q))))]
noncomputable def hGr (js:Nat→J) (ms:Nat→Ms) (q:Nat→Int) (n m k:Nat) (c:Cn) (i:Int) (g:Nat→Int) (t:Nat→Int):St:=⟨[(2,.v (.lf k (fQ q))),(3,.p 3 0),(4,.p 4 0),(8,.o 29),(9,.o 31),(33,.v (.lf n (fJ js))),(34,.v (.n .i64 (n:Int))),(35,.v (.n .i64 i))],[(3,.blk [.v (.lf n (fJ js)),.v (.lf m (fM ms))]),(4,.blk [.v (.n .i64 c.kind),.v (.n .i64 c.link),.v (.n .i64 c.p.x),.v (.n .i64 c.p.y),.v (.n .i64 c.p.z),.v (.n .i64 c.n.x),.v (.n .i64 c.n.y),.v (.n .i64 c.n.z),.v (.n .i64 c.lo),.v (.n .i64 c.hi)]),(29,.reg 2 1 (.fo (k:Int).toNat (fQ g))),(31,.reg 2 1 (.fo k (fun v=>[.n .i64 (t v)])))]⟩
set_option maxRecDepth 100000 in
theorem rdGr (G:St→Option (Ret × Mem)) (K:Cont) (js:Nat→J) (ms:Nat→Ms) (q:Nat→Int) (n m k:Nat) (c:Cn) (i:Int) (g:Nat→Int) (t:Nat→Int):qXW 60 (cxF Tf (OrL.k (orGr js ms q n m k c)) 60 97 (ntmF Tf 97)) (ckF Tf (OrL.k (orGr js ms q n m k c)) 60) (zX []) (qK Tf 97 [0,1,0,1,1,1,1]) [0,1,0,1,1,1,1] (Tf.hint 97 (zJ (qK Tf 97 [0,1,0,1,1,1,1]))) K G (hGr js ms q n m k c i g t) =
 (bif (decide (i < (n:Int))) then (bif (inB i n) then (bif (inB i k) then (bif (inB i k) then (bif (decide ((max (vJZ .i64 ((q (i).toNat) - 64)) (js (i).toNat).lo)=(min (vJZ .i64 ((q (i).toNat) + 64)) (js (i).toNat).hi))) then (G (hGr js ms q n m k c (vJZ .i64 (i + 1)) (fun v=>(g v)) (fun v=>(t v))))
 else (bif (inB i k) then (bif (gEq (.t [.a [.lf n (fJ js),.lf m (fM ms)],.a (cp c)]) (.t [.a [.lf n (fJ js),.lf m (fM ms)],.a (cp c)]) && (decide (k≤50) && gFQ (fun v=>[.n .i64 (bif (Nat.beq v (i).toNat) then (max (vJZ .i64 ((q (i).toNat) - 64)) (js (i).toNat).lo) else (t v))]))) then (bif (inB i k) then (bif (gEq (.t [.a [.lf n (fJ js),.lf m (fM ms)],.a (cp c)]) (.t [.a [.lf n (fJ js),.lf m (fM ms)],.a (cp c)]) && (decide (k≤50) && gFQ (fun v=>[.n .i64 (bif (Nat.beq v (i).toNat) then (min (vJZ .i64 ((q (i).toNat) + 64)) (js (i).toNat).hi) else (bif (Nat.beq v (i).toNat) then (max (vJZ .i64 ((q (i).toNat) - 64)) (js (i).toNat).lo) else (t v)))]))) then (bif (inB i k) then (bif (inB i k) then (bif (decide ((vJZ .i64 ((min (vJZ .i64 ((q (i).toNat) + 64)) (js (i).toNat).hi) - (max (vJZ .i64 ((q (i).toNat) - 64)) (js (i).toNat).lo)))=0)) then none
 else (bif (inB i (k:Int).toNat) then (G (hGr js ms q n m k c (vJZ .i64 (i + 1)) (fun v=>(bif (Nat.beq v (i).toNat) then (vJZ .i64 ((vJZ .i64 ((vJZ .i64 ((mvQ js ms (unFQ (fun v=>[.n .i64 (bif (Nat.beq v (i).toNat) then (min (vJZ .i64 ((q (i).toNat) + 64)) (js (i).toNat).hi) else (bif (Nat.beq v (i).toNat) then (max (vJZ .i64 ((q (i).toNat) - 64)) (js (i).toNat).lo) else (t v)))])) n m k c) - (mvQ js ms (unFQ (fun v=>[.n .i64 (bif (Nat.beq v (i).toNat) then (max (vJZ .i64 ((q (i).toNat) - 64)) (js (i).toNat).lo) else (t v))])) n m k c))) * 128)).tdiv (vJZ .i64 ((min (vJZ .i64 ((q (i).toNat) + 64)) (js (i).toNat).hi) - (max (vJZ .i64 ((q (i).toNat) - 64)) (js (i).toNat).lo))))) else (g v))) (fun v=>(bif (Nat.beq v (i).toNat) then (q (i).toNat) else (bif (Nat.beq v (i).toNat) then (min (vJZ .i64 ((q (i).toNat) + 64)) (js (i).toNat).hi) else (bif (Nat.beq v (i).toNat) then (max (vJZ .i64 ((q (i).toNat) - 64)) (js (i).toNat).lo) else (t v)))))))
 else none))
 else none)
 else none)
 else none)
 else none)
 else none)
 else none))
 else none)
 else none)
 else none)
 else (K (.exit 0) ⟨[(8,.o 29)],[(29,.reg 2 1 (.fo (k:Int).toNat (fQ g)))]⟩)):=by kernel_rfl
theorem lpGr (K:Cont) (js:Nat→J) (ms:Nat→Ms) (q:Nat→Int) (n m k:Nat) (c:Cn) (h:qIn js ms q n m k=true):LFL 60 (cxF Tf (OrL.k (orGr js ms q n m k c)) 60 97 (ntmF Tf 97)) (ckF Tf (OrL.k (orGr js ms q n m k c)) 60) (zX []) (qK Tf 97 [0,1,0,1,1,1,1]) [0,1,0,1,1,1,1] (Tf.hint 97 (zJ (qK Tf 97 [0,1,0,1,1,1,1]))) K 60 (hGr js ms q n m k c 0 (fun v=>0) (fun v=>(q v)))=(K (.exit 0) ⟨[(8,.o 29)],[(29,.reg 2 1 (.fo (k:Int).toNat (fQ (qZV (grd js ms q n m k c) n 0 (fun v=>0)))))]⟩):=by
 obtain ⟨h0,rfl,hq⟩:=qUU h;have h10:=qWV h0;refine (zYX (L:=LFL 60 (cxF Tf (OrL.k (orGr js ms q n m n c)) 60 97 (ntmF Tf 97)) (ckF Tf (OrL.k (orGr js ms q n m n c)) 60) (zX []) (qK Tf 97 [0,1,0,1,1,1,1]) [0,1,0,1,1,1,1] (Tf.hint 97 (zJ (qK Tf 97 [0,1,0,1,1,1,1]))) K) (stp:=qXW 60 (cxF Tf (OrL.k (orGr js ms q n m n c)) 60 97 (ntmF Tf 97)) (ckF Tf (OrL.k (orGr js ms q n m n c)) 60) (zX []) (qK Tf 97 [0,1,0,1,1,1,1]) [0,1,0,1,1,1,1] (Tf.hint 97 (zJ (qK Tf 97 [0,1,0,1,1,1,1]))) K) (fun _ _=>rfl) (fun (i:Nat) (t:Nat→Int)=>hGr js ms q n m n c (i:Int) t q) (fun i t=>∀ v,i≤v→t v=0) (fun _ _=>true) (fun (i:Nat) t=>(fun v=>bif Nat.beq v i then grd js ms q n m n c i else t v)) (c:=n) (fun t=>(K (.exit 0) ⟨[(8,.o 29)],[(29,.reg 2 1 (.fo (n:Int).toNat (fQ t)))]⟩)) (fun _ _=>none) (fun G i t hi hv => ?_) (fun i t _ hv _ v h => ?_) (fun G t _ => ?_) n 0 60 (fun v=>0) (by omega) (by omega) (fun _ _=>rfl)).trans (zWH n 0 _)
 ·refine (rdGr G K js ms q n m n c i t q).trans ?_;have eA:max (vJZ .i64 (q i - 64)) (js i).lo=gA js q i:=rfl;have eB:min (vJZ .i64 (q i + 64)) (js i).hi=gB js q i:=rfl;simp only [vYG (show (i:Int) < (n:Int) by omega),qZZ (show i < 1000000 by omega),jY (show i < n by omega),toN,cond_true,zQX,vYG (show n≤50 by omega),vZH,gFQ_lam,unFQ_lam,bif2,updq q,eA,eB];by_cases e:gA js q i=gB js q i
  ·rw [vYG e,cond_true]
   have:(fun v=>t v)=(fun v=>bif Nat.beq v i then grd js ms q n m n c i else t v):=by
    funext v;rw [zJQ];by_cases hvi:v=i
    ·rw [vYG hvi,cond_true,hv v (by omega)];unfold grd;rw [vYG e]; rfl
    ·rw [vYV hvi]; rfl
   rw [this]
  ·rw [vYV e,cond_false,vYV (gab h hi e),cond_false]
   have:grd js ms q n m n c i=vJZ .i64 ((vJZ .i64 ((vJZ .i64 (mvQ js ms (upd q i (gB js q i)) n m n c - mvQ js ms (upd q i (gA js q i)) n m n c)) * 128)).tdiv (vJZ .i64 (gB js q i - gA js q i))):=by
    unfold grd;rw [vYV e]; rfl
   rw [this];rfl
 ·show (bif Nat.beq v i then _ else t v)=0;rw [zJQ,vYV (show ¬ v=i by omega)];exact hv v (by omega)
 ·refine (rdGr G K js ms q n m n c n t q).trans ?_;rw [vYV (show ¬ (n:Int) < (n:Int) by omega)];rfl
noncomputable def grF (js:Nat→J) (ms:Nat→Ms) (q:Nat→Int) (n m k:Nat) (c:Cn):Nat→Int:=(qZV (grd js ms q n m k c) n 0 (fun v=>0))
noncomputable def kJJ (js:Nat→J) (ms:Nat→Ms) (q:Nat→Int) (n m k:Nat) (c:Cn):List (List Nat × qUG):=[([0,1,0,1,1,1,1],sumF (fun _:Unit=>(hGr js ms q n m k c 0 (fun v=>0) (fun v=>(q v)))) (fun _=>()) (fun _ K=>(bif (qIn js ms q n m k) then (K (.exit 0) ⟨[(8,.o 29)],[(29,.reg 2 1 (.fo (k:Int).toNat (fQ (grF js ms q n m k c))))]⟩) else none)))]
set_option maxRecDepth 100000 in
theorem pxgrd0 (js:Nat→J) (ms:Nat→Ms) (q:Nat→Int) (n m k:Nat) (c:Cn):qKZ Tf (OrL.k (orGr js ms q n m k c)) (zX (kJJ js ms q n m k c)) 60 97 [.a [.lf n (fJ js),.lf m (fM ms)],.a (cp c),.lf k (fQ q)] =
 (bif (g1 [.a [.lf n (fJ js),.lf m (fM ms)],.l [(cp c)]]) then (bif (cErr js ms n m (fun _=>c) 1) then (bif (g1 [.a [.lf n (fJ js),.lf m (fM ms)],.lf k (fQ q)]) then (bif (qIn js ms q n m k) then (bif (decide (0≤(k:Int))) then (bif (decide ((k:Int)≤(k:Int))) then (bif (decide ((k:Int)≤1000000)) then (bif (g1 [.lf k (fQ q)] && decide (1≤k∧k≤10)) then (bif (gSt (hGr js ms q n m k c 0 (fun v=>0) (fun v=>(q v))) (hGr js ms q n m k c 0 (fun v=>0) (fun v=>(q v)))) then (bif (qIn js ms q n m k) then some (.v (.t [.lf (k:Int).toNat (fQ (grF js ms q n m k c)),.b true]),[])
 else none)
 else none)
 else none)
 else none)
 else none)
 else none)
 else some (.v (.t [.l [],.b false]),[]))
 else none)
 else some (.v (.t [.l [],.b false]),[]))
 else none):=by kernel_rfl
theorem snd_grd0 (js:Nat→J) (ms:Nat→Ms) (q:Nat→Int) (n m k:Nat) (c:Cn):zH Tryz.prog 97 [.a [.lf n (fJ js),.lf m (fM ms)],.a (cp c),.lf k (fQ q)] (bif ((cErr js ms n m (fun _=>c) 1) && qIn js ms q n m k) then .v (.t [.lf (k:Int).toNat (fQ (grF js ms q n m k c)),.b true]) else .v (.t [.l [],.b false])):=by
 refine qQX (N:=60) (LO:=zX (kJJ js ms q n m k c)) zJK yY (OrL.ok (l:=(orGr js ms q n m k c)) ⟨qJQ (jGZ js ms q n m k),qJQ (snd_Mc1 js ms n m c),ok_vq js ms n m c,qVK (fun h=>zHV q k (vYH h)),trivial⟩) (fun p S hp => ?_) ?_
 ·refine qQG (L:=qK Tf 97) (l:=(kJJ js ms q n m k c)) (show AllP _ (kJJ js ms q n m k c) from ⟨?_,trivial⟩) p S hp
  ·dsimp only;refine qWJ (T:=Tf) (ok:=(OrL.k (orGr js ms q n m k c))) (f:=97) (LO:=zX []) (p:=[0,1,0,1,1,1,1]) qGX ?_;intro _ K r hr;obtain ⟨hg,hr⟩:=zQ hr;have h:=hg;exact (lpGr K js ms q n m k c h).trans hr
 ·refine (pxgrd0 js ms q n m k c).trans ?_;simp only [g1_t,jU,cond_true];cases hc:(cErr js ms n m (fun _=>c) 1) with
  | false=>rfl
  | true =>
   cases h:qIn js ms q n m k with
   | false=>rfl
   | true =>
    obtain ⟨h0,rfl,hq⟩:=qUU h;have h10:=qWV h0;simp only [cond_true,vZH,vYG (show (0:Int)≤(n:Int) by omega),vYG (show (n:Int)≤(n:Int) by omega),vYG (show (n:Int)≤1000000 by omega),vYG (show 1≤n∧n≤10 by omega)]
theorem snd_grd (js:Nat→J) (ms:Nat→Ms) (q:Nat→Int) (n m k:Nat) (c:Cn):zH Tryz.prog 97 [.a [.lf n (fJ js),.lf m (fM ms)],.a (cp c),.lf k (fQ q)] (.v (.t [.lf (bif ((cErr js ms n m (fun _=>c) 1) && qIn js ms q n m k) then k else 0) (fQ (grF js ms q n m k c)),.b ((cErr js ms n m (fun _=>c) 1) && qIn js ms q n m k)])):=by
 have h0:=snd_grd0 js ms q n m k c;cases h:((cErr js ms n m (fun _=>c) 1) && qIn js ms q n m k) with
 | true =>
  rw [h,cond_true,toN] at h0;exact h0
 | false =>
  rw [h,cond_false] at h0;exact qYJ (Same.t (xs:=[_,_]) ⟨Same.lf rfl,Same.refl _,trivial⟩) h0
end Go.Proofs.YtmffoiemmlcmfaaGreat.No
namespace Go.Proofs.YtmffoiemmlcmfaaGreat.Nq
open Go.Rx Rt Go.Sx Go.RowKit Od Ov Pc Na Nb Nc Nd Nx Nf Ng Nj Nl Nm Nn No
def p2 (s:Int):Int:=vJZ .i64 (1 * 2 ^ (min s.toNat 64))
def rdE (g:Nat→Int) (s:Int) (i:Nat):Int:=vJZ .i64 ((g i).tdiv (p2 s))
def fit (x:Int):Bool:=decide (-32768≤x) && decide (x≤32768)
def fitA (g:Nat→Int) (k:Nat) (s:Int):Bool:=allN (fun i=>fit (rdE g s i)) k 0
theorem p2_pow (m:Nat) (h:m≤62):p2 (m:Int)=2 ^ m:=by
 unfold p2;rw [toN,Nat.min_eq_left (by omega),Int.one_mul];have h1:(2:Int) ^ m≤2 ^ 62:=by
  have:=Nat.pow_le_pow_right (show 1≤2 by decide) h
  exact_mod_cast this
 have h2:(0:Int)≤2 ^ m:=Int.pow_nonneg (by decide);exact zY (by omega)
theorem p2_pos {s:Int} (h:0≤s∧s≤62):0 < p2 s:=by
 obtain ⟨m,rfl⟩:=Int.eq_ofNat_of_zero_le h.1;rw [p2_pow m (by omega)];exact Int.pow_pos (by decide)
def slI (σ:St) (k:Nat):Int:=match qYW σ.S k with
 | some (.v (.n _ x))=>x
 | _=>0
def rwI (σ:St) (k:Nat):Nat→Int:=match yK σ.M k with
 | some (.reg _ _ (.fo _ f))=>fun v=>match f v with
  | [.n _ x]=>x
  | _=>0
 | _=>fun _=>0
theorem runS_red {β:Type} {e:Nat→Int} {KX:Bool × (Nat→Int)→β} {KR:Nat→Bool × (Nat→Int)→β}:∀ k p t,runS (fun _ _=>true) (fun (i:Nat) (t:Bool × (Nat→Int))=>(t.1 && fit (e i),(fun v=>bif Nat.beq v i then e i else t.2 v))) KX KR k p t=KX (t.1 && allN (fun i=>fit (e i)) k p,qZV e k p t.2)
 | 0,_,t=>by simp only [runS,allN,qZV,Bool.and_true]
 | k + 1,p,t=>by
  simp only [runS,cond_true];rw [runS_red k (p + 1)];simp only [allN,qZV,Bool.and_assoc]
noncomputable def orRi (g:Nat→Int) (k:Nat):OrL:=([]:OrL)
noncomputable def hRi (g:Nat→Int) (k:Nat) (i:Int) (s:Int) (b:Bool) (h:Nat→Int):St:=⟨[(0,.v (.lf k (fQ g))),(4,.o 11),(5,.v (.n .i64 s)),(6,.v (.b (b))),(14,.v (.lf k (fQ g))),(15,.v (.n .i64 (k:Int))),(16,.v (.n .i64 i))],[(11,.reg 2 1 (.fo (k:Int).toNat (fun v=>[.n .i64 (h v)])))]⟩
set_option maxRecDepth 100000 in
theorem rdRi (G:St→Option (Ret × Mem)) (K:Cont) (g:Nat→Int) (k:Nat) (i:Int) (s:Int) (b:Bool) (h:Nat→Int):qXW 60 (cxF Tf (OrL.k (orRi g k)) 60 98 (ntmF Tf 98)) (ckF Tf (OrL.k (orRi g k)) 60) (zX []) (qK Tf 98 [0,1,0,1,0,0,0,0,1,1,1]) [0,1,0,1,0,0,0,0,1,1,1] (Tf.hint 98 (zJ (qK Tf 98 [0,1,0,1,0,0,0,0,1,1,1]))) K G (hRi g k i s b h) =
 (bif (decide (i < (k:Int))) then (bif (inB i k) then (bif (decide (0≤s)) then (bif (decide ((vJZ .i64 (1 * 2 ^ (min (s).toNat 64)))=0)) then none
 else (bif (inB i (k:Int).toNat) then (bif b then (bif (inB i (k:Int).toNat) then (bif (decide ((-32768)≤(bif (Nat.beq (i).toNat (i).toNat) then (vJZ .i64 ((g (i).toNat).tdiv (vJZ .i64 (1 * 2 ^ (min (s).toNat 64))))) else (h (i).toNat)))) then (bif (inB i (k:Int).toNat) then (bif (decide ((bif (Nat.beq (i).toNat (i).toNat) then (vJZ .i64 ((g (i).toNat).tdiv (vJZ .i64 (1 * 2 ^ (min (s).toNat 64))))) else (h (i).toNat))≤32768)) then (G (hRi g k (vJZ .i64 (i + 1)) s true (fun v=>(bif (Nat.beq v (i).toNat) then (vJZ .i64 ((g (i).toNat).tdiv (vJZ .i64 (1 * 2 ^ (min (s).toNat 64))))) else (h v)))))
 else (G (hRi g k (vJZ .i64 (i + 1)) s false (fun v=>(bif (Nat.beq v (i).toNat) then (vJZ .i64 ((g (i).toNat).tdiv (vJZ .i64 (1 * 2 ^ (min (s).toNat 64))))) else (h v))))))
 else none)
 else (G (hRi g k (vJZ .i64 (i + 1)) s false (fun v=>(bif (Nat.beq v (i).toNat) then (vJZ .i64 ((g (i).toNat).tdiv (vJZ .i64 (1 * 2 ^ (min (s).toNat 64))))) else (h v))))))
 else none)
 else (G (hRi g k (vJZ .i64 (i + 1)) s false (fun v=>(bif (Nat.beq v (i).toNat) then (vJZ .i64 ((g (i).toNat).tdiv (vJZ .i64 (1 * 2 ^ (min (s).toNat 64))))) else (h v))))))
 else none))
 else none)
 else none)
 else (K (.exit 2) ⟨[(0,.v (.lf k (fQ g))),(4,.o 11),(5,.v (.n .i64 s)),(6,.v (.b (b)))],[(11,.reg 2 1 (.fo (k:Int).toNat (fun v=>[.n .i64 (h v)])))]⟩)):=by kernel_rfl
theorem lpRi (K:Cont) (g:Nat→Int) (k:Nat) (s:Int) (h0:Nat→Int) (hs:0≤s∧s≤62) (hk:k≤50):LFL 60 (cxF Tf (OrL.k (orRi g k)) 60 98 (ntmF Tf 98)) (ckF Tf (OrL.k (orRi g k)) 60) (zX []) (qK Tf 98 [0,1,0,1,0,0,0,0,1,1,1]) [0,1,0,1,0,0,0,0,1,1,1] (Tf.hint 98 (zJ (qK Tf 98 [0,1,0,1,0,0,0,0,1,1,1]))) K 60 (hRi g k 0 s true h0)=(K (.exit 2) ⟨[(0,.v (.lf k (fQ g))),(4,.o 11),(5,.v (.n .i64 s)),(6,.v (.b (fitA g k s)))],[(11,.reg 2 1 (.fo (k:Int).toNat (fun v=>[.n .i64 ((qZV (rdE g s) k 0 h0) v)])))]⟩):=by
 refine (zYX (L:=LFL 60 (cxF Tf (OrL.k (orRi g k)) 60 98 (ntmF Tf 98)) (ckF Tf (OrL.k (orRi g k)) 60) (zX []) (qK Tf 98 [0,1,0,1,0,0,0,0,1,1,1]) [0,1,0,1,0,0,0,0,1,1,1] (Tf.hint 98 (zJ (qK Tf 98 [0,1,0,1,0,0,0,0,1,1,1]))) K) (stp:=qXW 60 (cxF Tf (OrL.k (orRi g k)) 60 98 (ntmF Tf 98)) (ckF Tf (OrL.k (orRi g k)) 60) (zX []) (qK Tf 98 [0,1,0,1,0,0,0,0,1,1,1]) [0,1,0,1,0,0,0,0,1,1,1] (Tf.hint 98 (zJ (qK Tf 98 [0,1,0,1,0,0,0,0,1,1,1]))) K) (fun _ _=>rfl) (fun (i:Nat) (t:Bool × (Nat→Int))=>hRi g k (i:Int) s t.1 t.2) (fun _ _=>True) (fun _ _=>true) (fun (i:Nat) t=>(t.1 && fit (rdE g s i),(fun v=>bif Nat.beq v i then rdE g s i else t.2 v))) (c:=k) (fun t=>(K (.exit 2) ⟨[(0,.v (.lf k (fQ g))),(4,.o 11),(5,.v (.n .i64 s)),(6,.v (.b (t.1)))],[(11,.reg 2 1 (.fo (k:Int).toNat (fun v=>[.n .i64 (t.2 v)])))]⟩)) (fun _ _=>none) (fun G i t hi _ => ?_) (fun _ _ _ _ _=>trivial) (fun G t _ => ?_) k 0 60 (true,h0) (by omega) (by omega) trivial).trans ((runS_red k 0 _).trans (by rw [vZH]; rfl))
 ·refine (rdRi G K g k i s t.1 t.2).trans ?_;have e:vJZ .i64 (1 * 2 ^ (min s.toNat 64))=p2 s:=rfl;have e2:vJZ .i64 ((g i).tdiv (p2 s))=rdE g s i:=rfl;have hp:=p2_pos hs;have bb:Nat.beq i i=true:=by rw [zJQ,vYG rfl]
  simp only [vYG (show (i:Int) < (k:Int) by omega),qZZ (show i < 1000000 by omega),jY (show i < k by omega),toN,cond_true,vYG hs.1,e,e2,vYV (show ¬ p2 s=0 by omega),cond_false,bb];unfold fit;cases t.1 <;> cases decide (-32768≤rdE g s i) <;> cases decide (rdE g s i≤32768) <;> rfl
 ·refine (rdRi G K g k k s t.1 t.2).trans ?_;rw [vYV (show ¬ (k:Int) < (k:Int) by omega)];rfl
theorem okRi (g:Nat→Int) (k:Nat):∀ p S,zX [([0,1,0,1,0,0,0,0,1,1,1],sumF (fun t:Int × (Nat→Int)=>(hRi g k 0 t.1 true t.2)) (fun σ=>(slI σ 5,rwI σ 11)) (fun t K=>(bif (decide (0≤t.1∧t.1≤62) && decide (k≤50)) then (K (.exit 2) ⟨[(0,.v (.lf k (fQ g))),(4,.o 11),(5,.v (.n .i64 t.1)),(6,.v (.b (fitA g k t.1)))],[(11,.reg 2 1 (.fo (k:Int).toNat (fun v=>[.n .i64 ((qZV (rdE g t.1) k 0 t.2) v)])))]⟩) else none)))] p=some S→zQZ 60 (cxF Tf (OrL.k (orRi g k)) 60 98 (ntmF Tf 98)) (qK Tf 98 p) S:=fun p S hp=>by
 refine qQG (L:=qK Tf 98) (l:=[([0,1,0,1,0,0,0,0,1,1,1],sumF (fun t:Int × (Nat→Int)=>(hRi g k 0 t.1 true t.2)) (fun σ=>(slI σ 5,rwI σ 11)) (fun t K=>(bif (decide (0≤t.1∧t.1≤62) && decide (k≤50)) then (K (.exit 2) ⟨[(0,.v (.lf k (fQ g))),(4,.o 11),(5,.v (.n .i64 t.1)),(6,.v (.b (fitA g k t.1)))],[(11,.reg 2 1 (.fo (k:Int).toNat (fun v=>[.n .i64 ((qZV (rdE g t.1) k 0 t.2) v)])))]⟩) else none)))]) ⟨?_,trivial⟩ p S hp;dsimp only;refine qWJ (T:=Tf) (ok:=(OrL.k (orRi g k))) (f:=98) (LO:=zX []) (p:=[0,1,0,1,0,0,0,0,1,1,1]) qGX ?_;intro t K r hr;obtain ⟨hg,hr⟩:=zQ hr;rw [vQJ] at hg;exact (lpRi K g k t.1 t.2 (vYH hg.1) (vYH hg.2)).trans hr
noncomputable def hRo (g:Nat→Int) (k:Nat) (s:Int) (h:Nat→Int):St:=⟨[(0,.v (.lf k (fQ g))),(4,.o 11),(5,.v (.n .i64 s))],[(11,.reg 2 1 (.fo (k:Int).toNat (fun v=>[.n .i64 (h v)])))]⟩
set_option maxRecDepth 100000 in
theorem rdRo (G:St→Option (Ret × Mem)) (K:Cont) (g:Nat→Int) (k:Nat) (s:Int) (h:Nat→Int):qXW 60 (cxF Tf (OrL.k (orRi g k)) 60 98 (ntmF Tf 98)) (ckF Tf (OrL.k (orRi g k)) 60) (zX [([0,1,0,1,0,0,0,0,1,1,1],sumF (fun t:Int × (Nat→Int)=>(hRi g k 0 t.1 true t.2)) (fun σ=>(slI σ 5,rwI σ 11)) (fun t K=>(bif (decide (0≤t.1∧t.1≤62) && decide (k≤50)) then (K (.exit 2) ⟨[(0,.v (.lf k (fQ g))),(4,.o 11),(5,.v (.n .i64 t.1)),(6,.v (.b (fitA g k t.1)))],[(11,.reg 2 1 (.fo (k:Int).toNat (fun v=>[.n .i64 ((qZV (rdE g t.1) k 0 t.2) v)])))]⟩) else none)))]) (qK Tf 98 [0,1,1,1]) [0,1,1,1] (Tf.hint 98 (zJ (qK Tf 98 [0,1,1,1]))) K G (hRo g k s h) =
 (bif (gSt (hRi g k 0 s true (fun v=>(h v))) (hRi g k 0 s true (fun v=>(h v)))) then (bif (decide (0≤s∧s≤62) && decide (k≤50)) then (bif (fitA g k s) then (K .ret ⟨[(2,.o 11),(3,.v (.n .i64 s))],[(11,.reg 2 1 (.fo (k:Int).toNat (fun v=>[.n .i64 (qZV (rdE g s) k 0 (fun v=>(h v)) v)])))]⟩)
 else (G (hRo g k (vJZ .i64 (s + 1)) (fun v=>(qZV (rdE g s) k 0 (fun v=>(h v)) v)))))
 else none)
 else none):=by kernel_rfl
def kRed (g:Nat→Int) (k:Nat):Nat→Nat→Nat
 | 0,s=>s
 | m + 1,s=>bif fitA g k (s:Int) then s else kRed g k m (s + 1)
theorem kRed_spec (g:Nat→Int) (k:Nat):∀ m s,fitA g k ((s + m:Nat):Int)=true→s≤kRed g k m s∧kRed g k m s≤s + m∧fitA g k (kRed g k m s:Int)=true∧∀ j:Nat,s≤j→j < kRed g k m s→fitA g k (j:Int)=false
 | 0,s,h=>⟨Nat.le_refl _,Nat.le_refl _,h,fun j h1 h2=>absurd h2 (by show ¬ j < s; omega)⟩
 | m + 1,s,h=>by
  cases hf:fitA g k (s:Int) with
  | true =>
   have e:kRed g k (m + 1) s=s:=by rw [kRed,hf]; rfl
   rw [e];exact ⟨Nat.le_refl _,by omega,hf,fun j h1 h2=>absurd h2 (by omega)⟩
  | false =>
   have e:kRed g k (m + 1) s=kRed g k m (s + 1):=by rw [kRed,hf]; rfl
   rw [e];obtain ⟨a,b,c,d⟩:=kRed_spec g k m (s + 1) (by rw [show s + 1 + m=s + (m + 1) by omega]; exact h);refine ⟨by omega,by omega,c,fun j h1 h2 => ?_⟩;by_cases hj:j=s
   ·rw [hj]; exact hf
   ·exact d j (by omega) h2
def kR (g:Nat→Int) (k:Nat):Nat:=kRed g k 48 0
def jKV (g:Nat→Int) (k:Nat):Nat→Nat→Int
 | 0=>fun _=>0
 | s + 1=>qZV (rdE g (s:Int)) k 0 (jKV g k s)
theorem fit48 {g:Nat→Int} {k:Nat} (hg:∀ i,i < k→In64 (g i)):fitA g k ((0 + 48:Nat):Int)=true:=allN_iff.2 fun i _ hi=>by
 have h:=hg i (by omega);unfold In64 at h;have e:p2 ((0 + 48:Nat):Int)=281474976710656:=by rw [p2_pow _ (by omega)]; rfl
 unfold fit rdE;rw [e];have h1 : -32768≤(g i).tdiv 281474976710656∧(g i).tdiv 281474976710656≤32768:=by
  rcases Int.le_total 0 (g i) with hp | hp
  ·rw [Int.tdiv_eq_ediv_of_nonneg hp]; omega
  ·have:(g i).tdiv 281474976710656 = -((-(g i)) / 281474976710656):=by
    rw [← Int.tdiv_eq_ediv_of_nonneg (show 0 ≤ -(g i) by omega),Int.neg_tdiv]; omega
   rw [this]; omega
 rw [zY (by omega),vYG h1.1,vYG h1.2]; rfl
theorem kR_spec {g:Nat→Int} {k:Nat} (hg:∀ i,i < k→In64 (g i)):kR g k≤48∧fitA g k (kR g k:Int)=true∧∀ j:Nat,j < kR g k→fitA g k (j:Int)=false:=by
 obtain ⟨_,b,c,d⟩:=kRed_spec g k 48 0 (fit48 hg);exact ⟨by unfold kR; omega,c,fun j hj=>d j (Nat.zero_le _) hj⟩
theorem lpRo (K:Cont) (g:Nat→Int) (k:Nat) (hg:∀ i,i < k→In64 (g i)) (hk:k≤50):LFL 60 (cxF Tf (OrL.k (orRi g k)) 60 98 (ntmF Tf 98)) (ckF Tf (OrL.k (orRi g k)) 60) (zX [([0,1,0,1,0,0,0,0,1,1,1],sumF (fun t:Int × (Nat→Int)=>(hRi g k 0 t.1 true t.2)) (fun σ=>(slI σ 5,rwI σ 11)) (fun t K=>(bif (decide (0≤t.1∧t.1≤62) && decide (k≤50)) then (K (.exit 2) ⟨[(0,.v (.lf k (fQ g))),(4,.o 11),(5,.v (.n .i64 t.1)),(6,.v (.b (fitA g k t.1)))],[(11,.reg 2 1 (.fo (k:Int).toNat (fun v=>[.n .i64 ((qZV (rdE g t.1) k 0 t.2) v)])))]⟩) else none)))]) (qK Tf 98 [0,1,1,1]) [0,1,1,1] (Tf.hint 98 (zJ (qK Tf 98 [0,1,1,1]))) K 60 (hRo g k 0 (fun v=>0))=(K .ret ⟨[(2,.o 11),(3,.v (.n .i64 (kR g k:Int)))],[(11,.reg 2 1 (.fo (k:Int).toNat (fun v=>[.n .i64 (jKV g k (kR g k + 1) v)])))]⟩):=by
 obtain ⟨h1,h2,h3⟩:=kR_spec hg;refine (zYX (L:=LFL 60 (cxF Tf (OrL.k (orRi g k)) 60 98 (ntmF Tf 98)) (ckF Tf (OrL.k (orRi g k)) 60) (zX [([0,1,0,1,0,0,0,0,1,1,1],sumF (fun t:Int × (Nat→Int)=>(hRi g k 0 t.1 true t.2)) (fun σ=>(slI σ 5,rwI σ 11)) (fun t K=>(bif (decide (0≤t.1∧t.1≤62) && decide (k≤50)) then (K (.exit 2) ⟨[(0,.v (.lf k (fQ g))),(4,.o 11),(5,.v (.n .i64 t.1)),(6,.v (.b (fitA g k t.1)))],[(11,.reg 2 1 (.fo (k:Int).toNat (fun v=>[.n .i64 ((qZV (rdE g t.1) k 0 t.2) v)])))]⟩) else none)))]) (qK Tf 98 [0,1,1,1]) [0,1,1,1] (Tf.hint 98 (zJ (qK Tf 98 [0,1,1,1]))) K) (stp:=qXW 60 (cxF Tf (OrL.k (orRi g k)) 60 98 (ntmF Tf 98)) (ckF Tf (OrL.k (orRi g k)) 60) (zX [([0,1,0,1,0,0,0,0,1,1,1],sumF (fun t:Int × (Nat→Int)=>(hRi g k 0 t.1 true t.2)) (fun σ=>(slI σ 5,rwI σ 11)) (fun t K=>(bif (decide (0≤t.1∧t.1≤62) && decide (k≤50)) then (K (.exit 2) ⟨[(0,.v (.lf k (fQ g))),(4,.o 11),(5,.v (.n .i64 t.1)),(6,.v (.b (fitA g k t.1)))],[(11,.reg 2 1 (.fo (k:Int).toNat (fun v=>[.n .i64 ((qZV (rdE g t.1) k 0 t.2) v)])))]⟩) else none)))]) (qK Tf 98 [0,1,1,1]) [0,1,1,1] (Tf.hint 98 (zJ (qK Tf 98 [0,1,1,1]))) K) (fun _ _=>rfl) (fun (i:Nat) (_:Unit)=>hRo g k (i:Int) (jKV g k i)) (fun _ _=>True) (fun i _ => !fitA g k (i:Int)) (fun _ _=>()) (c:=kR g k) (fun _=>(K .ret ⟨[(2,.o 11),(3,.v (.n .i64 (kR g k:Int)))],[(11,.reg 2 1 (.fo (k:Int).toNat (fun v=>[.n .i64 (jKV g k (kR g k + 1) v)])))]⟩)) (fun _ _=>none) (fun G i _ hi _ => ?_) (fun _ _ _ _ _=>trivial) (fun G _ _ => ?_) (kR g k) 0 60 () (by omega) (by omega) trivial).trans (jYK (f:=fun _=>()) (kR g k) 0 (fun _ _ _=>rfl) (fun i _ hi=>by rw [h3 i (by omega)]; rfl))
 ·refine (rdRo G K g k i (jKV g k i)).trans ?_;rw [jU,cond_true,vYG (show 0≤(i:Int)∧(i:Int)≤62 by omega),vYG hk,h3 i hi,qZZ (show i < 1000000 by omega)];rfl
 ·refine (rdRo G K g k (kR g k:Int) (jKV g k (kR g k))).trans ?_;rw [jU,cond_true,vYG (show 0≤(kR g k:Int)∧(kR g k:Int)≤62 by omega),vYG hk,h2];rfl
noncomputable def gI64 (g:Nat→Int) (k:Nat):Bool:=@decide (∀ i,i < k→In64 (g i)) (vYJ _)
theorem kQH {g:Nat→Int} {k:Nat} (h:gI64 g k=true):∀ i,i < k→In64 (g i):=@vYH _ (vYJ _) h
theorem gI64_of {g:Nat→Int} {k:Nat} (h:∀ i,i < k→In64 (g i)):gI64 g k=true:=@vYG _ (vYJ _) h
noncomputable def kYG (g:Nat→Int) (k:Nat):List (List Nat × qUG):=[([0,1,1,1],sumF (fun _:Unit=>(hRo g k 0 (fun v=>0))) (fun _=>()) (fun _ K=>(bif (gI64 g k && decide (k≤50)) then (K .ret ⟨[(2,.o 11),(3,.v (.n .i64 (kR g k:Int)))],[(11,.reg 2 1 (.fo (k:Int).toNat (fun v=>[.n .i64 (jKV g k (kR g k + 1) v)])))]⟩) else none)))]
set_option maxRecDepth 100000 in
theorem pxred0 (g:Nat→Int) (k:Nat):qKZ Tf (OrL.k (orRi g k)) (zX (kYG g k)) 60 98 [.lf k (fQ g)] =
 (bif (decide (0≤(k:Int))) then (bif (decide ((k:Int)≤(k:Int))) then (bif (decide ((k:Int)≤1000000)) then (bif (gSt (hRo g k 0 (fun v=>0)) (hRo g k 0 (fun v=>0))) then (bif (gI64 g k && decide (k≤50)) then some (.v (.t [.lf (k:Int).toNat (fun v=>[.n .i64 (jKV g k (kR g k + 1) v)]),.n .i64 (kR g k:Int)]),[])
 else none)
 else none)
 else none)
 else none)
 else none):=by kernel_rfl
theorem snd_red0 (g:Nat→Int) (k:Nat) (hg:∀ i,i < k→In64 (g i)) (hk:k≤50):zH Tryz.prog 98 [.lf k (fQ g)] (.v (.t [.lf (k:Int).toNat (fun v=>[.n .i64 (jKV g k (kR g k + 1) v)]),.n .i64 (kR g k:Int)])):=by
 refine qQX (N:=60) (LO:=zX (kYG g k)) zJK yY (OrL.ok (l:=(orRi g k)) trivial) (fun p S hp => ?_) ?_
 ·refine qQG (L:=qK Tf 98) (l:=(kYG g k)) (show AllP _ (kYG g k) from ⟨?_,trivial⟩) p S hp
  ·dsimp only;refine qWJ (T:=Tf) (ok:=(OrL.k (orRi g k))) (f:=98) (LO:=(zX [([0,1,0,1,0,0,0,0,1,1,1],sumF (fun t:Int × (Nat→Int)=>(hRi g k 0 t.1 true t.2)) (fun σ=>(slI σ 5,rwI σ 11)) (fun t K=>(bif (decide (0≤t.1∧t.1≤62) && decide (k≤50)) then (K (.exit 2) ⟨[(0,.v (.lf k (fQ g))),(4,.o 11),(5,.v (.n .i64 t.1)),(6,.v (.b (fitA g k t.1)))],[(11,.reg 2 1 (.fo (k:Int).toNat (fun v=>[.n .i64 ((qZV (rdE g t.1) k 0 t.2) v)])))]⟩) else none)))])) (p:=[0,1,1,1]) (okRi g k) ?_;intro _ K r hr;obtain ⟨hg,hr⟩:=zQ hr;rw [vQJ] at hg;exact (lpRo K g k (kQH hg.1) (vYH hg.2)).trans hr
 ·refine (pxred0 g k).trans ?_;simp only [jU,cond_true,gI64_of hg,vYG hk,vZJ,vYG (show (0:Int)≤(k:Int) by omega),vYG (show (k:Int)≤(k:Int) by omega),vYG (show (k:Int)≤1000000 by omega)]
theorem snd_red (g:Nat→Int) (k:Nat) (hg:∀ i,i < k→In64 (g i)) (hk:k≤50):zH Tryz.prog 98 [.lf k (fQ g)] (.v (.t [.lf k (fQ (rdE g (kR g k:Int))),.n .i64 (kR g k:Int)])):=by
 have h:=snd_red0 g k hg hk;rw [toN] at h;refine qYJ (Same.t (xs:=[_,_]) ⟨zHY fun j (hj:j < k) => ?_,Same.refl _,trivial⟩) h;show [PV.n .i64 (qZV _ k 0 _ j)]=[PV.n .i64 _];rw [zWU hj]
end Go.Proofs.YtmffoiemmlcmfaaGreat.Nq
namespace Go.Proofs.YtmffoiemmlcmfaaGreat.Nr
open Go.Rx Rt Go.Sx Go.RowKit Od Ov Pc Na Nb Nc Nd Nx Nf Ng Nj Nl Nm Nn No Nq
def gOk (js:Nat→J) (ms:Nat→Ms) (q:Nat→Int) (n m k:Nat) (c:Cn):Bool:=((cErr js ms n m (fun _=>c) 1) && qIn js ms q n m k)
def gN (js:Nat→J) (ms:Nat→Ms) (q:Nat→Int) (n m k:Nat) (c:Cn):Nat:=bif gOk js ms q n m k c then k else 0
noncomputable def gK (js:Nat→J) (ms:Nat→Ms) (q:Nat→Int) (n m k:Nat) (c:Cn):Nat:=kR (grF js ms q n m k c) (gN js ms q n m k c)
noncomputable def hF (js:Nat→J) (ms:Nat→Ms) (q:Nat→Int) (n m k:Nat) (c:Cn):Nat→Int:=rdE (grF js ms q n m k c) (gK js ms q n m k c:Int)
noncomputable def hQ (js:Nat→J) (ms:Nat→Ms) (q:Nat→Int) (n m k:Nat) (c:Cn):Bool:=(cErr js ms n m (fun _=>c) 1 && (pIn js ms (ptB q) n m (bif smQ q k then k else 0) && yQW (fun _=>c) (vI js (ptB q) n (fun _=>c)) 1))
def zHJ {τ:Type} (nx:Nat→τ→τ):Nat→Nat→τ→τ
 | 0,_,s=>s
 | m + 1,p,s=>zHJ nx m (p + 1) (nx p s)
theorem zXW {τ β:Type} {nx:Nat→τ→τ} {KX:τ→β} {KR:Nat→τ→β}:∀ m p s,runS (fun _ _=>true) nx KX KR m p s=KX (zHJ nx m p s)
 | 0,_,_=>rfl
 | m + 1,p,s=>by
  simp only [runS,cond_true,zHJ];exact zXW m (p + 1) _
theorem snd_hq (js:Nat→J) (ms:Nat→Ms) (q:Nat→Int) (n m k:Nat) (c:Cn):zH Tryz.prog 29 [.a [.lf n (fJ js),.lf m (fM ms)],.l [cp c],.lf (bif smQ q k then k else 0) (fB (ptB q))] (.v (.b (hQ js ms q n m k c))) :=
 qYG (fun _ _ _=>Sames.al (ys:=[_,_,_]) ⟨Same.refl _,Same.lf rfl,Same.refl _,trivial⟩) (kXY js ms (ptB q) n m (bif smQ q k then k else 0) (fun _=>c) 1)
noncomputable def orSa (js:Nat→J) (ms:Nat→Ms) (q:Nat→Int) (n m k:Nat) (c:Cn):OrL:=[(30,o_lk [.lf k (fQ q)] (decide (k≤50)) (.v (.lf (bif smQ q k then k else 0) (fB (ptB q))))),(29,o_cr [.a [.lf n (fJ js),.lf m (fM ms)],.l [cp c],.lf (bif smQ q k then k else 0) (fB (ptB q))] (.v (.b (hQ js ms q n m k c)))),(31,o_lk [.lf k (fQ q)] (decide (1≤k∧k≤10)) (.ow 2 1 (.fo k (fQ q)))),(97,o_cr [.a [.lf n (fJ js),.lf m (fM ms)],.a (cp c),.lf k (fQ q)] (.v (.t [.lf (gN js ms q n m k c) (fQ (grF js ms q n m k c)),.b (gOk js ms q n m k c)]))),(100,o_vq js ms n m c),(98,o_lk [.lf (gN js ms q n m k c) (fQ (grF js ms q n m k c))] (gI64 (grF js ms q n m k c) (gN js ms q n m k c) && decide ((gN js ms q n m k c)≤50)) (.v (.t [.lf (gN js ms q n m k c) (fQ (hF js ms q n m k c)),.n .i64 ((gK js ms q n m k c):Int)])))]
noncomputable def hSa (js:Nat→J) (ms:Nat→Ms) (q:Nat→Int) (n m k:Nat) (c:Cn) (i:Int) (s:Int):St:=⟨[(2,.v (.lf k (fQ q))),(3,.p 3 0),(4,.p 4 0),(10,.v (.lf (gN js ms q n m k c) (fQ (hF js ms q n m k c)))),(11,.v (.n .i64 ((gK js ms q n m k c):Int))),(12,.v (.n .i64 s)),(42,.v (.lf (gN js ms q n m k c) (fQ (hF js ms q n m k c)))),(43,.v (.n .i64 ((gN js ms q n m k c):Int))),(44,.v (.n .i64 i))],[(3,.blk [.v (.lf n (fJ js)),.v (.lf m (fM ms))]),(4,.blk [.v (.n .i64 c.kind),.v (.n .i64 c.link),.v (.n .i64 c.p.x),.v (.n .i64 c.p.y),.v (.n .i64 c.p.z),.v (.n .i64 c.n.x),.v (.n .i64 c.n.y),.v (.n .i64 c.n.z),.v (.n .i64 c.lo),.v (.n .i64 c.hi)])]⟩
set_option maxRecDepth 100000 in
theorem rdSa (G:St→Option (Ret × Mem)) (K:Cont) (js:Nat→J) (ms:Nat→Ms) (q:Nat→Int) (n m k:Nat) (c:Cn) (i:Int) (s:Int):qXW 60 (cxF Tf (OrL.k (orSa js ms q n m k c)) 60 66 (ntmF Tf 66)) (ckF Tf (OrL.k (orSa js ms q n m k c)) 60) (zX []) (qK Tf 66 [0,1,0,1,1,1,1,1,1]) [0,1,0,1,1,1,1,1,1] (Tf.hint 66 (zJ (qK Tf 66 [0,1,0,1,1,1,1,1,1]))) K G (hSa js ms q n m k c i s) =
 (bif (decide (i < ((gN js ms q n m k c):Int))) then (bif (inB i (gN js ms q n m k c)) then (G (hSa js ms q n m k c (vJZ .i64 (i + 1)) (vJZ .i64 (s + (vJZ .i64 (((hF js ms q n m k c) (i).toNat) * ((hF js ms q n m k c) (i).toNat)))))))
 else none)
 else (K (.exit 0) ⟨[(2,.v (.lf k (fQ q))),(3,.p 3 0),(4,.p 4 0),(10,.v (.lf (gN js ms q n m k c) (fQ (hF js ms q n m k c)))),(11,.v (.n .i64 ((gK js ms q n m k c):Int))),(12,.v (.n .i64 s))],[(3,.blk [.v (.lf n (fJ js)),.v (.lf m (fM ms))]),(4,.blk [.v (.n .i64 c.kind),.v (.n .i64 c.link),.v (.n .i64 c.p.x),.v (.n .i64 c.p.y),.v (.n .i64 c.p.z),.v (.n .i64 c.n.x),.v (.n .i64 c.n.y),.v (.n .i64 c.n.z),.v (.n .i64 c.lo),.v (.n .i64 c.hi)])]⟩)):=by kernel_rfl
theorem lpSa (K:Cont) (js:Nat→J) (ms:Nat→Ms) (q:Nat→Int) (n m k:Nat) (c:Cn) (hk:(gN js ms q n m k c)≤50):LFL 60 (cxF Tf (OrL.k (orSa js ms q n m k c)) 60 66 (ntmF Tf 66)) (ckF Tf (OrL.k (orSa js ms q n m k c)) 60) (zX []) (qK Tf 66 [0,1,0,1,1,1,1,1,1]) [0,1,0,1,1,1,1,1,1] (Tf.hint 66 (zJ (qK Tf 66 [0,1,0,1,1,1,1,1,1]))) K 60 (hSa js ms q n m k c 0 0)=(K (.exit 0) ⟨[(2,.v (.lf k (fQ q))),(3,.p 3 0),(4,.p 4 0),(10,.v (.lf (gN js ms q n m k c) (fQ (hF js ms q n m k c)))),(11,.v (.n .i64 ((gK js ms q n m k c):Int))),(12,.v (.n .i64 (zHJ (fun (i:Nat) (s:Int)=>vJZ .i64 (s + vJZ .i64 ((hF js ms q n m k c) i * (hF js ms q n m k c) i))) (gN js ms q n m k c) 0 0)))],[(3,.blk [.v (.lf n (fJ js)),.v (.lf m (fM ms))]),(4,.blk [.v (.n .i64 c.kind),.v (.n .i64 c.link),.v (.n .i64 c.p.x),.v (.n .i64 c.p.y),.v (.n .i64 c.p.z),.v (.n .i64 c.n.x),.v (.n .i64 c.n.y),.v (.n .i64 c.n.z),.v (.n .i64 c.lo),.v (.n .i64 c.hi)])]⟩):=by
 refine (zYX (L:=LFL 60 (cxF Tf (OrL.k (orSa js ms q n m k c)) 60 66 (ntmF Tf 66)) (ckF Tf (OrL.k (orSa js ms q n m k c)) 60) (zX []) (qK Tf 66 [0,1,0,1,1,1,1,1,1]) [0,1,0,1,1,1,1,1,1] (Tf.hint 66 (zJ (qK Tf 66 [0,1,0,1,1,1,1,1,1]))) K) (stp:=qXW 60 (cxF Tf (OrL.k (orSa js ms q n m k c)) 60 66 (ntmF Tf 66)) (ckF Tf (OrL.k (orSa js ms q n m k c)) 60) (zX []) (qK Tf 66 [0,1,0,1,1,1,1,1,1]) [0,1,0,1,1,1,1,1,1] (Tf.hint 66 (zJ (qK Tf 66 [0,1,0,1,1,1,1,1,1]))) K) (fun _ _=>rfl) (fun (i:Nat) (s:Int)=>hSa js ms q n m k c (i:Int) s) (fun _ _=>True) (fun _ _=>true) (fun (i:Nat) (s:Int)=>vJZ .i64 (s + vJZ .i64 ((hF js ms q n m k c) i * (hF js ms q n m k c) i))) (c:=(gN js ms q n m k c)) (fun s=>(K (.exit 0) ⟨[(2,.v (.lf k (fQ q))),(3,.p 3 0),(4,.p 4 0),(10,.v (.lf (gN js ms q n m k c) (fQ (hF js ms q n m k c)))),(11,.v (.n .i64 ((gK js ms q n m k c):Int))),(12,.v (.n .i64 s))],[(3,.blk [.v (.lf n (fJ js)),.v (.lf m (fM ms))]),(4,.blk [.v (.n .i64 c.kind),.v (.n .i64 c.link),.v (.n .i64 c.p.x),.v (.n .i64 c.p.y),.v (.n .i64 c.p.z),.v (.n .i64 c.n.x),.v (.n .i64 c.n.y),.v (.n .i64 c.n.z),.v (.n .i64 c.lo),.v (.n .i64 c.hi)])]⟩)) (fun _ _=>none) (fun G i s hi _ => ?_) (fun _ _ _ _ _=>trivial) (fun G s _ => ?_) (gN js ms q n m k c) 0 60 0 (by omega) (by omega) trivial).trans (zXW (gN js ms q n m k c) 0 _)
 ·refine (rdSa G K js ms q n m k c i s).trans ?_;simp only [vYG (show (i:Int) < ((gN js ms q n m k c):Int) by omega),qZZ (show i < 1000000 by omega),jY (show i < (gN js ms q n m k c) by omega),toN,cond_true]
  all_goals rfl
 ·refine (rdSa G K js ms q n m k c (gN js ms q n m k c) s).trans ?_;rw [vYV (show ¬ ((gN js ms q n m k c):Int) < ((gN js ms q n m k c):Int) by omega)];rfl
noncomputable def sS (js:Nat→J) (ms:Nat→Ms) (q:Nat→Int) (n m k:Nat) (c:Cn):Int:=(zHJ (fun (i:Nat) (s:Int)=>vJZ .i64 (s + vJZ .i64 ((hF js ms q n m k c) i * (hF js ms q n m k c) i))) (gN js ms q n m k c) 0 0)
noncomputable def fE (js:Nat→J) (ms:Nat→Ms) (q:Nat→Int) (n m k:Nat) (c:Cn):Int:=(min (max (vJZ .i64 ((vJZ .i64 ((vJZ .i64 (((vJZ .i64 (c.lo + c.hi)).fdiv (2 ^ 1)) - (mvQ js ms (unFQ (fQ q)) n m k c))) * 128)).tdiv (vJZ .i64 (1 * 2 ^ (min ((gK js ms q n m k c):Int).toNat 64))))) (-17592186044416)) 17592186044416)
noncomputable def hSb (js:Nat→J) (ms:Nat→Ms) (q:Nat→Int) (n m k:Nat) (c:Cn) (i:Int) (x:Nat→Int):St:=⟨[(2,.v (.lf k (fQ q))),(10,.v (.lf (gN js ms q n m k c) (fQ (hF js ms q n m k c)))),(12,.v (.n .i64 (sS js ms q n m k c))),(16,.v (.n .i64 (fE js ms q n m k c))),(17,.o 78),(80,.v (.lf n (fJ js))),(81,.v (.n .i64 (n:Int))),(82,.v (.n .i64 i))],[(78,.reg 2 1 (.fo (k:Int).toNat (fun v=>[.n .i64 (x v)])))]⟩
set_option maxRecDepth 100000 in
theorem rdSb (G:St→Option (Ret × Mem)) (K:Cont) (js:Nat→J) (ms:Nat→Ms) (q:Nat→Int) (n m k:Nat) (c:Cn) (i:Int) (x:Nat→Int):qXW 60 (cxF Tf (OrL.k (orSa js ms q n m k c)) 60 66 (ntmF Tf 66)) (ckF Tf (OrL.k (orSa js ms q n m k c)) 60) (zX []) (qK Tf 66 [0,1,0,1,1,1,1,1,1,1,1,1,1,1,1]) [0,1,0,1,1,1,1,1,1,1,1,1,1,1,1] (Tf.hint 66 (zJ (qK Tf 66 [0,1,0,1,1,1,1,1,1,1,1,1,1,1,1]))) K G (hSb js ms q n m k c i x) =
 (bif (decide (i < (n:Int))) then (bif (inB i n) then (bif (inB i k) then (bif (inB i (gN js ms q n m k c)) then (bif (decide ((sS js ms q n m k c)=0)) then none
 else (bif (inB i (k:Int).toNat) then (G (hSb js ms q n m k c (vJZ .i64 (i + 1)) (fun v=>(bif (Nat.beq v (i).toNat) then (min (max (vJZ .i64 ((q (i).toNat) + (vJZ .i64 ((vJZ .i64 ((fE js ms q n m k c) * ((hF js ms q n m k c) (i).toNat))).tdiv (sS js ms q n m k c))))) (js (i).toNat).lo) (js (i).toNat).hi) else (x v)))))
 else none))
 else none)
 else none)
 else none)
 else (K (.exit 2) ⟨[(17,.o 78)],[(78,.reg 2 1 (.fo (k:Int).toNat (fun v=>[.n .i64 (x v)])))]⟩)):=by kernel_rfl
noncomputable def nxE (js:Nat→J) (ms:Nat→Ms) (q:Nat→Int) (n m k:Nat) (c:Cn) (i:Nat):Int:=min (max (vJZ .i64 (q i + vJZ .i64 ((vJZ .i64 (fE js ms q n m k c * hF js ms q n m k c i)).tdiv (sS js ms q n m k c)))) (js i).lo) (js i).hi
theorem zUJ {js:Nat→J} {ms:Nat→Ms} {q:Nat→Int} {n m k:Nat} {c:Cn} (h:gOk js ms q n m k c=true):cErr js ms n m (fun _=>c) 1=true∧qIn js ms q n m k=true∧rErr js ms n m=0∧n=k∧gN js ms q n m k c=k∧1≤n∧n≤10:=by
 have h':=h;unfold gOk at h';rw [vQJ] at h';obtain ⟨h0,hn,_⟩:=qUU h'.2
 have:=qWV h0
 exact ⟨h'.1,h'.2,h0,hn,by unfold gN; rw [h]; rfl,this.1,this.2⟩
theorem hq_gok {js:Nat→J} {ms:Nat→Ms} {q:Nat→Int} {n m k:Nat} {c:Cn} (h:hQ js ms q n m k c=true):gOk js ms q n m k c=true:=by
 unfold hQ at h;simp only [vQJ] at h;obtain ⟨hc,hp,_⟩:=h;obtain ⟨h0,hn,_⟩:=kHX hp;have h1:=qWV h0;unfold pIn insB at hp;simp only [vQJ] at hp;have hk:n=k:=by
  cases hs:smQ q k with
  | true=>rw [hs] at hn; exact hn
  | false=>rw [hs] at hn; exact absurd hn (by show ¬ n=0; omega)
 unfold gOk qIn insQ;rw [hc,vYG h0,vYG (show (n:Int)=(k:Int) by omega)];simp only [vZH];refine allN_iff.2 fun i h1 h2 => ?_
 have:=allN_iff.1 hp.2.2 i h1 h2
 unfold Iv.within ptB at this;simp only [vQJ,decide_eq_true_eq] at this;rw [vYG this.1.2,vYG this.2]; rfl
theorem grF_64 (js:Nat→J) (ms:Nat→Ms) (q:Nat→Int) (n m k:Nat) (c:Cn) (j:Nat) (h:j < n):In64 (grF js ms q n m k c j):=by
 unfold grF;rw [zWU h];unfold grd;cases decide (gA js q j=gB js q j) with
 | true=>show In64 0; unfold In64; omega
 | false=>exact Ta.iw_of (Ta.iww _)
theorem lpSb (K:Cont) (js:Nat→J) (ms:Nat→Ms) (q:Nat→Int) (n m k:Nat) (c:Cn) (h:gOk js ms q n m k c=true) (hs:¬ sS js ms q n m k c=0):LFL 60 (cxF Tf (OrL.k (orSa js ms q n m k c)) 60 66 (ntmF Tf 66)) (ckF Tf (OrL.k (orSa js ms q n m k c)) 60) (zX []) (qK Tf 66 [0,1,0,1,1,1,1,1,1,1,1,1,1,1,1]) [0,1,0,1,1,1,1,1,1,1,1,1,1,1,1] (Tf.hint 66 (zJ (qK Tf 66 [0,1,0,1,1,1,1,1,1,1,1,1,1,1,1]))) K 60 (hSb js ms q n m k c 0 (fun v=>0))=(K (.exit 2) ⟨[(17,.o 78)],[(78,.reg 2 1 (.fo (k:Int).toNat (fun v=>[.n .i64 ((qZV (fun i:Nat=>(nxE js ms q n m k c i)) n 0 (fun v=>0)) v)])))]⟩):=by
 obtain ⟨_,_,_,hnk,hgk,h1,h10⟩:=zUJ h;refine (zYX (L:=LFL 60 (cxF Tf (OrL.k (orSa js ms q n m k c)) 60 66 (ntmF Tf 66)) (ckF Tf (OrL.k (orSa js ms q n m k c)) 60) (zX []) (qK Tf 66 [0,1,0,1,1,1,1,1,1,1,1,1,1,1,1]) [0,1,0,1,1,1,1,1,1,1,1,1,1,1,1] (Tf.hint 66 (zJ (qK Tf 66 [0,1,0,1,1,1,1,1,1,1,1,1,1,1,1]))) K) (stp:=qXW 60 (cxF Tf (OrL.k (orSa js ms q n m k c)) 60 66 (ntmF Tf 66)) (ckF Tf (OrL.k (orSa js ms q n m k c)) 60) (zX []) (qK Tf 66 [0,1,0,1,1,1,1,1,1,1,1,1,1,1,1]) [0,1,0,1,1,1,1,1,1,1,1,1,1,1,1] (Tf.hint 66 (zJ (qK Tf 66 [0,1,0,1,1,1,1,1,1,1,1,1,1,1,1]))) K) (fun _ _=>rfl) (fun (i:Nat) (t:(Nat→Int))=>hSb js ms q n m k c (i:Int) t) (fun _ _=>True) (fun _ _=>true) (fun (i:Nat) t=>(fun v=>bif Nat.beq v i then (nxE js ms q n m k c i) else t v)) (c:=n) (fun t=>(K (.exit 2) ⟨[(17,.o 78)],[(78,.reg 2 1 (.fo (k:Int).toNat (fun v=>[.n .i64 (t v)])))]⟩)) (fun _ _=>none) (fun G i t hi _ => ?_) (fun _ _ _ _ _=>trivial) (fun G t _ => ?_) n 0 60 (fun v=>0) (by omega) (by omega) trivial).trans (zWH n 0 _)
 ·refine (rdSb G K js ms q n m k c i t).trans ?_;simp only [vYG (show (i:Int) < (n:Int) by omega),qZZ (show i < 1000000 by omega),jY (show i < n by omega),jY (show i < k by omega),jY (show i < gN js ms q n m k c by omega),toN,cond_true,vYV hs,cond_false]
  all_goals rfl
 ·refine (rdSb G K js ms q n m k c n t).trans ?_;rw [vYV (show ¬ (n:Int) < (n:Int) by omega)];rfl
noncomputable def kYV (js:Nat→J) (ms:Nat→Ms) (q:Nat→Int) (n m k:Nat) (c:Cn):List (List Nat × qUG):=[([0,1,0,1,1,1,1,1,1],sumF (fun _:Unit=>(hSa js ms q n m k c 0 0)) (fun _=>()) (fun _ K=>(bif (decide ((gN js ms q n m k c)≤50)) then (K (.exit 0) ⟨[(2,.v (.lf k (fQ q))),(3,.p 3 0),(4,.p 4 0),(10,.v (.lf (gN js ms q n m k c) (fQ (hF js ms q n m k c)))),(11,.v (.n .i64 ((gK js ms q n m k c):Int))),(12,.v (.n .i64 (zHJ (fun (i:Nat) (s:Int)=>vJZ .i64 (s + vJZ .i64 ((hF js ms q n m k c) i * (hF js ms q n m k c) i))) (gN js ms q n m k c) 0 0)))],[(3,.blk [.v (.lf n (fJ js)),.v (.lf m (fM ms))]),(4,.blk [.v (.n .i64 c.kind),.v (.n .i64 c.link),.v (.n .i64 c.p.x),.v (.n .i64 c.p.y),.v (.n .i64 c.p.z),.v (.n .i64 c.n.x),.v (.n .i64 c.n.y),.v (.n .i64 c.n.z),.v (.n .i64 c.lo),.v (.n .i64 c.hi)])]⟩) else none))),([0,1,0,1,1,1,1,1,1,1,1,1,1,1,1],sumF (fun _:Unit=>(hSb js ms q n m k c 0 (fun v=>0))) (fun _=>()) (fun _ K=>(bif (gOk js ms q n m k c && !decide (sS js ms q n m k c=0)) then (K (.exit 2) ⟨[(17,.o 78)],[(78,.reg 2 1 (.fo (k:Int).toNat (fun v=>[.n .i64 ((qZV (fun i:Nat=>(nxE js ms q n m k c i)) n 0 (fun v=>0)) v)])))]⟩) else none)))]
set_option maxRecDepth 100000 in
theorem pxstp0 (js:Nat→J) (ms:Nat→Ms) (q:Nat→Int) (n m k:Nat) (c:Cn):qKZ Tf (OrL.k (orSa js ms q n m k c)) (zX (kYV js ms q n m k c)) 60 66 [.a [.lf n (fJ js),.lf m (fM ms)],.a (cp c),.lf k (fQ q)] =
 (bif (g1 [.lf k (fQ q)] && decide (k≤50)) then (bif (g1 [.a [.lf n (fJ js),.lf m (fM ms)],.l [(cp c)],.lf (bif smQ q k then k else 0) (fB (ptB q))]) then (bif (hQ js ms q n m k c) then (bif (g1 [.lf k (fQ q)] && decide (1≤k∧k≤10)) then some (.v (.t [.lf k (fQ q),.b true]),[])
 else none)
 else (bif (g1 [.a [.lf n (fJ js),.lf m (fM ms)],.a (cp c),.lf k (fQ q)]) then (bif (gOk js ms q n m k c) then (bif (g1 [.lf (gN js ms q n m k c) (fQ (grF js ms q n m k c))] && (gI64 (grF js ms q n m k c) (gN js ms q n m k c) && decide ((gN js ms q n m k c)≤50))) then (bif (gSt (hSa js ms q n m k c 0 0) (hSa js ms q n m k c 0 0)) then (bif (decide ((gN js ms q n m k c)≤50)) then (bif (decide ((sS js ms q n m k c)=0)) then (bif (g1 [.lf k (fQ q)] && decide (1≤k∧k≤10)) then some (.v (.t [.lf k (fQ q),.b true]),[])
 else none)
 else (bif (gEq (.t [.a [.lf n (fJ js),.lf m (fM ms)],.a (cp c)]) (.t [.a [.lf n (fJ js),.lf m (fM ms)],.a (cp c)]) && (decide (k≤50) && gFQ (fQ q))) then (bif (decide (0≤((gK js ms q n m k c):Int))) then (bif (decide ((vJZ .i64 (1 * 2 ^ (min ((gK js ms q n m k c):Int).toNat 64)))=0)) then none
 else (bif (decide (0≤(k:Int))) then (bif (decide ((k:Int)≤(k:Int))) then (bif (decide ((k:Int)≤1000000)) then (bif (gSt (hSb js ms q n m k c 0 (fun v=>0)) (hSb js ms q n m k c 0 (fun v=>0))) then (bif (gOk js ms q n m k c && !decide (sS js ms q n m k c=0)) then some (.v (.t [.lf (k:Int).toNat (fun v=>[.n .i64 ((qZV (fun i:Nat=>(nxE js ms q n m k c i)) n 0 (fun v=>0)) v)]),.b true]),[])
 else none)
 else none)
 else none)
 else none)
 else none))
 else none)
 else none))
 else none)
 else none)
 else none)
 else some (.v (.t [.l [],.b false]),[]))
 else none))
 else none)
 else none):=by kernel_rfl
theorem snd_stp0 (js:Nat→J) (ms:Nat→Ms) (q:Nat→Int) (n m k:Nat) (c:Cn) (hk:k≤50):zH Tryz.prog 66 [.a [.lf n (fJ js),.lf m (fM ms)],.a (cp c),.lf k (fQ q)] (bif hQ js ms q n m k c || (gOk js ms q n m k c && decide (sS js ms q n m k c=0)) then .v (.t [.lf k (fQ q),.b true]) else bif gOk js ms q n m k c then .v (.t [.lf (k:Int).toNat (fQ (qZV (fun i:Nat=>(nxE js ms q n m k c i)) n 0 (fun v=>0))),.b true]) else .v (.t [.l [],.b false])):=by
 refine qQX (N:=60) (LO:=zX (kYV js ms q n m k c)) zJK yY (OrL.ok (l:=(orSa js ms q n m k c)) ⟨qVK (fun h=>kXZ q k (vYH h)),qJQ (snd_hq js ms q n m k c),qVK (fun h=>zHV q k (vYH h)),qJQ (snd_grd js ms q n m k c),ok_vq js ms n m c,qVK (fun h=>by rw [vQJ] at h; exact snd_red _ _ (kQH h.1) (vYH h.2)),trivial⟩) (fun p S hp => ?_) ?_
 ·refine qQG (L:=qK Tf 66) (l:=(kYV js ms q n m k c)) (show AllP _ (kYV js ms q n m k c) from ⟨?_,?_,trivial⟩) p S hp
  ·dsimp only;refine qWJ (T:=Tf) (ok:=(OrL.k (orSa js ms q n m k c))) (f:=66) (LO:=zX []) (p:=[0,1,0,1,1,1,1,1,1]) qGX ?_;intro _ K r hr;obtain ⟨hg,hr⟩:=zQ hr;have hk:=vYH hg;exact (lpSa K js ms q n m k c hk).trans hr
  ·dsimp only;refine qWJ (T:=Tf) (ok:=(OrL.k (orSa js ms q n m k c))) (f:=66) (LO:=zX []) (p:=[0,1,0,1,1,1,1,1,1,1,1,1,1,1,1]) qGX ?_;intro _ K r hr;obtain ⟨hg,hr⟩:=zQ hr;rw [vQJ] at hg;have hs:¬ sS js ms q n m k c=0:=by simpa using hg.2
   exact (lpSb K js ms q n m k c hg.1 hs).trans hr
 ·refine (pxstp0 js ms q n m k c).trans ?_;have hf:gFQ (fQ q)=true:=(zWJ rfl).1;simp only [g1_t,jU,zQX,vYG hk,hf,vZH,Bool.and_true,cond_true];cases hh:hQ js ms q n m k c with
  | true =>
   obtain ⟨_,_,_,hnk,hgk,h1,h10⟩:=zUJ (hq_gok hh);rw [vYG (show 1≤k∧k≤10 by omega)]; rfl
  | false =>
   cases h:gOk js ms q n m k c with
   | false=>rfl
   | true =>
    obtain ⟨_,_,_,hnk,hgk,h1,h10⟩:=zUJ h;have hg:gI64 (grF js ms q n m k c) (gN js ms q n m k c)=true:=gI64_of fun j hj=>grF_64 js ms q n m k c j (by omega)
    have hK:gK js ms q n m k c≤48:=(kR_spec (g:=grF js ms q n m k c) (k:=gN js ms q n m k c) (kQH hg)).1;have hp:=p2_pos (s:=(gK js ms q n m k c:Int)) (by omega);have hp':¬ vJZ .i64 (1 * 2 ^ (min (gK js ms q n m k c:Int).toNat 64))=0:=by show ¬ p2 _=0; omega
    by_cases hs:sS js ms q n m k c=0
    ·simp only [hg,vYG (show gN js ms q n m k c≤50 by omega),cond_true,cond_false,vZJ,vYG hs,vYG (show 1≤k∧k≤10 by omega)];rfl
    ·simp only [hg,vYG (show gN js ms q n m k c≤50 by omega),cond_true,cond_false,vZJ,vYV hs,vYV hp',vYG (show (0:Int)≤(gK js ms q n m k c:Int) by omega),vYG (show (0:Int)≤(k:Int) by omega),vYG (show (k:Int)≤(k:Int) by omega),vYG (show (k:Int)≤1000000 by omega),Bool.not_false];rfl
noncomputable def stQ (js:Nat→J) (ms:Nat→Ms) (q:Nat→Int) (n m k:Nat) (c:Cn):Nat→Int:=fun i=>bif hQ js ms q n m k c || decide (sS js ms q n m k c=0) then q i else nxE js ms q n m k c i
theorem snd_stp (js:Nat→J) (ms:Nat→Ms) (q:Nat→Int) (n m k:Nat) (c:Cn) (hk:k≤50):zH Tryz.prog 66 [.a [.lf n (fJ js),.lf m (fM ms)],.a (cp c),.lf k (fQ q)] (.v (.t [.lf (gN js ms q n m k c) (fQ (stQ js ms q n m k c)),.b (gOk js ms q n m k c)])):=by
 have h0:=snd_stp0 js ms q n m k c hk;cases h:gOk js ms q n m k c with
 | true =>
  obtain ⟨_,_,_,hnk,hgk,h1,h10⟩:=zUJ h;rw [hgk];rw [h,vZH] at h0;cases hh:hQ js ms q n m k c || decide (sS js ms q n m k c=0) with
  | true =>
   rw [hh,cond_true] at h0;have e:stQ js ms q n m k c=q:=by funext i; unfold stQ; rw [hh]; rfl
   rw [e];exact h0
  | false =>
   rw [hh,cond_false,cond_true,toN] at h0;refine qYJ (Same.t (xs:=[_,_]) ⟨zHY fun j (hj:j < k) => ?_,Same.refl _,trivial⟩) h0;show [PV.n .i64 (qZV _ n 0 _ j)]=[PV.n .i64 (stQ js ms q n m k c j)];unfold stQ;rw [zWU (show j < n by omega),hh]; rfl
 | false =>
  have hh:hQ js ms q n m k c=false:=by
   cases e:hQ js ms q n m k c with
   | false=>rfl
   | true=>rw [hq_gok e] at h; cases h
  rw [h,hh] at h0;have e:gN js ms q n m k c=0:=by unfold gN; rw [h]; rfl
  rw [e];exact qYJ (Same.t (xs:=[_,_]) ⟨Same.lf rfl,Same.refl _,trivial⟩) h0
end Go.Proofs.YtmffoiemmlcmfaaGreat.Nr
namespace Go.Proofs.YtmffoiemmlcmfaaGreat.Ns
open Go.Rx Rt Go.Sx Go.RowKit Od Ov Pc Na Nb Nc Nd Nx Nf Ng Nj Nl Nm Nn No Nq Nr
theorem runS_unit {β:Type} (good:Nat→Bool) (KX:β) (KR:Nat→β):∀ k p,runS (fun (i:Nat) (_:Unit)=>good i) (fun _ _=>()) (fun _=>KX) (fun i _=>KR i) k p ()=yKV good KX KR k p
 | 0,_=>rfl
 | k + 1,p=>by simp only [runS,yKV,runS_unit good KX KR k (p + 1)]
noncomputable def fR (js:Nat→J) (ms:Nat→Ms) (q:Nat→Int) (n m k:Nat) (c:Cn):Int:=(max (-17592186044416) (min (vJZ .i64 ((vJZ .i64 ((vJZ .i64 (((vJZ .i64 (c.lo + c.hi)) / 2) - (mvQ js ms (unFQ (fQ q)) n m k c))) * 128)).tdiv (vJZ .i64 (1 * 2 ^ (min ((gK js ms q n m k c):Int).toNat 64))))) 17592186044416))
noncomputable def hTc (js:Nat→J) (ms:Nat→Ms) (q:Nat→Int) (n m k:Nat) (c:Cn) (i:Int) (r:Nat) (f:Nat→List PV):St:=⟨[(2,.v (.lf k (fQ q))),(3,.p 3 0),(8,.v (.lf (gN js ms q n m k c) (fQ (grF js ms q n m k c)))),(10,.v (.n .u64 ((gK js ms q n m k c):Int))),(11,.v (.n .i64 (sS js ms q n m k c))),(13,.v (.n .i64 (fR js ms q n m k c))),(14,.o 122),(15,.v (.n .i64 i))],[(3,.blk [.v (.lf n (fJ js)),.v (.lf m (fM ms))]),(122,.reg 2 1 (.fo r f))]⟩
end Go.Proofs.YtmffoiemmlcmfaaGreat.Ns
namespace Go.Sx
theorem jKJ {js:List J} {bx:List Iv}:∀ n,n≤js.length→n≤bx.length→(lks js bx n).length=n
 | 0,_,_=>rfl
 | n + 1,h1,h2=>by
  have e1:js[n]? = some js[n]:=vQK (by omega);have e2:bx[n]? = some bx[n]:=vQK (by omega);rw [yQU e1 e2,List.length_append,jKJ n (by omega) (by omega)];rfl
end Go.Sx
namespace Go.Sx
theorem yXQ (L:List Int) (i:Nat):∀ (n k:Nat) (j:J),(jsOf L i n).1[k]? = some j→∃ p,j=(qQH L p (k:Int)).1
 | 0,k,j,h=>by simp [jsOf] at h
 | n + 1,k,j,h=>by
  have hl:=qKG L i n;rcases Nat.lt_or_ge k n with hk | hk
  ·exact yXQ L i n k j (by rw [← h]; show _=((jsOf L i n).1 ++ [_])[k]?; rw [List.getElem?_append_left (by omega)])
  ·rcases Nat.lt_or_ge n k with hk2 | hk2
   ·exfalso
    have:=(List.getElem?_eq_some_iff.1 h).1
    rw [qKG] at this;omega
   ·obtain rfl:k=n:=by omega
    refine ⟨(jsOf L i k).2,?_⟩;have h':((jsOf L i k).1 ++ [(qQH L (jsOf L i k).2 (k:Int)).1])[k]? = some j:=h;rw [List.getElem?_append_right (by omega),hl] at h';simp at h';exact h'.symm
theorem zYW (L:List Int) (p:Nat) (k:Int):(qQH L p k).1.name=qQY k∧(qQH L p k).1.kind=kH (srcR L (p + 2) 8)∧(qQH L p k).1.parent=(zQQ L p k).parent∧(qQH L p k).1.off=(zQQ L p k).off ∧
  (qQH L p k).1.weight=1 + srcR L p 4∧(qQH L p k).1.speed=65536∧(qQH L p k).1.accel=65536 + srcR L (p + 1) 3∧(qQH L p k).1.torque=327680:=by
 unfold qQH;split
 ·exact ⟨rfl,rfl,rfl,rfl,rfl,rfl,rfl,rfl⟩
 ·split <;> exact ⟨rfl,rfl,rfl,rfl,rfl,rfl,rfl,rfl⟩
theorem kindOf_b (x:Int):0≤kH x∧kH x≤6:=by
 unfold kH; repeat' split
 all_goals omega
theorem msOf_get (L:List Int) (i:Nat):∀ n,∀ m ∈ msOf L i n,(0≤m.link∧m.link < nJ L i)∧(1≤m.mass∧m.mass≤65536)∧(-4194304≤m.p.x∧m.p.x≤4194304)∧(-4194304≤m.p.y∧m.p.y≤4194304)∧(-4194304≤m.p.z∧m.p.z≤4194304)
 | 0,m,h=>by cases h
 | n + 1,m,h=>by
  rcases List.mem_append.1 (show m ∈ msOf L i n ++ [_] from h) with h | h
  ·exact msOf_get L i n m h
  ·obtain rfl:=List.mem_singleton.1 h;have hn:=nJ_b L i;have a:=qQU L (mQ L i + 1 + 4 * n) (k:=(nJ L i:Int)) (by omega);have b:=qQU L (mQ L i + 1 + 4 * n + 1) (k:=9000) (by decide);have c:=qQU L (mQ L i + 1 + 4 * n + 2) (k:=2 * 3 + 1) (by decide);have d:=qQU L (mQ L i + 1 + 4 * n + 3) (k:=2 * 2 + 1) (by decide);dsimp only;unfold srcS;omega
end Go.Sx
namespace Go.Sx
def ic (x:Int):List Value:=[.int .i64 x]
def icC (cs:List Int):List Value:=(cs.map ic).flatten
theorem jKX (cs:List Int) (x:Int):icC (cs ++ [x])=icC cs ++ ic x:=by simp [icC]
def cfgs (l:List Int) (js:List J):Nat→List Int × Nat
 | 0=>([],0)
 | k + 1=>match js[k]? with
  | some j=>if srcR l (cfgs l js k).2 6=0 then ((cfgs l js k).1 ++ [j.lo],(cfgs l js k).2 + 1) else if srcR l (cfgs l js k).2 6=1 then ((cfgs l js k).1 ++ [j.hi],(cfgs l js k).2 + 1)
   else ((cfgs l js k).1 ++ [j.lo + srcR l ((cfgs l js k).2 + 1) (j.hi - j.lo + 1)],(cfgs l js k).2 + 1 + 1)
  | none=>cfgs l js k
theorem cfg_0 {l:List Int} {js:List J} {k q:Nat} {j:J} {cs:List Int} {r:Int} (hjk:js[k]? = some j) (h:cfgs l js k=(cs,q)) (hr:r=srcR l q 6) (h0:r=0):cfgs l js (k + 1)=(cs ++ [j.lo],q + 1):=by
 simp only [cfgs,hjk,h,← hr,h0,if_pos]
theorem cfg_1 {l:List Int} {js:List J} {k q:Nat} {j:J} {cs:List Int} {r:Int} (hjk:js[k]? = some j) (h:cfgs l js k=(cs,q)) (hr:r=srcR l q 6) (h1:r=1):cfgs l js (k + 1)=(cs ++ [j.hi],q + 1):=by
 simp only [cfgs,hjk,h,← hr,h1];rfl
theorem cfg_2 {l:List Int} {js:List J} {k q:Nat} {j:J} {cs:List Int} {r x:Int} (hjk:js[k]? = some j) (h:cfgs l js k=(cs,q)) (hr:r=srcR l q 6) (h0:¬ r=0) (h1:¬ r=1) (hx:x=srcR l (q + 1) (j.hi - j.lo + 1)):cfgs l js (k + 1)=(cs ++ [j.lo + x],q + 1 + 1):=by
 simp only [cfgs,hjk,h,← hr,if_neg h0,if_neg h1,← hx]
theorem jUV {l:List Int} {js:List J}:∀ k,k≤js.length→(cfgs l js k).1.length=k
 | 0,_=>rfl
 | k + 1,h=>by
  have hk:js[k]? = some js[k]:=vQK (by omega);have h2:=jUV (l:=l) (js:=js) k (by omega);simp only [cfgs,hk];split
  ·simp [h2]
  ·split <;> simp [h2]
end Go.Sx
namespace Go.Sx
def Ex (a:Iv):Prop:=a.lo=a.hi
end Go.Sx
namespace Go.Proofs.YtmffoiemmlcmfaaGreat
open Go.Sx
theorem uYX:appB Tryz.prog 27 2 1 8=true:=by kernel_rfl
theorem mkCfg (lv:Value) (l:List Int) (aj am:Option Addr) (cj nm cm:Nat) (js:List J) (hn:js.length≤1000) (hjs:∀ j ∈ js,JB j) (w:World) (hl:IntsAt w w.heap.size lv l) (hS:qJY 12 aj (js.map jc) w):Calls Tryz.prog 7 [.agg #[.slice aj js.length cj,.slice am nm cm],lv].toArray w (jXK (X:=Option Addr × Nat) (fun _=>True) (fun x=>.slice x.1 js.length x.2) (fun x=>OwnF 0 2 1 x.1 x.2 js.length (icC (cfgs l js js.length).1)) w):=by
 refine yH (n:=57) Tryz.func7 rfl rfl rfl ?_;refine qW ?_;refine qZ ?_;refine zZX 2 rfl rfl rfl rfl ?_; intro b2;refine qY (qV rfl) rfl rfl rfl ?_;refine qX ?_;refine qQ ?_;refine qW ?_;refine qZ ?_;refine qY (qJ rfl) rfl rfl rfl ?_;refine zHK 11 en20 rfl (fun w' k=>uYJ w' (qGV hl k.grow (Nat.le_refl _))) rfl rfl ?_; intro b11;refine qY (qV rfl) rfl rfl rfl ?_;refine qX ?_;refine qQ ?_;refine qW ?_;refine qZ ?_;refine qY (qV rfl) rfl rfl rfl ?_;refine qX ?_;refine qQ ?_;refine qW ?_;refine qW ?_;refine jUW 100 2 1 ?_;refine qZ ?_;refine qY (qV rfl) rfl rfl rfl ?_;refine qX ?_;refine qQ ?_;refine uX ?_;refine zJV [2,5] [2] (α:=Nat × Nat × Option Addr × Nat × List Int) (fun x=>js.length - x.1) (fun x=>x.1≤js.length∧cfgs l js x.1=(x.2.2.2.2,x.2.1)∧x.2.2.2.2.length=x.1) (fun x=>⟨w,[(100,ownD x.2.2.1,OwnF 0 2 1 x.2.2.1 x.2.2.2.1 x.1 (icC x.2.2.2.2))]⟩) (fun x=>[(6,.slice x.2.2.1 x.1 x.2.2.2.1),(7,.int .i64 (x.1:Int))]) (fun x=>[(11,b11,srcC lv l x.2.1,81)]) (0,0,none,0,[]) rfl rfl ?_ ?_ ?_ ?_ rfl ?_
 ·
  exact ⟨Nat.zero_le _,rfl,rfl⟩
 ·
  exact rfl
 ·
  repeat' first | exact trivial | exact True.intro | refine ⟨rfl,?_⟩
 ·
  repeat' first | exact trivial | exact True.intro | refine ⟨rfl,?_⟩
 rintro ⟨k,q,a,cap,cs⟩ ⟨hk,hsh,hlen⟩
 dsimp only at hk hsh hlen ⊢;refine qW ?_;refine qW ?_;refine qZ ?_;refine qY (qJ rfl) rfl rfl rfl ?_;refine qY (qU zWX rfl) rfl rfl rfl ?_;refine qY (yX 2 ty22 rfl rfl rfl) rfl rfl rfl ?_;refine qY (qUX sl22 rfl) rfl rfl rfl ?_;refine qY (qVY rfl rfl) rfl rfl rfl ?_;refine qX ?_;refine qQ ?_;refine kZ rfl (fun hc16 => ?_) (fun hc16 => ?_)
 ·
  have h2:k < js.length:=by have:=vYH hc16; omega
  obtain ⟨j,hjk⟩:∃ j,js[k]? = some j:=⟨_,vQK h2⟩
  have hj:(js.map jc)[k]? = some (jc j):=by rw [vZY,hjk]; rfl
  obtain ⟨bj1,bj2,bj3⟩:=hjs j (vQG hjk);refine kJ ?_;refine qQ ?_;refine qW ?_;refine uX ?_;refine qW ?_;refine doC_all mo (by kernel_rfl) ?_;refine yW (qU zWX rfl) rfl rfl rfl ?_;refine yW (yX 2 ty22 rfl rfl rfl) rfl rfl rfl ?_;refine yW (qJ rfl) rfl rfl rfl ?_;refine yW (qYZ (e:=55) (uZ hS) (by kernel_rfl) rfl rfl rfl hj h2) rfl rfl rfl ?_;refine yW (zVY (uZ hS) hj zJW rfl) rfl rfl rfl ?_;refine yW (zVZ k 6 (uZ hS) hj ty2 rfl rfl) rfl rfl rfl ?_;refine yW (qU zWX rfl) rfl rfl rfl ?_;refine yW (yX 2 ty22 rfl rfl rfl) rfl rfl rfl ?_;refine yW (qJ rfl) rfl rfl rfl ?_;refine yW (qYZ (e:=55) (uZ hS) (by kernel_rfl) rfl rfl rfl hj h2) rfl rfl rfl ?_;refine yW (zVY (uZ hS) hj zJX rfl) rfl rfl rfl ?_;refine yW (zVZ k 7 (uZ hS) hj ty2 rfl rfl) rfl rfl rfl ?_;refine yW (qV rfl) rfl rfl rfl ?_;refine yW (qV rfl) rfl rfl rfl ?_;refine zZW ?_;refine qQ ?_;refine qW ?_;refine qZ ?_;refine qY (qJ rfl) rfl rfl rfl ?_;refine yZZ (F:=vI) 11 hl rfl en21 rfl (fun w' h=>jX _ (by first | omega | assumption | (unfold In64; omega) | decide) w' h) rfl rfl rfl ?_; intro r32 hr32;have br32:=uY hr32 (by first | decide | omega);refine qX ?_;refine qQ ?_;refine uX ?_;refine qW ?_;refine qZ ?_;refine qY (qUJ rfl rfl) rfl rfl rfl ?_;refine qY (qV rfl) rfl rfl rfl ?_;refine qX ?_;refine qQ ?_;refine kZ rfl (fun hc44 => ?_) (fun hc44 => ?_)
  ·
   refine qZ ?_;refine qY (qJ rfl) rfl rfl rfl ?_;refine qY (qJ rfl) rfl rfl rfl ?_;refine qGG 48 sl27 ze2 rfl rfl rfl rfl rfl rfl rfl rfl ?_; intro b48;refine qGH (id2:=48) 100 uYX rfl rfl rfl rfl rfl rfl rfl (by omega) (by omega) rfl rfl ?_; intro a49 c49 R49 hR49;obtain rfl:=Option.some.inj hR49;refine qY (qV rfl) rfl rfl rfl ?_;refine qX ?_;refine zK ?_;refine zK ?_;refine qQ ?_;refine qZ ?_;refine qY (qJ rfl) rfl rfl rfl ?_;refine qY (kV rfl rfl (zWY (by omega))) rfl rfl rfl ?_;refine qY (qV rfl) rfl rfl rfl ?_;refine qX ?_;refine qJX (k + 1,q + 1,a49,c49,cs ++ [j.lo]) (by refine ⟨?_,?_,?_⟩ <;> dsimp only; omega; exact cfg_0 hjk hsh hr32 (vYH hc44); simp [hlen]) (by show js.length - (k + 1) < js.length - k; omega) (by dsimp only; rw [jKX]; rfl) ?_ ?_ rfl
   repeat' first | exact trivial | exact True.intro | refine ⟨rfl,?_⟩
  ·
   refine qW ?_;refine qZ ?_;refine qY (qUJ rfl rfl) rfl rfl rfl ?_;refine qY (qV rfl) rfl rfl rfl ?_;refine qX ?_;refine qQ ?_;refine kZ rfl (fun hc50 => ?_) (fun hc50 => ?_)
   ·
    refine qZ ?_;refine qY (qJ rfl) rfl rfl rfl ?_;refine qY (qJ rfl) rfl rfl rfl ?_;refine qGG 54 sl27 ze2 rfl rfl rfl rfl rfl rfl rfl rfl ?_; intro b54;refine qGH (id2:=54) 100 uYX rfl rfl rfl rfl rfl rfl rfl (by omega) (by omega) rfl rfl ?_; intro a55 c55 R55 hR55;obtain rfl:=Option.some.inj hR55;refine qY (qV rfl) rfl rfl rfl ?_;refine qX ?_;refine zK ?_;refine zK ?_;refine qQ ?_;refine qZ ?_;refine qY (qJ rfl) rfl rfl rfl ?_;refine qY (kV rfl rfl (zWY (by omega))) rfl rfl rfl ?_;refine qY (qV rfl) rfl rfl rfl ?_;refine qX ?_;refine qJX (k + 1,q + 1,a55,c55,cs ++ [j.hi]) (by refine ⟨?_,?_,?_⟩ <;> dsimp only; omega; exact cfg_1 hjk hsh hr32 (vYH hc50); simp [hlen]) (by show js.length - (k + 1) < js.length - k; omega) (by dsimp only; rw [jKX]; rfl) ?_ ?_ rfl
    repeat' first | exact trivial | exact True.intro | refine ⟨rfl,?_⟩
   ·
    refine qZ ?_;refine qY (qJ rfl) rfl rfl rfl ?_;refine qY (qJ rfl) rfl rfl rfl ?_;refine qY (qJ rfl) rfl rfl rfl ?_;refine qY (qJ rfl) rfl rfl rfl ?_;refine qY (qJ rfl) rfl rfl rfl ?_;refine qY (qGJ rfl rfl (by first | exact zY ⟨by omega,by omega⟩ | rfl)) rfl rfl rfl ?_;refine qY (kV rfl rfl (by first | exact zY ⟨by omega,by omega⟩ | rfl)) rfl rfl rfl ?_;refine yZZ (F:=vI) 11 hl rfl en21 rfl (fun w' h=>jX _ (by first | omega | assumption | (unfold In64; omega) | decide) w' h) rfl rfl rfl ?_; intro r40 hr40;have br40:=uY hr40 (by first | decide | omega);refine qY (kV rfl rfl (by first | exact zY ⟨by omega,by omega⟩ | rfl)) rfl rfl rfl ?_;refine qGG 42 sl27 ze2 rfl rfl rfl rfl rfl rfl rfl rfl ?_; intro b42;refine qGH (id2:=42) 100 uYX rfl rfl rfl rfl rfl rfl rfl (by omega) (by omega) rfl rfl ?_; intro a43 c43 R43 hR43;obtain rfl:=Option.some.inj hR43;refine qY (qV rfl) rfl rfl rfl ?_;refine qX ?_;refine zK ?_;refine zK ?_;refine qQ ?_;refine qZ ?_;refine qY (qJ rfl) rfl rfl rfl ?_;refine qY (kV rfl rfl (zWY (by omega))) rfl rfl rfl ?_;refine qY (qV rfl) rfl rfl rfl ?_;refine qX ?_;refine qJX (k + 1,q + 1 + 1,a43,c43,cs ++ [j.lo + r40]) (by refine ⟨?_,?_,?_⟩ <;> dsimp only; omega; exact cfg_2 hjk hsh hr32 (vJQ hc44) (vJQ hc50) hr40; simp [hlen]) (by show js.length - (k + 1) < js.length - k; omega) (by dsimp only; rw [jKX]; rfl) ?_ ?_ rfl
    repeat' first | exact trivial | exact True.intro | refine ⟨rfl,?_⟩
 ·
  obtain rfl:k=js.length:=by have:=vJQ hc16; omega
  refine zUU ?_;refine kK ?_;refine kK ?_;refine qYK ?_;refine qQ ?_;refine qW ?_;refine qZ ?_;refine qY (qJ rfl) rfl rfl rfl ?_;refine qY (qV rfl) rfl rfl rfl ?_;refine qX ?_;refine qQ ?_;refine jK ?_;refine zYK (rs:=[.tmp 4]) rfl (resC (uJ rfl) (resN)) rfl ?_;intro w2 k2;obtain ⟨_,q2,q3⟩:=k2.facts _ vZQ;exact ⟨(a,cap),trivial,rfl,k2.grow,ownD a,yVQ _ _ _ _ _ _ _,fun z hz=>⟨(q2 z hz).1,(q2 z hz).2.1⟩,by dsimp only; rw [hsh]; exact q3⟩
end Go.Proofs.YtmffoiemmlcmfaaGreat
namespace Go.Proofs.YtmffoiemmlcmfaaGreat.Nu
open Go.Rx Rt Go.Sx Go.RowKit Od Ov Pc Na Nb Nc Nd Nx Nf Ng Nj Nl Nm Nn No Nq Nr Ns
noncomputable def yUY:List PV→Option (Bool × Ret):=fun ps=>match ps with
 | [.n .i64 n,.n .i64 k]=>some (decide (0 < k∧k≤9223372036854775807),.v (.n .i64 (n % k)))
 | _=>none
theorem zGY:zW Tryz.prog 9 yUY:=by
 intro ps r h;unfold yUY at h;split at h
 ·simp only [vQZ,vQY] at h;obtain ⟨hg,rfl⟩:=h;exact zZ (qH Tryz.func9 (by kernel_rfl) (by kernel_rfl)) rfl rfl (fun w=>kYW _ _ (vYH hg) w)
 ·cases h
theorem near_0 (js:Nat→J) (ms:Nat→Ms) (q:Nat→Int) (n m k:Nat) (c:Cn) (w:Nat) (e:Nat→Int) (hk:k≤50) (hc:zH Tryz.prog 22 [.a [.lf n (fJ js),.lf m (fM ms)],.n .i64 1,.lf 0 (fQ e)] (.ow 63 10 (.l [cp c]))):∃ c':Cn,zH Tryz.prog 8 [.a [.lf n (fJ js),.lf m (fM ms)],.n .i64 1,.lf 0 (fQ e),.lf k (fQ q)] (.ow 63 10 (.l [cp c'])):=by
 refine ⟨bif qOk js ms q n m k c then ⟨c.kind,c.link,c.p,c.n,(vJZ .i64 ((qLo js ms q n m k c) + (-1966080))),(vJZ .i64 ((vJZ .i64 ((qLo js ms q n m k c) + (-1966080))) + 65536))⟩ else c,qG (N:=60) yJ yY (OrL.ok (l:=[(22,o_cr [.a [.lf n (fJ js),.lf m (fM ms)],.n .i64 1,.lf 0 (fQ e)] (.ow 63 10 (.l [cp c]))),(9,yUY),(13,o_lk [.lf k (fQ q)] (decide (k≤50)) (.v (.lf (bif smQ q k then k else 0) (fB (ptB q))))),(23,o_lk [.a [.lf n (fJ js),.lf m (fM ms)],.a (cp c),.lf (bif smQ q k then k else 0) (fB (ptB q))] (decide (k≤50)) (.v (.t [.a [.n .i64 (qLo js ms q n m k c),.n .i64 (qHi js ms q n m k c)],.b (qOk js ms q n m k c)])))]) ⟨qJQ hc,zGY,qVK (fun h=>zYG q k (vYH h)),qVK (fun h=>kYY js ms (ptB q) n m (bif smQ q k then k else 0) c (jQH (vYH h))),trivial⟩) ?_⟩;refine (by kernel_rfl:_=bif (g1 [.a [.lf n (fJ js),.lf m (fM ms)],.n .i64 1,.lf 0 (fQ e)]) then (bif (g1 [.lf k (fQ q)] && decide (k≤50)) then (bif (g1 [.a [.lf n (fJ js),.lf m (fM ms)],.a (cp c),.lf (bif smQ q k then k else 0) (fB (ptB q))] && decide (k≤50)) then (bif (qOk js ms q n m k c) then some (.ow 63 10 (.l [[.n .i64 c.kind,.n .i64 c.link,.n .i64 c.p.x,.n .i64 c.p.y,.n .i64 c.p.z,.n .i64 c.n.x,.n .i64 c.n.y,.n .i64 c.n.z,.n .i64 (vJZ .i64 ((qLo js ms q n m k c) + (-1966080))),.n .i64 (vJZ .i64 ((vJZ .i64 ((qLo js ms q n m k c) + (-1966080))) + 65536))]]),[])
 else some (.ow 63 10 (.l [(cp c)]),[]))
 else none)
 else none)
 else none).trans ?_
 simp only [g1_t,vYG hk,vZJ,cond_true];cases qOk js ms q n m k c <;> rfl
theorem near_1 (js:Nat→J) (ms:Nat→Ms) (q:Nat→Int) (n m k:Nat) (c:Cn) (w:Nat) (e:Nat→Int) (hk:k≤50) (hc:zH Tryz.prog 22 [.a [.lf n (fJ js),.lf m (fM ms)],.n .i64 1,.lf 1 (fQ e)] (.ow 63 10 (.l [cp c]))):∃ c':Cn,zH Tryz.prog 8 [.a [.lf n (fJ js),.lf m (fM ms)],.n .i64 1,.lf 1 (fQ e),.lf k (fQ q)] (.ow 63 10 (.l [cp c'])):=by
 refine ⟨bif qOk js ms q n m k c then ⟨c.kind,c.link,c.p,c.n,(vJZ .i64 ((qLo js ms q n m k c) + (vJZ .i64 ((vJZ .i64 (((e (0:Int).toNat) % 61) - 30)) * 65536)))),(vJZ .i64 ((vJZ .i64 ((qLo js ms q n m k c) + (vJZ .i64 ((vJZ .i64 (((e (0:Int).toNat) % 61) - 30)) * 65536)))) + 65536))⟩ else c,qG (N:=60) yJ yY (OrL.ok (l:=[(22,o_cr [.a [.lf n (fJ js),.lf m (fM ms)],.n .i64 1,.lf 1 (fQ e)] (.ow 63 10 (.l [cp c]))),(9,yUY),(13,o_lk [.lf k (fQ q)] (decide (k≤50)) (.v (.lf (bif smQ q k then k else 0) (fB (ptB q))))),(23,o_lk [.a [.lf n (fJ js),.lf m (fM ms)],.a (cp c),.lf (bif smQ q k then k else 0) (fB (ptB q))] (decide (k≤50)) (.v (.t [.a [.n .i64 (qLo js ms q n m k c),.n .i64 (qHi js ms q n m k c)],.b (qOk js ms q n m k c)])))]) ⟨qJQ hc,zGY,qVK (fun h=>zYG q k (vYH h)),qVK (fun h=>kYY js ms (ptB q) n m (bif smQ q k then k else 0) c (jQH (vYH h))),trivial⟩) ?_⟩;refine (by kernel_rfl:_=bif (g1 [.a [.lf n (fJ js),.lf m (fM ms)],.n .i64 1,.lf 1 (fQ e)]) then (bif (g1 [.lf k (fQ q)] && decide (k≤50)) then (bif (g1 [.a [.lf n (fJ js),.lf m (fM ms)],.a (cp c),.lf (bif smQ q k then k else 0) (fB (ptB q))] && decide (k≤50)) then (bif (qOk js ms q n m k c) then some (.ow 63 10 (.l [[.n .i64 c.kind,.n .i64 c.link,.n .i64 c.p.x,.n .i64 c.p.y,.n .i64 c.p.z,.n .i64 c.n.x,.n .i64 c.n.y,.n .i64 c.n.z,.n .i64 (vJZ .i64 ((qLo js ms q n m k c) + (vJZ .i64 ((vJZ .i64 (((e (0:Int).toNat) % 61) - 30)) * 65536)))),.n .i64 (vJZ .i64 ((vJZ .i64 ((qLo js ms q n m k c) + (vJZ .i64 ((vJZ .i64 (((e (0:Int).toNat) % 61) - 30)) * 65536)))) + 65536))]]),[])
 else some (.ow 63 10 (.l [(cp c)]),[]))
 else none)
 else none)
 else none).trans ?_
 simp only [g1_t,vYG hk,vZJ,cond_true];cases qOk js ms q n m k c <;> rfl
theorem near_2 (js:Nat→J) (ms:Nat→Ms) (q:Nat→Int) (n m k:Nat) (c:Cn) (w:Nat) (e:Nat→Int) (hk:k≤50) (hc:zH Tryz.prog 22 [.a [.lf n (fJ js),.lf m (fM ms)],.n .i64 1,.lf (w + 2) (fQ e)] (.ow 63 10 (.l [cp c]))):∃ c':Cn,zH Tryz.prog 8 [.a [.lf n (fJ js),.lf m (fM ms)],.n .i64 1,.lf (w + 2) (fQ e),.lf k (fQ q)] (.ow 63 10 (.l [cp c'])):=by
 refine ⟨bif qOk js ms q n m k c then ⟨c.kind,c.link,c.p,c.n,(vJZ .i64 ((qLo js ms q n m k c) + (vJZ .i64 ((vJZ .i64 (((e (0:Int).toNat) % 61) - 30)) * 65536)))),(vJZ .i64 ((vJZ .i64 ((qLo js ms q n m k c) + (vJZ .i64 ((vJZ .i64 (((e (0:Int).toNat) % 61) - 30)) * 65536)))) + (vJZ .i64 ((vJZ .i64 (1 + ((e (1:Int).toNat) % 40))) * 65536))))⟩ else c,qG (N:=60) yJ yY (OrL.ok (l:=[(22,o_cr [.a [.lf n (fJ js),.lf m (fM ms)],.n .i64 1,.lf (w + 2) (fQ e)] (.ow 63 10 (.l [cp c]))),(9,yUY),(13,o_lk [.lf k (fQ q)] (decide (k≤50)) (.v (.lf (bif smQ q k then k else 0) (fB (ptB q))))),(23,o_lk [.a [.lf n (fJ js),.lf m (fM ms)],.a (cp c),.lf (bif smQ q k then k else 0) (fB (ptB q))] (decide (k≤50)) (.v (.t [.a [.n .i64 (qLo js ms q n m k c),.n .i64 (qHi js ms q n m k c)],.b (qOk js ms q n m k c)])))]) ⟨qJQ hc,zGY,qVK (fun h=>zYG q k (vYH h)),qVK (fun h=>kYY js ms (ptB q) n m (bif smQ q k then k else 0) c (jQH (vYH h))),trivial⟩) ?_⟩;refine (by kernel_rfl:_=bif (g1 [.a [.lf n (fJ js),.lf m (fM ms)],.n .i64 1,.lf (w + 2) (fQ e)]) then (bif (g1 [.lf k (fQ q)] && decide (k≤50)) then (bif (g1 [.a [.lf n (fJ js),.lf m (fM ms)],.a (cp c),.lf (bif smQ q k then k else 0) (fB (ptB q))] && decide (k≤50)) then (bif (qOk js ms q n m k c) then some (.ow 63 10 (.l [[.n .i64 c.kind,.n .i64 c.link,.n .i64 c.p.x,.n .i64 c.p.y,.n .i64 c.p.z,.n .i64 c.n.x,.n .i64 c.n.y,.n .i64 c.n.z,.n .i64 (vJZ .i64 ((qLo js ms q n m k c) + (vJZ .i64 ((vJZ .i64 (((e (0:Int).toNat) % 61) - 30)) * 65536)))),.n .i64 (vJZ .i64 ((vJZ .i64 ((qLo js ms q n m k c) + (vJZ .i64 ((vJZ .i64 (((e (0:Int).toNat) % 61) - 30)) * 65536)))) + (vJZ .i64 ((vJZ .i64 (1 + ((e (1:Int).toNat) % 40))) * 65536))))]]),[])
 else some (.ow 63 10 (.l [(cp c)]),[]))
 else none)
 else none)
 else none).trans ?_
 simp only [g1_t,vYG hk,vZJ,cond_true];cases qOk js ms q n m k c <;> rfl
theorem snd_near (js:Nat→J) (ms:Nat→Ms) (q:Nat→Int) (n m k:Nat) (c:Cn) (w:Nat) (e:Nat→Int) (hk:k≤50) (hc:zH Tryz.prog 22 [.a [.lf n (fJ js),.lf m (fM ms)],.n .i64 1,.lf w (fQ e)] (.ow 63 10 (.l [cp c]))):∃ c':Cn,zH Tryz.prog 8 [.a [.lf n (fJ js),.lf m (fM ms)],.n .i64 1,.lf w (fQ e),.lf k (fQ q)] (.ow 63 10 (.l [cp c'])):=by
 rcases w with _ | _ | w
 ·exact near_0 js ms q n m k c 0 e hk hc
 ·exact near_1 js ms q n m k c 0 e hk hc
 ·exact near_2 js ms q n m k c w e hk hc
end Go.Proofs.YtmffoiemmlcmfaaGreat.Nu
namespace Go.Proofs.YtmffoiemmlcmfaaGreat.Nv
open Go.Rx Rt Go.Sx Go.RowKit Od Ov Pc Na Nb Nc Nd Nx Nf Ng Nj Nl Nm Nn No Nq Nr Ns Nu
def hSm (q u:Nat→Int) (k l:Nat) (i:Int):St:=⟨[(0,.v (.lf k (fQ q))),(1,.v (.lf l (fQ u))),(5,.v (.n .i64 i))],[]⟩
set_option maxRecDepth 100000 in
theorem rdSm (G:St→Option (Ret × Mem)) (K:Cont) (q u:Nat→Int) (k l:Nat) (i:Int):zJH 60 (cxF T (OrL.k ([]:OrL)) 60 14 (ntmF T 14)) (ckF T (OrL.k ([]:OrL)) 60) (qK T 14 [0,1,0,1,1]) ((cxF T (OrL.k ([]:OrL)) 60 14 (ntmF T 14)).T.hint (cxF T (OrL.k ([]:OrL)) 60 14 (ntmF T 14)).me (zJ (qK T 14 [0,1,0,1,1]))) K G (hSm q u k l i) =
 (bif (decide (i < (k:Int))) then (bif (inB i k) then (bif (inB i l) then (bif (!decide ((q (i).toNat)=(u (i).toNat))) then (K .ret ⟨[(4,.v (.b false))],[]⟩)
 else (G (hSm q u k l (vJZ .i64 (i + 1)))))
 else none)
 else none)
 else (K (.exit 0) ⟨[],[]⟩)):=by kernel_rfl
theorem lpSm (K:Cont) (q u:Nat→Int) (k l:Nat) (hk:k≤50) (hl:k=l):LF 60 (cxF T (OrL.k ([]:OrL)) 60 14 (ntmF T 14)) (ckF T (OrL.k ([]:OrL)) 60) (qK T 14 [0,1,0,1,1]) ((cxF T (OrL.k ([]:OrL)) 60 14 (ntmF T 14)).T.hint (cxF T (OrL.k ([]:OrL)) 60 14 (ntmF T 14)).me (zJ (qK T 14 [0,1,0,1,1]))) K 60 (hSm q u k l 0)=bif (allN (fun i:Nat=>decide (q i=u i)) k 0) then (K (.exit 0) ⟨[],[]⟩) else (K .ret ⟨[(4,.v (.b false))],[]⟩):=by
 refine (zJU (c:=k) (hSm q u k l) (fun i:Nat=>decide (q i=u i)) (K (.exit 0) ⟨[],[]⟩) (fun i:Nat=>(K .ret ⟨[(4,.v (.b false))],[]⟩)) (fun G i hi => ?_) (fun G => ?_) k 0 60 (by omega) (by omega)).trans (qYV _ _ _ _ _)
 ·refine (rdSm G K q u k l i).trans ?_;rw [vYG (show (i:Int) < (k:Int) by omega),qZZ (by omega),jY (show i < k by omega),jY (show i < l by omega),toN];cases decide (q i=u i) <;> rfl
 ·refine (rdSm G K q u k l k).trans ?_;rw [vYV (show ¬ (k:Int) < (k:Int) by omega)];rfl
def smB (q u:Nat→Int) (k l:Nat):Bool:=decide ((k:Int)=(l:Int)) && (allN (fun i:Nat=>decide (q i=u i)) k 0)
set_option maxRecDepth 100000 in
theorem pxsam (q u:Nat→Int) (k l:Nat):qKZ T (OrL.k ([]:OrL)) (zX [([0,1,0,1,1],jV (hSm q u k l 0) (fun K=>(bif (decide (k≤50) && decide (k=l)) then (bif (allN (fun i:Nat=>decide (q i=u i)) k 0) then (K (.exit 0) ⟨[],[]⟩) else (K .ret ⟨[(4,.v (.b false))],[]⟩)) else none)))]) 60 14 [.lf k (fQ q),.lf l (fQ u)] =
 (bif (!decide ((k:Int)=(l:Int))) then some (.v (.b false),[])
 else (bif (gSt (hSm q u k l 0) (hSm q u k l 0)) then (bif (decide (k≤50) && decide (k=l)) then (bif (allN (fun i:Nat=>decide (q i=u i)) k 0) then some (.v (.b true),[])
 else some (.v (.b false),[]))
 else none)
 else none)):=by kernel_rfl
theorem snd_sam (q u:Nat→Int) (k l:Nat) (hk:k≤50):zH Tryz.prog 14 [.lf k (fQ q),.lf l (fQ u)] (.v (.b (smB q u k l))):=by
 refine jH (N:=60) (LO:=zX [([0,1,0,1,1],jV (hSm q u k l 0) (fun K=>(bif (decide (k≤50) && decide (k=l)) then (bif (allN (fun i:Nat=>decide (q i=u i)) k 0) then (K (.exit 0) ⟨[],[]⟩) else (K .ret ⟨[(4,.v (.b false))],[]⟩)) else none)))]) yJ yY (OrL.ok (l:=([]:OrL)) trivial) (fun p S hp => ?_) ?_
 ·refine uK (L:=qK T 14) (l:=[([0,1,0,1,1],jV (hSm q u k l 0) (fun K=>(bif (decide (k≤50) && decide (k=l)) then (bif (allN (fun i:Nat=>decide (q i=u i)) k 0) then (K (.exit 0) ⟨[],[]⟩) else (K .ret ⟨[(4,.v (.b false))],[]⟩)) else none)))]) (show AllP _ [([0,1,0,1,1],jV (hSm q u k l 0) (fun K=>(bif (decide (k≤50) && decide (k=l)) then (bif (allN (fun i:Nat=>decide (q i=u i)) k 0) then (K (.exit 0) ⟨[],[]⟩) else (K .ret ⟨[(4,.v (.b false))],[]⟩)) else none)))] from ⟨qQK fun K r hr => ?_,trivial⟩) p S hp
  ·obtain ⟨hg,hr⟩:=zQ hr;rw [vQJ] at hg;have hk:=vYH hg.1;have hl:=vYH hg.2;exact (lpSm K q u k l hk hl).trans hr
 ·refine (pxsam q u k l).trans ?_;unfold smB;by_cases e:k=l
  ·rw [jU,vYG hk,vYG e,vYG (show (k:Int)=(l:Int) by omega)];cases (allN (fun i:Nat=>decide (q i=u i)) k 0) <;> rfl
  ·rw [vYV (show ¬ (k:Int)=(l:Int) by omega)];rfl
noncomputable def gP (p:Prop):Bool:=@decide p (vYJ _)
theorem zUK {p:Prop} (h:p):gP p=true:=@vYG _ (vYJ _) h
theorem qWK {p:Prop} (h:gP p=true):p:=@vYH _ (vYJ _) h
def j0:J:=⟨ByteArray.empty,0,0,⟨0,0,0⟩,0,0,0,0,0,0⟩
def m0:Ms:=⟨0,0,⟨0,0,0⟩⟩
def jaOf (l:List Int):Nat→J:=fun i=>(jsOf l 0 (nJ l 0)).1.getD i j0
def maOf (l:List Int):Nat→Ms:=fun i=>(msOf l 0 (nM l 0)).getD i m0
theorem rob_same (l:List Int):Same (robP l) (.a [.lf (nJ l 0) (fJ (jaOf l)),.lf (nM l 0) (fM (maOf l))]):=by
 refine Same.a ⟨Same.lf ?_,Same.lf ?_,trivial⟩
 ·have:=zGG j0 jp (jsOf l 0 (nJ l 0)).1
  rw [qKG] at this;exact this
 ·have:=zGG m0 mp (msOf l 0 (nM l 0))
  rw [zKH] at this;exact this
theorem rob_same' (l:List Int):Same (.a [.lf (nJ l 0) (fJ (jaOf l)),.lf (nM l 0) (fM (maOf l))]) (robP l):=by
 refine Same.a ⟨Same.l ?_,Same.l ?_,trivial⟩
 ·have:=zGG j0 jp (jsOf l 0 (nJ l 0)).1
  rw [qKG] at this;exact this
 ·have:=zGG m0 mp (msOf l 0 (nM l 0))
  rw [zKH] at this;exact this
def iqOf (l:List Int):Nat→Int:=fun i=>l.getD i 0
theorem ints_same (l:List Int):Same (zUQ l) (.lf l.length (fQ (iqOf l))):=Same.lf (zGG 0 (fun x=>[PV.n .i64 x]) l)
theorem ints_same' (l:List Int):Same (.lf l.length (fQ (iqOf l))) (zUQ l):=Same.l (zGG 0 (fun x=>[PV.n .i64 x]) l)
noncomputable def jUG (l a:List Int):List Int:=(cfgs a (jsOf l 0 (nJ l 0)).1 (nJ l 0)).1
theorem yHX (l a:List Int):(jUG l a).length=nJ l 0:=jUV _ (by rw [qKG]; exact Nat.le_refl _)
theorem snd_cfg {l a:List Int} (ha:a.length≤9223372036854775807):zH Tryz.prog 7 [robP l,zUQ a] (.v (zUQ (jUG l a))):=by
 have hl:((jUG l a).map fun x=>[PV.n .i64 x]).length=nJ l 0:=by rw [List.length_map]; exact yHX l a
 refine zGU (e:=2) (sz:=1) (yYY (Φ:=fun _=>True) (rows:=(jUG l a).map fun x=>[PV.n .i64 x]) (qH Tryz.func7 (by kernel_rfl) (by kernel_rfl)) (yKJ _) (by decide) (fun w F vals hF hal => ?_));obtain ⟨v1,vs,rfl,h1,hal⟩:=qYU hal;obtain ⟨v2,vs,rfl,h2,hal⟩:=qYU hal;obtain rfl:=zUG hal;obtain ⟨aj,cj,am,cm,rfl,hj,hm'⟩:=rob_open hF h1;have h:=mkCfg v2 a aj am cj (nM l 0) cm (jsOf l 0 (nJ l 0)).1 (by rw [qKG]; have:=nJ_b l 0; omega) (kVW l 0 _) w (yKZ ha hF h2) hj;rw [qKG] at h;rw [hl,zZY (g:=ic) (fun _=>rfl)];exact h
noncomputable def cqOf (l a:List Int):Nat→Int:=iqOf (jUG l a)
theorem snd_cfgF {l a:List Int} (ha:a.length≤9223372036854775807):zH Tryz.prog 7 [.a [.lf (nJ l 0) (fJ (jaOf l)),.lf (nM l 0) (fM (maOf l))],zUQ a] (.v (.lf (nJ l 0) (fQ (cqOf l a)))):=by
 refine jYQ (ps:=[robP l,zUQ a]) ⟨rob_same' l,Same.refl _,trivial⟩ ?_ (snd_cfg ha)
 have:=ints_same (jUG l a)
 rw [yHX] at this;exact this
theorem snd_robF {l:List Int} (hl:l.length≤9223372036854775807):zH Tryz.prog 6 [zUQ l] (.v (.a [.lf (nJ l 0) (fJ (jaOf l)),.lf (nM l 0) (fM (maOf l))])):=qYJ (rob_same l) (snd_robot hl)
theorem snd_consO {l m:List Int} {n:Nat} (hn:n≤1000) (hm:m.length≤9223372036854775807):zH Tryz.prog 22 [.a [.lf (nJ l 0) (fJ (jaOf l)),.lf (nM l 0) (fM (maOf l))],.n .i64 n,zUQ m] (.ow 63 10 (.l ((jWH l m n).map cp))):=by
 have hl:((jWH l m n).map cp).length=n:=by rw [List.length_map]; exact yHU _ _ _ _
 refine qYG (fun _ _ _=>Sames.al (ys:=[robP l,_,_]) ⟨rob_same' l,Same.refl _,Same.refl _,trivial⟩) (yYY (e:=63) (sz:=10) (rows:=(jWH l m n).map cp) (Φ:=fun x=>n≤x.2) (qH Tryz.func22 (by kernel_rfl) (by kernel_rfl)) (yXY (fun _=>rfl) _) (by decide) (fun w F vals hF hal => ?_));obtain ⟨v1,vs,rfl,h1,hal⟩:=qYU hal;obtain ⟨v2,vs,rfl,h2,hal⟩:=qYU hal;obtain ⟨v3,vs,rfl,h3,hal⟩:=qYU hal;obtain rfl:=zUG hal;obtain ⟨aj,cj,am,cm,rfl,hj,hm'⟩:=rob_open hF h1;obtain rfl:v2=.int .i64 (n:Int):=by cases h2; rfl
 have hb:=nJ_b l 0;rw [hl,zZY (g:=cnc) (fun _=>rfl)];exact mkConsO v3 m aj am cj (nJ l 0) (nM l 0) cm n hn (by omega) w (yKZ hm hF h3)
end Go.Proofs.YtmffoiemmlcmfaaGreat.Nv

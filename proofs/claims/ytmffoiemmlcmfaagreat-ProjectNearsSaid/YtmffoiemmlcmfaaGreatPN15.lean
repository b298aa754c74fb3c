/- Part 15 of the texts behind the last one: rules and contracts. No condition. -/
import Derived.Test.YtmffoiemmlcmfaaGreatPN14
open Option.some renaming injEq → vQZ
open Prod.mk renaming injEq → vQY
open Bool renaming and_eq_true → vQJ, and_self → vZJ, true_and → vZH
open List renaming getElem?_eq_getElem → vQK, mem_of_getElem? → vQG, getElem?_take → vZV, getD_eq_getElem?_getD → vZG
open Go.IntKind renaming wrap → vJZ
namespace Go.Proofs.YtmffoiemmlcmfaaGreat.Eb
open Go.Rx Rt Go.Sx Go.RowKit Od Ov Pc Na Nb Nc Nd Nx Nf Ng Nj Nl Nm Nn No Nq Nr Ns Nu Nv Nw Ny Nz Nh3 Ea
def isPr (js:Nat→J) (ms:Nat→Ms) (n m:Nat) (cs:Nat→Cn) (c:Nat) (ps:List PV):Prop:=∃ (q:Nat→Int) (k:Nat) (rs:Int),ps=[.a [.lf n (fJ js),.lf m (fM ms)],.lf c (fC cs),.lf k (fQ q),.n .i64 rs]
noncomputable def uZG (js:Nat→J) (ms:Nat→Ms) (n m:Nat) (cs:Nat→Cn) (c:Nat):List PV→Option (Bool × Ret):=fun ps=>match ps with
 | [r,l,.lf k f,.n .i64 rs]=>some (gP (isPr js ms n m cs c [r,l,.lf k f,.n .i64 rs]),.v (.t [.lf (prL js ms (unFQ f) n m k cs c rs) (fQ (prQ js ms (unFQ f) n m k cs c rs)),.n .i64 (prJ js ms (unFQ f) n m k cs c rs),.b (prB js ms (unFQ f) n m k cs c rs)]))
 | _=>none
theorem ok_prP (js:Nat→J) (ms:Nat→Ms) (n m:Nat) (cs:Nat→Cn) (c:Nat):zW Tryz.prog 17 (uZG js ms n m cs c):=by
 intro ps r hh;unfold uZG at hh;split at hh
 ·simp only [vQZ,vQY] at hh;obtain ⟨hg,rfl⟩:=hh;obtain ⟨q,k,rs,e⟩:=qWK hg;simp only [List.cons.injEq,PV.lf.injEq,PV.n.injEq,and_true,true_and] at e;obtain ⟨rfl,rfl,⟨rfl,rfl⟩,rfl⟩:=e;exact snd_prj js ms _ n m _ cs c _
 ·cases hh
def isDs (js:Nat→J) (ms:Nat→Ms) (n m:Nat) (ps:List PV):Prop:=∃ (q u:Nat→Int) (k l:Nat),k≤50∧l≤50∧ps=[.a [.lf n (fJ js),.lf m (fM ms)],.lf k (fQ q),.lf l (fQ u)]
noncomputable def kUY (js:Nat→J) (ms:Nat→Ms) (n m:Nat):List PV→Option (Bool × Ret):=fun ps=>match ps with
 | [r,.lf k f,.lf l g]=>some (gP (isDs js ms n m [r,.lf k f,.lf l g]),.v (.n .i64 (dsQ js ms (unFQ f) (unFQ g) n m k l)))
 | _=>none
theorem ok_dsP (js:Nat→J) (ms:Nat→Ms) (n m:Nat):zW Tryz.prog 32 (kUY js ms n m):=by
 intro ps r hh;unfold kUY at hh;split at hh
 ·simp only [vQZ,vQY] at hh;obtain ⟨hg,rfl⟩:=hh;obtain ⟨q,u,k,l,hk,hl,e⟩:=qWK hg;simp only [List.cons.injEq,PV.lf.injEq,and_true] at e;obtain ⟨rfl,⟨rfl,rfl⟩,rfl,rfl⟩:=e;exact snd_dis js ms _ _ n m _ _ hk hl
 ·cases hh
theorem ok_dsR (js:Nat→J) (ms:Nat→Ms) (n m:Nat):zW Tryz.prog 15 (kUY js ms n m):=by
 intro ps r hh;unfold kUY at hh;split at hh
 ·simp only [vQZ,vQY] at hh;obtain ⟨hg,rfl⟩:=hh;obtain ⟨q,u,k,l,hk,hl,e⟩:=qWK hg;simp only [List.cons.injEq,PV.lf.injEq,and_true] at e;obtain ⟨rfl,⟨rfl,rfl⟩,rfl,rfl⟩:=e;exact snd_rdis js ms _ _ n m _ _ hk hl
 ·cases hh
def isTw (ps:List PV):Prop:=∃ (q u:Nat→Int) (k:Nat) (st d:Int),(1≤k∧k≤10)∧¬ d=0∧ps=[.lf k (fQ q),.lf k (fQ u),.n .i64 st,.n .i64 d]
noncomputable def uZV:List PV→Option (Bool × Ret):=fun ps=>match ps with
 | [.lf k f,.lf l g,.n .i64 st,.n .i64 d]=>some (gP (isTw [.lf k f,.lf l g,.n .i64 st,.n .i64 d]),.v (.lf k (fQ (twQ (unFQ f) (unFQ g) k st d))))
 | _=>none
theorem ok_tw:zW Tryz.prog 33 uZV:=by
 intro ps r hh;unfold uZV at hh;split at hh
 ·simp only [vQZ,vQY] at hh;obtain ⟨hg,rfl⟩:=hh;obtain ⟨q,u,k,st,d,hk,hd,e⟩:=qWK hg;simp only [List.cons.injEq,PV.lf.injEq,PV.n.injEq,and_true,true_and] at e;obtain ⟨⟨rfl,rfl⟩,⟨rfl,rfl⟩,rfl,rfl⟩:=e;exact snd_tw _ _ _ _ _ hk hd
 ·cases hh
def isHP (js:Nat→J) (ms:Nat→Ms) (n m:Nat) (cs:Nat→Cn) (c:Nat) (ps:List PV):Prop:=∃ (bx:Nat→Iv) (kk:Nat),ps=[.a [.lf n (fJ js),.lf m (fM ms)],.lf c (fC cs),.lf kk (fB bx)]
noncomputable def o_hp (js:Nat→J) (ms:Nat→Ms) (n m:Nat) (cs:Nat→Cn) (c:Nat):List PV→Option (Bool × Ret):=fun ps=>match ps with
 | [r,l,.lf k f]=>some (gP (isHP js ms n m cs c [r,l,.lf k f]),.v (.b (hAB js ms (unFB f) n m k cs c)))
 | _=>none
theorem ok_hp (js:Nat→J) (ms:Nat→Ms) (n m:Nat) (cs:Nat→Cn) (c:Nat):zW Tryz.prog 29 (o_hp js ms n m cs c):=by
 intro ps r hh;unfold o_hp at hh;split at hh
 ·simp only [vQZ,vQY] at hh;obtain ⟨hg,rfl⟩:=hh;obtain ⟨bx,kk,e⟩:=qWK hg;simp only [List.cons.injEq,PV.lf.injEq,and_true] at e;obtain ⟨rfl,rfl,rfl,rfl⟩:=e;exact kXY js ms _ n m _ cs c
 ·cases hh
theorem ok_inP (js:Nat→J) (ms:Nat→Ms) (n m:Nat):zW Tryz.prog 28 (o_in js ms n m):=by
 intro ps r hh;unfold o_in at hh;split at hh
 ·simp only [vQZ,vQY] at hh;obtain ⟨hg,rfl⟩:=hh;obtain ⟨q,k,e⟩:=qWK hg;simp only [List.cons.injEq,PV.lf.injEq,and_true] at e;obtain ⟨rfl,rfl,rfl⟩:=e;exact jGZ js ms _ n m _
 ·cases hh
noncomputable def orEx (js:Nat→J) (ms:Nat→Ms) (q u:Nat→Int) (n m k l:Nat) (cs:Nat→Cn) (c:Nat) (st rd mo:Int):OrL:=[(27,o_cr [.a [.lf n (fJ js),.lf m (fM ms)],.lf c (fC cs)] (.v (.b (cErr js ms n m cs c)))),(28,o_in js ms n m),(29,o_hp js ms n m cs c),(30,o_bq),(31,uZH),(32,kUY js ms n m),(33,uZV),(17,uZG js ms n m cs c)]
noncomputable def hEx (js:Nat→J) (ms:Nat→Ms) (q u:Nat→Int) (n m k l:Nat) (cs:Nat→Cn) (c:Nat) (st rd mo:Int) (cl:Nat) (p:Nat→Int) (r:Nat) (g:Nat→Nat) (x:Nat→Nat→Int):St:=⟨[(1,.v (.lf c (fC cs))),(3,.v (.lf l (fQ u))),(4,.v (.n .i64 st)),(5,.v (.n .i64 rd)),(6,.v (.n .i64 mo)),(7,.p 7 0),(16,.v (.lf cl (fQ p))),(17,.o 71)],[(7,.blk [.v (.lf n (fJ js)),.v (.lf m (fM ms))]),(71,.reg 27 1 (.fo r (fun v=>[.lf (g v) (fQ (x v))])))]⟩
set_option maxRecDepth 100000 in
theorem rdEx (G:St→Option (Ret × Mem)) (K:Cont) (js:Nat→J) (ms:Nat→Ms) (q u:Nat→Int) (n m k l:Nat) (cs:Nat→Cn) (c:Nat) (st rd mo:Int) (cl:Nat) (p:Nat→Int) (r:Nat) (g:Nat→Nat) (x:Nat→Nat→Int):qXW 110 (cxF Tf (OrL.k (orEx js ms q u n m k l cs c st rd mo)) 110 11 (ntmF Tf 11)) (ckF Tf (OrL.k (orEx js ms q u n m k l cs c st rd mo)) 110) (zX []) (qK Tf 11 [0,1,1,1,1,1]) [0,1,1,1,1,1] (Tf.hint 11 (zJ (qK Tf 11 [0,1,1,1,1,1]))) K G (hEx js ms q u n m k l cs c st rd mo cl p r g x) =
 (bif (gP (isDs js ms n m [.a [.lf n (fJ js),.lf m (fM ms)],.lf cl (fQ p),.lf l (fQ u)])) then (bif (decide ((dsQ js ms p u n m cl l)=0)) then (K .ret ⟨[(14,.o 71),(15,.v (.n .i64 1))],[(71,.reg 27 1 (.fo r (fun v=>[.lf (g v) (fQ (x v))])))]⟩)
 else (bif (decide (mo≤(r:Int))) then (K .ret ⟨[(14,.o 71),(15,.v (.n .i64 4))],[(71,.reg 27 1 (.fo r (fun v=>[.lf (g v) (fQ (x v))])))]⟩)
 else (bif (gP (isTw [.lf cl (fQ p),.lf l (fQ u),.n .i64 st,.n .i64 (dsQ js ms p u n m cl l)])) then (bif (gP (isPr js ms n m cs c [.a [.lf n (fJ js),.lf m (fM ms)],.lf c (fC cs),.lf cl (fQ (twQ p u cl st (dsQ js ms p u n m cl l))),.n .i64 rd])) then (bif (prB js ms (twQ p u cl st (dsQ js ms p u n m cl l)) n m cl cs c rd) then (bif (gP (isDs js ms n m [.a [.lf n (fJ js),.lf m (fM ms)],.lf (prL js ms (twQ p u cl st (dsQ js ms p u n m cl l)) n m cl cs c rd) (fQ (prQ js ms (twQ p u cl st (dsQ js ms p u n m cl l)) n m cl cs c rd)),.lf l (fQ u)])) then (bif (decide ((dsQ js ms p u n m cl l)≤(dsQ js ms (prQ js ms (twQ p u cl st (dsQ js ms p u n m cl l)) n m cl cs c rd) u n m (prL js ms (twQ p u cl st (dsQ js ms p u n m cl l)) n m cl cs c rd) l))) then (K .ret ⟨[(14,.o 71),(15,.v (.n .i64 2))],[(71,.reg 27 1 (.fo r (fun v=>[.lf (g v) (fQ (x v))])))]⟩)
 else (bif (decide (r + 1≤1000000)) then (G (hEx js ms q u n m k l cs c st rd mo (prL js ms (twQ p u cl st (dsQ js ms p u n m cl l)) n m cl cs c rd) (prQ js ms (twQ p u cl st (dsQ js ms p u n m cl l)) n m cl cs c rd) (r + 1) (fun v=>(bif (Nat.beq v r) then (prL js ms (twQ p u cl st (dsQ js ms p u n m cl l)) n m cl cs c rd) else (g v))) (fun v w=>(bif (Nat.beq v r) then (prQ js ms (twQ p u cl st (dsQ js ms p u n m cl l)) n m cl cs c rd w) else (x v w)))))
 else none))
 else none)
 else (K .ret ⟨[(14,.o 71),(15,.v (.n .i64 2))],[(71,.reg 27 1 (.fo r (fun v=>[.lf (g v) (fQ (x v))])))]⟩))
 else none)
 else none)))
 else none):=by kernel_rfl
noncomputable def exn (js:Nat→J) (ms:Nat→Ms) (u:Nat→Int) (n m k:Nat) (cs:Nat→Cn) (c:Nat) (st rd:Int) (p:Nat→Int):Nat→Int:=prQ js ms (twQ p u k st (dsQ js ms p u n m k k)) n m k cs c rd
noncomputable def exo (js:Nat→J) (ms:Nat→Ms) (u:Nat→Int) (n m k:Nat) (cs:Nat→Cn) (c:Nat) (st rd:Int) (p:Nat→Int):Bool:=prB js ms (twQ p u k st (dsQ js ms p u n m k k)) n m k cs c rd && !decide (dsQ js ms p u n m k k≤dsQ js ms (exn js ms u n m k cs c st rd p) u n m k k)
noncomputable def exD (js:Nat→J) (ms:Nat→Ms) (u:Nat→Int) (n m k:Nat) (cs:Nat→Cn) (c:Nat) (st rd mo:Int):Nat × (Nat→Nat→Int)→(Nat × (Nat→Nat→Int)) ⊕ ((Nat × (Nat→Nat→Int)) × Int):=fun y =>
 bif decide (dsQ js ms (y.2 (y.1 - 1)) u n m k k=0) then .inr (y,1) else bif decide (mo≤(y.1:Int)) then .inr (y,4) else bif exo js ms u n m k cs c st rd (y.2 (y.1 - 1)) then .inl (y.1 + 1,fun v w=>bif Nat.beq v y.1 then exn js ms u n m k cs c st rd (y.2 (y.1 - 1)) w else y.2 v w) else .inr (y,2)
noncomputable def kZZ (js:Nat→J) (ms:Nat→Ms) (q u:Nat→Int) (n m k:Nat) (cs:Nat→Cn) (c:Nat) (st rd mo:Int):Option ((Nat × (Nat→Nat→Int)) × Int):=yHQ (exD js ms u n m k cs c st rd mo) 110 (1,fun _=>q)
noncomputable def exN (js:Nat→J) (ms:Nat→Ms) (q u:Nat→Int) (n m k:Nat) (cs:Nat→Cn) (c:Nat) (st rd mo:Int):Nat:=match kZZ js ms q u n m k cs c st rd mo with
 | some b=>b.1.1
 | none=>0
noncomputable def exX (js:Nat→J) (ms:Nat→Ms) (q u:Nat→Int) (n m k:Nat) (cs:Nat→Cn) (c:Nat) (st rd mo:Int):Nat→Nat→Int:=match kZZ js ms q u n m k cs c st rd mo with
 | some b=>b.1.2
 | none=>fun _ _=>0
noncomputable def exS (js:Nat→J) (ms:Nat→Ms) (q u:Nat→Int) (n m k:Nat) (cs:Nat→Cn) (c:Nat) (st rd mo:Int):Int:=match kZZ js ms q u n m k cs c st rd mo with
 | some b=>b.2
 | none=>0
theorem kZQ (js:Nat→J) (ms:Nat→Ms) (u:Nat→Int) (n m k:Nat) (cs:Nat→Cn) (c:Nat) (st rd mo:Int):∀ f y,mo.toNat < y.1 + f→0 < f→∃ b,yHQ (exD js ms u n m k cs c st rd mo) f y=some b
 | f + 1,y,h,_=>by
  rw [yHQ];cases e:exD js ms u n m k cs c st rd mo y with
  | inr b=>exact ⟨b,rfl⟩
  | inl z =>
   unfold exD at e;by_cases h1:dsQ js ms (y.2 (y.1 - 1)) u n m k k=0
   ·rw [vYG h1] at e; cases e
   by_cases h2:mo≤(y.1:Int)
   ·rw [vYV h1,vYG h2] at e; cases e
   rw [vYV h1,vYV h2] at e;cases h3:exo js ms u n m k cs c st rd (y.2 (y.1 - 1)) with
   | false=>rw [h3] at e; cases e
   | true =>
    rw [h3] at e;cases e;exact kZQ js ms u n m k cs c st rd mo f _ (by show _ < y.1 + 1 + f; omega) (by omega)
theorem bc_const {r k:Nat}:(fun v=>bif Nat.beq v r then k else k)=fun _=>k:=funext fun v=>by cases Nat.beq v r <;> rfl
theorem bc_last {r:Nat} {y:Nat→Int} {x:Nat→Nat→Int}:(fun w=>bif Nat.beq (r + 1 - 1) r then y w else x (r + 1 - 1) w)=y:=funext fun w=>by
 rw [Nat.add_sub_cancel,show Nat.beq r r=true from Nat.beq_refl r]; rfl
theorem lpEx (K:Cont) (js:Nat→J) (ms:Nat→Ms) (q u:Nat→Int) (n m k l:Nat) (cs:Nat→Cn) (c:Nat) (st rd mo:Int) (hl:k=l) (hk:1≤k∧k≤10) (hm:1≤mo∧mo≤100):LFL 110 (cxF Tf (OrL.k (orEx js ms q u n m k l cs c st rd mo)) 110 11 (ntmF Tf 11)) (ckF Tf (OrL.k (orEx js ms q u n m k l cs c st rd mo)) 110) (zX []) (qK Tf 11 [0,1,1,1,1,1]) [0,1,1,1,1,1] (Tf.hint 11 (zJ (qK Tf 11 [0,1,1,1,1,1]))) K 110 (hEx js ms q u n m k l cs c st rd mo k q 1 (fun _=>k) (fun _ w=>(q w)))=(K .ret ⟨[(14,.o 71),(15,.v (.n .i64 (exS js ms q u n m k cs c st rd mo)))],[(71,.reg 27 1 (.fo (exN js ms q u n m k cs c st rd mo) (fun v=>[.lf k (fQ (exX js ms q u n m k cs c st rd mo v))])))]⟩):=by
 subst hl;have h:=kVY (L:=LFL 110 (cxF Tf (OrL.k (orEx js ms q u n m k k cs c st rd mo)) 110 11 (ntmF Tf 11)) (ckF Tf (OrL.k (orEx js ms q u n m k k cs c st rd mo)) 110) (zX []) (qK Tf 11 [0,1,1,1,1,1]) [0,1,1,1,1,1] (Tf.hint 11 (zJ (qK Tf 11 [0,1,1,1,1,1]))) K) (stp:=qXW 110 (cxF Tf (OrL.k (orEx js ms q u n m k k cs c st rd mo)) 110 11 (ntmF Tf 11)) (ckF Tf (OrL.k (orEx js ms q u n m k k cs c st rd mo)) 110) (zX []) (qK Tf 11 [0,1,1,1,1,1]) [0,1,1,1,1,1] (Tf.hint 11 (zJ (qK Tf 11 [0,1,1,1,1,1]))) K) (fun _ _=>rfl) (fun _=>rfl) (fun y:Nat × (Nat→Nat→Int)=>hEx js ms q u n m k k cs c st rd mo k (y.2 (y.1 - 1)) y.1 (fun _=>k) y.2) (fun y=>1≤y.1∧(y.1:Int)≤mo) (exD js ms u n m k cs c st rd mo) (fun y=>(K .ret ⟨[(14,.o 71),(15,.v (.n .i64 y.2))],[(71,.reg 27 1 (.fo y.1.1 (fun v=>[.lf k (fQ (y.1.2 v))])))]⟩)) (fun G y hy => ?_) (fun y z hy hd => ?_) 110 (1,fun _=>q) ⟨Nat.le_refl _,hm.1⟩
 ·refine h.trans ?_;obtain ⟨b,hb⟩:=kZQ js ms u n m k cs c st rd mo 110 (1,fun _=>q) (by show _ < 1 + 110; omega) (by omega);unfold exN exX exS kZZ;rw [hb];rfl
 ·obtain ⟨r,x⟩:=y;obtain ⟨h1,h2⟩:=hy;refine (rdEx G K js ms q u n m k k cs c st rd mo k (x (r - 1)) r (fun _=>k) x).trans ?_;dsimp only at h1 h2;have e1:gP (isDs js ms n m [.a [.lf n (fJ js),.lf m (fM ms)],.lf k (fQ (x (r - 1))),.lf k (fQ u)])=true:=zUK ⟨_,_,_,_,by omega,by omega,rfl⟩;rw [e1,cond_true];unfold exD;dsimp only;by_cases hd:dsQ js ms (x (r - 1)) u n m k k=0
  ·rw [vYG hd]; rfl
  by_cases hmo:mo≤(r:Int)
  ·rw [vYV hd,vYG hmo]; rfl
  have e2:gP (isTw [.lf k (fQ (x (r - 1))),.lf k (fQ u),.n .i64 st,.n .i64 (dsQ js ms (x (r - 1)) u n m k k)])=true:=zUK ⟨_,_,_,_,_,hk,hd,rfl⟩;have e3:gP (isPr js ms n m cs c [.a [.lf n (fJ js),.lf m (fM ms)],.lf c (fC cs),.lf k (fQ (twQ (x (r - 1)) u k st (dsQ js ms (x (r - 1)) u n m k k))),.n .i64 rd])=true:=zUK ⟨_,_,_,rfl⟩;rw [vYV hd,vYV hmo,e2,e3];simp only [cond_true,cond_false];unfold exo;cases hb:prB js ms (twQ (x (r - 1)) u k st (dsQ js ms (x (r - 1)) u n m k k)) n m k cs c rd with
  | false=>rfl
  | true =>
   have hL:prL js ms (twQ (x (r - 1)) u k st (dsQ js ms (x (r - 1)) u n m k k)) n m k cs c rd=k:=by unfold prL; rw [hb]; rfl
   have e4:gP (isDs js ms n m [.a [.lf n (fJ js),.lf m (fM ms)],.lf k (fQ (exn js ms u n m k cs c st rd (x (r - 1)))),.lf k (fQ u)])=true:=zUK ⟨_,_,_,_,by omega,by omega,rfl⟩;rw [hL,bc_const];unfold exn at e4 ⊢;rw [e4,vYG (show r + 1≤1000000 by omega)];simp only [cond_true,vZH];cases decide (dsQ js ms (x (r - 1)) u n m k k≤dsQ js ms (prQ js ms (twQ (x (r - 1)) u k st (dsQ js ms (x (r - 1)) u n m k k)) n m k cs c rd) u n m k k) with
   | true=>rfl
   | false =>
    simp only [Bool.not_false,cond_true,cond_false];rw [bc_last]
 ·obtain ⟨r,x⟩:=y;obtain ⟨h1,h2⟩:=hy;unfold exD at hd;dsimp only at h1 h2 hd;by_cases e1:dsQ js ms (x (r - 1)) u n m k k=0
  ·rw [vYG e1] at hd; cases hd
  by_cases e2:mo≤(r:Int)
  ·rw [vYV e1,vYG e2] at hd; cases hd
  rw [vYV e1,vYV e2] at hd;cases e3:exo js ms u n m k cs c st rd (x (r - 1)) with
  | false=>rw [e3] at hd; cases hd
  | true =>
   rw [e3] at hd;cases hd;exact ⟨by show 1≤r + 1; omega,by show ((r + 1:Nat):Int)≤mo; omega⟩
noncomputable def exOk (js:Nat→J) (ms:Nat→Ms) (q u:Nat→Int) (n m k l:Nat) (cs:Nat→Cn) (c:Nat) (st rd mo:Int):Bool:=cErr js ms n m cs c && (qIn js ms q n m k && (qIn js ms u n m l && (hA js ms q n m k cs c && decide (1≤st∧st≤1073741824∧0≤rd∧rd≤64∧1≤mo))))
noncomputable def kJK (js:Nat→J) (ms:Nat→Ms) (q u:Nat→Int) (n m k l:Nat) (cs:Nat→Cn) (c:Nat) (st rd mo:Int):List (List Nat × qUG):=[([0,1,1,1,1,1],sumF (fun _:Unit=>(hEx js ms q u n m k l cs c st rd mo k q 1 (fun _=>k) (fun _ w=>(q w)))) (fun _=>()) (fun _ K=>(bif ((decide (k=l) && decide (1≤k∧k≤10)) && decide (1≤mo∧mo≤100)) then (K .ret ⟨[(14,.o 71),(15,.v (.n .i64 (exS js ms q u n m k cs c st rd mo)))],[(71,.reg 27 1 (.fo (exN js ms q u n m k cs c st rd mo) (fun v=>[.lf k (fQ (exX js ms q u n m k cs c st rd mo v))])))]⟩) else none)))]
set_option maxRecDepth 100000 in
theorem pxext0 (js:Nat→J) (ms:Nat→Ms) (q u:Nat→Int) (n m k l:Nat) (cs:Nat→Cn) (c:Nat) (st rd mo:Int):qKZ Tf (OrL.k (orEx js ms q u n m k l cs c st rd mo)) (zX (kJK js ms q u n m k l cs c st rd mo)) 110 11 [.a [.lf n (fJ js),.lf m (fM ms)],.lf c (fC cs),.lf k (fQ q),.lf l (fQ u),.n .i64 st,.n .i64 rd,.n .i64 mo] =
 (bif (g1 [.a [.lf n (fJ js),.lf m (fM ms)],.lf c (fC cs)]) then (bif (cErr js ms n m cs c) then (bif (gP (isIn js ms n m [.a [.lf n (fJ js),.lf m (fM ms)],.lf k (fQ q)])) then (bif (qIn js ms q n m k) then (bif (gP (isIn js ms n m [.a [.lf n (fJ js),.lf m (fM ms)],.lf l (fQ u)])) then (bif (qIn js ms u n m l) then (bif (decide (k≤50) && gFQ (fQ q)) then (bif (gP (isHP js ms n m cs c [.a [.lf n (fJ js),.lf m (fM ms)],.lf c (fC cs),.lf (bif smQ q k then k else 0) (fB (ptB q))])) then (bif (hA js ms q n m k cs c) then (bif (decide (st < 1)) then some (.v (.t [.l [],.n .i64 0]),[])
 else (bif (decide (1073741824 < st)) then some (.v (.t [.l [],.n .i64 0]),[])
 else (bif (decide (rd < 0)) then some (.v (.t [.l [],.n .i64 0]),[])
 else (bif (decide (64 < rd)) then some (.v (.t [.l [],.n .i64 0]),[])
 else (bif (decide (mo < 1)) then some (.v (.t [.l [],.n .i64 0]),[])
 else (bif (decide (1024 < mo)) then some (.v (.t [.l [],.n .i64 0]),[])
 else (bif (decide (1≤k∧k≤10) && gFQ (fQ q)) then (bif (gSt (hEx js ms q u n m k l cs c st rd mo k q 1 (fun _=>k) (fun _ w=>(q w))) (hEx js ms q u n m k l cs c st rd mo k q 1 (fun _=>k) (fun _ w=>(q w)))) then (bif ((decide (k=l) && decide (1≤k∧k≤10)) && decide (1≤mo∧mo≤100)) then some (.v (.t [.lf (exN js ms q u n m k cs c st rd mo) (fun v=>[.lf k (fQ (exX js ms q u n m k cs c st rd mo v))]),.n .i64 (exS js ms q u n m k cs c st rd mo)]),[])
 else none)
 else none)
 else none)))))))
 else some (.v (.t [.l [],.n .i64 0]),[]))
 else none)
 else none)
 else some (.v (.t [.l [],.n .i64 0]),[]))
 else none)
 else some (.v (.t [.l [],.n .i64 0]),[]))
 else none)
 else some (.v (.t [.l [],.n .i64 0]),[]))
 else none):=by kernel_rfl
theorem snd_ext0 (js:Nat→J) (ms:Nat→Ms) (q u:Nat→Int) (n m k l:Nat) (cs:Nat→Cn) (c:Nat) (st rd mo:Int) (hmo:mo≤100):zH Tryz.prog 11 [.a [.lf n (fJ js),.lf m (fM ms)],.lf c (fC cs),.lf k (fQ q),.lf l (fQ u),.n .i64 st,.n .i64 rd,.n .i64 mo] (bif exOk js ms q u n m k l cs c st rd mo then .v (.t [.lf (exN js ms q u n m k cs c st rd mo) (fun v=>[.lf k (fQ (exX js ms q u n m k cs c st rd mo v))]),.n .i64 (exS js ms q u n m k cs c st rd mo)]) else .v (.t [.l [],.n .i64 0])):=by
 refine qQX (N:=110) (LO:=zX (kJK js ms q u n m k l cs c st rd mo)) zJK yY (OrL.ok (l:=(orEx js ms q u n m k l cs c st rd mo)) ⟨qJQ (kYJ js ms n m cs c),ok_inP js ms n m,ok_hp js ms n m cs c,ok_bq,ok_clq,ok_dsP js ms n m,ok_tw,ok_prP js ms n m cs c,trivial⟩) (fun p S hp => ?_) ?_
 ·refine qQG (L:=qK Tf 11) (l:=(kJK js ms q u n m k l cs c st rd mo)) (show AllP _ (kJK js ms q u n m k l cs c st rd mo) from ⟨?_,trivial⟩) p S hp
  ·dsimp only;refine qWJ (T:=Tf) (ok:=(OrL.k (orEx js ms q u n m k l cs c st rd mo))) (f:=11) (LO:=zX []) (p:=[0,1,1,1,1,1]) qGX ?_;intro _ K r hr;obtain ⟨hg,hr⟩:=zQ hr;simp only [vQJ,decide_eq_true_eq] at hg;exact (lpEx K js ms q u n m k l cs c st rd mo hg.1.1 hg.1.2 hg.2).trans hr
 ·refine (pxext0 js ms q u n m k l cs c st rd mo).trans ?_;have i1:gP (isIn js ms n m [.a [.lf n (fJ js),.lf m (fM ms)],.lf k (fQ q)])=true:=zUK ⟨_,_,rfl⟩;have i2:gP (isIn js ms n m [.a [.lf n (fJ js),.lf m (fM ms)],.lf l (fQ u)])=true:=zUK ⟨_,_,rfl⟩;have i3:gP (isHP js ms n m cs c [.a [.lf n (fJ js),.lf m (fM ms)],.lf c (fC cs),.lf (bif smQ q k then k else 0) (fB (ptB q))])=true:=zUK ⟨ptB q,_,rfl⟩;unfold exOk;simp only [g1_t,i1,i2,i3,(zWJ (q:=q) rfl).1,cond_true];cases hc:cErr js ms n m cs c with
  | false=>rfl
  | true =>
  cases hq:qIn js ms q n m k with
  | false=>rfl
  | true =>
  cases hu:qIn js ms u n m l with
  | false=>rfl
  | true =>
  obtain ⟨h0,hnk,_⟩:=qUU hq;obtain ⟨_,hnl,_⟩:=qUU hu;have h10:=qWV h0;simp only [vYG (show k≤50 by omega),vYG (show 1≤k∧k≤10 by omega),vZJ,vZH,cond_true];cases hh:hA js ms q n m k cs c with
  | false=>rfl
  | true =>
  simp only [vZH,cond_true];by_cases b1:st < 1
  ·rw [vYG b1,vYV (show ¬ (1≤st∧st≤1073741824∧0≤rd∧rd≤64∧1≤mo) by omega)]; rfl
  by_cases b2:1073741824 < st
  ·rw [vYV b1,vYG b2,vYV (show ¬ (1≤st∧st≤1073741824∧0≤rd∧rd≤64∧1≤mo) by omega)]; rfl
  by_cases b3:rd < 0
  ·rw [vYV b1,vYV b2,vYG b3,vYV (show ¬ (1≤st∧st≤1073741824∧0≤rd∧rd≤64∧1≤mo) by omega)]; rfl
  by_cases b4:64 < rd
  ·rw [vYV b1,vYV b2,vYV b3,vYG b4,vYV (show ¬ (1≤st∧st≤1073741824∧0≤rd∧rd≤64∧1≤mo) by omega)]; rfl
  by_cases b5:mo < 1
  ·rw [vYV b1,vYV b2,vYV b3,vYV b4,vYG b5,vYV (show ¬ (1≤st∧st≤1073741824∧0≤rd∧rd≤64∧1≤mo) by omega)]; rfl
  simp only [vYV b1,vYV b2,vYV b3,vYV b4,vYV b5,vYV (show ¬ 1024 < mo by omega),vYG (show 1≤st∧st≤1073741824∧0≤rd∧rd≤64∧1≤mo by omega),jU,vYG (show 1≤k∧k≤10 by omega),vYG (show k=l by omega),vYG (show 1≤mo∧mo≤100 by omega),vZJ,cond_true,cond_false]
end Go.Proofs.YtmffoiemmlcmfaaGreat.Eb
namespace Go.Proofs.YtmffoiemmlcmfaaGreat
open Go.Sx
def limK (k:Int):Int:=if k=1 ∨ k=2 ∨ k=3 then 524288 else if k=4 ∨ k=5 ∨ k=6 then 4194304 else 0
end Go.Proofs.YtmffoiemmlcmfaaGreat
namespace Go.Proofs.YtmffoiemmlcmfaaGreat
open Go.Sx
def JOK (js:List J) (i:Nat) (j:J):Prop:=∃ c:Nat,(∀ (k:Nat),k < i→∀ (j2:J),js[k]? = some j2→(j2.name.toList == j.name.toList)=false)∧j.name.size=1∧Utf8.decode j.name 0=(c,1)∧(97≤c∧c≤122)∧(j.name.toList == (ByteArray.mk #[119,111,114,108,100]).toList)=false ∧
  (0≤j.kind∧j.kind≤6)∧(-1≤j.parent∧j.parent < i)∧(-4194304≤j.off.x∧j.off.x≤4194304)∧(-4194304≤j.off.y∧j.off.y≤4194304)∧(-4194304≤j.off.z∧j.off.z≤4194304)∧(j.lo≤j.hi ∧ -limK j.kind≤j.lo∧j.hi≤limK j.kind) ∧
  (1≤j.weight∧j.weight≤1024)∧(1≤j.speed∧j.speed≤1048576)∧(1≤j.accel∧j.accel≤1048576)∧(1≤j.torque∧j.torque≤1099511627776)
end Go.Proofs.YtmffoiemmlcmfaaGreat
namespace Go.Proofs.YtmffoiemmlcmfaaGreat
open Go.Sx Go.RowKit
theorem let0:(qQY 0).size=1∧Utf8.decode (qQY 0) 0=(97,1)∧((qQY 0).toList == (ByteArray.mk #[119,111,114,108,100]).toList)=false:=by refine ⟨?_,?_,?_⟩ <;> kernel_rfl
theorem let1:(qQY 1).size=1∧Utf8.decode (qQY 1) 0=(98,1)∧((qQY 1).toList == (ByteArray.mk #[119,111,114,108,100]).toList)=false:=by refine ⟨?_,?_,?_⟩ <;> kernel_rfl
theorem let2:(qQY 2).size=1∧Utf8.decode (qQY 2) 0=(99,1)∧((qQY 2).toList == (ByteArray.mk #[119,111,114,108,100]).toList)=false:=by refine ⟨?_,?_,?_⟩ <;> kernel_rfl
theorem ne01:((qQY 0).toList == (qQY 1).toList)=false:=by kernel_rfl
theorem ne02:((qQY 0).toList == (qQY 2).toList)=false:=by kernel_rfl
theorem ne12:((qQY 1).toList == (qQY 2).toList)=false:=by kernel_rfl
theorem letter_ok (k:Nat) (h:k < 3):∃ c:Nat,(qQY k).size=1∧Utf8.decode (qQY k) 0=(c,1)∧(97≤c∧c≤122)∧((qQY k).toList == (ByteArray.mk #[119,111,114,108,100]).toList)=false:=by
 rcases (show k=0 ∨ k=1 ∨ k=2 by omega) with rfl | rfl | rfl
 ·exact ⟨97,let0.1,let0.2.1,by omega,let0.2.2⟩
 ·exact ⟨98,let1.1,let1.2.1,by omega,let1.2.2⟩
 ·exact ⟨99,let2.1,let2.2.1,by omega,let2.2.2⟩
theorem letter_ne (a b:Nat) (h:a < b) (hb:b < 3):((qQY a).toList == (qQY b).toList)=false:=by
 rcases (show (a=0∧b=1) ∨ (a=0∧b=2) ∨ (a=1∧b=2) by omega) with ⟨rfl,rfl⟩ | ⟨rfl,rfl⟩ | ⟨rfl,rfl⟩
 ·exact ne01
 ·exact ne02
 ·exact ne12
theorem joint_lim (L:List Int) (p:Nat) (k:Int) : -limK (qQH L p k).1.kind≤(qQH L p k).1.lo∧(qQH L p k).1.hi≤limK (qQH L p k).1.kind:=by
 have hk:=(zYW L p k).2.1;rw [hk];by_cases h0:kH (srcR L (p + 2) 8)=0
 ·rw [qGW h0,h0];exact ⟨by show -limK 0≤0; decide,by show 0≤limK 0; decide⟩
 ·by_cases h:kH (srcR L (p + 2) 8)=4 ∨ kH (srcR L (p + 2) 8)=5
  ·rw [qKU h];have a:=qQU L (jQ p k) (k:=3) (by decide);have b:=qQU L (jQ p k + 1) (k:=4) (by decide);have e:limK (kH (srcR L (p + 2) 8))=4194304:=by unfold limK; rw [if_neg (by omega),if_pos (by omega)]
   rw [e];dsimp only;omega
  ·rw [zZQ h0 h];have a:=qQU L (jQ p k) (k:=5) (by decide);have b:=qQU L (jQ p k + 1) (k:=4) (by decide);have c:=qQU L (jQ p k + 2) (k:=3) (by decide);have e:524288≤limK (kH (srcR L (p + 2) 8)):=by
    have:=kindOf_b (srcR L (p + 2) 8)
    unfold limK
    repeat' split
    all_goals omega
   dsimp only;rw [Int.tdiv_eq_ediv_of_nonneg (a:=(1 + srcR L (jQ p k + 1) 4) * 65536) (by omega),show (-srcR L (jQ p k) 5 * 65536).tdiv 8 = -(srcR L (jQ p k) 5 * 8192) by
    rw [show -srcR L (jQ p k) 5 * 65536 = -(srcR L (jQ p k) 5 * 8192) * 8 by omega];exact Int.mul_tdiv_cancel _ (by decide)]
   omega
theorem base_b (L:List Int) (p k:Nat):(-1≤(zQQ L p (k:Int)).parent∧(zQQ L p (k:Int)).parent < k)∧(-4194304≤(zQQ L p (k:Int)).off.x∧(zQQ L p (k:Int)).off.x≤4194304)∧(-4194304≤(zQQ L p (k:Int)).off.y∧(zQQ L p (k:Int)).off.y≤4194304)∧(-4194304≤(zQQ L p (k:Int)).off.z∧(zQQ L p (k:Int)).off.z≤4194304):=by
 have c:=qQU L (p + 4) (k:=2 * 2 + 1) (by decide);have d:=qQU L (p + 5) (k:=2 * 1 + 1) (by decide);unfold zQQ srcS;dsimp only;refine ⟨?_,?_⟩
 ·split <;> omega
 ·split <;> (dsimp only; omega)
theorem made_JOK (L:List Int) (i n:Nat) (hn:n≤3) (k:Nat) (j:J) (h:(jsOf L i n).1[k]? = some j):JOK (jsOf L i n).1 k j:=by
 have hk:k < n:=by have:=(List.getElem?_eq_some_iff.1 h).1; rw [qKG] at this; exact this
 obtain ⟨p,rfl⟩:=yXQ L i n k j h;obtain ⟨s1,s2,s3,s4,s5,s6,s7,s8⟩:=zYW L p (k:Int);obtain ⟨c,l1,l2,l3,l4⟩:=letter_ok k (by omega);obtain ⟨b1,b2,b3,b4⟩:=base_b L p k;have lim:=joint_lim L p (k:Int);have jb:=jointOf_b L p (k:Int);have a:=qQU L p (k:=4) (by decide);have b:=qQU L (p + 1) (k:=3) (by decide);refine ⟨c,fun q hq j2 h2 => ?_,by rw [s1]; exact l1,by rw [s1]; exact l2,l3,by rw [s1]; exact l4,by rw [s2]; exact kindOf_b _,by rw [s3]; exact b1,by rw [s4]; exact b2,by rw [s4]; exact b3,by rw [s4]; exact b4,⟨jb.2.1,lim.1,lim.2⟩,by rw [s5]; omega,by rw [s6]; omega,by rw [s7]; omega,by rw [s8]; omega⟩;obtain ⟨p2,rfl⟩:=yXQ L i n q j2 h2;rw [(zYW L p2 (q:Int)).1,s1];exact letter_ne q k hq (by omega)
end Go.Proofs.YtmffoiemmlcmfaaGreat
namespace Go.Proofs.YtmffoiemmlcmfaaGreat.Ec
open Go.Rx Rt Go.Sx Go.RowKit Od Ov Pc Na Nb Nc Nd Nx Nf Ng Nj Nl Nm Nn No Nq Nr Ns Nu Nv Nw Ny Nz Nh3 Ea Eb
def isC2 (js:Nat→J) (ms:Nat→Ms) (n m:Nat) (AL BL:List (List PV)) (ps:List PV):Prop:=ps=[.a [.lf n (fJ js),.lf m (fM ms)],.l AL] ∨ ps=[.a [.lf n (fJ js),.lf m (fM ms)],.l BL]
noncomputable def uYQ (js:Nat→J) (ms:Nat→Ms) (kf:PV→Nat→Int) (n m k:Nat) (AL BL:List (List PV)):List PV→Option (Bool × Ret):=fun ps=>match ps with
 | [r,a]=>some (gP (isC2 js ms n m AL BL [r,a]),.v (.lf k (fQ (kf a))))
 | _=>none
theorem ok_cf2 {js:Nat→J} {ms:Nat→Ms} {kf:PV→Nat→Int} {n m k:Nat} {AL BL:List (List PV)} (h1:zH Tryz.prog 7 [.a [.lf n (fJ js),.lf m (fM ms)],.l AL] (.v (.lf k (fQ (kf (.l AL)))))) (h2:zH Tryz.prog 7 [.a [.lf n (fJ js),.lf m (fM ms)],.l BL] (.v (.lf k (fQ (kf (.l BL)))))):zW Tryz.prog 7 (uYQ js ms kf n m k AL BL):=by
 intro ps r hh;unfold uYQ at hh;split at hh
 ·simp only [vQZ,vQY] at hh;obtain ⟨hg,rfl⟩:=hh;rcases qWK hg with e | e
  ·simp only [List.cons.injEq,and_true] at e;obtain ⟨rfl,rfl⟩:=e;exact h1
  ·simp only [List.cons.injEq,and_true] at e;obtain ⟨rfl,rfl⟩:=e;exact h2
 ·cases hh
noncomputable def orLl (js:Nat→J) (ms:Nat→Ms) (kf:PV→Nat→Int) (n m k:Nat) (cs:Nat→Cn) (c z:Nat) (x:Nat→Nat→Int) (sx:Int) (L M AL BL:List (List PV)) (nn st mm:Int):OrL:=[(5,o_cr [] (.v (.b true))),(6,o_cr [.l L] (.v (.a [.lf n (fJ js),.lf m (fM ms)]))),(7,uYQ js ms kf n m k AL BL),(9,yUY),(8,o_cr [.a [.lf n (fJ js),.lf m (fM ms)],.n .i64 (nn % 3),.l M,.lf k (fQ (kf (.l AL)))] (.v (.lf c (fC cs)))),(11,o_cr [.a [.lf n (fJ js),.lf m (fM ms)],.lf c (fC cs),.lf k (fQ (kf (.l AL))),.lf k (fQ (kf (.l BL))),.n .i64 (vJZ .i64 (1 + (andI .i64 st 65535))),.n .i64 6,.n .i64 (vJZ .i64 (1 + (mm % 12)))] (.v (.t [.lf z (fun v=>[.lf k (fQ (x v))]),.n .i64 sx]))),(13,o_bq),(12,o_ha js ms n m cs c),(14,kUZ),(15,kUY js ms n m)]
noncomputable def hLl (js:Nat→J) (ms:Nat→Ms) (kf:PV→Nat→Int) (n m k:Nat) (cs:Nat→Cn) (c z:Nat) (x:Nat→Nat→Int) (sx:Int) (L M AL BL:List (List PV)) (nn st mm:Int) (i:Int):St:=⟨[(15,.p 15 0),(17,.v (.lf k (fQ (kf (.l BL))))),(18,.v (.lf c (fC cs))),(19,.v (.n .i64 (vJZ .i64 (1 + (mm % 12))))),(20,.v (.lf z (fun v=>[.lf k (fQ (x v))]))),(21,.v (.n .i64 sx)),(22,.v (.n .i64 i))],[(15,.blk [.v (.lf n (fJ js)),.v (.lf m (fM ms))])]⟩
set_option maxRecDepth 100000 in
theorem rdLl (G:St→Option (Ret × Mem)) (K:Cont) (js:Nat→J) (ms:Nat→Ms) (kf:PV→Nat→Int) (n m k:Nat) (cs:Nat→Cn) (c z:Nat) (x:Nat→Nat→Int) (sx:Int) (L M AL BL:List (List PV)) (nn st mm:Int) (i:Int):qXW 60 (cxF Tf (OrL.k (orLl js ms kf n m k cs c z x sx L M AL BL nn st mm)) 60 4 (ntmF Tf 4)) (ckF Tf (OrL.k (orLl js ms kf n m k cs c z x sx L M AL BL nn st mm)) 60) (zX []) (qK Tf 4 [0,1,0,1,1,1,1,1,1,1,1]) [0,1,0,1,1,1,1,1,1,1,1] (Tf.hint 4 (zJ (qK Tf 4 [0,1,0,1,1,1,1,1,1,1,1]))) K G (hLl js ms kf n m k cs c z x sx L M AL BL nn st mm i) =
 (bif (decide (i < (z:Int))) then (bif (inB i z) then (bif (decide (k≤50) && gFQ (fQ (x (i).toNat))) then (bif (gP (isHA js ms n m cs c [.a [.lf n (fJ js),.lf m (fM ms)],.lf c (fC cs),.lf (bif smQ (x (i).toNat) k then k else 0) (fB (ptB (x (i).toNat)))])) then (bif (hA js ms (x (i).toNat) n m k cs c) then (bif (decide (0 < i)) then (bif (inB i z) then (bif (gP (isDs js ms n m [.a [.lf n (fJ js),.lf m (fM ms)],.lf k (fQ (x (i).toNat)),.lf k (fQ (kf (.l BL)))])) then (bif (inB (vJZ .i64 (i - 1)) z) then (bif (gP (isDs js ms n m [.a [.lf n (fJ js),.lf m (fM ms)],.lf k (fQ (x ((vJZ .i64 (i - 1))).toNat)),.lf k (fQ (kf (.l BL)))])) then (bif (decide ((dsQ js ms (x ((vJZ .i64 (i - 1))).toNat) (kf (.l BL)) n m k k)≤(dsQ js ms (x (i).toNat) (kf (.l BL)) n m k k))) then (K .ret ⟨[(14,.v (.b false)),(17,.v (.lf k (fQ (kf (.l BL))))),(19,.v (.n .i64 (vJZ .i64 (1 + (mm % 12))))),(20,.v (.lf z (fun v=>[.lf k (fQ (x v))]))),(21,.v (.n .i64 sx))],[]⟩)
 else (G (hLl js ms kf n m k cs c z x sx L M AL BL nn st mm (vJZ .i64 (i + 1)))))
 else none)
 else none)
 else none)
 else none)
 else (G (hLl js ms kf n m k cs c z x sx L M AL BL nn st mm (vJZ .i64 (i + 1)))))
 else (K .ret ⟨[(14,.v (.b false)),(17,.v (.lf k (fQ (kf (.l BL))))),(19,.v (.n .i64 (vJZ .i64 (1 + (mm % 12))))),(20,.v (.lf z (fun v=>[.lf k (fQ (x v))]))),(21,.v (.n .i64 sx))],[]⟩))
 else none)
 else none)
 else none)
 else (K (.exit 0) ⟨[(17,.v (.lf k (fQ (kf (.l BL))))),(19,.v (.n .i64 (vJZ .i64 (1 + (mm % 12))))),(20,.v (.lf z (fun v=>[.lf k (fQ (x v))]))),(21,.v (.n .i64 sx))],[]⟩)):=by kernel_rfl
def kJG (js:Nat→J) (ms:Nat→Ms) (u:Nat→Int) (n m k:Nat) (cs:Nat→Cn) (c z:Nat) (x:Nat→Nat→Int):Prop:=k≤50∧z≤50∧∀ i,i < z→hA js ms (x i) n m k cs c=true∧(0 < i→¬ dsQ js ms (x (i - 1)) u n m k k≤dsQ js ms (x i) u n m k k)
theorem lpLl (K:Cont) (js:Nat→J) (ms:Nat→Ms) (kf:PV→Nat→Int) (n m k:Nat) (cs:Nat→Cn) (c z:Nat) (x:Nat→Nat→Int) (sx:Int) (L M AL BL:List (List PV)) (nn st mm:Int) (hh:kJG js ms (kf (.l BL)) n m k cs c z x):LFL 60 (cxF Tf (OrL.k (orLl js ms kf n m k cs c z x sx L M AL BL nn st mm)) 60 4 (ntmF Tf 4)) (ckF Tf (OrL.k (orLl js ms kf n m k cs c z x sx L M AL BL nn st mm)) 60) (zX []) (qK Tf 4 [0,1,0,1,1,1,1,1,1,1,1]) [0,1,0,1,1,1,1,1,1,1,1] (Tf.hint 4 (zJ (qK Tf 4 [0,1,0,1,1,1,1,1,1,1,1]))) K 60 (hLl js ms kf n m k cs c z x sx L M AL BL nn st mm 0)=(K (.exit 0) ⟨[(17,.v (.lf k (fQ (kf (.l BL))))),(19,.v (.n .i64 (vJZ .i64 (1 + (mm % 12))))),(20,.v (.lf z (fun v=>[.lf k (fQ (x v))]))),(21,.v (.n .i64 sx))],[]⟩):=by
 obtain ⟨hk,hz,hx⟩:=hh;refine (zYX (L:=LFL 60 (cxF Tf (OrL.k (orLl js ms kf n m k cs c z x sx L M AL BL nn st mm)) 60 4 (ntmF Tf 4)) (ckF Tf (OrL.k (orLl js ms kf n m k cs c z x sx L M AL BL nn st mm)) 60) (zX []) (qK Tf 4 [0,1,0,1,1,1,1,1,1,1,1]) [0,1,0,1,1,1,1,1,1,1,1] (Tf.hint 4 (zJ (qK Tf 4 [0,1,0,1,1,1,1,1,1,1,1]))) K) (stp:=qXW 60 (cxF Tf (OrL.k (orLl js ms kf n m k cs c z x sx L M AL BL nn st mm)) 60 4 (ntmF Tf 4)) (ckF Tf (OrL.k (orLl js ms kf n m k cs c z x sx L M AL BL nn st mm)) 60) (zX []) (qK Tf 4 [0,1,0,1,1,1,1,1,1,1,1]) [0,1,0,1,1,1,1,1,1,1,1] (Tf.hint 4 (zJ (qK Tf 4 [0,1,0,1,1,1,1,1,1,1,1]))) K) (fun _ _=>rfl) (fun (i:Nat) (_:Unit)=>hLl js ms kf n m k cs c z x sx L M AL BL nn st mm (i:Int)) (fun _ _=>True) (fun _ _=>true) (fun _ _=>()) (c:=z) (fun _=>(K (.exit 0) ⟨[(17,.v (.lf k (fQ (kf (.l BL))))),(19,.v (.n .i64 (vJZ .i64 (1 + (mm % 12))))),(20,.v (.lf z (fun v=>[.lf k (fQ (x v))]))),(21,.v (.n .i64 sx))],[]⟩)) (fun _ _=>none) (fun G i _ hi _ => ?_) (fun _ _ _ _ _=>trivial) (fun G _ _ => ?_) z 0 60 () (by omega) (by omega) trivial).trans (jYK (f:=fun _=>()) z 0 (fun _ _ _=>rfl) (fun _ _ _=>rfl))
 ·refine (rdLl G K js ms kf n m k cs c z x sx L M AL BL nn st mm i).trans ?_;obtain ⟨h1,h2⟩:=hx i hi;have hf:gFQ (fQ (x i))=true:=(zWJ rfl).1;have e1:gP (isHA js ms n m cs c [.a [.lf n (fJ js),.lf m (fM ms)],.lf c (fC cs),.lf (bif smQ (x i) k then k else 0) (fB (ptB (x i)))])=true:=zUK ⟨ptB (x i),_,jQH hk,rfl⟩;have e2:∀ j,gP (isDs js ms n m [.a [.lf n (fJ js),.lf m (fM ms)],.lf k (fQ (x j)),.lf k (fQ (kf (.l BL)))])=true:=fun j=>zUK ⟨_,_,_,_,hk,hk,rfl⟩
  simp only [vYG (show (i:Int) < (z:Int) by omega),qZZ (show i < 1000000 by omega),jY (show i < z by omega),toN,cond_true,vYG hk,hf,e1,e2,h1,vZJ];by_cases h0:0 < i
  ·have hw:vJZ .i64 ((i:Int) - 1)=((i - 1:Nat):Int):=by rw [zY (by omega)]; omega
   simp only [vYG (show (0:Int) < (i:Int) by omega),cond_true,hw,jY (show i - 1 < z by omega),toN,e2,vYV (h2 h0),cond_false]
  ·rw [vYV (show ¬ (0:Int) < (i:Int) by omega),cond_false]
 ·refine (rdLl G K js ms kf n m k cs c z x sx L M AL BL nn st mm z).trans ?_;rw [vYV (show ¬ (z:Int) < (z:Int) by omega)];rfl
def kGJ (js:Nat→J) (ms:Nat→Ms) (q u:Nat→Int) (n m k:Nat) (cs:Nat→Cn) (c z:Nat) (x:Nat→Nat→Int) (sx mo:Int):Prop:=(sx=0→z=0∧hA js ms q n m k cs c=false)∧(¬ sx=0→(1≤z∧(z:Int)≤mo)∧smB (x 0) q k k=true∧kJG js ms u n m k cs c z x∧smB (x (z - 1)) u k k=decide (sx=1)∧(sx=4→(z:Int)=mo))
noncomputable def kJY (js:Nat→J) (ms:Nat→Ms) (kf:PV→Nat→Int) (n m k:Nat) (cs:Nat→Cn) (c z:Nat) (x:Nat→Nat→Int) (sx:Int) (L M AL BL:List (List PV)) (nn st mm:Int):List (List Nat × qUG):=[([0,1,0,1,1,1,1,1,1,1,1],sumF (fun _:Unit=>(hLl js ms kf n m k cs c z x sx L M AL BL nn st mm 0)) (fun _=>()) (fun _ K=>(bif gP (kJG js ms (kf (.l BL)) n m k cs c z x) then (K (.exit 0) ⟨[(17,.v (.lf k (fQ (kf (.l BL))))),(19,.v (.n .i64 (vJZ .i64 (1 + (mm % 12))))),(20,.v (.lf z (fun v=>[.lf k (fQ (x v))]))),(21,.v (.n .i64 sx))],[]⟩) else none)))]
set_option maxRecDepth 100000 in
theorem pxlaw4 (js:Nat→J) (ms:Nat→Ms) (kf:PV→Nat→Int) (n m k:Nat) (cs:Nat→Cn) (c z:Nat) (x:Nat→Nat→Int) (sx:Int) (L M AL BL:List (List PV)) (nn st mm:Int):qKZ Tf (OrL.k (orLl js ms kf n m k cs c z x sx L M AL BL nn st mm)) (zX (kJY js ms kf n m k cs c z x sx L M AL BL nn st mm)) 60 4 [(.l L),(.l M),(.l AL),(.l BL),.n .i64 nn,.n .i64 st,.n .i64 mm] =
 (bif (g1 [(.l L)]) then (bif (gP (isC2 js ms n m AL BL [.a [.lf n (fJ js),.lf m (fM ms)],(.l AL)])) then (bif (gP (isC2 js ms n m AL BL [.a [.lf n (fJ js),.lf m (fM ms)],(.l BL)])) then (bif (g1 [.a [.lf n (fJ js),.lf m (fM ms)],.n .i64 (nn % 3),(.l M),.lf k (fQ (kf (.l AL)))]) then (bif (g1 [.a [.lf n (fJ js),.lf m (fM ms)],.lf c (fC cs),.lf k (fQ (kf (.l AL))),.lf k (fQ (kf (.l BL))),.n .i64 (vJZ .i64 (1 + (andI .i64 st 65535))),.n .i64 6,.n .i64 (vJZ .i64 (1 + (mm % 12)))]) then (bif (decide (sx=0)) then (bif (g1 []) then (bif (decide ((z:Int)=0)) then (bif (decide (k≤50) && gFQ (fQ (kf (.l AL)))) then (bif (gP (isHA js ms n m cs c [.a [.lf n (fJ js),.lf m (fM ms)],.lf c (fC cs),.lf (bif smQ (kf (.l AL)) k then k else 0) (fB (ptB (kf (.l AL))))])) then (bif (hA js ms (kf (.l AL)) n m k cs c) then some (.v (.b false),[])
 else some (.v (.b true),[]))
 else none)
 else none)
 else some (.v (.b false),[]))
 else none)
 else (bif (decide ((z:Int)=0)) then some (.v (.b false),[])
 else (bif (decide ((vJZ .i64 (1 + (mm % 12))) < (z:Int))) then some (.v (.b false),[])
 else (bif (inB 0 z) then (bif (gP (kUU [.lf k (fQ (x (0:Int).toNat)),.lf k (fQ (kf (.l AL)))])) then (bif (smB (x (0:Int).toNat) (kf (.l AL)) k k) then (bif (gSt (hLl js ms kf n m k cs c z x sx L M AL BL nn st mm 0) (hLl js ms kf n m k cs c z x sx L M AL BL nn st mm 0)) then (bif (gP (kJG js ms (kf (.l BL)) n m k cs c z x)) then (bif (inB (vJZ .i64 ((z:Int) - 1)) z) then (bif (gP (kUU [.lf k (fQ (x ((vJZ .i64 ((z:Int) - 1))).toNat)),.lf k (fQ (kf (.l BL)))])) then (bif (smB (x ((vJZ .i64 ((z:Int) - 1))).toNat) (kf (.l BL)) k k) then (bif (g1 []) then (bif (decide (sx=1)) then (bif (!decide (sx=4)) then some (.v (.b true),[])
 else (bif (decide ((z:Int)=(vJZ .i64 (1 + (mm % 12))))) then some (.v (.b true),[])
 else some (.v (.b false),[])))
 else some (.v (.b false),[]))
 else none)
 else (bif (g1 []) then (bif (decide (sx=1)) then some (.v (.b false),[])
 else (bif (!decide (sx=4)) then some (.v (.b true),[])
 else (bif (decide ((z:Int)=(vJZ .i64 (1 + (mm % 12))))) then some (.v (.b true),[])
 else some (.v (.b false),[]))))
 else none))
 else none)
 else none)
 else none)
 else none)
 else some (.v (.b false),[]))
 else none)
 else none))))
 else none)
 else none)
 else none)
 else none)
 else none):=by kernel_rfl
theorem snd_law4 (js:Nat→J) (ms:Nat→Ms) (kf:PV→Nat→Int) (n m k:Nat) (cs:Nat→Cn) (c z:Nat) (x:Nat→Nat→Int) (sx:Int) (L M AL BL:List (List PV)) (nn st mm:Int) (hk:k≤50) (h0:zH Tryz.prog 5 [] (.v (.b true))) (h1:zH Tryz.prog 6 [.l L] (.v (.a [.lf n (fJ js),.lf m (fM ms)]))) (h2:zH Tryz.prog 7 [.a [.lf n (fJ js),.lf m (fM ms)],.l AL] (.v (.lf k (fQ (kf (.l AL)))))) (h3:zH Tryz.prog 7 [.a [.lf n (fJ js),.lf m (fM ms)],.l BL] (.v (.lf k (fQ (kf (.l BL)))))) (h4:zH Tryz.prog 8 [.a [.lf n (fJ js),.lf m (fM ms)],.n .i64 (nn % 3),.l M,.lf k (fQ (kf (.l AL)))] (.v (.lf c (fC cs)))) (h5:zH Tryz.prog 11 [.a [.lf n (fJ js),.lf m (fM ms)],.lf c (fC cs),.lf k (fQ (kf (.l AL))),.lf k (fQ (kf (.l BL))),.n .i64 (vJZ .i64 (1 + (andI .i64 st 65535))),.n .i64 6,.n .i64 (vJZ .i64 (1 + (mm % 12)))] (.v (.t [.lf z (fun v=>[.lf k (fQ (x v))]),.n .i64 sx]))) (hs:kGJ js ms (kf (.l AL)) (kf (.l BL)) n m k cs c z x sx (vJZ .i64 (1 + (mm % 12)))):zH Tryz.prog 4 [(.l L),(.l M),(.l AL),(.l BL),.n .i64 nn,.n .i64 st,.n .i64 mm] (.v (.b true)):=by
 refine qQX (N:=60) (LO:=zX (kJY js ms kf n m k cs c z x sx L M AL BL nn st mm)) zJK yY (OrL.ok (l:=(orLl js ms kf n m k cs c z x sx L M AL BL nn st mm)) ⟨qJQ h0,qJQ h1,ok_cf2 h2 h3,zGY,qJQ h4,qJQ h5,ok_rbq,ok_ha js ms n m cs c,ok_sm2,ok_dsR js ms n m,trivial⟩) (fun p S hp => ?_) ?_
 ·refine qQG (L:=qK Tf 4) (l:=(kJY js ms kf n m k cs c z x sx L M AL BL nn st mm)) (show AllP _ (kJY js ms kf n m k cs c z x sx L M AL BL nn st mm) from ⟨?_,trivial⟩) p S hp
  ·dsimp only;refine qWJ (T:=Tf) (ok:=(OrL.k (orLl js ms kf n m k cs c z x sx L M AL BL nn st mm))) (f:=4) (LO:=zX []) (p:=[0,1,0,1,1,1,1,1,1,1,1]) qGX ?_;intro _ K r hr;obtain ⟨hg,hr⟩:=zQ hr
   skip
   exact (lpLl K js ms kf n m k cs c z x sx L M AL BL nn st mm (qWK hg)).trans hr
 ·refine (pxlaw4 js ms kf n m k cs c z x sx L M AL BL nn st mm).trans ?_;have hf:gFQ (fQ (kf (.l AL)))=true:=(zWJ rfl).1;have c1:gP (isC2 js ms n m AL BL [.a [.lf n (fJ js),.lf m (fM ms)],.l AL])=true:=zUK (.inl rfl);have c2:gP (isC2 js ms n m AL BL [.a [.lf n (fJ js),.lf m (fM ms)],.l BL])=true:=zUK (.inr rfl);have e1:gP (isHA js ms n m cs c [.a [.lf n (fJ js),.lf m (fM ms)],.lf c (fC cs),.lf (bif smQ (kf (.l AL)) k then k else 0) (fB (ptB (kf (.l AL))))])=true:=zUK ⟨ptB (kf (.l AL)),_,jQH hk,rfl⟩;have e2:∀ (p v:Nat→Int),gP (kUU [.lf k (fQ p),.lf k (fQ v)])=true:=fun p v=>zUK ⟨_,_,_,_,hk,rfl⟩
  have t0:(0:Int).toNat=0:=rfl;obtain ⟨a,b⟩:=hs;by_cases hx0:sx=0
  ·obtain ⟨hz,hh⟩:=a hx0;simp only [g1_t,c1,c2,e1,hf,vYG hk,vYG hx0,vYG (show (z:Int)=0 by omega),hh,vZJ,cond_true,cond_false]
  ·obtain ⟨⟨hz1,hz2⟩,hs0,hg,hl,h4⟩:=b hx0;have hz50:=hg.2.1;have hw:vJZ .i64 ((z:Int) - 1)=((z - 1:Nat):Int):=by rw [zY (by omega)]; omega
   have hi0:inB 0 z=true:=jY (p:=0) (by omega);simp only [g1_t,c1,c2,e2,jU,zUK hg,vYV hx0,vYV (show ¬ (z:Int)=0 by omega),vYV (show ¬ (vJZ .i64 (1 + (mm % 12))) < (z:Int) by omega),hi0,hw,jY (show z - 1 < z by omega),toN,t0,hs0,hl,cond_true,cond_false];by_cases h1:sx=1
   ·simp only [vYG h1,vYV (show ¬ sx=4 by omega),Bool.not_false,cond_true]
   ·simp only [vYV h1,cond_false];by_cases h4':sx=4
    ·simp only [vYG h4',Bool.not_true,cond_false,cond_true,vYG (h4 h4')]
    ·simp only [vYV h4',Bool.not_false,cond_true]
theorem kGU {a b c:Bool} {w y:Int} (h:(bif a then (806:Int) else bif b then 806 else bif c then 806 else bif decide (1≤w) then (bif decide (w≤1024) then y else 807) else 807)=0):1≤w∧w≤1024:=by
 obtain ⟨_,h⟩:=bz h (by decide);obtain ⟨_,h⟩:=bz h (by decide);obtain ⟨_,h⟩:=bz h (by decide);by_cases h1:1≤w
 ·by_cases h2:w≤1024
  ·exact ⟨h1,h2⟩
  ·rw [vYG h1,vYV h2] at h; exact absurd (show (807:Int)=0 from h) (by decide)
 ·rw [vYV h1] at h; exact absurd (show (807:Int)=0 from h) (by decide)
theorem cj_w {i:Int} {j:J} (h:cjT (fun e=>e) i j=0):1≤j.weight∧j.weight≤1024:=by
 unfold cjT at h
 iterate 10 obtain ⟨_,h⟩:=bz h (by decide)
 cases e0:decide (j.kind=0) with
 | true=>rw [e0,cond_true] at h; exact kGU h
 | false =>
 rw [e0,cond_false] at h;cases e1:decide (j.kind=1) with
 | true=>rw [e1,cond_true] at h; exact kGU h
 | false =>
 rw [e1,cond_false] at h;cases e2:decide (j.kind=2) with
 | true=>rw [e2,cond_true] at h; exact kGU h
 | false =>
 rw [e2,cond_false] at h;cases e3:decide (j.kind=3) with
 | true=>rw [e3,cond_true] at h; exact kGU h
 | false =>
 rw [e3,cond_false] at h;exact kGU h
theorem ds_zero {js:Nat→J} {ms:Nat→Ms} {p u:Nat→Int} {n m k:Nat} (hp:qIn js ms p n m k=true) (hu:qIn js ms u n m k=true):decide (dsQ js ms p u n m k k=0)=smB p u k k:=by
 obtain ⟨h0,hn,hpi⟩:=qUU hp;obtain ⟨_,_,hui⟩:=qUU hu;have h10:=qWV h0;have hd:dsQ js ms p u n m k k=dsS js p u n:=by
  unfold dsQ;rw [h0,(jGG hp).1,(jGG hu).1,vYG hn.symm];rfl
 have key:(0≤dsS js p u n∧dsS js p u n≤n * 17179869184)∧(dsS js p u n=0 ↔ ∀ i,i < n→p i=u i) :=
  yGH (c:=n) (nx:=fun (i:Nat) (s:Int)=>vJZ .i64 (s + vJZ .i64 ((js i).weight * max (vJZ .i64 (u i - p i)) (vJZ .i64 (p i - u i))))) (Q:=fun (i:Nat) (s:Int)=>(0≤s∧s≤i * 17179869184)∧(s=0 ↔ ∀ j,j < i→p j=u j)) (fun i s hi h=>by
   obtain ⟨⟨s0,s1⟩,s2⟩:=h;have a:=yQZ h0 i hi;have b:=hpi i hi;have c:=hui i hi;obtain ⟨w1,w2⟩:=cj_w (kQX (kJU (jGW h0) i (Nat.zero_le _) (by omega)));have d1:vJZ .i64 (u i - p i)=u i - p i:=zY (by omega);have d2:vJZ .i64 (p i - u i)=p i - u i:=zY (by omega);have hM0:0≤max (u i - p i) (p i - u i):=by omega
   have hM1:max (u i - p i) (p i - u i)≤8388608:=by omega
   have hMz:max (u i - p i) (p i - u i)=0 ↔ p i=u i:=by omega
   have hm0:0≤(js i).weight * max (u i - p i) (p i - u i):=Int.mul_nonneg (by omega) hM0;have hm1:(js i).weight * max (u i - p i) (p i - u i)≤1024 * 8388608:=Int.mul_le_mul w2 hM1 hM0 (by omega);have hmz:(js i).weight * max (u i - p i) (p i - u i)=0 ↔ p i=u i:=by
    rw [Int.mul_eq_zero,hMz];exact ⟨fun h=>h.resolve_left (by omega),.inr⟩
   show (0≤vJZ .i64 _∧vJZ .i64 _≤_)∧(vJZ .i64 _=0 ↔ _);rw [d1,d2];generalize (js i).weight * max (u i - p i) (p i - u i)=y at hm0 hm1 hmz;have d3:vJZ .i64 y=y:=zY (by omega);have hi10:(i:Int) * 17179869184≤10 * 17179869184:=by omega
   have d4:vJZ .i64 (s + y)=s + y:=zY (by omega);rw [d3,d4];refine ⟨⟨by omega,by omega⟩,fun h j hj => ?_,fun h => ?_⟩
   ·rcases Nat.lt_succ_iff_lt_or_eq.1 hj with h' | h'
    ·exact s2.1 (by omega) j h'
    ·subst h'; exact hmz.1 (by omega)
   ·have:=s2.2 fun j hj=>h j (by omega)
    have:=hmz.2 (h i (by omega))
    omega) n 0 0 (by omega) ⟨⟨by omega,by omega⟩,fun _ j hj=>absurd hj (by omega),fun _=>rfl⟩
 rw [hd];cases e:smB p u k k with
 | true =>
  unfold smB at e;rw [vQJ] at e;exact vYG (key.2.2 fun i hi=>vYH (allN_iff.1 e.2 i (Nat.zero_le _) (by omega)))
 | false =>
  refine vYV fun h => ?_
  have h':=key.2.1 h
  have:smB p u k k=true:=by
   unfold smB;rw [vYG rfl,vZH];exact allN_iff.2 fun i _ hi=>vYG (h' i (by omega))
  rw [this] at e; cases e
theorem pr_in {js:Nat→J} {ms:Nat→Ms} {q:Nat→Int} {n m k:Nat} {cs:Nat→Cn} {c:Nat} {rs:Int} (h:prB js ms q n m k cs c rs=true):hA js ms (prQ js ms q n m k cs c rs) n m k cs c=true∧qIn js ms (prQ js ms q n m k cs c rs) n m k=true:=by
 unfold prB prOk at h;simp only [vQJ] at h;obtain ⟨⟨⟨hc,hq⟩,_⟩,ho⟩:=h;unfold prQ pjP;unfold pjO at ho;cases e:prj js ms n m k cs c rs.toNat 0 (nrm' k q) with
 | none=>rw [e] at ho; cases ho
 | some y =>
  obtain ⟨j,p⟩:=y;obtain ⟨a,b,_⟩:=prj_spec hc _ 0 _ j p hq (jJG _ _) e;exact ⟨(hA_eq hc b).trans a,b⟩
def exInv (js:Nat→J) (ms:Nat→Ms) (q u:Nat→Int) (n m k:Nat) (cs:Nat→Cn) (c:Nat) (mo:Int) (y:Nat × (Nat→Nat→Int)):Prop:=(1≤y.1∧(y.1:Int)≤mo)∧y.2 0=q∧∀ i,i < y.1→(hA js ms (y.2 i) n m k cs c=true∧qIn js ms (y.2 i) n m k=true)∧(0 < i→¬ dsQ js ms (y.2 (i - 1)) u n m k k≤dsQ js ms (y.2 i) u n m k k)
theorem ex_inv {js:Nat→J} {ms:Nat→Ms} {q u:Nat→Int} {n m k:Nat} {cs:Nat→Cn} {c:Nat} {st rd mo:Int} (hu:qIn js ms u n m k=true):∀ f y b,exInv js ms q u n m k cs c mo y→yHQ (exD js ms u n m k cs c st rd mo) f y=some b→exInv js ms q u n m k cs c mo b.1∧¬ b.2=0∧smB (b.1.2 (b.1.1 - 1)) u k k=decide (b.2=1)∧(b.2=4→(b.1.1:Int)=mo)
 | 0,y,b,_,h=>by cases h
 | f + 1,y,b,hy,h=>by
  obtain ⟨⟨y1,y2⟩,y3,y4⟩:=hy;have hl:=y4 (y.1 - 1) (by omega);have hz:=ds_zero hl.1.2 hu;rw [yHQ] at h;unfold exD at h;by_cases h1:dsQ js ms (y.2 (y.1 - 1)) u n m k k=0
  ·rw [vYG h1] at h hz;cases h;exact ⟨⟨⟨y1,y2⟩,y3,y4⟩,(by show ¬ (1:Int)=0; decide),hz.symm,fun h=>absurd (show (1:Int)=4 from h) (by decide)⟩
  rw [vYV h1] at h hz;by_cases h2:mo≤(y.1:Int)
  ·rw [vYG h2] at h;cases h;exact ⟨⟨⟨y1,y2⟩,y3,y4⟩,(by show ¬ (4:Int)=0; decide),hz.symm,fun _=>by show (y.1:Int)=mo; omega⟩
  rw [vYV h2] at h;cases h3:exo js ms u n m k cs c st rd (y.2 (y.1 - 1)) with
  | false =>
   rw [h3] at h;cases h;exact ⟨⟨⟨y1,y2⟩,y3,y4⟩,(by show ¬ (2:Int)=0; decide),hz.symm,fun h=>absurd (show (2:Int)=4 from h) (by decide)⟩
  | true =>
   rw [h3] at h;refine ex_inv hu f _ b ?_ h;unfold exo at h3;rw [vQJ] at h3;obtain ⟨p1,p2⟩:=pr_in h3.1;have hlt:¬ dsQ js ms (y.2 (y.1 - 1)) u n m k k≤dsQ js ms (exn js ms u n m k cs c st rd (y.2 (y.1 - 1))) u n m k k:=by
    intro hle;rw [vYG hle] at h3;cases h3.2
   refine ⟨⟨by show 1≤y.1 + 1; omega,by show ((y.1 + 1:Nat):Int)≤mo; omega⟩,?_,fun i hi => ?_⟩
   ·funext w;show (bif Nat.beq 0 y.1 then _ else y.2 0 w)=_;rw [zJQ,vYV (show ¬ 0=y.1 by omega),y3]; rfl
   ·have hrow:∀ j,j≤y.1→(fun w=>bif Nat.beq j y.1 then exn js ms u n m k cs c st rd (y.2 (y.1 - 1)) w else y.2 j w)=if j=y.1 then exn js ms u n m k cs c st rd (y.2 (y.1 - 1)) else y.2 j:=fun j hj=>by
     by_cases e:j=y.1
     ·rw [if_pos e,zJQ,vYG e]; rfl
     ·rw [if_neg e,zJQ,vYV e]; rfl
    have hi':i < y.1 + 1:=hi;show (hA js ms (fun w=>bif Nat.beq i y.1 then _ else y.2 i w) n m k cs c=true∧qIn js ms (fun w=>bif Nat.beq i y.1 then _ else y.2 i w) n m k=true)∧(0 < i→¬ dsQ js ms (fun w=>bif Nat.beq (i - 1) y.1 then _ else y.2 (i - 1) w) u n m k k≤dsQ js ms (fun w=>bif Nat.beq i y.1 then _ else y.2 i w) u n m k k);rw [hrow i (by omega),hrow (i - 1) (by omega)];by_cases e:i=y.1
    ·rw [if_pos e,if_neg (show ¬ i - 1=y.1 by omega)];refine ⟨⟨p1,p2⟩,fun _ => ?_⟩;rw [e]; exact hlt
    ·rw [if_neg e,if_neg (show ¬ i - 1=y.1 by omega)];exact y4 i (by omega)
noncomputable def exZ (js:Nat→J) (ms:Nat→Ms) (q u:Nat→Int) (n m k l:Nat) (cs:Nat→Cn) (c:Nat) (st rd mo:Int):Nat:=bif exOk js ms q u n m k l cs c st rd mo then exN js ms q u n m k cs c st rd mo else 0
noncomputable def exT (js:Nat→J) (ms:Nat→Ms) (q u:Nat→Int) (n m k l:Nat) (cs:Nat→Cn) (c:Nat) (st rd mo:Int):Int:=bif exOk js ms q u n m k l cs c st rd mo then exS js ms q u n m k cs c st rd mo else 0
theorem snd_ext (js:Nat→J) (ms:Nat→Ms) (q u:Nat→Int) (n m k l:Nat) (cs:Nat→Cn) (c:Nat) (st rd mo:Int) (hmo:mo≤100):zH Tryz.prog 11 [.a [.lf n (fJ js),.lf m (fM ms)],.lf c (fC cs),.lf k (fQ q),.lf l (fQ u),.n .i64 st,.n .i64 rd,.n .i64 mo] (.v (.t [.lf (exZ js ms q u n m k l cs c st rd mo) (fun v=>[.lf k (fQ (exX js ms q u n m k cs c st rd mo v))]),.n .i64 (exT js ms q u n m k l cs c st rd mo)])):=by
 have h:=snd_ext0 js ms q u n m k l cs c st rd mo hmo;unfold exZ exT;cases e:exOk js ms q u n m k l cs c st rd mo with
 | true=>rw [e] at h; exact h
 | false =>
  rw [e] at h;exact qYJ (Same.t (xs:=[_,_]) ⟨Same.lf rfl,Same.refl _,trivial⟩) h
theorem ex_spec (js:Nat→J) (ms:Nat→Ms) (q u:Nat→Int) (n m k:Nat) (cs:Nat→Cn) (c:Nat) (st rd mo:Int) (hmo:mo≤50) (hm1:1≤mo) (hst:1≤st∧st≤1073741824) (hrd:0≤rd∧rd≤64) (hq:qIn js ms q n m k=true) (hu:qIn js ms u n m k=true):kGJ js ms q u n m k cs c (exZ js ms q u n m k k cs c st rd mo) (exX js ms q u n m k cs c st rd mo) (exT js ms q u n m k k cs c st rd mo) mo:=by
 obtain ⟨h0,hn,_⟩:=qUU hq;have h10:=qWV h0;unfold kGJ exZ exT;cases e:exOk js ms q u n m k k cs c st rd mo with
 | false =>
  refine ⟨fun _=>⟨rfl,?_⟩,fun h=>absurd rfl h⟩;unfold exOk at e;rw [hq,hu,vYG (show 1≤st∧st≤1073741824∧0≤rd∧rd≤64∧1≤mo by omega)] at e;cases hh:hA js ms q n m k cs c with
  | false=>rfl
  | true =>
   rw [hh,(ha_in hh).1] at e;cases e
 | true =>
  unfold exOk at e;simp only [vQJ] at e;obtain ⟨b,hb⟩:=kZQ js ms u n m k cs c st rd mo 110 (1,fun _=>q) (by show _ < 1 + 110; omega) (by omega);have hi:=ex_inv (q:=q) hu 110 (1,fun _=>q) b ⟨⟨Nat.le_refl _,hm1⟩,rfl,fun i hi=>⟨⟨e.2.2.2.1,hq⟩,fun h=>absurd h (by have:i < 1:=hi; omega)⟩⟩ hb;have eN:exN js ms q u n m k cs c st rd mo=b.1.1:=by unfold exN kZZ; rw [hb]
  have eX:exX js ms q u n m k cs c st rd mo=b.1.2:=by unfold exX kZZ; rw [hb]
  have eS:exS js ms q u n m k cs c st rd mo=b.2:=by unfold exS kZZ; rw [hb]
  obtain ⟨⟨⟨i1,i2⟩,i3,i4⟩,i5,i6,i7⟩:=hi;rw [cond_true,cond_true,eN,eX,eS];refine ⟨fun h=>absurd h i5,fun _=>⟨⟨i1,i2⟩,?_,⟨by omega,by omega,fun i hi=>⟨(i4 i hi).1.1,(i4 i hi).2⟩⟩,i6,i7⟩⟩;rw [i3];unfold smB;rw [vYG rfl,vZH];exact allN_iff.2 fun i _ _=>vYG rfl
theorem cfgs_in {a:List Int} {js:List J} (hj:∀ j ∈ js,JB j):∀ n,n≤js.length→∀ (k:Nat) (j:J) (x:Int),js[k]? = some j→(cfgs a js n).1[k]? = some x→j.lo≤x∧x≤j.hi
 | 0,_,k,j,x,_,h=>by simp [cfgs] at h
 | n + 1,hn,k,j,x,hk,hx=>by
  have hjn:js[n]? = some (js[n]'(by omega)):=vQK (by omega);generalize js[n]'(by omega)=jn at hjn;have hl:=jUV (l:=a) (js:=js) n (by omega);have ih:=cfgs_in (a:=a) hj n (by omega) k j x hk;obtain ⟨b1,b2,b3⟩:=hj jn (vQG hjn);have key:∃ y q,cfgs a js (n + 1)=((cfgs a js n).1 ++ [y],q)∧jn.lo≤y∧y≤jn.hi:=by
   simp only [cfgs,hjn];split
   ·exact ⟨_,_,rfl,by omega,by omega⟩
   ·split
    ·exact ⟨_,_,rfl,by omega,by omega⟩
    ·have r:=qQU a ((cfgs a js n).2 + 1) (k:=jn.hi - jn.lo + 1) (by omega);exact ⟨_,_,rfl,by omega,by omega⟩
  obtain ⟨y,q,e,h1,h2⟩:=key;rw [e] at hx;by_cases hkn:k < n
  ·rw [List.getElem?_append_left (by omega)] at hx; exact ih hx
  ·rw [List.getElem?_append_right (by omega),hl] at hx;have h3:=(List.getElem?_eq_some_iff.1 hx).1;simp at h3;obtain rfl:k=n:=by omega
   rw [hjn] at hk;cases hk;simp at hx;subst hx;exact ⟨h1,h2⟩
theorem kVV (l:List Int) {i:Nat} (hi:i < nJ l 0):(jsOf l 0 (nJ l 0)).1[i]? = some (jaOf l i):=by
 have hl:=qKG l 0 (nJ l 0);rw [vQK (show i < (jsOf l 0 (nJ l 0)).1.length by omega)];unfold jaOf;rw [vZG,vQK (show i < (jsOf l 0 (nJ l 0)).1.length by omega)];rfl
theorem nml0:nmB (qQY 0)=true:=by kernel_rfl
theorem nml1:nmB (qQY 1)=true:=by kernel_rfl
theorem nml2:nmB (qQY 2)=true:=by kernel_rfl
theorem dup_no {js:Nat→J} {nm:ByteArray}:∀ k p,(∀ i,p≤i→i < p + k→((js i).name.toList == nm.toList)=false)→dup js nm k p=false
 | 0,_,_=>rfl
 | k + 1,p,h=>by rw [dup,h p (Nat.le_refl _) (by omega),dup_no k (p + 1) fun i h1 h2=>h i (by omega) (by omega)]; rfl
theorem je_0 {js:Nat→J} {n:Nat}:∀ k p,(∀ i,p≤i→i < p + k→jErr js n i=0)→jE js n k p=0
 | 0,_,_=>rfl
 | k + 1,p,h=>by rw [jE,h p (Nat.le_refl _) (by omega),je_0 k (p + 1) fun i h1 h2=>h i (by omega) (by omega)]; rfl
theorem mAll_t {ms:Nat→Ms} {n:Nat}:∀ k p,(∀ i,p≤i→i < p + k→MOK n (ms i))→mAll ms n k p=true
 | 0,_,_=>rfl
 | k + 1,p,h=>by
  rw [mAll,mAll_t k (p + 1) fun i h1 h2=>h i (by omega) (by omega)];unfold mokB;rw [vYG (h p (Nat.le_refl _) (by omega))]; rfl
def JF (i:Int) (j:J):Prop:=(0≤j.kind∧j.kind≤6)∧(-1≤j.parent∧j.parent < i)∧(-4194304≤j.off.x∧j.off.x≤4194304)∧(-4194304≤j.off.y∧j.off.y≤4194304)∧(-4194304≤j.off.z∧j.off.z≤4194304)∧(j.lo≤j.hi ∧ -limK j.kind≤j.lo∧j.hi≤limK j.kind) ∧
  (1≤j.weight∧j.weight≤1024)∧(1≤j.speed∧j.speed≤1048576)∧(1≤j.accel∧j.accel≤1048576)∧(1≤j.torque∧j.torque≤1099511627776)
theorem jf_of {js:List J} {i:Nat} {j:J} (h:JOK js i j):JF i j:=by
 obtain ⟨c,a1,a2,a3,a4,a5,a6⟩:=h;exact a6
theorem cjT_ok {α:Type} (f:Int→α) {i:Int} {j:J} (h:JF i j):cjT f i j=f 0:=by
 obtain ⟨h1,h2,h3,h4,h5,h6,h7,h8,h9,h10⟩:=h;have a0:decide (j.kind < 0)=false:=vYV (by omega);have a1:decide (6 < j.kind)=false:=vYV (by omega);have a2:decide (j.parent < (-1))=false:=vYV (by omega);have a3:decide (i≤j.parent)=false:=vYV (by omega);have a4:decide (j.off.x < (-4194304))=false:=vYV (by omega);have a5:decide (4194304 < j.off.x)=false:=vYV (by omega);have a6:decide (j.off.y < (-4194304))=false:=vYV (by omega);have a7:decide (4194304 < j.off.y)=false:=vYV (by omega);have a8:decide (j.off.z < (-4194304))=false:=vYV (by omega);have a9:decide (4194304 < j.off.z)=false:=vYV (by omega);have a10:decide (j.hi < j.lo)=false:=vYV (by omega);have b0:decide (1≤j.weight)=true:=vYG (by omega);have b1:decide (j.weight≤1024)=true:=vYG (by omega);have b2:decide (1≤j.speed)=true:=vYG (by omega);have b3:decide (j.speed≤1048576)=true:=vYG (by omega);have b4:decide (1≤j.accel)=true:=vYG (by omega);have b5:decide (j.accel≤1048576)=true:=vYG (by omega);have b6:decide (1≤j.torque)=true:=vYG (by omega);have b7:decide (j.torque≤1099511627776)=true:=vYG (by omega);unfold cjT;rcases (by omega:j.kind=0 ∨ j.kind=1 ∨ j.kind=2 ∨ j.kind=3 ∨ 4≤j.kind) with h | h | h | h | h
 ·have hm:limK j.kind=0:=by unfold limK; rw [if_neg (by omega),if_neg (by omega)]
  rw [hm] at h6;have c0:decide (j.lo < 0)=false:=vYV (by omega);have c1:decide (0 < j.hi)=false:=vYV (by omega);simp only [a0,a1,a2,a3,a4,a5,a6,a7,a8,a9,a10,b0,b1,b2,b3,b4,b5,b6,b7,c0,c1,vYG h,cond_true,cond_false]
 ·have hm:limK j.kind=524288:=by unfold limK; rw [if_pos (by omega)]
  rw [hm] at h6;have c0:decide (j.lo < (-524288))=false:=vYV (by omega);have c1:decide (524288 < j.hi)=false:=vYV (by omega);simp only [a0,a1,a2,a3,a4,a5,a6,a7,a8,a9,a10,b0,b1,b2,b3,b4,b5,b6,b7,c0,c1,vYV (show ¬ j.kind=0 by omega),vYG h,cond_true,cond_false]
 ·have hm:limK j.kind=524288:=by unfold limK; rw [if_pos (by omega)]
  rw [hm] at h6;have c0:decide (j.lo < (-524288))=false:=vYV (by omega);have c1:decide (524288 < j.hi)=false:=vYV (by omega);simp only [a0,a1,a2,a3,a4,a5,a6,a7,a8,a9,a10,b0,b1,b2,b3,b4,b5,b6,b7,c0,c1,vYV (show ¬ j.kind=0 by omega),vYV (show ¬ j.kind=1 by omega),vYG h,cond_true,cond_false]
 ·have hm:limK j.kind=524288:=by unfold limK; rw [if_pos (by omega)]
  rw [hm] at h6;have c0:decide (j.lo < (-524288))=false:=vYV (by omega);have c1:decide (524288 < j.hi)=false:=vYV (by omega);simp only [a0,a1,a2,a3,a4,a5,a6,a7,a8,a9,a10,b0,b1,b2,b3,b4,b5,b6,b7,c0,c1,vYV (show ¬ j.kind=0 by omega),vYV (show ¬ j.kind=1 by omega),vYV (show ¬ j.kind=2 by omega),vYG h,cond_true,cond_false]
 ·have hm:limK j.kind=4194304:=by unfold limK; rw [if_neg (by omega),if_pos (by omega)]
  rw [hm] at h6;have c0:decide (j.lo < (-4194304))=false:=vYV (by omega);have c1:decide (4194304 < j.hi)=false:=vYV (by omega);simp only [a0,a1,a2,a3,a4,a5,a6,a7,a8,a9,a10,b0,b1,b2,b3,b4,b5,b6,b7,c0,c1,vYV (show ¬ j.kind=0 by omega),vYV (show ¬ j.kind=1 by omega),vYV (show ¬ j.kind=2 by omega),vYV (show ¬ j.kind=3 by omega),cond_true,cond_false]
theorem made_r0 (l:List Int):rErr (jaOf l) (maOf l) (nJ l 0) (nM l 0)=0:=by
 have hn:=nJ_b l 0;have hm:=nM_b l 0;have hj:jE (jaOf l) (nJ l 0) (nJ l 0) 0=0:=je_0 _ _ fun i _ hi=>by
  have hi':i < nJ l 0:=by omega
  have hg:=kVV l hi';have hok:=made_JOK l 0 (nJ l 0) hn.2.1 i _ hg;have hf:=jf_of hok;obtain ⟨c,a1,_⟩:=hok;have hnm:nmB (jaOf l i).name=true:=by
   obtain ⟨p,hp⟩:=yXQ l 0 _ _ _ hg;rw [hp,(zYW l p (i:Int)).1];rcases (show i=0 ∨ i=1 ∨ i=2 by omega) with rfl | rfl | rfl
   ·exact nml0
   ·exact nml1
   ·exact nml2
  unfold jErr;rw [hnm,dup_no _ _ fun k _ hk=>a1 k (by omega) _ (kVV l (by omega)),cond_true,cond_false];exact cjT_ok _ hf
 have hma:mAll (maOf l) (nJ l 0) (nM l 0) 0=true:=mAll_t _ _ fun i _ hi=>by
  have hl:=zKH l 0 (nM l 0);refine msOf_get l 0 (nM l 0) _ ?_;unfold maOf;rw [vZG,vQK (show i < (msOf l 0 (nM l 0)).length by omega)];exact List.getElem_mem _
 unfold rErr;rw [vYV (show ¬ ((nJ l 0:Nat):Int)=0 by omega),vYV (show ¬ 10 < ((nJ l 0:Nat):Int) by omega),hj,hma,vYV (show ¬ 32 < ((nM l 0:Nat):Int) by omega)];rfl
theorem made_in (l a:List Int):qIn (jaOf l) (maOf l) (cqOf l a) (nJ l 0) (nM l 0) (nJ l 0)=true:=by
 unfold qIn insQ;rw [made_r0,vYG rfl,vYG rfl];simp only [vZH];refine allN_iff.2 fun i _ hi => ?_
 have hl:=yHX l a;have hx:(cfgs a (jsOf l 0 (nJ l 0)).1 (nJ l 0)).1[i]? = some (cqOf l a i):=by
  show (jUG l a)[i]? = _;rw [vQK (show i < (jUG l a).length by omega)];unfold cqOf iqOf;rw [vZG,vQK (show i < (jUG l a).length by omega)];rfl
 have:=cfgs_in (kVW l 0 _) (nJ l 0) (by rw [qKG]; exact Nat.le_refl _) i _ _ (kVV l (by omega)) hx
 rw [vYG this.1,vYG this.2]; rfl
def decI (p:PV):List Int:=match p with
 | .l rows=>rows.map fun r=>match r with | [.n _ x]=>x | _=>0
 | _=>[]
theorem decI_ints (l:List Int):decI (.l (l.map fun x=>[PV.n .i64 x]))=l:=by
 unfold decI;dsimp only;rw [List.map_map];exact (List.map_congr_left (fun x _=>rfl)).trans (List.map_id l)
noncomputable def kfOf (l:List Int) (p:PV):Nat→Int:=cqOf l (decI p)
theorem yGW (l a:List Int):kfOf l (zUQ a)=cqOf l a:=congrArg (cqOf l) (decI_ints a)
theorem andI_b (x:Int):0≤andI .i64 x 65535∧andI .i64 x 65535≤65535:=by
 unfold andI;have h:(BitVec.ofInt IntKind.i64.bits x &&& BitVec.ofInt IntKind.i64.bits 65535).toNat≤65535:=by
  rw [BitVec.toNat_and];exact Nat.le_trans Nat.and_le_right (by decide)
 rw [zY (by omega)];omega
theorem snd_law4F (l mm a b:List Int) (nn st mx:Int) (hl:l.length≤9223372036854775807) (hm:mm.length≤9223372036854775807) (ha:a.length≤9223372036854775807) (hb:b.length≤9223372036854775807) (h0:zH Tryz.prog 5 [] (.v (.b true))) :
  zH Tryz.prog 4 [zUQ l,zUQ mm,zUQ a,zUQ b,.n .i64 nn,.n .i64 st,.n .i64 mx] (.v (.b true)):=by
 have hj:=nJ_b l 0;have hw:nn % 3=(((nn % 3).toNat:Nat):Int):=by omega
 obtain ⟨ce,he⟩:=snd_nearV (l:=l) (mm:=mm) (a:=a) (u:=(nn % 3).toNat) (by omega) hm;rw [← hw] at he;have hs:=andI_b st;have s1:(vJZ .i64 (1 + (andI .i64 st 65535)))=1 + andI .i64 st 65535:=zY (by omega);have s2:(vJZ .i64 (1 + (mx % 12)))=1 + mx % 12:=zY (by omega);have h5:=snd_ext (jaOf l) (maOf l) (cqOf l a) (cqOf l b) (nJ l 0) (nM l 0) (nJ l 0) (nJ l 0) ce (nn % 3).toNat (vJZ .i64 (1 + (andI .i64 st 65535))) 6 (vJZ .i64 (1 + (mx % 12))) (by omega);have hsp:=ex_spec (jaOf l) (maOf l) (cqOf l a) (cqOf l b) (nJ l 0) (nM l 0) (nJ l 0) ce (nn % 3).toNat (vJZ .i64 (1 + (andI .i64 st 65535))) 6 (vJZ .i64 (1 + (mx % 12))) (by omega) (by omega) (by omega) (by omega) (made_in l a) (made_in l b);rw [← yGW l a,← yGW l b] at h5 hsp;rw [← yGW l a] at he;exact snd_law4 (jaOf l) (maOf l) (kfOf l) (nJ l 0) (nM l 0) (nJ l 0) ce (nn % 3).toNat _ _ _ _ _ _ _ nn st mx (by omega) h0 (snd_robF hl) ((yGW l a).symm ▸ snd_cfgF ha) ((yGW l b).symm ▸ snd_cfgF hb) he h5 hsp
end Go.Proofs.YtmffoiemmlcmfaaGreat.Ec
namespace Go.Proofs.YtmffoiemmlcmfaaGreat.Aw
open Go.Rx Rt
noncomputable def k139:List (List PV × Ret):=[([.a [.n .i64 65536,.n .i64 65536,.n .i64 0,.n .i64 0,.n .i64 0,.n .i64 0,.n .i64 0,.n .i64 0,.n .i64 65536,.n .i64 65536,.n .i64 0,.n .i64 0,.n .i64 0,.n .i64 0,.n .i64 0,.n .i64 0,.n .i64 65536,.n .i64 65536,.n .i64 0,.n .i64 0,.n .i64 0,.n .i64 0,.n .i64 0,.n .i64 0],.a [.n .i64 65536,.n .i64 65536,.n .i64 0,.n .i64 0,.n .i64 0,.n .i64 0,.n .i64 0,.n .i64 0,.n .i64 65536,.n .i64 65536,.n .i64 0,.n .i64 0,.n .i64 0,.n .i64 0,.n .i64 0,.n .i64 0,.n .i64 65536,.n .i64 65536,.n .i64 5,.n .i64 5,.n .i64 0,.n .i64 0,.n .i64 0,.n .i64 0]],.v (.a [.n .i64 65536,.n .i64 65536,.n .i64 0,.n .i64 0,.n .i64 0,.n .i64 0,.n .i64 0,.n .i64 0,.n .i64 65536,.n .i64 65536,.n .i64 0,.n .i64 0,.n .i64 0,.n .i64 0,.n .i64 0,.n .i64 0,.n .i64 65536,.n .i64 65536,.n .i64 5,.n .i64 5,.n .i64 0,.n .i64 0,.n .i64 0,.n .i64 0])),
 ([.a [.n .i64 65536,.n .i64 65536,.n .i64 0,.n .i64 0,.n .i64 0,.n .i64 0,.n .i64 0,.n .i64 0,.n .i64 65536,.n .i64 65536,.n .i64 0,.n .i64 0,.n .i64 0,.n .i64 0,.n .i64 0,.n .i64 0,.n .i64 65536,.n .i64 65536,.n .i64 0,.n .i64 0,.n .i64 0,.n .i64 0,.n .i64 0,.n .i64 0],.a [.n .i64 65536,.n .i64 65536,.n .i64 0,.n .i64 0,.n .i64 0,.n .i64 0,.n .i64 0,.n .i64 0,.n .i64 65536,.n .i64 65536,.n .i64 0,.n .i64 0,.n .i64 0,.n .i64 0,.n .i64 0,.n .i64 0,.n .i64 65536,.n .i64 65536,.n .i64 0,.n .i64 0,.n .i64 7,.n .i64 7,.n .i64 0,.n .i64 0]],.v (.a [.n .i64 65536,.n .i64 65536,.n .i64 0,.n .i64 0,.n .i64 0,.n .i64 0,.n .i64 0,.n .i64 0,.n .i64 65536,.n .i64 65536,.n .i64 0,.n .i64 0,.n .i64 0,.n .i64 0,.n .i64 0,.n .i64 0,.n .i64 65536,.n .i64 65536,.n .i64 0,.n .i64 0,.n .i64 7,.n .i64 7,.n .i64 0,.n .i64 0])),
 ([.a [.n .i64 65536,.n .i64 65536,.n .i64 0,.n .i64 0,.n .i64 0,.n .i64 0,.n .i64 0,.n .i64 0,.n .i64 65536,.n .i64 65536,.n .i64 0,.n .i64 0,.n .i64 0,.n .i64 0,.n .i64 0,.n .i64 0,.n .i64 65536,.n .i64 65536,.n .i64 5,.n .i64 5,.n .i64 0,.n .i64 0,.n .i64 0,.n .i64 0],.a [.n .i64 65536,.n .i64 65536,.n .i64 0,.n .i64 0,.n .i64 0,.n .i64 0,.n .i64 0,.n .i64 0,.n .i64 65536,.n .i64 65536,.n .i64 0,.n .i64 0,.n .i64 0,.n .i64 0,.n .i64 0,.n .i64 0,.n .i64 65536,.n .i64 65536,.n .i64 0,.n .i64 0,.n .i64 7,.n .i64 7,.n .i64 0,.n .i64 0]],.v (.a [.n .i64 65536,.n .i64 65536,.n .i64 0,.n .i64 0,.n .i64 0,.n .i64 0,.n .i64 0,.n .i64 0,.n .i64 65536,.n .i64 65536,.n .i64 0,.n .i64 0,.n .i64 0,.n .i64 0,.n .i64 0,.n .i64 0,.n .i64 65536,.n .i64 65536,.n .i64 5,.n .i64 5,.n .i64 7,.n .i64 7,.n .i64 0,.n .i64 0])),
 ([.a [.n .i64 65536,.n .i64 65536,.n .i64 0,.n .i64 0,.n .i64 0,.n .i64 0,.n .i64 0,.n .i64 0,.n .i64 65536,.n .i64 65536,.n .i64 0,.n .i64 0,.n .i64 0,.n .i64 0,.n .i64 0,.n .i64 0,.n .i64 65536,.n .i64 65536,.n .i64 0,.n .i64 0,.n .i64 0,.n .i64 0,.n .i64 0,.n .i64 0],.a [.n .i64 65536,.n .i64 65536,.n .i64 0,.n .i64 0,.n .i64 0,.n .i64 0,.n .i64 0,.n .i64 0,.n .i64 65536,.n .i64 65536,.n .i64 0,.n .i64 0,.n .i64 0,.n .i64 0,.n .i64 0,.n .i64 0,.n .i64 65536,.n .i64 65536,.n .i64 0,.n .i64 0,.n .i64 0,.n .i64 0,.n .i64 0,.n .i64 0]],.v (.a [.n .i64 65536,.n .i64 65536,.n .i64 0,.n .i64 0,.n .i64 0,.n .i64 0,.n .i64 0,.n .i64 0,.n .i64 65536,.n .i64 65536,.n .i64 0,.n .i64 0,.n .i64 0,.n .i64 0,.n .i64 0,.n .i64 0,.n .i64 65536,.n .i64 65536,.n .i64 0,.n .i64 0,.n .i64 0,.n .i64 0,.n .i64 0,.n .i64 0])),
 ([.a [.n .i64 65536,.n .i64 65536,.n .i64 0,.n .i64 0,.n .i64 0,.n .i64 0,.n .i64 0,.n .i64 0,.n .i64 65536,.n .i64 65536,.n .i64 0,.n .i64 0,.n .i64 0,.n .i64 0,.n .i64 0,.n .i64 0,.n .i64 65536,.n .i64 65536,.n .i64 0,.n .i64 0,.n .i64 0,.n .i64 0,.n .i64 0,.n .i64 0],.a [.n .i64 65536,.n .i64 65536,.n .i64 0,.n .i64 0,.n .i64 0,.n .i64 0,.n .i64 0,.n .i64 0,.n .i64 65536,.n .i64 65536,.n .i64 0,.n .i64 0,.n .i64 0,.n .i64 0,.n .i64 0,.n .i64 0,.n .i64 65536,.n .i64 65536,.n .i64 69,.n .i64 69,.n .i64 0,.n .i64 0,.n .i64 0,.n .i64 0]],.v (.a [.n .i64 65536,.n .i64 65536,.n .i64 0,.n .i64 0,.n .i64 0,.n .i64 0,.n .i64 0,.n .i64 0,.n .i64 65536,.n .i64 65536,.n .i64 0,.n .i64 0,.n .i64 0,.n .i64 0,.n .i64 0,.n .i64 0,.n .i64 65536,.n .i64 65536,.n .i64 69,.n .i64 69,.n .i64 0,.n .i64 0,.n .i64 0,.n .i64 0])),
 ([.a [.n .i64 65536,.n .i64 65536,.n .i64 0,.n .i64 0,.n .i64 0,.n .i64 0,.n .i64 0,.n .i64 0,.n .i64 65536,.n .i64 65536,.n .i64 0,.n .i64 0,.n .i64 0,.n .i64 0,.n .i64 0,.n .i64 0,.n .i64 65536,.n .i64 65536,.n .i64 69,.n .i64 69,.n .i64 0,.n .i64 0,.n .i64 0,.n .i64 0],.a [.n .i64 65536,.n .i64 65536,.n .i64 0,.n .i64 0,.n .i64 0,.n .i64 0,.n .i64 0,.n .i64 0,.n .i64 65536,.n .i64 65536,.n .i64 0,.n .i64 0,.n .i64 0,.n .i64 0,.n .i64 0,.n .i64 0,.n .i64 65536,.n .i64 65536,.n .i64 0,.n .i64 0,.n .i64 7,.n .i64 7,.n .i64 0,.n .i64 0]],.v (.a [.n .i64 65536,.n .i64 65536,.n .i64 0,.n .i64 0,.n .i64 0,.n .i64 0,.n .i64 0,.n .i64 0,.n .i64 65536,.n .i64 65536,.n .i64 0,.n .i64 0,.n .i64 0,.n .i64 0,.n .i64 0,.n .i64 0,.n .i64 65536,.n .i64 65536,.n .i64 69,.n .i64 69,.n .i64 7,.n .i64 7,.n .i64 0,.n .i64 0])),
 ([.a [.n .i64 65536,.n .i64 65536,.n .i64 0,.n .i64 0,.n .i64 0,.n .i64 0,.n .i64 0,.n .i64 0,.n .i64 65536,.n .i64 65536,.n .i64 0,.n .i64 0,.n .i64 0,.n .i64 0,.n .i64 0,.n .i64 0,.n .i64 65536,.n .i64 65536,.n .i64 5,.n .i64 5,.n .i64 0,.n .i64 0,.n .i64 0,.n .i64 0],.a [.n .i64 65536,.n .i64 65536,.n .i64 0,.n .i64 0,.n .i64 0,.n .i64 0,.n .i64 0,.n .i64 0,.n .i64 65536,.n .i64 65536,.n .i64 0,.n .i64 0,.n .i64 0,.n .i64 0,.n .i64 0,.n .i64 0,.n .i64 65536,.n .i64 65536,.n .i64 0,.n .i64 0,.n .i64 0,.n .i64 0,.n .i64 0,.n .i64 0]],.v (.a [.n .i64 65536,.n .i64 65536,.n .i64 0,.n .i64 0,.n .i64 0,.n .i64 0,.n .i64 0,.n .i64 0,.n .i64 65536,.n .i64 65536,.n .i64 0,.n .i64 0,.n .i64 0,.n .i64 0,.n .i64 0,.n .i64 0,.n .i64 65536,.n .i64 65536,.n .i64 5,.n .i64 5,.n .i64 0,.n .i64 0,.n .i64 0,.n .i64 0])),
 ([.a [.n .i64 65536,.n .i64 65536,.n .i64 0,.n .i64 0,.n .i64 0,.n .i64 0,.n .i64 0,.n .i64 0,.n .i64 65536,.n .i64 65536,.n .i64 0,.n .i64 0,.n .i64 0,.n .i64 0,.n .i64 0,.n .i64 0,.n .i64 65536,.n .i64 65536,.n .i64 0,.n .i64 0,.n .i64 0,.n .i64 0,.n .i64 0,.n .i64 0],.a [.n .i64 65536,.n .i64 65536,.n .i64 0,.n .i64 0,.n .i64 0,.n .i64 0,.n .i64 0,.n .i64 0,.n .i64 65536,.n .i64 65536,.n .i64 0,.n .i64 0,.n .i64 0,.n .i64 0,.n .i64 0,.n .i64 0,.n .i64 65536,.n .i64 65536,.n .i64 0,.n .i64 0,.n .i64 71,.n .i64 71,.n .i64 0,.n .i64 0]],.v (.a [.n .i64 65536,.n .i64 65536,.n .i64 0,.n .i64 0,.n .i64 0,.n .i64 0,.n .i64 0,.n .i64 0,.n .i64 65536,.n .i64 65536,.n .i64 0,.n .i64 0,.n .i64 0,.n .i64 0,.n .i64 0,.n .i64 0,.n .i64 65536,.n .i64 65536,.n .i64 0,.n .i64 0,.n .i64 71,.n .i64 71,.n .i64 0,.n .i64 0])),
 ([.a [.n .i64 65536,.n .i64 65536,.n .i64 0,.n .i64 0,.n .i64 0,.n .i64 0,.n .i64 0,.n .i64 0,.n .i64 65536,.n .i64 65536,.n .i64 0,.n .i64 0,.n .i64 0,.n .i64 0,.n .i64 0,.n .i64 0,.n .i64 65536,.n .i64 65536,.n .i64 5,.n .i64 5,.n .i64 0,.n .i64 0,.n .i64 0,.n .i64 0],.a [.n .i64 65536,.n .i64 65536,.n .i64 0,.n .i64 0,.n .i64 0,.n .i64 0,.n .i64 0,.n .i64 0,.n .i64 65536,.n .i64 65536,.n .i64 0,.n .i64 0,.n .i64 0,.n .i64 0,.n .i64 0,.n .i64 0,.n .i64 65536,.n .i64 65536,.n .i64 0,.n .i64 0,.n .i64 71,.n .i64 71,.n .i64 0,.n .i64 0]],.v (.a [.n .i64 65536,.n .i64 65536,.n .i64 0,.n .i64 0,.n .i64 0,.n .i64 0,.n .i64 0,.n .i64 0,.n .i64 65536,.n .i64 65536,.n .i64 0,.n .i64 0,.n .i64 0,.n .i64 0,.n .i64 0,.n .i64 0,.n .i64 65536,.n .i64 65536,.n .i64 5,.n .i64 5,.n .i64 71,.n .i64 71,.n .i64 0,.n .i64 0])),
 ([.a [.n .i64 65536,.n .i64 65536,.n .i64 0,.n .i64 0,.n .i64 0,.n .i64 0,.n .i64 0,.n .i64 0,.n .i64 65536,.n .i64 65536,.n .i64 0,.n .i64 0,.n .i64 0,.n .i64 0,.n .i64 0,.n .i64 0,.n .i64 65536,.n .i64 65536,.n .i64 0,.n .i64 0,.n .i64 0,.n .i64 0,.n .i64 0,.n .i64 0],.a [.n .i64 65536,.n .i64 65536,.n .i64 0,.n .i64 0,.n .i64 0,.n .i64 0,.n .i64 0,.n .i64 0,.n .i64 65536,.n .i64 65536,.n .i64 0,.n .i64 0,.n .i64 0,.n .i64 0,.n .i64 0,.n .i64 0,.n .i64 65536,.n .i64 65536,.n .i64 0,.n .i64 0,.n .i64 301,.n .i64 301,.n .i64 0,.n .i64 0]],.v (.a [.n .i64 65536,.n .i64 65536,.n .i64 0,.n .i64 0,.n .i64 0,.n .i64 0,.n .i64 0,.n .i64 0,.n .i64 65536,.n .i64 65536,.n .i64 0,.n .i64 0,.n .i64 0,.n .i64 0,.n .i64 0,.n .i64 0,.n .i64 65536,.n .i64 65536,.n .i64 0,.n .i64 0,.n .i64 301,.n .i64 301,.n .i64 0,.n .i64 0])),
 ([.a [.n .i64 65536,.n .i64 65536,.n .i64 0,.n .i64 0,.n .i64 0,.n .i64 0,.n .i64 0,.n .i64 0,.n .i64 65536,.n .i64 65536,.n .i64 0,.n .i64 0,.n .i64 0,.n .i64 0,.n .i64 0,.n .i64 0,.n .i64 65536,.n .i64 65536,.n .i64 5,.n .i64 5,.n .i64 0,.n .i64 0,.n .i64 0,.n .i64 0],.a [.n .i64 65536,.n .i64 65536,.n .i64 0,.n .i64 0,.n .i64 0,.n .i64 0,.n .i64 0,.n .i64 0,.n .i64 65536,.n .i64 65536,.n .i64 0,.n .i64 0,.n .i64 0,.n .i64 0,.n .i64 0,.n .i64 0,.n .i64 65536,.n .i64 65536,.n .i64 0,.n .i64 0,.n .i64 301,.n .i64 301,.n .i64 0,.n .i64 0]],.v (.a [.n .i64 65536,.n .i64 65536,.n .i64 0,.n .i64 0,.n .i64 0,.n .i64 0,.n .i64 0,.n .i64 0,.n .i64 65536,.n .i64 65536,.n .i64 0,.n .i64 0,.n .i64 0,.n .i64 0,.n .i64 0,.n .i64 0,.n .i64 65536,.n .i64 65536,.n .i64 5,.n .i64 5,.n .i64 301,.n .i64 301,.n .i64 0,.n .i64 0]))]
noncomputable def t139:Known:=(139,k139) :: ([]:Known)
theorem ok139:Known.Ok Tryz.prog t139:=Known.add yJ yY (Known.nil _) (N:=60) (by kernel_rfl)
noncomputable def k122:List (List PV × Ret):=[([.a [.l [[.s (ByteArray.mk #[97]),.n .i64 4,.n .i64 (-1),.n .i64 0,.n .i64 0,.n .i64 0,.n .i64 0,.n .i64 640,.n .i64 1,.n .i64 65536,.n .i64 65536,.n .i64 65536],[.s (ByteArray.mk #[98]),.n .i64 5,.n .i64 0,.n .i64 0,.n .i64 0,.n .i64 0,.n .i64 0,.n .i64 640,.n .i64 1,.n .i64 65536,.n .i64 65536,.n .i64 65536]],.l []],.l [[.n .i64 5,.n .i64 5],[.n .i64 7,.n .i64 7]]],.ow 88 24 (.l [[.n .i64 65536,.n .i64 65536,.n .i64 0,.n .i64 0,.n .i64 0,.n .i64 0,.n .i64 0,.n .i64 0,.n .i64 65536,.n .i64 65536,.n .i64 0,.n .i64 0,.n .i64 0,.n .i64 0,.n .i64 0,.n .i64 0,.n .i64 65536,.n .i64 65536,.n .i64 5,.n .i64 5,.n .i64 0,.n .i64 0,.n .i64 0,.n .i64 0],[.n .i64 65536,.n .i64 65536,.n .i64 0,.n .i64 0,.n .i64 0,.n .i64 0,.n .i64 0,.n .i64 0,.n .i64 65536,.n .i64 65536,.n .i64 0,.n .i64 0,.n .i64 0,.n .i64 0,.n .i64 0,.n .i64 0,.n .i64 65536,.n .i64 65536,.n .i64 5,.n .i64 5,.n .i64 7,.n .i64 7,.n .i64 0,.n .i64 0]])),
 ([.a [.l [[.s (ByteArray.mk #[97]),.n .i64 4,.n .i64 (-1),.n .i64 0,.n .i64 0,.n .i64 0,.n .i64 0,.n .i64 640,.n .i64 1,.n .i64 65536,.n .i64 65536,.n .i64 65536],[.s (ByteArray.mk #[98]),.n .i64 5,.n .i64 0,.n .i64 0,.n .i64 0,.n .i64 0,.n .i64 0,.n .i64 640,.n .i64 1,.n .i64 65536,.n .i64 65536,.n .i64 65536]],.l []],.l [[.n .i64 0,.n .i64 0],[.n .i64 7,.n .i64 7]]],.ow 88 24 (.l [[.n .i64 65536,.n .i64 65536,.n .i64 0,.n .i64 0,.n .i64 0,.n .i64 0,.n .i64 0,.n .i64 0,.n .i64 65536,.n .i64 65536,.n .i64 0,.n .i64 0,.n .i64 0,.n .i64 0,.n .i64 0,.n .i64 0,.n .i64 65536,.n .i64 65536,.n .i64 0,.n .i64 0,.n .i64 0,.n .i64 0,.n .i64 0,.n .i64 0],[.n .i64 65536,.n .i64 65536,.n .i64 0,.n .i64 0,.n .i64 0,.n .i64 0,.n .i64 0,.n .i64 0,.n .i64 65536,.n .i64 65536,.n .i64 0,.n .i64 0,.n .i64 0,.n .i64 0,.n .i64 0,.n .i64 0,.n .i64 65536,.n .i64 65536,.n .i64 0,.n .i64 0,.n .i64 7,.n .i64 7,.n .i64 0,.n .i64 0]])),
 ([.a [.l [[.s (ByteArray.mk #[97]),.n .i64 4,.n .i64 (-1),.n .i64 0,.n .i64 0,.n .i64 0,.n .i64 0,.n .i64 640,.n .i64 1,.n .i64 65536,.n .i64 65536,.n .i64 65536],[.s (ByteArray.mk #[98]),.n .i64 5,.n .i64 0,.n .i64 0,.n .i64 0,.n .i64 0,.n .i64 0,.n .i64 640,.n .i64 1,.n .i64 65536,.n .i64 65536,.n .i64 65536]],.l []],.l [[.n .i64 69,.n .i64 69],[.n .i64 7,.n .i64 7]]],.ow 88 24 (.l [[.n .i64 65536,.n .i64 65536,.n .i64 0,.n .i64 0,.n .i64 0,.n .i64 0,.n .i64 0,.n .i64 0,.n .i64 65536,.n .i64 65536,.n .i64 0,.n .i64 0,.n .i64 0,.n .i64 0,.n .i64 0,.n .i64 0,.n .i64 65536,.n .i64 65536,.n .i64 69,.n .i64 69,.n .i64 0,.n .i64 0,.n .i64 0,.n .i64 0],[.n .i64 65536,.n .i64 65536,.n .i64 0,.n .i64 0,.n .i64 0,.n .i64 0,.n .i64 0,.n .i64 0,.n .i64 65536,.n .i64 65536,.n .i64 0,.n .i64 0,.n .i64 0,.n .i64 0,.n .i64 0,.n .i64 0,.n .i64 65536,.n .i64 65536,.n .i64 69,.n .i64 69,.n .i64 7,.n .i64 7,.n .i64 0,.n .i64 0]])),
 ([.a [.l [[.s (ByteArray.mk #[97]),.n .i64 4,.n .i64 (-1),.n .i64 0,.n .i64 0,.n .i64 0,.n .i64 0,.n .i64 640,.n .i64 1,.n .i64 65536,.n .i64 65536,.n .i64 65536],[.s (ByteArray.mk #[98]),.n .i64 5,.n .i64 0,.n .i64 0,.n .i64 0,.n .i64 0,.n .i64 0,.n .i64 640,.n .i64 1,.n .i64 65536,.n .i64 65536,.n .i64 65536]],.l []],.l [[.n .i64 5,.n .i64 5],[.n .i64 0,.n .i64 0]]],.ow 88 24 (.l [[.n .i64 65536,.n .i64 65536,.n .i64 0,.n .i64 0,.n .i64 0,.n .i64 0,.n .i64 0,.n .i64 0,.n .i64 65536,.n .i64 65536,.n .i64 0,.n .i64 0,.n .i64 0,.n .i64 0,.n .i64 0,.n .i64 0,.n .i64 65536,.n .i64 65536,.n .i64 5,.n .i64 5,.n .i64 0,.n .i64 0,.n .i64 0,.n .i64 0],[.n .i64 65536,.n .i64 65536,.n .i64 0,.n .i64 0,.n .i64 0,.n .i64 0,.n .i64 0,.n .i64 0,.n .i64 65536,.n .i64 65536,.n .i64 0,.n .i64 0,.n .i64 0,.n .i64 0,.n .i64 0,.n .i64 0,.n .i64 65536,.n .i64 65536,.n .i64 5,.n .i64 5,.n .i64 0,.n .i64 0,.n .i64 0,.n .i64 0]])),
 ([.a [.l [[.s (ByteArray.mk #[97]),.n .i64 4,.n .i64 (-1),.n .i64 0,.n .i64 0,.n .i64 0,.n .i64 0,.n .i64 640,.n .i64 1,.n .i64 65536,.n .i64 65536,.n .i64 65536],[.s (ByteArray.mk #[98]),.n .i64 5,.n .i64 0,.n .i64 0,.n .i64 0,.n .i64 0,.n .i64 0,.n .i64 640,.n .i64 1,.n .i64 65536,.n .i64 65536,.n .i64 65536]],.l []],.l [[.n .i64 5,.n .i64 5],[.n .i64 71,.n .i64 71]]],.ow 88 24 (.l [[.n .i64 65536,.n .i64 65536,.n .i64 0,.n .i64 0,.n .i64 0,.n .i64 0,.n .i64 0,.n .i64 0,.n .i64 65536,.n .i64 65536,.n .i64 0,.n .i64 0,.n .i64 0,.n .i64 0,.n .i64 0,.n .i64 0,.n .i64 65536,.n .i64 65536,.n .i64 5,.n .i64 5,.n .i64 0,.n .i64 0,.n .i64 0,.n .i64 0],[.n .i64 65536,.n .i64 65536,.n .i64 0,.n .i64 0,.n .i64 0,.n .i64 0,.n .i64 0,.n .i64 0,.n .i64 65536,.n .i64 65536,.n .i64 0,.n .i64 0,.n .i64 0,.n .i64 0,.n .i64 0,.n .i64 0,.n .i64 65536,.n .i64 65536,.n .i64 5,.n .i64 5,.n .i64 71,.n .i64 71,.n .i64 0,.n .i64 0]])),
 ([.a [.l [[.s (ByteArray.mk #[97]),.n .i64 4,.n .i64 (-1),.n .i64 0,.n .i64 0,.n .i64 0,.n .i64 0,.n .i64 640,.n .i64 1,.n .i64 65536,.n .i64 65536,.n .i64 65536],[.s (ByteArray.mk #[98]),.n .i64 5,.n .i64 0,.n .i64 0,.n .i64 0,.n .i64 0,.n .i64 0,.n .i64 640,.n .i64 1,.n .i64 65536,.n .i64 65536,.n .i64 65536]],.l []],.l [[.n .i64 5,.n .i64 5],[.n .i64 301,.n .i64 301]]],.ow 88 24 (.l [[.n .i64 65536,.n .i64 65536,.n .i64 0,.n .i64 0,.n .i64 0,.n .i64 0,.n .i64 0,.n .i64 0,.n .i64 65536,.n .i64 65536,.n .i64 0,.n .i64 0,.n .i64 0,.n .i64 0,.n .i64 0,.n .i64 0,.n .i64 65536,.n .i64 65536,.n .i64 5,.n .i64 5,.n .i64 0,.n .i64 0,.n .i64 0,.n .i64 0],[.n .i64 65536,.n .i64 65536,.n .i64 0,.n .i64 0,.n .i64 0,.n .i64 0,.n .i64 0,.n .i64 0,.n .i64 65536,.n .i64 65536,.n .i64 0,.n .i64 0,.n .i64 0,.n .i64 0,.n .i64 0,.n .i64 0,.n .i64 65536,.n .i64 65536,.n .i64 5,.n .i64 5,.n .i64 301,.n .i64 301,.n .i64 0,.n .i64 0]]))]
noncomputable def t122:Known:=(122,k122) :: t139
theorem ok122:Known.Ok Tryz.prog t122:=Known.add yJ yY (ok139) (N:=60) (by kernel_rfl)
noncomputable def k86:List (List PV × Ret):=[([.a [.l [[.s (ByteArray.mk #[97]),.n .i64 4,.n .i64 (-1),.n .i64 0,.n .i64 0,.n .i64 0,.n .i64 0,.n .i64 640,.n .i64 1,.n .i64 65536,.n .i64 65536,.n .i64 65536],[.s (ByteArray.mk #[98]),.n .i64 5,.n .i64 0,.n .i64 0,.n .i64 0,.n .i64 0,.n .i64 0,.n .i64 640,.n .i64 1,.n .i64 65536,.n .i64 65536,.n .i64 65536]],.l []],.l [[.n .i64 5,.n .i64 5],[.n .i64 7,.n .i64 7]]],.v (.l [[.n .i64 65536,.n .i64 65536,.n .i64 0,.n .i64 0,.n .i64 0,.n .i64 0,.n .i64 0,.n .i64 0,.n .i64 65536,.n .i64 65536,.n .i64 0,.n .i64 0,.n .i64 0,.n .i64 0,.n .i64 0,.n .i64 0,.n .i64 65536,.n .i64 65536,.n .i64 5,.n .i64 5,.n .i64 0,.n .i64 0,.n .i64 0,.n .i64 0],[.n .i64 65536,.n .i64 65536,.n .i64 0,.n .i64 0,.n .i64 0,.n .i64 0,.n .i64 0,.n .i64 0,.n .i64 65536,.n .i64 65536,.n .i64 0,.n .i64 0,.n .i64 0,.n .i64 0,.n .i64 0,.n .i64 0,.n .i64 65536,.n .i64 65536,.n .i64 5,.n .i64 5,.n .i64 7,.n .i64 7,.n .i64 0,.n .i64 0]])),
 ([.a [.l [[.s (ByteArray.mk #[97]),.n .i64 4,.n .i64 (-1),.n .i64 0,.n .i64 0,.n .i64 0,.n .i64 0,.n .i64 640,.n .i64 1,.n .i64 65536,.n .i64 65536,.n .i64 65536],[.s (ByteArray.mk #[98]),.n .i64 5,.n .i64 0,.n .i64 0,.n .i64 0,.n .i64 0,.n .i64 0,.n .i64 640,.n .i64 1,.n .i64 65536,.n .i64 65536,.n .i64 65536]],.l []],.l [[.n .i64 0,.n .i64 0],[.n .i64 7,.n .i64 7]]],.v (.l [[.n .i64 65536,.n .i64 65536,.n .i64 0,.n .i64 0,.n .i64 0,.n .i64 0,.n .i64 0,.n .i64 0,.n .i64 65536,.n .i64 65536,.n .i64 0,.n .i64 0,.n .i64 0,.n .i64 0,.n .i64 0,.n .i64 0,.n .i64 65536,.n .i64 65536,.n .i64 0,.n .i64 0,.n .i64 0,.n .i64 0,.n .i64 0,.n .i64 0],[.n .i64 65536,.n .i64 65536,.n .i64 0,.n .i64 0,.n .i64 0,.n .i64 0,.n .i64 0,.n .i64 0,.n .i64 65536,.n .i64 65536,.n .i64 0,.n .i64 0,.n .i64 0,.n .i64 0,.n .i64 0,.n .i64 0,.n .i64 65536,.n .i64 65536,.n .i64 0,.n .i64 0,.n .i64 7,.n .i64 7,.n .i64 0,.n .i64 0]])),
 ([.a [.l [[.s (ByteArray.mk #[97]),.n .i64 4,.n .i64 (-1),.n .i64 0,.n .i64 0,.n .i64 0,.n .i64 0,.n .i64 640,.n .i64 1,.n .i64 65536,.n .i64 65536,.n .i64 65536],[.s (ByteArray.mk #[98]),.n .i64 5,.n .i64 0,.n .i64 0,.n .i64 0,.n .i64 0,.n .i64 0,.n .i64 640,.n .i64 1,.n .i64 65536,.n .i64 65536,.n .i64 65536]],.l []],.l [[.n .i64 69,.n .i64 69],[.n .i64 7,.n .i64 7]]],.v (.l [[.n .i64 65536,.n .i64 65536,.n .i64 0,.n .i64 0,.n .i64 0,.n .i64 0,.n .i64 0,.n .i64 0,.n .i64 65536,.n .i64 65536,.n .i64 0,.n .i64 0,.n .i64 0,.n .i64 0,.n .i64 0,.n .i64 0,.n .i64 65536,.n .i64 65536,.n .i64 69,.n .i64 69,.n .i64 0,.n .i64 0,.n .i64 0,.n .i64 0],[.n .i64 65536,.n .i64 65536,.n .i64 0,.n .i64 0,.n .i64 0,.n .i64 0,.n .i64 0,.n .i64 0,.n .i64 65536,.n .i64 65536,.n .i64 0,.n .i64 0,.n .i64 0,.n .i64 0,.n .i64 0,.n .i64 0,.n .i64 65536,.n .i64 65536,.n .i64 69,.n .i64 69,.n .i64 7,.n .i64 7,.n .i64 0,.n .i64 0]])),
 ([.a [.l [[.s (ByteArray.mk #[97]),.n .i64 4,.n .i64 (-1),.n .i64 0,.n .i64 0,.n .i64 0,.n .i64 0,.n .i64 640,.n .i64 1,.n .i64 65536,.n .i64 65536,.n .i64 65536],[.s (ByteArray.mk #[98]),.n .i64 5,.n .i64 0,.n .i64 0,.n .i64 0,.n .i64 0,.n .i64 0,.n .i64 640,.n .i64 1,.n .i64 65536,.n .i64 65536,.n .i64 65536]],.l []],.l [[.n .i64 5,.n .i64 5],[.n .i64 0,.n .i64 0]]],.v (.l [[.n .i64 65536,.n .i64 65536,.n .i64 0,.n .i64 0,.n .i64 0,.n .i64 0,.n .i64 0,.n .i64 0,.n .i64 65536,.n .i64 65536,.n .i64 0,.n .i64 0,.n .i64 0,.n .i64 0,.n .i64 0,.n .i64 0,.n .i64 65536,.n .i64 65536,.n .i64 5,.n .i64 5,.n .i64 0,.n .i64 0,.n .i64 0,.n .i64 0],[.n .i64 65536,.n .i64 65536,.n .i64 0,.n .i64 0,.n .i64 0,.n .i64 0,.n .i64 0,.n .i64 0,.n .i64 65536,.n .i64 65536,.n .i64 0,.n .i64 0,.n .i64 0,.n .i64 0,.n .i64 0,.n .i64 0,.n .i64 65536,.n .i64 65536,.n .i64 5,.n .i64 5,.n .i64 0,.n .i64 0,.n .i64 0,.n .i64 0]])),
 ([.a [.l [[.s (ByteArray.mk #[97]),.n .i64 4,.n .i64 (-1),.n .i64 0,.n .i64 0,.n .i64 0,.n .i64 0,.n .i64 640,.n .i64 1,.n .i64 65536,.n .i64 65536,.n .i64 65536],[.s (ByteArray.mk #[98]),.n .i64 5,.n .i64 0,.n .i64 0,.n .i64 0,.n .i64 0,.n .i64 0,.n .i64 640,.n .i64 1,.n .i64 65536,.n .i64 65536,.n .i64 65536]],.l []],.l [[.n .i64 5,.n .i64 5],[.n .i64 71,.n .i64 71]]],.v (.l [[.n .i64 65536,.n .i64 65536,.n .i64 0,.n .i64 0,.n .i64 0,.n .i64 0,.n .i64 0,.n .i64 0,.n .i64 65536,.n .i64 65536,.n .i64 0,.n .i64 0,.n .i64 0,.n .i64 0,.n .i64 0,.n .i64 0,.n .i64 65536,.n .i64 65536,.n .i64 5,.n .i64 5,.n .i64 0,.n .i64 0,.n .i64 0,.n .i64 0],[.n .i64 65536,.n .i64 65536,.n .i64 0,.n .i64 0,.n .i64 0,.n .i64 0,.n .i64 0,.n .i64 0,.n .i64 65536,.n .i64 65536,.n .i64 0,.n .i64 0,.n .i64 0,.n .i64 0,.n .i64 0,.n .i64 0,.n .i64 65536,.n .i64 65536,.n .i64 5,.n .i64 5,.n .i64 71,.n .i64 71,.n .i64 0,.n .i64 0]])),
 ([.a [.l [[.s (ByteArray.mk #[97]),.n .i64 4,.n .i64 (-1),.n .i64 0,.n .i64 0,.n .i64 0,.n .i64 0,.n .i64 640,.n .i64 1,.n .i64 65536,.n .i64 65536,.n .i64 65536],[.s (ByteArray.mk #[98]),.n .i64 5,.n .i64 0,.n .i64 0,.n .i64 0,.n .i64 0,.n .i64 0,.n .i64 640,.n .i64 1,.n .i64 65536,.n .i64 65536,.n .i64 65536]],.l []],.l [[.n .i64 5,.n .i64 5],[.n .i64 301,.n .i64 301]]],.v (.l [[.n .i64 65536,.n .i64 65536,.n .i64 0,.n .i64 0,.n .i64 0,.n .i64 0,.n .i64 0,.n .i64 0,.n .i64 65536,.n .i64 65536,.n .i64 0,.n .i64 0,.n .i64 0,.n .i64 0,.n .i64 0,.n .i64 0,.n .i64 65536,.n .i64 65536,.n .i64 5,.n .i64 5,.n .i64 0,.n .i64 0,.n .i64 0,.n .i64 0],[.n .i64 65536,.n .i64 65536,.n .i64 0,.n .i64 0,.n .i64 0,.n .i64 0,.n .i64 0,.n .i64 0,.n .i64 65536,.n .i64 65536,.n .i64 0,.n .i64 0,.n .i64 0,.n .i64 0,.n .i64 0,.n .i64 0,.n .i64 65536,.n .i64 65536,.n .i64 5,.n .i64 5,.n .i64 301,.n .i64 301,.n .i64 0,.n .i64 0]]))]
noncomputable def t86:Known:=(86,k86) :: t122
theorem ok86:Known.Ok Tryz.prog t86:=Known.add yJ yY (ok122) (N:=60) (by kernel_rfl)
noncomputable def k56:List (List PV × Ret):=[([.a [.l [[.s (ByteArray.mk #[97]),.n .i64 4,.n .i64 (-1),.n .i64 0,.n .i64 0,.n .i64 0,.n .i64 0,.n .i64 640,.n .i64 1,.n .i64 65536,.n .i64 65536,.n .i64 65536],[.s (ByteArray.mk #[98]),.n .i64 5,.n .i64 0,.n .i64 0,.n .i64 0,.n .i64 0,.n .i64 0,.n .i64 640,.n .i64 1,.n .i64 65536,.n .i64 65536,.n .i64 65536]],.l []],.l [[.n .i64 0,.n .i64 1,.n .i64 0,.n .i64 0,.n .i64 0,.n .i64 0,.n .i64 1,.n .i64 0,.n .i64 300,.n .i64 302]],.l [[.n .i64 5,.n .i64 5],[.n .i64 7,.n .i64 7]]],.ow 59 2 (.l [[.n .i64 7,.n .i64 7]])),
 ([.a [.l [[.s (ByteArray.mk #[97]),.n .i64 4,.n .i64 (-1),.n .i64 0,.n .i64 0,.n .i64 0,.n .i64 0,.n .i64 640,.n .i64 1,.n .i64 65536,.n .i64 65536,.n .i64 65536],[.s (ByteArray.mk #[98]),.n .i64 5,.n .i64 0,.n .i64 0,.n .i64 0,.n .i64 0,.n .i64 0,.n .i64 640,.n .i64 1,.n .i64 65536,.n .i64 65536,.n .i64 65536]],.l []],.l [[.n .i64 0,.n .i64 1,.n .i64 0,.n .i64 0,.n .i64 0,.n .i64 0,.n .i64 1,.n .i64 0,.n .i64 300,.n .i64 302]],.l [[.n .i64 0,.n .i64 0],[.n .i64 7,.n .i64 7]]],.ow 59 2 (.l [[.n .i64 7,.n .i64 7]])),
 ([.a [.l [[.s (ByteArray.mk #[97]),.n .i64 4,.n .i64 (-1),.n .i64 0,.n .i64 0,.n .i64 0,.n .i64 0,.n .i64 640,.n .i64 1,.n .i64 65536,.n .i64 65536,.n .i64 65536],[.s (ByteArray.mk #[98]),.n .i64 5,.n .i64 0,.n .i64 0,.n .i64 0,.n .i64 0,.n .i64 0,.n .i64 640,.n .i64 1,.n .i64 65536,.n .i64 65536,.n .i64 65536]],.l []],.l [[.n .i64 0,.n .i64 1,.n .i64 0,.n .i64 0,.n .i64 0,.n .i64 0,.n .i64 1,.n .i64 0,.n .i64 300,.n .i64 302]],.l [[.n .i64 69,.n .i64 69],[.n .i64 7,.n .i64 7]]],.ow 59 2 (.l [[.n .i64 7,.n .i64 7]])),
 ([.a [.l [[.s (ByteArray.mk #[97]),.n .i64 4,.n .i64 (-1),.n .i64 0,.n .i64 0,.n .i64 0,.n .i64 0,.n .i64 640,.n .i64 1,.n .i64 65536,.n .i64 65536,.n .i64 65536],[.s (ByteArray.mk #[98]),.n .i64 5,.n .i64 0,.n .i64 0,.n .i64 0,.n .i64 0,.n .i64 0,.n .i64 640,.n .i64 1,.n .i64 65536,.n .i64 65536,.n .i64 65536]],.l []],.l [[.n .i64 0,.n .i64 1,.n .i64 0,.n .i64 0,.n .i64 0,.n .i64 0,.n .i64 1,.n .i64 0,.n .i64 300,.n .i64 302]],.l [[.n .i64 5,.n .i64 5],[.n .i64 0,.n .i64 0]]],.ow 59 2 (.l [[.n .i64 0,.n .i64 0]])),
 ([.a [.l [[.s (ByteArray.mk #[97]),.n .i64 4,.n .i64 (-1),.n .i64 0,.n .i64 0,.n .i64 0,.n .i64 0,.n .i64 640,.n .i64 1,.n .i64 65536,.n .i64 65536,.n .i64 65536],[.s (ByteArray.mk #[98]),.n .i64 5,.n .i64 0,.n .i64 0,.n .i64 0,.n .i64 0,.n .i64 0,.n .i64 640,.n .i64 1,.n .i64 65536,.n .i64 65536,.n .i64 65536]],.l []],.l [[.n .i64 0,.n .i64 1,.n .i64 0,.n .i64 0,.n .i64 0,.n .i64 0,.n .i64 1,.n .i64 0,.n .i64 300,.n .i64 302]],.l [[.n .i64 5,.n .i64 5],[.n .i64 71,.n .i64 71]]],.ow 59 2 (.l [[.n .i64 71,.n .i64 71]])),
 ([.a [.l [[.s (ByteArray.mk #[97]),.n .i64 4,.n .i64 (-1),.n .i64 0,.n .i64 0,.n .i64 0,.n .i64 0,.n .i64 640,.n .i64 1,.n .i64 65536,.n .i64 65536,.n .i64 65536],[.s (ByteArray.mk #[98]),.n .i64 5,.n .i64 0,.n .i64 0,.n .i64 0,.n .i64 0,.n .i64 0,.n .i64 640,.n .i64 1,.n .i64 65536,.n .i64 65536,.n .i64 65536]],.l []],.l [[.n .i64 0,.n .i64 1,.n .i64 0,.n .i64 0,.n .i64 0,.n .i64 0,.n .i64 1,.n .i64 0,.n .i64 300,.n .i64 302]],.l [[.n .i64 5,.n .i64 5],[.n .i64 301,.n .i64 301]]],.ow 59 2 (.l [[.n .i64 301,.n .i64 301]]))]
noncomputable def t56:Known:=(56,k56) :: t86
theorem ok56:Known.Ok Tryz.prog t56:=Known.add yJ yY (ok86) (N:=60) (by kernel_rfl)
noncomputable def k66:List (List PV × Ret):=[([.a [.l [[.s (ByteArray.mk #[97]),.n .i64 4,.n .i64 (-1),.n .i64 0,.n .i64 0,.n .i64 0,.n .i64 0,.n .i64 640,.n .i64 1,.n .i64 65536,.n .i64 65536,.n .i64 65536],[.s (ByteArray.mk #[98]),.n .i64 5,.n .i64 0,.n .i64 0,.n .i64 0,.n .i64 0,.n .i64 0,.n .i64 640,.n .i64 1,.n .i64 65536,.n .i64 65536,.n .i64 65536]],.l []],.a [.n .i64 0,.n .i64 1,.n .i64 0,.n .i64 0,.n .i64 0,.n .i64 0,.n .i64 1,.n .i64 0,.n .i64 300,.n .i64 302],.l [[.n .i64 5],[.n .i64 7]]],.v (.t [.l [[.n .i64 5],[.n .i64 301]],.b true]))]
noncomputable def t66:Known:=(66,k66) :: t56
theorem ok66:Known.Ok Tryz.prog t66:=Known.add yJ yY (ok56) (N:=60) (by kernel_rfl)
noncomputable def k39:List (List PV × Ret):=[([.a [.l [[.s (ByteArray.mk #[97]),.n .i64 4,.n .i64 (-1),.n .i64 0,.n .i64 0,.n .i64 0,.n .i64 0,.n .i64 640,.n .i64 1,.n .i64 65536,.n .i64 65536,.n .i64 65536],[.s (ByteArray.mk #[98]),.n .i64 5,.n .i64 0,.n .i64 0,.n .i64 0,.n .i64 0,.n .i64 0,.n .i64 640,.n .i64 1,.n .i64 65536,.n .i64 65536,.n .i64 65536]],.l []],.l [[.n .i64 0,.n .i64 1,.n .i64 0,.n .i64 0,.n .i64 0,.n .i64 0,.n .i64 1,.n .i64 0,.n .i64 300,.n .i64 302]],.l [[.n .i64 5],[.n .i64 7]]],.v (.l [[.n .i64 5],[.n .i64 301]]))]
noncomputable def t39:Known:=(39,k39) :: t66
theorem ok39:Known.Ok Tryz.prog t39:=Known.add yJ yY (ok66) (N:=60) (by kernel_rfl)
noncomputable def k17:List (List PV × Ret):=[([.a [.l [[.s (ByteArray.mk #[97]),.n .i64 4,.n .i64 (-1),.n .i64 0,.n .i64 0,.n .i64 0,.n .i64 0,.n .i64 640,.n .i64 1,.n .i64 65536,.n .i64 65536,.n .i64 65536],[.s (ByteArray.mk #[98]),.n .i64 5,.n .i64 0,.n .i64 0,.n .i64 0,.n .i64 0,.n .i64 0,.n .i64 640,.n .i64 1,.n .i64 65536,.n .i64 65536,.n .i64 65536]],.l []],.l [[.n .i64 0,.n .i64 1,.n .i64 0,.n .i64 0,.n .i64 0,.n .i64 0,.n .i64 1,.n .i64 0,.n .i64 300,.n .i64 302]],.l [[.n .i64 5],[.n .i64 7]],.n .i64 9],.v (.t [.l [[.n .i64 5],[.n .i64 301]],.n .i64 1,.b true]))]
noncomputable def t17:Known:=(17,k17) :: t39
theorem ok17:Known.Ok Tryz.prog t17:=Known.add yJ yY (ok39) (N:=60) (by kernel_rfl)
theorem call:zH Tryz.prog 5 [] (.v (.b true)):=zXX (N:=60) yJ yY (Known.ok (ok17)) (by kernel_rfl:run T (Known.orc t17) 60 5 []=some (.v (.b true)))
end Go.Proofs.YtmffoiemmlcmfaaGreat.Aw
namespace Go.Rx
open Go.RowKit Go.Sx Go.ChangeShapes Go.WideShapes
section
variable {P:Program} {W:World} {H:Type} {enc:TypeId × Value→H}
def jQY (W:World) (v:Value) (L:List Int):Prop:=RP (fun k=>k < W.heap.size) W (zUQ L) v∧L.length≤9223372036854775807∧∀ x ∈ L,In64 x
theorem jYX {t e:TypeId} {v:Value} {d:DataW H} {p:List MemPlace} (ht:P.underlying t=some (.slice e)) (he:P.underlying e=some (.int .i64)) (hc:P.cellsOf e=1)
  {r:Reach} {base:Nat} (hv:Value.okWide P W r base t v) (h:DataW.Trod enc P W 0 (fun _=>true) true t v d p):∃ L:List Int,jQY W v L:=by
 obtain ⟨a,l,c,rfl⟩:=slice_of ht hv;obtain ⟨fuel,h⟩:=h;have h':DataW.trod enc P W 0 (fun _=>true) true fuel t [.slice a l c]=some (d,p):=h;rcases open_ints ht he hc h' with ⟨h1,_⟩ | ⟨a',len,cap,zs,h1,_,hlc,hcap,hz,_,hcell,hwf⟩
 ·simp at h1;obtain ⟨rfl,rfl,rfl⟩:=h1;exact ⟨[],.l0 none 0,by simp,fun x hx=>by cases hx⟩
 ·simp at h1;obtain ⟨rfl,rfl,rfl⟩:=h1;simp only [if_true] at hz;have hlen:(zs.take l).length=l:=by simp; omega
  have hI:IntsAt W W.heap.size (.slice (some a') l c) (zs.take l):=⟨by have:maxLen=9223372036854775807:=rfl; omega,some a',c,by rw [hlen],fun j hj=>by
   rw [hlen] at hj;have h0:=hcell 0 (by omega);have hj':=hcell j (by omega);have hsp:a'.spot=none:=by
    have e:a'.add 0=a':=by simp [Addr.add]
    rw [e] at h0;unfold World.cell? at h0;cases hb:W.heap[a'.block]? with
    | none=>simp [hb] at h0
    | some o=>cases o <;> simp [hb] at h0; exact h0.1
   obtain ⟨bb,off,sp⟩:=a';simp only at hsp;subst hsp;rw [zQH] at hj';refine ⟨bb,off,rfl,?_,?_⟩
   ·unfold World.cell? at hj';cases hb:W.heap[bb]? with
    | none=>simp [hb] at hj'
    | some o=>exact qQW hb
   ·rw [hj'];simp [vZG,vZV,hj]⟩
  refine ⟨zs.take l,?_,hI.1,fun x hx => ?_⟩
  ·have:=rp_of_ints (F:=fun k=>k < W.heap.size) (w:=W) (L:=zs.take l) (a:=some a') (c:=c) (by rw [hlen]; exact hI) (by rw [hlen]; exact hlc) fun k hk=>hk
   rw [hlen] at this;exact this
  ·have:=hwf x (List.mem_of_mem_take hx)
   simpa [Lit.wf,IntKind.has,IntKind.min,IntKind.max,IntKind.signed,IntKind.bits,In64] using this
end
end Go.Rx
namespace Go.Proofs.YtmffoiemmlcmfaaGreat
open Go.Rx Go.Sx Go.RowKit Nb Nd Nx
theorem wProjectNears (v0:Value) (L0:List Int) (v1:Value) (L1:List Int) (v2:Value) (L2:List Int) (v3:Value) (L3:List Int) (a4:Int) (a5:Int) (a6:Int) (W:World) (h0:jQY W v0 L0) (h1:jQY W v1 L1) (h2:jQY W v2 L2) (h3:jQY W v3 L3):Calls Tryz.prog 4 #[v0,v1,v2,v3,.int .i64 a4,.int .i64 a5,.int .i64 a6] W (Rets (.bool true) W) :=
 zXG (Ec.snd_law4F _ _ _ _ _ _ _ h0.2.1 h1.2.1 h2.2.1 h3.2.1 Aw.call) rfl (qVV h0.1 (qVV h1.1 (qVV h2.1 (qVV h3.1 (qVV (.n _ _) (qVV (.n _ _) (qVV (.n _ _) jZV)))))))
end Go.Proofs.YtmffoiemmlcmfaaGreat

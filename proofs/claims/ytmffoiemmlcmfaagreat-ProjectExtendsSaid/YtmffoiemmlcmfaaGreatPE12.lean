/- Part 12 of the texts behind the last one: rules and contracts. No condition. -/
import Derived.Test.YtmffoiemmlcmfaaGreatPE11
open Option renaming bind_eq_some_iff → vQQ, bind_some → vYQ
open Option.some renaming injEq → vQZ
open Prod.mk renaming injEq → vQY
open Bool renaming and_eq_true → vQJ, and_self → vZJ, true_and → vZH
open List renaming getElem?_eq_getElem → vQK, mem_cons_of_mem → vQH, mem_cons_self → vZQ, getElem?_map → vZY, drop_zero → vYW
open Nat renaming eq_of_beq_eq_true → vQX
open Go.IntKind renaming wrap → vJJ
namespace Go.Proofs.YtmffoiemmlcmfaaGreat.Ng
open Go.Rx Rt Go.Sx Go.RowKit Od Ov Pc Na Nb Nc Nd Nx Nf
noncomputable def vr (c:Cn) (p:Po):Int × Int:=bif decide (c.kind=1) then (dot (Z3.mk c.n.x c.n.y c.n.z).x (Z3.mk c.n.x c.n.y c.n.z).y (Z3.mk c.n.x c.n.y c.n.z).z (M3.apply p.r (V3.of (Z3.mk c.p.x c.p.y c.p.z))).x.lo (M3.apply p.r (V3.of (Z3.mk c.p.x c.p.y c.p.z))).x.hi (M3.apply p.r (V3.of (Z3.mk c.p.x c.p.y c.p.z))).y.lo (M3.apply p.r (V3.of (Z3.mk c.p.x c.p.y c.p.z))).y.hi (M3.apply p.r (V3.of (Z3.mk c.p.x c.p.y c.p.z))).z.lo (M3.apply p.r (V3.of (Z3.mk c.p.x c.p.y c.p.z))).z.hi) else (dot (Z3.mk c.n.x c.n.y c.n.z).x (Z3.mk c.n.x c.n.y c.n.z).y (Z3.mk c.n.x c.n.y c.n.z).z (Po.app p (V3.of (Z3.mk c.p.x c.p.y c.p.z))).x.lo (Po.app p (V3.of (Z3.mk c.p.x c.p.y c.p.z))).x.hi (Po.app p (V3.of (Z3.mk c.p.x c.p.y c.p.z))).y.lo (Po.app p (V3.of (Z3.mk c.p.x c.p.y c.p.z))).y.hi (Po.app p (V3.of (Z3.mk c.p.x c.p.y c.p.z))).z.lo (Po.app p (V3.of (Z3.mk c.p.x c.p.y c.p.z))).z.hi)
def vOk (js:Nat→J) (ms:Nat→Ms) (bx:Nat→Iv) (n m k:Nat) (c:Cn):Bool:=(cErr js ms n m (fun _=>c) 1) && pIn js ms bx n m k
noncomputable def vLo (js:Nat→J) (ms:Nat→Ms) (bx:Nat→Iv) (n m k:Nat) (c:Cn):Int:=bif vOk js ms bx n m k c then (vr c (LP js bx n c.link.toNat)).1 else 0
noncomputable def vHi (js:Nat→J) (ms:Nat→Ms) (bx:Nat→Iv) (n m k:Nat) (c:Cn):Int:=bif vOk js ms bx n m k c then (vr c (LP js bx n c.link.toNat)).2 else 0
theorem qWW {js:Nat→J} {ms:Nat→Ms} {n m:Nat} {cs:Nat→Cn} {c:Nat} (h:cErr js ms n m cs c=true):rErr js ms n m=0∧c≤8∧∀ i,i < c→COK n (cs i):=by
 unfold cErr at h;simp only [vQJ,decide_eq_true_eq,Bool.not_eq_true',decide_eq_false_iff_not] at h;refine ⟨h.1,by omega,?_⟩;have key:∀ k p,cAll cs n k p=true→∀ i,p≤i→i < p + k→COK n (cs i):=by
  intro k;induction k with
  | zero=>intro p _ i h1 h2; omega
  | succ k ih =>
   intro p hp i h1 h2;unfold cAll at hp;rw [vQJ] at hp;rcases Nat.eq_or_lt_of_le h1 with e | e
   ·subst e;exact vJZ hp.1
   ·exact ih (p + 1) hp.2 i e (by omega)
 exact fun i hi=>key c 0 h.2.2 i (Nat.zero_le _) (by omega)
theorem one_cn (c:Cn):([cp c]:List (List PV))=(List.range 1).map (fC (fun _=>c)):=rfl
theorem snd_Mc1 (js:Nat→J) (ms:Nat→Ms) (n m:Nat) (c:Cn):zH Tryz.prog 27 [.a [.lf n (fJ js),.lf m (fM ms)],.l [cp c]] (.v (.b (cErr js ms n m (fun _=>c) 1))):=jYX (ps:=[.a [.lf n (fJ js),.lf m (fM ms)],.lf 1 (fC (fun _=>c))]) ⟨Same.refl _,Same.lf (one_cn c),trivial⟩ (Same.refl _) (kYV js ms n m (fun _=>c) 1)
theorem snd_Rc1 (js:Nat→J) (ms:Nat→Ms) (n m:Nat) (c:Cn):zH Tryz.prog 34 [.a [.lf n (fJ js),.lf m (fM ms)],.l [cp c]] (.v (.b (cErr js ms n m (fun _=>c) 1))):=jYX (ps:=[.a [.lf n (fJ js),.lf m (fM ms)],.lf 1 (fC (fun _=>c))]) ⟨Same.refl _,Same.lf (one_cn c),trivial⟩ (Same.refl _) (kYW js ms n m (fun _=>c) 1)
noncomputable def o_lk (as_:List PV) (g:Bool) (r:Ret):List PV→Option (Bool × Ret):=fun ps=>some (gEq (.t ps) (.t as_) && g,r)
theorem qXG {f:Nat} {as_:List PV} {g:Bool} {r:Ret} (h:g=true→zH Tryz.prog f as_ r):zW Tryz.prog f (o_lk as_ g r):=by
 intro ps q hh;unfold o_lk at hh;simp only [vQZ,vQY,vQJ] at hh;obtain ⟨⟨hg,hb⟩,rfl⟩:=hh
 have:=zJQ hg
 simp only [PV.t.injEq] at this;rw [this];exact h hb
theorem pIn_links (js:Nat→J) (ms:Nat→Ms) (bx:Nat→Iv) (n m k:Nat) (h:pIn js ms bx n m k=true):zH Tryz.prog 86 [.a [.lf n (fJ js),.lf m (fM ms)],.lf k (fB bx)] (.v (.lf n (fP (LP js bx n)))):=by
 obtain ⟨h0,rfl,hv⟩:=uYZ h;exact snd_ka js ms bx n m h0 (allN_iff.2 fun i _ hi=>hv i (by omega))
theorem rIn_links (js:Nat→J) (ms:Nat→Ms) (bx:Nat→Iv) (n m k:Nat) (h:pIn js ms bx n m k=true):zH Tryz.prog 43 [.a [.lf n (fJ js),.lf m (fM ms)],.lf k (fB bx)] (.v (.lf n (fP (LP js bx n)))):=by
 obtain ⟨h0,rfl,hv⟩:=uYZ h;exact snd_rl js ms bx n m h0 (allN_iff.2 fun i _ hi=>hv i (by omega))
theorem jKV {n:Nat} {x:Int} (h:0≤x∧x < (n:Int)):inB x n=true:=by
 unfold inB;rw [vJQ h.1,vJQ (show x.toNat < n by omega)]; rfl
set_option maxRecDepth 100000 in
theorem tr_V (js:Nat→J) (ms:Nat→Ms) (bx:Nat→Iv) (n m k:Nat) (c:Cn):runK T (OrL.k ((27,o_cr [.a [.lf n (fJ js),.lf m (fM ms)],.l [cp c]] (.v (.b (cErr js ms n m (fun _=>c) 1)))) :: (54,o_cr [.a [.lf n (fJ js),.lf m (fM ms)],.lf k (fB bx)] (.v (.b (pIn js ms bx n m k)))) :: (86,o_lk [.a [.lf n (fJ js),.lf m (fM ms)],.lf k (fB bx)] (pIn js ms bx n m k) (.v (.lf n (fP (LP js bx n))))) :: L12)) 60 129 [.a [.lf n (fJ js),.lf m (fM ms)],.a (cp c),.lf k (fB bx)] =
 bif (g1 [.a [.lf n (fJ js),.lf m (fM ms)],.l [(cp c)]]) then (bif (cErr js ms n m (fun _=>c) 1) then (bif (g1 [.a [.lf n (fJ js),.lf m (fM ms)],.lf k (fB bx)]) then (bif (pIn js ms bx n m k) then (bif (g1 [.a [.lf n (fJ js),.lf m (fM ms)],.lf k (fB bx)] && pIn js ms bx n m k) then (bif (decide (c.kind=1)) then (bif (inB c.link n) then some (.v (.t [.a [.n .i64 (dot (Z3.mk c.n.x c.n.y c.n.z).x (Z3.mk c.n.x c.n.y c.n.z).y (Z3.mk c.n.x c.n.y c.n.z).z (M3.apply (LP js bx n (c.link).toNat).r (V3.of (Z3.mk c.p.x c.p.y c.p.z))).x.lo (M3.apply (LP js bx n (c.link).toNat).r (V3.of (Z3.mk c.p.x c.p.y c.p.z))).x.hi (M3.apply (LP js bx n (c.link).toNat).r (V3.of (Z3.mk c.p.x c.p.y c.p.z))).y.lo (M3.apply (LP js bx n (c.link).toNat).r (V3.of (Z3.mk c.p.x c.p.y c.p.z))).y.hi (M3.apply (LP js bx n (c.link).toNat).r (V3.of (Z3.mk c.p.x c.p.y c.p.z))).z.lo (M3.apply (LP js bx n (c.link).toNat).r (V3.of (Z3.mk c.p.x c.p.y c.p.z))).z.hi).1,.n .i64 (dot (Z3.mk c.n.x c.n.y c.n.z).x (Z3.mk c.n.x c.n.y c.n.z).y (Z3.mk c.n.x c.n.y c.n.z).z (M3.apply (LP js bx n (c.link).toNat).r (V3.of (Z3.mk c.p.x c.p.y c.p.z))).x.lo (M3.apply (LP js bx n (c.link).toNat).r (V3.of (Z3.mk c.p.x c.p.y c.p.z))).x.hi (M3.apply (LP js bx n (c.link).toNat).r (V3.of (Z3.mk c.p.x c.p.y c.p.z))).y.lo (M3.apply (LP js bx n (c.link).toNat).r (V3.of (Z3.mk c.p.x c.p.y c.p.z))).y.hi (M3.apply (LP js bx n (c.link).toNat).r (V3.of (Z3.mk c.p.x c.p.y c.p.z))).z.lo (M3.apply (LP js bx n (c.link).toNat).r (V3.of (Z3.mk c.p.x c.p.y c.p.z))).z.hi).2],.b true]),[])
 else none)
 else bif (inB c.link n) then some (.v (.t [.a [.n .i64 (dot (Z3.mk c.n.x c.n.y c.n.z).x (Z3.mk c.n.x c.n.y c.n.z).y (Z3.mk c.n.x c.n.y c.n.z).z (Po.app (LP js bx n (c.link).toNat) (V3.of (Z3.mk c.p.x c.p.y c.p.z))).x.lo (Po.app (LP js bx n (c.link).toNat) (V3.of (Z3.mk c.p.x c.p.y c.p.z))).x.hi (Po.app (LP js bx n (c.link).toNat) (V3.of (Z3.mk c.p.x c.p.y c.p.z))).y.lo (Po.app (LP js bx n (c.link).toNat) (V3.of (Z3.mk c.p.x c.p.y c.p.z))).y.hi (Po.app (LP js bx n (c.link).toNat) (V3.of (Z3.mk c.p.x c.p.y c.p.z))).z.lo (Po.app (LP js bx n (c.link).toNat) (V3.of (Z3.mk c.p.x c.p.y c.p.z))).z.hi).1,.n .i64 (dot (Z3.mk c.n.x c.n.y c.n.z).x (Z3.mk c.n.x c.n.y c.n.z).y (Z3.mk c.n.x c.n.y c.n.z).z (Po.app (LP js bx n (c.link).toNat) (V3.of (Z3.mk c.p.x c.p.y c.p.z))).x.lo (Po.app (LP js bx n (c.link).toNat) (V3.of (Z3.mk c.p.x c.p.y c.p.z))).x.hi (Po.app (LP js bx n (c.link).toNat) (V3.of (Z3.mk c.p.x c.p.y c.p.z))).y.lo (Po.app (LP js bx n (c.link).toNat) (V3.of (Z3.mk c.p.x c.p.y c.p.z))).y.hi (Po.app (LP js bx n (c.link).toNat) (V3.of (Z3.mk c.p.x c.p.y c.p.z))).z.lo (Po.app (LP js bx n (c.link).toNat) (V3.of (Z3.mk c.p.x c.p.y c.p.z))).z.hi).2],.b true]),[])
 else none)
 else none)
 else some (.v (.t [.a [.n .i64 0,.n .i64 0],.b false]),[]))
 else none)
 else some (.v (.t [.a [.n .i64 0,.n .i64 0],.b false]),[]))
 else none:=by kernel_rfl
theorem snd_V (js:Nat→J) (ms:Nat→Ms) (bx:Nat→Iv) (n m k:Nat) (c:Cn):zH Tryz.prog 129 [.a [.lf n (fJ js),.lf m (fM ms)],.a (cp c),.lf k (fB bx)] (.v (.t [.a [.n .i64 (vLo js ms bx n m k c),.n .i64 (vHi js ms bx n m k c)],.b (vOk js ms bx n m k c)])):=by
 refine qG (N:=60) yJ yQ (OrL.ok (l:=((27,o_cr [.a [.lf n (fJ js),.lf m (fM ms)],.l [cp c]] (.v (.b (cErr js ms n m (fun _=>c) 1)))) :: (54,o_cr [.a [.lf n (fJ js),.lf m (fM ms)],.lf k (fB bx)] (.v (.b (pIn js ms bx n m k)))) :: (86,o_lk [.a [.lf n (fJ js),.lf m (fM ms)],.lf k (fB bx)] (pIn js ms bx n m k) (.v (.lf n (fP (LP js bx n))))) :: L12)) ⟨qZX (snd_Mc1 js ms n m c),qZX (snd_pIn js ms bx n m k),qXG (fun h=>pIn_links js ms bx n m k h),kHJ⟩) ?_;refine (tr_V js ms bx n m k c).trans ?_;unfold vLo vHi vOk;simp only [g1_t,vZH];cases hc:(cErr js ms n m (fun _=>c) 1) with
 | false=>rfl
 | true =>
  cases hi:pIn js ms bx n m k with
  | false=>rfl
  | true =>
   obtain ⟨_,_,hh⟩:=qWW hc;have hk:=(hh 0 (by omega)).2.1;have hkk:=(hh 0 (by omega)).1;simp only [vYV,vZJ,jKV hk];unfold vr;cases decide (c.kind=1) <;> rfl
noncomputable def zKG:List PV→Option (Bool × Ret):=fun ps=>match ps with
 | [.a z']=>(z3D z').bind fun z=>some (true,.v (.a (v3C (V3.of z))))
 | _=>none
theorem yGJ:zW Tryz.prog 44 zKG:=by
 intro ps r h;unfold zKG at h;split at h
 ·simp only [vQQ,vQZ,vQY] at h;obtain ⟨z,hz,hg,rfl⟩:=h;rw [yWX hz];exact zJ (zQ Tryz.func44 (by kernel_rfl) (by kernel_rfl)) rfl rfl (fun w=>rPoint _ _ _ w)
 ·cases h
noncomputable def L13:OrL:=(44,zKG) :: L12
theorem L13_ok:AllP (fun x:Nat × (List PV→Option (Bool × Ret))=>zW Tryz.prog x.1 x.2) L13:=⟨yGJ,kHJ⟩
noncomputable def jJK:List PV→Option (Bool × Ret):=fun ps=>match ps with
 | [.a p',.a v']=>(poD p').bind fun p=>(v3D v').bind fun v=>some (true,.v (.a (v3C (Po.app p v))))
 | _=>none
theorem ok_qApply:zW Tryz.prog 45 jJK:=by
 intro ps r h;unfold jJK at h;split at h
 ·simp only [vQQ,vQZ,vQY] at h;obtain ⟨p,hp,v,hv,hg,rfl⟩:=h;rw [jZW hp];rw [zJK hv];exact zJ (zQ Tryz.func45 (by kernel_rfl) (by kernel_rfl)) rfl rfl (fun w=>qApply _ _ _ _ _ _ _ _ _ _ _ _ _ _ _ _ _ _ _ _ _ _ _ _ _ _ _ _ _ _ w)
 ·cases h
noncomputable def L14:OrL:=(45,jJK) :: L13
theorem L14_ok:AllP (fun x:Nat × (List PV→Option (Bool × Ret))=>zW Tryz.prog x.1 x.2) L14:=⟨ok_qApply,L13_ok⟩
noncomputable def zKH:List PV→Option (Bool × Ret):=fun ps=>match ps with
 | [.a m',.a v']=>(m3D m').bind fun m=>(v3D v').bind fun v=>some (true,.v (.a (v3C (M3.apply m v))))
 | _=>none
theorem yGK:zW Tryz.prog 46 zKH:=by
 intro ps r h;unfold zKH at h;split at h
 ·simp only [vQQ,vQZ,vQY] at h;obtain ⟨m,hm,v,hv,hg,rfl⟩:=h;rw [yHK hm];rw [zJK hv];exact zJ (zQ Tryz.func46 (by kernel_rfl) (by kernel_rfl)) rfl rfl (fun w=>rApply _ _ _ _ _ _ _ _ _ _ _ _ _ _ _ _ _ _ _ _ _ _ _ _ w)
 ·cases h
noncomputable def L15:OrL:=(46,zKH) :: L14
theorem L15_ok:AllP (fun x:Nat × (List PV→Option (Bool × Ret))=>zW Tryz.prog x.1 x.2) L15:=⟨yGK,L14_ok⟩
set_option maxRecDepth 100000 in
theorem tr_rDot (nx:Int) (ny:Int) (nz:Int) (v0:Int) (v1:Int) (v2:Int) (v3:Int) (v4:Int) (v5:Int):runK T (OrL.k L15) 60 47 [.a [.n .i64 nx,.n .i64 ny,.n .i64 nz],.a [.n .i64 v0,.n .i64 v1,.n .i64 v2,.n .i64 v3,.n .i64 v4,.n .i64 v5]] =
 bif (!((decide (nx=0)) && ((decide (ny=0)) && ((decide (nz=0)) && true)))) then (bif (decide (nx < (-16384))) then some (.v (.t [.n .i64 0,.n .i64 0]),[])
  else bif (decide (16384 < nx)) then some (.v (.t [.n .i64 0,.n .i64 0]),[])
  else bif (decide (ny < (-16384))) then some (.v (.t [.n .i64 0,.n .i64 0]),[])
  else bif (decide (16384 < ny)) then some (.v (.t [.n .i64 0,.n .i64 0]),[])
  else bif (decide (nz < (-16384))) then some (.v (.t [.n .i64 0,.n .i64 0]),[])
  else bif (decide (16384 < nz)) then some (.v (.t [.n .i64 0,.n .i64 0]),[])
  else bif (decide (v0 < (-268435456))) then some (.v (.t [.n .i64 0,.n .i64 0]),[])
  else bif (decide (v1 < v0)) then some (.v (.t [.n .i64 0,.n .i64 0]),[])
  else bif (decide (268435456 < v1)) then some (.v (.t [.n .i64 0,.n .i64 0]),[])
  else bif (decide (v2 < (-268435456))) then some (.v (.t [.n .i64 0,.n .i64 0]),[])
  else bif (decide (v3 < v2)) then some (.v (.t [.n .i64 0,.n .i64 0]),[])
  else bif (decide (268435456 < v3)) then some (.v (.t [.n .i64 0,.n .i64 0]),[])
  else bif (decide (v4 < (-268435456))) then some (.v (.t [.n .i64 0,.n .i64 0]),[])
  else bif (decide (v5 < v4)) then some (.v (.t [.n .i64 0,.n .i64 0]),[])
  else bif (decide (268435456 < v5)) then some (.v (.t [.n .i64 0,.n .i64 0]),[])
  else some (.v (.t [.n .i64 (vJJ .i64 ((vJJ .i64 ((vJJ .i64 (0 + (min (vJJ .i64 (nx * v0)) (vJJ .i64 (nx * v1))))) + (min (vJJ .i64 (ny * v2)) (vJJ .i64 (ny * v3))))) + (min (vJJ .i64 (nz * v4)) (vJJ .i64 (nz * v5))))),.n .i64 (vJJ .i64 ((vJJ .i64 ((vJJ .i64 (0 + (max (vJJ .i64 (nx * v0)) (vJJ .i64 (nx * v1))))) + (max (vJJ .i64 (ny * v2)) (vJJ .i64 (ny * v3))))) + (max (vJJ .i64 (nz * v4)) (vJJ .i64 (nz * v5)))))]),[]))
 else some (.v (.t [.n .i64 0,.n .i64 0]),[]):=by kernel_rfl
theorem sp_rDot (nx ny nz v0 v1 v2 v3 v4 v5:Int):runK T (OrL.k L15) 60 47 [.a [.n .i64 nx,.n .i64 ny,.n .i64 nz],.a [.n .i64 v0,.n .i64 v1,.n .i64 v2,.n .i64 v3,.n .i64 v4,.n .i64 v5]]=some (.v (.t [.n .i64 (dot nx ny nz v0 v1 v2 v3 v4 v5).1,.n .i64 (dot nx ny nz v0 v1 v2 v3 v4 v5).2]),[]):=by
 rw [tr_rDot,← sp_sDot,tr_sDot];cases (!((decide (nx=0)) && ((decide (ny=0)) && ((decide (nz=0)) && true)))) with
 | true=>rfl
 | false=>simp only [vYG,Bool.cond_self]
noncomputable def kWG:List PV→Option (Bool × Ret):=fun ps=>match ps with
 | [.a z',.a v']=>(z3D z').bind fun z=>(v3D v').bind fun v=>some (true,.v (.t [.n .i64 (dot z.x z.y z.z v.x.lo v.x.hi v.y.lo v.y.hi v.z.lo v.z.hi).1,.n .i64 (dot z.x z.y z.z v.x.lo v.x.hi v.y.lo v.y.hi v.z.lo v.z.hi).2]))
 | _=>none
theorem ok_rDot:zW Tryz.prog 47 kWG:=by
 intro ps r h;unfold kWG at h;split at h
 ·simp only [vQQ,vQZ,vQY] at h;obtain ⟨z,hz,v,hv,hg,rfl⟩:=h;rw [yWX hz];rw [zJK hv];exact qG yJ yQ (OrL.ok L15_ok) (sp_rDot _ _ _ _ _ _ _ _ _)
 ·cases h
noncomputable def L16:OrL:=(47,kWG) :: L15
theorem L16_ok:AllP (fun x:Nat × (List PV→Option (Bool × Ret))=>zW Tryz.prog x.1 x.2) L16:=⟨ok_rDot,L15_ok⟩
set_option maxRecDepth 100000 in
theorem tr_RV (js:Nat→J) (ms:Nat→Ms) (bx:Nat→Iv) (n m k:Nat) (c:Cn):runK T (OrL.k ((34,o_cr [.a [.lf n (fJ js),.lf m (fM ms)],.l [cp c]] (.v (.b (cErr js ms n m (fun _=>c) 1)))) :: (35,o_cr [.a [.lf n (fJ js),.lf m (fM ms)],.lf k (fB bx)] (.v (.b (rIn js ms bx n m k)))) :: (43,o_lk [.a [.lf n (fJ js),.lf m (fM ms)],.lf k (fB bx)] (pIn js ms bx n m k) (.v (.lf n (fP (LP js bx n))))) :: L16)) 60 23 [.a [.lf n (fJ js),.lf m (fM ms)],.a (cp c),.lf k (fB bx)] =
 bif (g1 [.a [.lf n (fJ js),.lf m (fM ms)],.l [(cp c)]]) then (bif (cErr js ms n m (fun _=>c) 1) then (bif (g1 [.a [.lf n (fJ js),.lf m (fM ms)],.lf k (fB bx)]) then (bif (rIn js ms bx n m k) then (bif (g1 [.a [.lf n (fJ js),.lf m (fM ms)],.lf k (fB bx)] && pIn js ms bx n m k) then (bif (inB c.link n) then (bif (decide (c.kind=0)) then some (.v (.t [.a [.n .i64 (dot (Z3.mk c.n.x c.n.y c.n.z).x (Z3.mk c.n.x c.n.y c.n.z).y (Z3.mk c.n.x c.n.y c.n.z).z (Po.app (LP js bx n (c.link).toNat) (V3.of (Z3.mk c.p.x c.p.y c.p.z))).x.lo (Po.app (LP js bx n (c.link).toNat) (V3.of (Z3.mk c.p.x c.p.y c.p.z))).x.hi (Po.app (LP js bx n (c.link).toNat) (V3.of (Z3.mk c.p.x c.p.y c.p.z))).y.lo (Po.app (LP js bx n (c.link).toNat) (V3.of (Z3.mk c.p.x c.p.y c.p.z))).y.hi (Po.app (LP js bx n (c.link).toNat) (V3.of (Z3.mk c.p.x c.p.y c.p.z))).z.lo (Po.app (LP js bx n (c.link).toNat) (V3.of (Z3.mk c.p.x c.p.y c.p.z))).z.hi).1,.n .i64 (dot (Z3.mk c.n.x c.n.y c.n.z).x (Z3.mk c.n.x c.n.y c.n.z).y (Z3.mk c.n.x c.n.y c.n.z).z (Po.app (LP js bx n (c.link).toNat) (V3.of (Z3.mk c.p.x c.p.y c.p.z))).x.lo (Po.app (LP js bx n (c.link).toNat) (V3.of (Z3.mk c.p.x c.p.y c.p.z))).x.hi (Po.app (LP js bx n (c.link).toNat) (V3.of (Z3.mk c.p.x c.p.y c.p.z))).y.lo (Po.app (LP js bx n (c.link).toNat) (V3.of (Z3.mk c.p.x c.p.y c.p.z))).y.hi (Po.app (LP js bx n (c.link).toNat) (V3.of (Z3.mk c.p.x c.p.y c.p.z))).z.lo (Po.app (LP js bx n (c.link).toNat) (V3.of (Z3.mk c.p.x c.p.y c.p.z))).z.hi).2],.b true]),[])
 else some (.v (.t [.a [.n .i64 (dot (Z3.mk c.n.x c.n.y c.n.z).x (Z3.mk c.n.x c.n.y c.n.z).y (Z3.mk c.n.x c.n.y c.n.z).z (M3.apply (LP js bx n (c.link).toNat).r (V3.of (Z3.mk c.p.x c.p.y c.p.z))).x.lo (M3.apply (LP js bx n (c.link).toNat).r (V3.of (Z3.mk c.p.x c.p.y c.p.z))).x.hi (M3.apply (LP js bx n (c.link).toNat).r (V3.of (Z3.mk c.p.x c.p.y c.p.z))).y.lo (M3.apply (LP js bx n (c.link).toNat).r (V3.of (Z3.mk c.p.x c.p.y c.p.z))).y.hi (M3.apply (LP js bx n (c.link).toNat).r (V3.of (Z3.mk c.p.x c.p.y c.p.z))).z.lo (M3.apply (LP js bx n (c.link).toNat).r (V3.of (Z3.mk c.p.x c.p.y c.p.z))).z.hi).1,.n .i64 (dot (Z3.mk c.n.x c.n.y c.n.z).x (Z3.mk c.n.x c.n.y c.n.z).y (Z3.mk c.n.x c.n.y c.n.z).z (M3.apply (LP js bx n (c.link).toNat).r (V3.of (Z3.mk c.p.x c.p.y c.p.z))).x.lo (M3.apply (LP js bx n (c.link).toNat).r (V3.of (Z3.mk c.p.x c.p.y c.p.z))).x.hi (M3.apply (LP js bx n (c.link).toNat).r (V3.of (Z3.mk c.p.x c.p.y c.p.z))).y.lo (M3.apply (LP js bx n (c.link).toNat).r (V3.of (Z3.mk c.p.x c.p.y c.p.z))).y.hi (M3.apply (LP js bx n (c.link).toNat).r (V3.of (Z3.mk c.p.x c.p.y c.p.z))).z.lo (M3.apply (LP js bx n (c.link).toNat).r (V3.of (Z3.mk c.p.x c.p.y c.p.z))).z.hi).2],.b true]),[]))
 else none)
 else none)
 else some (.v (.t [.a [.n .i64 0,.n .i64 0],.b false]),[]))
 else none)
 else some (.v (.t [.a [.n .i64 0,.n .i64 0],.b false]),[]))
 else none:=by kernel_rfl
theorem jWZ (js:Nat→J) (ms:Nat→Ms) (bx:Nat→Iv) (n m k:Nat) (c:Cn) (hkk:k≤50):zH Tryz.prog 23 [.a [.lf n (fJ js),.lf m (fM ms)],.a (cp c),.lf k (fB bx)] (.v (.t [.a [.n .i64 (vLo js ms bx n m k c),.n .i64 (vHi js ms bx n m k c)],.b (vOk js ms bx n m k c)])):=by
 refine qG (N:=60) yJ yQ (OrL.ok (l:=((34,o_cr [.a [.lf n (fJ js),.lf m (fM ms)],.l [cp c]] (.v (.b (cErr js ms n m (fun _=>c) 1)))) :: (35,o_cr [.a [.lf n (fJ js),.lf m (fM ms)],.lf k (fB bx)] (.v (.b (rIn js ms bx n m k)))) :: (43,o_lk [.a [.lf n (fJ js),.lf m (fM ms)],.lf k (fB bx)] (pIn js ms bx n m k) (.v (.lf n (fP (LP js bx n))))) :: L16)) ⟨qZX (snd_Rc1 js ms n m c),qZX (snd_rIn js ms bx n m k hkk),qXG (fun h=>rIn_links js ms bx n m k h),L16_ok⟩) ?_;refine (tr_RV js ms bx n m k c).trans ?_;unfold vLo vHi vOk;simp only [g1_t,vZH];rw [in_eq];cases hc:(cErr js ms n m (fun _=>c) 1) with
 | false=>rfl
 | true =>
  cases hi:pIn js ms bx n m k with
  | false=>rfl
  | true =>
   obtain ⟨_,_,hh⟩:=qWW hc;have hk:=(hh 0 (by omega)).2.1;have hkk:=(hh 0 (by omega)).1;simp only [vYV,vZJ,jKV hk];unfold vr;rcases hkk with h | h
   ·rw [vJQ h,vYH (show ¬ c.kind=1 by omega)]; rfl
   ·rw [vYH (show ¬ c.kind=0 by omega),vJQ h]; rfl
end Go.Proofs.YtmffoiemmlcmfaaGreat.Ng
namespace Go.Proofs.YtmffoiemmlcmfaaGreat.Nj
open Go.Rx Rt Go.Sx Go.RowKit Od Ov Pc Na Nb Nc Nd Nx Nf Ng
noncomputable def vI (js:Nat→J) (bx:Nat→Iv) (n:Nat) (cs:Nat→Cn):Nat→Iv:=fun i=>⟨(vr (cs i) (LP js bx n (cs i).link.toNat)).1,(vr (cs i) (LP js bx n (cs i).link.toNat)).2⟩
def hVa (js:Nat→J) (ms:Nat→Ms) (bx:Nat→Iv) (n m k:Nat) (cs:Nat→Cn) (c:Nat) (i:Int) (rows:List (List PV)):St:=⟨[(7,.v (.lf n (fun v=>[.n .i64 (LP js bx n v).r.x.x.lo,.n .i64 (LP js bx n v).r.x.x.hi,.n .i64 (LP js bx n v).r.x.y.lo,.n .i64 (LP js bx n v).r.x.y.hi,.n .i64 (LP js bx n v).r.x.z.lo,.n .i64 (LP js bx n v).r.x.z.hi,.n .i64 (LP js bx n v).r.y.x.lo,.n .i64 (LP js bx n v).r.y.x.hi,.n .i64 (LP js bx n v).r.y.y.lo,.n .i64 (LP js bx n v).r.y.y.hi,.n .i64 (LP js bx n v).r.y.z.lo,.n .i64 (LP js bx n v).r.y.z.hi,.n .i64 (LP js bx n v).r.z.x.lo,.n .i64 (LP js bx n v).r.z.x.hi,.n .i64 (LP js bx n v).r.z.y.lo,.n .i64 (LP js bx n v).r.z.y.hi,.n .i64 (LP js bx n v).r.z.z.lo,.n .i64 (LP js bx n v).r.z.z.hi,.n .i64 (LP js bx n v).t.x.lo,.n .i64 (LP js bx n v).t.x.hi,.n .i64 (LP js bx n v).t.y.lo,.n .i64 (LP js bx n v).t.y.hi,.n .i64 (LP js bx n v).t.z.lo,.n .i64 (LP js bx n v).t.z.hi]))),(8,.o 20),(21,.v (.lf c (fC cs))),(22,.v (.n .i64 (c:Int))),(23,.v (.n .i64 i))],[(20,.reg 59 2 (.l rows))]⟩
set_option maxRecDepth 100000 in
theorem rdVa (G:St→Option (Ret × Mem)) (K:Cont) (js:Nat→J) (ms:Nat→Ms) (bx:Nat→Iv) (n m k:Nat) (cs:Nat→Cn) (c:Nat) (i:Int) (rows:List (List PV)):zKJ 60 (cxF T (OrL.k ((86,o_lk [.a [.lf n (fJ js),.lf m (fM ms)],.lf k (fB bx)] (pIn js ms bx n m k) (.v (.lf n (fP (LP js bx n))))) :: L16)) 60 56 (ntmF T 56)) (ckF T (OrL.k ((86,o_lk [.a [.lf n (fJ js),.lf m (fM ms)],.lf k (fB bx)] (pIn js ms bx n m k) (.v (.lf n (fP (LP js bx n))))) :: L16)) 60) (qY T 56 [0,1,0,1,1,1]) ((cxF T (OrL.k ((86,o_lk [.a [.lf n (fJ js),.lf m (fM ms)],.lf k (fB bx)] (pIn js ms bx n m k) (.v (.lf n (fP (LP js bx n))))) :: L16)) 60 56 (ntmF T 56)).T.hint (cxF T (OrL.k ((86,o_lk [.a [.lf n (fJ js),.lf m (fM ms)],.lf k (fB bx)] (pIn js ms bx n m k) (.v (.lf n (fP (LP js bx n))))) :: L16)) 60 56 (ntmF T 56)).me (zY (qY T 56 [0,1,0,1,1,1]))) K G (hVa js ms bx n m k cs c i rows) =
 (bif (decide (i < (c:Int))) then (bif (inB i c) then (bif (decide ((cs (i).toNat).kind=1)) then (bif (inB (cs (i).toNat).link n) then (bif (decide (rows.length + 1≤1000000)) then (G (hVa js ms bx n m k cs c (vJJ .i64 (i + 1)) ((rows ++ [[.n .i64 (dot (cs (i).toNat).n.x (cs (i).toNat).n.y (cs (i).toNat).n.z (M3.apply (LP js bx n ((cs (i).toNat).link).toNat).r (V3.of (cs (i).toNat).p)).x.lo (M3.apply (LP js bx n ((cs (i).toNat).link).toNat).r (V3.of (cs (i).toNat).p)).x.hi (M3.apply (LP js bx n ((cs (i).toNat).link).toNat).r (V3.of (cs (i).toNat).p)).y.lo (M3.apply (LP js bx n ((cs (i).toNat).link).toNat).r (V3.of (cs (i).toNat).p)).y.hi (M3.apply (LP js bx n ((cs (i).toNat).link).toNat).r (V3.of (cs (i).toNat).p)).z.lo (M3.apply (LP js bx n ((cs (i).toNat).link).toNat).r (V3.of (cs (i).toNat).p)).z.hi).1,.n .i64 (dot (cs (i).toNat).n.x (cs (i).toNat).n.y (cs (i).toNat).n.z (M3.apply (LP js bx n ((cs (i).toNat).link).toNat).r (V3.of (cs (i).toNat).p)).x.lo (M3.apply (LP js bx n ((cs (i).toNat).link).toNat).r (V3.of (cs (i).toNat).p)).x.hi (M3.apply (LP js bx n ((cs (i).toNat).link).toNat).r (V3.of (cs (i).toNat).p)).y.lo (M3.apply (LP js bx n ((cs (i).toNat).link).toNat).r (V3.of (cs (i).toNat).p)).y.hi (M3.apply (LP js bx n ((cs (i).toNat).link).toNat).r (V3.of (cs (i).toNat).p)).z.lo (M3.apply (LP js bx n ((cs (i).toNat).link).toNat).r (V3.of (cs (i).toNat).p)).z.hi).2]]))))
 else none)
 else none)
 else (bif (inB (cs (i).toNat).link n) then (bif (decide (rows.length + 1≤1000000)) then (G (hVa js ms bx n m k cs c (vJJ .i64 (i + 1)) ((rows ++ [[.n .i64 (dot (cs (i).toNat).n.x (cs (i).toNat).n.y (cs (i).toNat).n.z (Po.app (LP js bx n ((cs (i).toNat).link).toNat) (V3.of (cs (i).toNat).p)).x.lo (Po.app (LP js bx n ((cs (i).toNat).link).toNat) (V3.of (cs (i).toNat).p)).x.hi (Po.app (LP js bx n ((cs (i).toNat).link).toNat) (V3.of (cs (i).toNat).p)).y.lo (Po.app (LP js bx n ((cs (i).toNat).link).toNat) (V3.of (cs (i).toNat).p)).y.hi (Po.app (LP js bx n ((cs (i).toNat).link).toNat) (V3.of (cs (i).toNat).p)).z.lo (Po.app (LP js bx n ((cs (i).toNat).link).toNat) (V3.of (cs (i).toNat).p)).z.hi).1,.n .i64 (dot (cs (i).toNat).n.x (cs (i).toNat).n.y (cs (i).toNat).n.z (Po.app (LP js bx n ((cs (i).toNat).link).toNat) (V3.of (cs (i).toNat).p)).x.lo (Po.app (LP js bx n ((cs (i).toNat).link).toNat) (V3.of (cs (i).toNat).p)).x.hi (Po.app (LP js bx n ((cs (i).toNat).link).toNat) (V3.of (cs (i).toNat).p)).y.lo (Po.app (LP js bx n ((cs (i).toNat).link).toNat) (V3.of (cs (i).toNat).p)).y.hi (Po.app (LP js bx n ((cs (i).toNat).link).toNat) (V3.of (cs (i).toNat).p)).z.lo (Po.app (LP js bx n ((cs (i).toNat).link).toNat) (V3.of (cs (i).toNat).p)).z.hi).2]]))))
 else none)
 else none))
 else none)
 else (K (.exit 0) ⟨[(8,.o 20)],[(20,.reg 59 2 (.l rows))]⟩)):=by kernel_rfl
theorem lpVa (K:Cont) (js:Nat→J) (ms:Nat→Ms) (bx:Nat→Iv) (n m k:Nat) (cs:Nat→Cn) (c:Nat) (hc:(cErr js ms n m cs c)=true):LF 60 (cxF T (OrL.k ((86,o_lk [.a [.lf n (fJ js),.lf m (fM ms)],.lf k (fB bx)] (pIn js ms bx n m k) (.v (.lf n (fP (LP js bx n))))) :: L16)) 60 56 (ntmF T 56)) (ckF T (OrL.k ((86,o_lk [.a [.lf n (fJ js),.lf m (fM ms)],.lf k (fB bx)] (pIn js ms bx n m k) (.v (.lf n (fP (LP js bx n))))) :: L16)) 60) (qY T 56 [0,1,0,1,1,1]) ((cxF T (OrL.k ((86,o_lk [.a [.lf n (fJ js),.lf m (fM ms)],.lf k (fB bx)] (pIn js ms bx n m k) (.v (.lf n (fP (LP js bx n))))) :: L16)) 60 56 (ntmF T 56)).T.hint (cxF T (OrL.k ((86,o_lk [.a [.lf n (fJ js),.lf m (fM ms)],.lf k (fB bx)] (pIn js ms bx n m k) (.v (.lf n (fP (LP js bx n))))) :: L16)) 60 56 (ntmF T 56)).me (zY (qY T 56 [0,1,0,1,1,1]))) K 60 (hVa js ms bx n m k cs c 0 [])=(K (.exit 0) ⟨[(8,.o 20)],[(20,.reg 59 2 (.l ((List.range c).map (fun i:Nat=>[.n .i64 (vI js bx n cs i).lo,.n .i64 (vI js bx n cs i).hi]))))]⟩):=by
 obtain ⟨_,h8,hq⟩:=qWW hc;refine (kVV (c:=c) (hVa js ms bx n m k cs c) (fun i:Nat=>[.n .i64 (vI js bx n cs i).lo,.n .i64 (vI js bx n cs i).hi]) (fun rows=>(K (.exit 0) ⟨[(8,.o 20)],[(20,.reg 59 2 (.l rows))]⟩)) (fun G i rows hi hl => ?_) (fun G rows hl => ?_) c 0 60 [] rfl (by omega) (by omega)).trans (congrArg (fun rows=>(K (.exit 0) ⟨[(8,.o 20)],[(20,.reg 59 2 (.l rows))]⟩)) (rng0 c _))
 ·refine (rdVa G K js ms bx n m k cs c i rows).trans ?_;rw [vJQ (show (i:Int) < (c:Int) by omega),qQQ (by omega),yW (show i < c by omega),vJQ (show rows.length + 1≤1000000 by omega),toN,jKV (hq i hi).2.1];unfold vI vr;cases decide ((cs i).kind=1) <;> rfl
 ·refine (rdVa G K js ms bx n m k cs c c rows).trans ?_;rw [vYH (show ¬ (c:Int) < (c:Int) by omega)];rfl
set_option maxRecDepth 100000 in
theorem pxvals (js:Nat→J) (ms:Nat→Ms) (bx:Nat→Iv) (n m k:Nat) (cs:Nat→Cn) (c:Nat):qYH T (OrL.k ((86,o_lk [.a [.lf n (fJ js),.lf m (fM ms)],.lf k (fB bx)] (pIn js ms bx n m k) (.v (.lf n (fP (LP js bx n))))) :: L16)) (zZ [([0,1,0,1,1,1],jX (hVa js ms bx n m k cs c 0 []) (fun K=>(bif (cErr js ms n m cs c) then (K (.exit 0) ⟨[(8,.o 20)],[(20,.reg 59 2 (.l ((List.range c).map (fun i:Nat=>[.n .i64 (vI js bx n cs i).lo,.n .i64 (vI js bx n cs i).hi]))))]⟩) else none)))]) 60 56 [.a [.lf n (fJ js),.lf m (fM ms)],.lf c (fC cs),.lf k (fB bx)] =
 (bif (g1 [.a [.lf n (fJ js),.lf m (fM ms)],.lf k (fB bx)] && pIn js ms bx n m k) then (bif (decide (0≤(c:Int))) then (bif (decide ((c:Int)≤1000000)) then (bif (gSt (hVa js ms bx n m k cs c 0 []) (hVa js ms bx n m k cs c 0 [])) then (bif (cErr js ms n m cs c) then some (.ow 59 2 (.l ((List.range c).map (fun i:Nat=>[.n .i64 (vI js bx n cs i).lo,.n .i64 (vI js bx n cs i).hi]))),[])
 else none)
 else none)
 else none)
 else none)
 else none):=by kernel_rfl
theorem snd_vals (js:Nat→J) (ms:Nat→Ms) (bx:Nat→Iv) (n m k:Nat) (cs:Nat→Cn) (c:Nat) (hc:(cErr js ms n m cs c)=true) (hp:pIn js ms bx n m k=true):zH Tryz.prog 56 [.a [.lf n (fJ js),.lf m (fM ms)],.lf c (fC cs),.lf k (fB bx)] (.ow 59 2 (.l ((List.range c).map (fun i:Nat=>[.n .i64 (vI js bx n cs i).lo,.n .i64 (vI js bx n cs i).hi])))):=by
 refine jV (N:=60) (LO:=zZ [([0,1,0,1,1,1],jX (hVa js ms bx n m k cs c 0 []) (fun K=>(bif (cErr js ms n m cs c) then (K (.exit 0) ⟨[(8,.o 20)],[(20,.reg 59 2 (.l ((List.range c).map (fun i:Nat=>[.n .i64 (vI js bx n cs i).lo,.n .i64 (vI js bx n cs i).hi]))))]⟩) else none)))]) yJ yQ (OrL.ok (l:=((86,o_lk [.a [.lf n (fJ js),.lf m (fM ms)],.lf k (fB bx)] (pIn js ms bx n m k) (.v (.lf n (fP (LP js bx n))))) :: L16)) ⟨qXG (fun h=>pIn_links js ms bx n m k h),L16_ok⟩) (fun p S hp => ?_) ?_
 ·refine uY (L:=qY T 56) (l:=[([0,1,0,1,1,1],jX (hVa js ms bx n m k cs c 0 []) (fun K=>(bif (cErr js ms n m cs c) then (K (.exit 0) ⟨[(8,.o 20)],[(20,.reg 59 2 (.l ((List.range c).map (fun i:Nat=>[.n .i64 (vI js bx n cs i).lo,.n .i64 (vI js bx n cs i).hi]))))]⟩) else none)))]) (show AllP _ [([0,1,0,1,1,1],jX (hVa js ms bx n m k cs c 0 []) (fun K=>(bif (cErr js ms n m cs c) then (K (.exit 0) ⟨[(8,.o 20)],[(20,.reg 59 2 (.l ((List.range c).map (fun i:Nat=>[.n .i64 (vI js bx n cs i).lo,.n .i64 (vI js bx n cs i).hi]))))]⟩) else none)))] from ⟨qQU fun K r hr => ?_,trivial⟩) p S hp
  ·obtain ⟨hg,hr⟩:=qH hr;have hc:=hg;exact (lpVa K js ms bx n m k cs c hc).trans hr
 ·refine (pxvals js ms bx n m k cs c).trans ?_;obtain ⟨_,h8,hq⟩:=qWW hc;rw [yG,hc];simp only [g1_t,hp,vZJ,vYV,vJQ (show (0:Int)≤(c:Int) by omega),vJQ (show (c:Int)≤1000000 by omega)]
theorem snd_valsF (js:Nat→J) (ms:Nat→Ms) (bx:Nat→Iv) (n m k:Nat) (cs:Nat→Cn) (c:Nat) (hc:(cErr js ms n m cs c)=true) (hp:pIn js ms bx n m k=true):zH Tryz.prog 56 [.a [.lf n (fJ js),.lf m (fM ms)],.lf c (fC cs),.lf k (fB bx)] (.v (.lf c (fB (vI js bx n cs)))):=qQW (Same.lf rfl) (zGK (snd_vals js ms bx n m k cs c hc hp))
def hHo (cs:Nat→Cn) (vs:Nat→Iv) (c:Nat) (i:Int):St:=⟨[(1,.v (.lf c (fB vs))),(7,.v (.lf c (fC cs))),(8,.v (.n .i64 (c:Int))),(9,.v (.n .i64 i))],[]⟩
set_option maxRecDepth 100000 in
theorem rdHo (G:St→Option (Ret × Mem)) (K:Cont) (cs:Nat→Cn) (vs:Nat→Iv) (c:Nat) (i:Int):zKJ 60 (cxF T (OrL.k ([]:OrL)) 60 55 (ntmF T 55)) (ckF T (OrL.k ([]:OrL)) 60) (qY T 55 [0,1,0,1]) ((cxF T (OrL.k ([]:OrL)) 60 55 (ntmF T 55)).T.hint (cxF T (OrL.k ([]:OrL)) 60 55 (ntmF T 55)).me (zY (qY T 55 [0,1,0,1]))) K G (hHo cs vs c i) =
 (bif (decide (i < (c:Int))) then (bif (inB i c) then (bif (inB i c) then (bif (decide ((vs (i).toNat).lo < (cs (i).toNat).lo)) then (K .ret ⟨[(4,.v (.b false))],[]⟩)
 else (bif (inB i c) then (bif (decide ((cs (i).toNat).hi < (vs (i).toNat).hi)) then (K .ret ⟨[(4,.v (.b false))],[]⟩)
 else (G (hHo cs vs c (vJJ .i64 (i + 1)))))
 else none))
 else none)
 else none)
 else (K (.exit 0) ⟨[],[]⟩)):=by kernel_rfl
def inR (c:Cn) (v:Iv):Bool:=!(decide (v.lo < c.lo)) && !(decide (c.hi < v.hi))
theorem lpHo (K:Cont) (cs:Nat→Cn) (vs:Nat→Iv) (c:Nat) (hc:c≤50):LF 60 (cxF T (OrL.k ([]:OrL)) 60 55 (ntmF T 55)) (ckF T (OrL.k ([]:OrL)) 60) (qY T 55 [0,1,0,1]) ((cxF T (OrL.k ([]:OrL)) 60 55 (ntmF T 55)).T.hint (cxF T (OrL.k ([]:OrL)) 60 55 (ntmF T 55)).me (zY (qY T 55 [0,1,0,1]))) K 60 (hHo cs vs c 0)=bif (allN (fun i:Nat=>inR (cs i) (vs i)) c 0) then (K (.exit 0) ⟨[],[]⟩) else (K .ret ⟨[(4,.v (.b false))],[]⟩):=by
 refine (zJV (c:=c) (hHo cs vs c) (fun i:Nat=>inR (cs i) (vs i)) (K (.exit 0) ⟨[],[]⟩) (fun i:Nat=>(K .ret ⟨[(4,.v (.b false))],[]⟩)) (fun G i hi => ?_) (fun G => ?_) c 0 60 (by omega) (by omega)).trans (qYJ _ _ _ _ _)
 ·refine (rdHo G K cs vs c i).trans ?_;rw [vJQ (show (i:Int) < (c:Int) by omega),qQQ (by omega),yW (show i < c by omega),toN];unfold inR;cases decide ((vs i).lo < (cs i).lo) <;> cases decide ((cs i).hi < (vs i).hi) <;> rfl
 ·refine (rdHo G K cs vs c c).trans ?_;rw [vYH (show ¬ (c:Int) < (c:Int) by omega)];rfl
def yZQ (cs:Nat→Cn) (vs:Nat→Iv) (c:Nat):Bool:=(allN (fun i:Nat=>inR (cs i) (vs i)) c 0)
set_option maxRecDepth 100000 in
theorem pxhold (cs:Nat→Cn) (vs:Nat→Iv) (c:Nat):qYH T (OrL.k ([]:OrL)) (zZ [([0,1,0,1],jX (hHo cs vs c 0) (fun K=>(bif (decide (c≤50)) then (bif (allN (fun i:Nat=>inR (cs i) (vs i)) c 0) then (K (.exit 0) ⟨[],[]⟩) else (K .ret ⟨[(4,.v (.b false))],[]⟩)) else none)))]) 60 55 [.lf c (fC cs),.lf c (fB vs)] =
 (bif (gSt (hHo cs vs c 0) (hHo cs vs c 0)) then (bif (decide (c≤50)) then (bif (allN (fun i:Nat=>inR (cs i) (vs i)) c 0) then some (.v (.b true),[])
 else some (.v (.b false),[]))
 else none)
 else none):=by kernel_rfl
theorem snd_hold (cs:Nat→Cn) (vs:Nat→Iv) (c:Nat) (hc:c≤50):zH Tryz.prog 55 [.lf c (fC cs),.lf c (fB vs)] (.v (.b (yZQ cs vs c))):=by
 refine jV (N:=60) (LO:=zZ [([0,1,0,1],jX (hHo cs vs c 0) (fun K=>(bif (decide (c≤50)) then (bif (allN (fun i:Nat=>inR (cs i) (vs i)) c 0) then (K (.exit 0) ⟨[],[]⟩) else (K .ret ⟨[(4,.v (.b false))],[]⟩)) else none)))]) yJ yQ (OrL.ok (l:=([]:OrL)) trivial) (fun p S hp => ?_) ?_
 ·refine uY (L:=qY T 55) (l:=[([0,1,0,1],jX (hHo cs vs c 0) (fun K=>(bif (decide (c≤50)) then (bif (allN (fun i:Nat=>inR (cs i) (vs i)) c 0) then (K (.exit 0) ⟨[],[]⟩) else (K .ret ⟨[(4,.v (.b false))],[]⟩)) else none)))]) (show AllP _ [([0,1,0,1],jX (hHo cs vs c 0) (fun K=>(bif (decide (c≤50)) then (bif (allN (fun i:Nat=>inR (cs i) (vs i)) c 0) then (K (.exit 0) ⟨[],[]⟩) else (K .ret ⟨[(4,.v (.b false))],[]⟩)) else none)))] from ⟨qQU fun K r hr => ?_,trivial⟩) p S hp
  ·obtain ⟨hg,hr⟩:=qH hr;have hc:=vJZ hg;exact (lpHo K cs vs c hc).trans hr
 ·refine (pxhold cs vs c).trans ?_;unfold yZQ;rw [yG,vJQ hc];cases (allN (fun i:Nat=>inR (cs i) (vs i)) c 0) <;> rfl
theorem kXG (js:Nat→J) (ms:Nat→Ms) (bx:Nat→Iv) (n m k:Nat) (cs:Nat→Cn) (c:Nat):zH Tryz.prog 29 [.a [.lf n (fJ js),.lf m (fM ms)],.lf c (fC cs),.lf k (fB bx)] (.v (.b ((cErr js ms n m cs c) && (pIn js ms bx n m k && yZQ cs (vI js bx n cs) c)))):=by
 refine qG (N:=60) yJ yQ (OrL.ok (l:=[(27,o_cr [.a [.lf n (fJ js),.lf m (fM ms)],.lf c (fC cs)] (.v (.b (cErr js ms n m cs c)))),(54,o_cr [.a [.lf n (fJ js),.lf m (fM ms)],.lf k (fB bx)] (.v (.b (pIn js ms bx n m k)))),(56,o_lk [.a [.lf n (fJ js),.lf m (fM ms)],.lf c (fC cs),.lf k (fB bx)] ((cErr js ms n m cs c) && pIn js ms bx n m k) (.v (.lf c (fB (vI js bx n cs))))),(55,o_lk [.lf c (fC cs),.lf c (fB (vI js bx n cs))] (decide (c≤50)) (.v (.b (yZQ cs (vI js bx n cs) c))))]) ⟨qZX (kYV js ms n m cs c),qZX (snd_pIn js ms bx n m k),qXG (fun h=>by rw [vQJ] at h; exact snd_valsF js ms bx n m k cs c h.1 h.2),qXG (fun h=>snd_hold cs (vI js bx n cs) c (vJZ h)),trivial⟩) ?_;refine (by kernel_rfl:_=bif (g1 [.a [.lf n (fJ js),.lf m (fM ms)],.lf c (fC cs)]) then (bif (cErr js ms n m cs c) then (bif (g1 [.a [.lf n (fJ js),.lf m (fM ms)],.lf k (fB bx)]) then (bif (pIn js ms bx n m k) then (bif (g1 [.a [.lf n (fJ js),.lf m (fM ms)],.lf c (fC cs),.lf k (fB bx)] && ((cErr js ms n m cs c) && pIn js ms bx n m k)) then (bif (g1 [.lf c (fC cs),.lf c (fB (vI js bx n cs))] && decide (c≤50)) then (bif (yZQ cs (vI js bx n cs) c) then some (.v (.b true),[])
 else some (.v (.b false),[]))
 else none)
 else none)
 else some (.v (.b false),[]))
 else none)
 else some (.v (.b false),[]))
 else none).trans ?_
 simp only [g1_t];cases hc:(cErr js ms n m cs c) with
 | false=>rfl
 | true =>
  cases hp:pIn js ms bx n m k with
  | false=>rfl
  | true =>
   have h8:=(qWW hc).2.1;simp only [vZJ,vJQ (show c≤50 by omega),vYV,vZH]
   try (cases yZQ cs (vI js bx n cs) c <;> rfl)
   try (cases nbrB cs (vI js bx n cs) c <;> rfl)
def unC (ps:List PV):Cn:=match ps with
 | [.n _ a,.n _ b,.n _ c,.n _ d,.n _ e,.n _ f,.n _ g,.n _ h,.n _ i,.n _ j]=>⟨a,b,⟨c,d,e⟩,⟨f,g,h⟩,i,j⟩
 | _=>⟨0,0,⟨0,0,0⟩,⟨0,0,0⟩,0,0⟩
noncomputable def resV (js:Nat→J) (ms:Nat→Ms) (bx:Nat→Iv) (n m k:Nat) (c:Cn):PV:=.t [.a [.n .i64 (vLo js ms bx n m k c),.n .i64 (vHi js ms bx n m k c)],.b (vOk js ms bx n m k c)]
noncomputable def o_rv (js:Nat→J) (ms:Nat→Ms) (bx:Nat→Iv) (n m k:Nat):List PV→Option (Bool × Ret):=fun ps=>match ps with
 | [r,.a c,b]=>some (gEq (.t ps) (.t [.a [.lf n (fJ js),.lf m (fM ms)],.a (cp (unC c)),.lf k (fB bx)]) && decide (k≤50),.v (resV js ms bx n m k (unC c)))
 | _=>none
theorem jHW (js:Nat→J) (ms:Nat→Ms) (bx:Nat→Iv) (n m k:Nat):zW Tryz.prog 23 (o_rv js ms bx n m k):=by
 intro ps q hh;unfold o_rv at hh;split at hh
 ·simp only [vQZ,vQY,vQJ] at hh;obtain ⟨⟨hg,hb⟩,rfl⟩:=hh
  have:=zJQ hg
  simp only [PV.t.injEq] at this;rw [this];exact jWZ js ms bx n m k _ (vJZ hb)
 ·cases hh
def hRh (js:Nat→J) (ms:Nat→Ms) (bx:Nat→Iv) (n m k:Nat) (cs:Nat→Cn) (c:Nat) (i:Int):St:=⟨[(1,.v (.lf c (fC cs))),(2,.v (.lf k (fB bx))),(3,.p 3 0),(7,.v (.n .i64 i))],[(3,.blk [.v (.lf n (fJ js)),.v (.lf m (fM ms))])]⟩
set_option maxRecDepth 100000 in
theorem rdRh (G:St→Option (Ret × Mem)) (K:Cont) (js:Nat→J) (ms:Nat→Ms) (bx:Nat→Iv) (n m k:Nat) (cs:Nat→Cn) (c:Nat) (i:Int):zKJ 60 (cxF T (OrL.k [(34,o_cr [.a [.lf n (fJ js),.lf m (fM ms)],.lf c (fC cs)] (.v (.b (cErr js ms n m cs c)))),(35,o_lk [.a [.lf n (fJ js),.lf m (fM ms)],.lf k (fB bx)] (decide (k≤50)) (.v (.b (rIn js ms bx n m k)))),(23,o_rv js ms bx n m k)]) 60 12 (ntmF T 12)) (ckF T (OrL.k [(34,o_cr [.a [.lf n (fJ js),.lf m (fM ms)],.lf c (fC cs)] (.v (.b (cErr js ms n m cs c)))),(35,o_lk [.a [.lf n (fJ js),.lf m (fM ms)],.lf k (fB bx)] (decide (k≤50)) (.v (.b (rIn js ms bx n m k)))),(23,o_rv js ms bx n m k)]) 60) (qY T 12 [0,1,0,1,1]) ((cxF T (OrL.k [(34,o_cr [.a [.lf n (fJ js),.lf m (fM ms)],.lf c (fC cs)] (.v (.b (cErr js ms n m cs c)))),(35,o_lk [.a [.lf n (fJ js),.lf m (fM ms)],.lf k (fB bx)] (decide (k≤50)) (.v (.b (rIn js ms bx n m k)))),(23,o_rv js ms bx n m k)]) 60 12 (ntmF T 12)).T.hint (cxF T (OrL.k [(34,o_cr [.a [.lf n (fJ js),.lf m (fM ms)],.lf c (fC cs)] (.v (.b (cErr js ms n m cs c)))),(35,o_lk [.a [.lf n (fJ js),.lf m (fM ms)],.lf k (fB bx)] (decide (k≤50)) (.v (.b (rIn js ms bx n m k)))),(23,o_rv js ms bx n m k)]) 60 12 (ntmF T 12)).me (zY (qY T 12 [0,1,0,1,1]))) K G (hRh js ms bx n m k cs c i) =
 (bif (decide (i < (c:Int))) then (bif (inB i c) then (bif (g1 [.a [.lf n (fJ js),.lf m (fM ms)],.a [.n .i64 (cs (i).toNat).kind,.n .i64 (cs (i).toNat).link,.n .i64 (cs (i).toNat).p.x,.n .i64 (cs (i).toNat).p.y,.n .i64 (cs (i).toNat).p.z,.n .i64 (cs (i).toNat).n.x,.n .i64 (cs (i).toNat).n.y,.n .i64 (cs (i).toNat).n.z,.n .i64 (cs (i).toNat).lo,.n .i64 (cs (i).toNat).hi],.lf k (fB bx)] && decide (k≤50)) then (bif (vOk js ms bx n m k (cs (i).toNat)) then (bif (inB i c) then (bif (decide ((vLo js ms bx n m k (cs (i).toNat)) < (cs (i).toNat).lo)) then (K .ret ⟨[(6,.v (.b false))],[]⟩)
 else (bif (inB i c) then (bif (decide ((cs (i).toNat).hi < (vHi js ms bx n m k (cs (i).toNat)))) then (K .ret ⟨[(6,.v (.b false))],[]⟩)
 else (G (hRh js ms bx n m k cs c (vJJ .i64 (i + 1)))))
 else none))
 else none)
 else (bif (inB i c) then (bif (decide ((vLo js ms bx n m k (cs (i).toNat)) < (cs (i).toNat).lo)) then (K .ret ⟨[(6,.v (.b false))],[]⟩)
 else (bif (inB i c) then (bif (decide ((cs (i).toNat).hi < (vHi js ms bx n m k (cs (i).toNat)))) then (K .ret ⟨[(6,.v (.b false))],[]⟩)
 else (G (hRh js ms bx n m k cs c (vJJ .i64 (i + 1)))))
 else none))
 else none))
 else none)
 else none)
 else (K (.exit 0) ⟨[],[]⟩)):=by kernel_rfl
theorem lpRh (K:Cont) (js:Nat→J) (ms:Nat→Ms) (bx:Nat→Iv) (n m k:Nat) (cs:Nat→Cn) (c:Nat) (hc:c≤50) (hk:k≤50):LF 60 (cxF T (OrL.k [(34,o_cr [.a [.lf n (fJ js),.lf m (fM ms)],.lf c (fC cs)] (.v (.b (cErr js ms n m cs c)))),(35,o_lk [.a [.lf n (fJ js),.lf m (fM ms)],.lf k (fB bx)] (decide (k≤50)) (.v (.b (rIn js ms bx n m k)))),(23,o_rv js ms bx n m k)]) 60 12 (ntmF T 12)) (ckF T (OrL.k [(34,o_cr [.a [.lf n (fJ js),.lf m (fM ms)],.lf c (fC cs)] (.v (.b (cErr js ms n m cs c)))),(35,o_lk [.a [.lf n (fJ js),.lf m (fM ms)],.lf k (fB bx)] (decide (k≤50)) (.v (.b (rIn js ms bx n m k)))),(23,o_rv js ms bx n m k)]) 60) (qY T 12 [0,1,0,1,1]) ((cxF T (OrL.k [(34,o_cr [.a [.lf n (fJ js),.lf m (fM ms)],.lf c (fC cs)] (.v (.b (cErr js ms n m cs c)))),(35,o_lk [.a [.lf n (fJ js),.lf m (fM ms)],.lf k (fB bx)] (decide (k≤50)) (.v (.b (rIn js ms bx n m k)))),(23,o_rv js ms bx n m k)]) 60 12 (ntmF T 12)).T.hint (cxF T (OrL.k [(34,o_cr [.a [.lf n (fJ js),.lf m (fM ms)],.lf c (fC cs)] (.v (.b (cErr js ms n m cs c)))),(35,o_lk [.a [.lf n (fJ js),.lf m (fM ms)],.lf k (fB bx)] (decide (k≤50)) (.v (.b (rIn js ms bx n m k)))),(23,o_rv js ms bx n m k)]) 60 12 (ntmF T 12)).me (zY (qY T 12 [0,1,0,1,1]))) K 60 (hRh js ms bx n m k cs c 0)=bif (allN (fun i:Nat=>inR (cs i) ⟨vLo js ms bx n m k (cs i),vHi js ms bx n m k (cs i)⟩) c 0) then (K (.exit 0) ⟨[],[]⟩) else (K .ret ⟨[(6,.v (.b false))],[]⟩):=by
 refine (zJV (c:=c) (hRh js ms bx n m k cs c) (fun i:Nat=>inR (cs i) ⟨vLo js ms bx n m k (cs i),vHi js ms bx n m k (cs i)⟩) (K (.exit 0) ⟨[],[]⟩) (fun i:Nat=>(K .ret ⟨[(6,.v (.b false))],[]⟩)) (fun G i hi => ?_) (fun G => ?_) c 0 60 (by omega) (by omega)).trans (qYJ _ _ _ _ _)
 ·refine (rdRh G K js ms bx n m k cs c i).trans ?_;simp only [vJQ (show (i:Int) < (c:Int) by omega),qQQ (show i < 1000000 by omega),yW (show i < c by omega),toN,g1_t,vJQ hk,vZJ,vYV];unfold inR;cases vOk js ms bx n m k (cs i) <;> cases decide (vLo js ms bx n m k (cs i) < (cs i).lo) <;> cases decide ((cs i).hi < vHi js ms bx n m k (cs i)) <;> rfl
 ·refine (rdRh G K js ms bx n m k cs c c).trans ?_;rw [vYH (show ¬ (c:Int) < (c:Int) by omega)];rfl
noncomputable def kYH (js:Nat→J) (ms:Nat→Ms) (bx:Nat→Iv) (n m k:Nat) (cs:Nat→Cn) (c:Nat):Bool:=(allN (fun i:Nat=>inR (cs i) ⟨vLo js ms bx n m k (cs i),vHi js ms bx n m k (cs i)⟩) c 0)
set_option maxRecDepth 100000 in
theorem pxRHo (js:Nat→J) (ms:Nat→Ms) (bx:Nat→Iv) (n m k:Nat) (cs:Nat→Cn) (c:Nat):qYH T (OrL.k [(34,o_cr [.a [.lf n (fJ js),.lf m (fM ms)],.lf c (fC cs)] (.v (.b (cErr js ms n m cs c)))),(35,o_lk [.a [.lf n (fJ js),.lf m (fM ms)],.lf k (fB bx)] (decide (k≤50)) (.v (.b (rIn js ms bx n m k)))),(23,o_rv js ms bx n m k)]) (zZ [([0,1,0,1,1],jX (hRh js ms bx n m k cs c 0) (fun K=>(bif (decide (c≤50) && decide (k≤50)) then (bif (allN (fun i:Nat=>inR (cs i) ⟨vLo js ms bx n m k (cs i),vHi js ms bx n m k (cs i)⟩) c 0) then (K (.exit 0) ⟨[],[]⟩) else (K .ret ⟨[(6,.v (.b false))],[]⟩)) else none)))]) 60 12 [.a [.lf n (fJ js),.lf m (fM ms)],.lf c (fC cs),.lf k (fB bx)] =
 (bif (g1 [.a [.lf n (fJ js),.lf m (fM ms)],.lf c (fC cs)]) then (bif (cErr js ms n m cs c) then (bif (g1 [.a [.lf n (fJ js),.lf m (fM ms)],.lf k (fB bx)] && decide (k≤50)) then (bif (rIn js ms bx n m k) then (bif (gSt (hRh js ms bx n m k cs c 0) (hRh js ms bx n m k cs c 0)) then (bif (decide (c≤50) && decide (k≤50)) then (bif (allN (fun i:Nat=>inR (cs i) ⟨vLo js ms bx n m k (cs i),vHi js ms bx n m k (cs i)⟩) c 0) then some (.v (.b true),[])
 else some (.v (.b false),[]))
 else none)
 else none)
 else some (.v (.b false),[]))
 else none)
 else some (.v (.b false),[]))
 else none):=by kernel_rfl
theorem snd_RHo (js:Nat→J) (ms:Nat→Ms) (bx:Nat→Iv) (n m k:Nat) (cs:Nat→Cn) (c:Nat) (hk:k≤50):zH Tryz.prog 12 [.a [.lf n (fJ js),.lf m (fM ms)],.lf c (fC cs),.lf k (fB bx)] (.v (.b ((cErr js ms n m cs c) && (rIn js ms bx n m k && kYH js ms bx n m k cs c)))):=by
 refine jV (N:=60) (LO:=zZ [([0,1,0,1,1],jX (hRh js ms bx n m k cs c 0) (fun K=>(bif (decide (c≤50) && decide (k≤50)) then (bif (allN (fun i:Nat=>inR (cs i) ⟨vLo js ms bx n m k (cs i),vHi js ms bx n m k (cs i)⟩) c 0) then (K (.exit 0) ⟨[],[]⟩) else (K .ret ⟨[(6,.v (.b false))],[]⟩)) else none)))]) yJ yQ (OrL.ok (l:=[(34,o_cr [.a [.lf n (fJ js),.lf m (fM ms)],.lf c (fC cs)] (.v (.b (cErr js ms n m cs c)))),(35,o_lk [.a [.lf n (fJ js),.lf m (fM ms)],.lf k (fB bx)] (decide (k≤50)) (.v (.b (rIn js ms bx n m k)))),(23,o_rv js ms bx n m k)]) ⟨qZX (kYW js ms n m cs c),qXG (fun h=>snd_rIn js ms bx n m k (vJZ h)),jHW js ms bx n m k,trivial⟩) (fun p S hp => ?_) ?_
 ·refine uY (L:=qY T 12) (l:=[([0,1,0,1,1],jX (hRh js ms bx n m k cs c 0) (fun K=>(bif (decide (c≤50) && decide (k≤50)) then (bif (allN (fun i:Nat=>inR (cs i) ⟨vLo js ms bx n m k (cs i),vHi js ms bx n m k (cs i)⟩) c 0) then (K (.exit 0) ⟨[],[]⟩) else (K .ret ⟨[(6,.v (.b false))],[]⟩)) else none)))]) (show AllP _ [([0,1,0,1,1],jX (hRh js ms bx n m k cs c 0) (fun K=>(bif (decide (c≤50) && decide (k≤50)) then (bif (allN (fun i:Nat=>inR (cs i) ⟨vLo js ms bx n m k (cs i),vHi js ms bx n m k (cs i)⟩) c 0) then (K (.exit 0) ⟨[],[]⟩) else (K .ret ⟨[(6,.v (.b false))],[]⟩)) else none)))] from ⟨qQU fun K r hr => ?_,trivial⟩) p S hp
  ·obtain ⟨hg,hr⟩:=qH hr;rw [vQJ] at hg;have hc:=vJZ hg.1;have hk:=vJZ hg.2;exact (lpRh K js ms bx n m k cs c hc hk).trans hr
 ·refine (pxRHo js ms bx n m k cs c).trans ?_;unfold kYH;simp only [yG,g1_t,vJQ hk,vZH];cases hc:(cErr js ms n m cs c) with
  | false=>rfl
  | true =>
   have h8:=(qWW hc).2.1;simp only [vJQ (show c≤50 by omega),vZH,Bool.and_true];cases rIn js ms bx n m k <;> cases (allN (fun i:Nat=>inR (cs i) ⟨vLo js ms bx n m k (cs i),vHi js ms bx n m k (cs i)⟩) c 0) <;> rfl
theorem jXZ {js:Nat→J} {ms:Nat→Ms} {n m:Nat} {cs:Nat→Cn} {c:Nat} (h:cErr js ms n m cs c=true) {i:Nat} (hi:i < c):cErr js ms n m (fun _=>cs i) 1=true:=by
 obtain ⟨h0,h8,hh⟩:=qWW h;unfold cErr;rw [vJQ h0,vYH (show ¬ (8:Int) < ((1:Nat):Int) by decide)];show conB n (cs i) && true=true;simp only [decide_true,Bool.and_true];exact vJQ (hh i hi)
theorem vOk_of (js:Nat→J) (ms:Nat→Ms) (bx:Nat→Iv) (n m k:Nat) (cs:Nat→Cn) (c:Nat) (hc:(cErr js ms n m cs c)=true) {i:Nat} (hi:i < c):vOk js ms bx n m k (cs i)=pIn js ms bx n m k:=by
 unfold vOk;rw [jXZ hc hi,vZH]
theorem vI_of (js:Nat→J) (ms:Nat→Ms) (bx:Nat→Iv) (n m k:Nat) (cs:Nat→Cn) (c:Nat) (hc:(cErr js ms n m cs c)=true) (hp:pIn js ms bx n m k=true) {i:Nat} (hi:i < c):(⟨vLo js ms bx n m k (cs i),vHi js ms bx n m k (cs i)⟩:Iv)=vI js bx n cs i:=by
 unfold vI vLo vHi;rw [vOk_of js ms bx n m k cs c hc hi,hp];rfl
theorem hold_eq (js:Nat→J) (ms:Nat→Ms) (bx:Nat→Iv) (n m k:Nat) (cs:Nat→Cn) (c:Nat):((cErr js ms n m cs c) && (rIn js ms bx n m k && kYH js ms bx n m k cs c))=((cErr js ms n m cs c) && (pIn js ms bx n m k && yZQ cs (vI js bx n cs) c)):=by
 cases hc:(cErr js ms n m cs c) with
 | false=>rfl
 | true =>
  rw [in_eq];cases hp:pIn js ms bx n m k with
  | false=>rfl
  | true =>
   simp only [vZH];unfold kYH yZQ;exact yUK fun j _ hj=>by rw [vI_of js ms bx n m k cs c hc hp (by omega)]
theorem snd_RHo' (js:Nat→J) (ms:Nat→Ms) (bx:Nat→Iv) (n m k:Nat) (cs:Nat→Cn) (c:Nat) (hk:k≤50):zH Tryz.prog 12 [.a [.lf n (fJ js),.lf m (fM ms)],.lf c (fC cs),.lf k (fB bx)] (.v (.b ((cErr js ms n m cs c) && (pIn js ms bx n m k && yZQ cs (vI js bx n cs) c)))):=by
 have h:=snd_RHo js ms bx n m k cs c hk;rw [hold_eq] at h;exact h
end Go.Proofs.YtmffoiemmlcmfaaGreat.Nj
namespace Go.Proofs.YtmffoiemmlcmfaaGreat.Nl
open Go.Rx Rt Go.Sx Go.RowKit Od Ov Pc Na Nb Nc Nd Nx Nf Ng Nj
def fQ (q:Nat→Int):Nat→List PV:=fun v=>[.n .i64 (q v)]
def hEq (js:Nat→J) (q:Nat→Int) (n k:Nat) (i:Int):St:=⟨[(1,.v (.lf k (fQ q))),(2,.v (.f 53 [] [])),(14,.v (.lf n (fJ js))),(15,.v (.n .i64 (n:Int))),(16,.v (.n .i64 i))],[]⟩
set_option maxRecDepth 100000 in
theorem rdEq (G:St→Option (Ret × Mem)) (K:Cont) (js:Nat→J) (q:Nat→Int) (n k:Nat) (i:Int):zKJ 60 (cxF T (OrL.k ([]:OrL)) 60 52 (ntmF T 52)) (ckF T (OrL.k ([]:OrL)) 60) (qY T 52 [0,1,0,1,1]) ((cxF T (OrL.k ([]:OrL)) 60 52 (ntmF T 52)).T.hint (cxF T (OrL.k ([]:OrL)) 60 52 (ntmF T 52)).me (zY (qY T 52 [0,1,0,1,1]))) K G (hEq js q n k i) =
 (bif (decide (i < (n:Int))) then (bif (inB i n) then (bif (inB i k) then (bif (decide ((js (i).toNat).lo≤(q (i).toNat))) then (bif (decide ((q (i).toNat)≤(js (i).toNat).hi)) then (G (hEq js q n k (vJJ .i64 (i + 1))))
 else (K .ret ⟨[(6,.v (.b false))],[]⟩))
 else (K .ret ⟨[(6,.v (.b false))],[]⟩))
 else none)
 else none)
 else (K (.exit 0) ⟨[],[]⟩)):=by kernel_rfl
theorem lpEq (K:Cont) (js:Nat→J) (q:Nat→Int) (n k:Nat) (hn:n≤50) (hk:n=k):LF 60 (cxF T (OrL.k ([]:OrL)) 60 52 (ntmF T 52)) (ckF T (OrL.k ([]:OrL)) 60) (qY T 52 [0,1,0,1,1]) ((cxF T (OrL.k ([]:OrL)) 60 52 (ntmF T 52)).T.hint (cxF T (OrL.k ([]:OrL)) 60 52 (ntmF T 52)).me (zY (qY T 52 [0,1,0,1,1]))) K 60 (hEq js q n k 0)=bif (allN (fun i:Nat=>decide ((js i).lo≤q i) && decide (q i≤(js i).hi)) n 0) then (K (.exit 0) ⟨[],[]⟩) else (K .ret ⟨[(6,.v (.b false))],[]⟩):=by
 refine (zJV (c:=n) (hEq js q n k) (fun i:Nat=>decide ((js i).lo≤q i) && decide (q i≤(js i).hi)) (K (.exit 0) ⟨[],[]⟩) (fun i:Nat=>(K .ret ⟨[(6,.v (.b false))],[]⟩)) (fun G i hi => ?_) (fun G => ?_) n 0 60 (by omega) (by omega)).trans (qYJ _ _ _ _ _)
 ·refine (rdEq G K js q n k i).trans ?_;rw [vJQ (show (i:Int) < (n:Int) by omega),qQQ (by omega),yW (show i < n by omega),yW (show i < k by omega),toN];cases decide ((js i).lo≤q i) <;> cases decide (q i≤(js i).hi) <;> rfl
 ·refine (rdEq G K js q n k n).trans ?_;rw [vYH (show ¬ (n:Int) < (n:Int) by omega)];rfl
def insQ (js:Nat→J) (q:Nat→Int) (n k:Nat):Bool:=decide ((n:Int)=(k:Int)) && (allN (fun i:Nat=>decide ((js i).lo≤q i) && decide (q i≤(js i).hi)) n 0)
set_option maxRecDepth 100000 in
theorem pxeveryQ (js:Nat→J) (q:Nat→Int) (n k:Nat):qYH T (OrL.k ([]:OrL)) (zZ [([0,1,0,1,1],jX (hEq js q n k 0) (fun K=>(bif (decide ((n:Int)=(k:Int)) && decide (n≤50)) then (bif (allN (fun i:Nat=>decide ((js i).lo≤q i) && decide (q i≤(js i).hi)) n 0) then (K (.exit 0) ⟨[],[]⟩) else (K .ret ⟨[(6,.v (.b false))],[]⟩)) else none)))]) 60 52 [.lf n (fJ js),.lf k (fQ q),.f 53 [] []] =
 (bif (!decide ((n:Int)=(k:Int))) then some (.v (.b false),[])
 else (bif (gSt (hEq js q n k 0) (hEq js q n k 0)) then (bif (decide ((n:Int)=(k:Int)) && decide (n≤50)) then (bif (allN (fun i:Nat=>decide ((js i).lo≤q i) && decide (q i≤(js i).hi)) n 0) then some (.v (.b true),[])
 else some (.v (.b false),[]))
 else none)
 else none)):=by kernel_rfl
theorem snd_everyQ (js:Nat→J) (q:Nat→Int) (n k:Nat) (hn:n≤50):zH Tryz.prog 52 [.lf n (fJ js),.lf k (fQ q),.f 53 [] []] (.v (.b (insQ js q n k))):=by
 refine jV (N:=60) (LO:=zZ [([0,1,0,1,1],jX (hEq js q n k 0) (fun K=>(bif (decide ((n:Int)=(k:Int)) && decide (n≤50)) then (bif (allN (fun i:Nat=>decide ((js i).lo≤q i) && decide (q i≤(js i).hi)) n 0) then (K (.exit 0) ⟨[],[]⟩) else (K .ret ⟨[(6,.v (.b false))],[]⟩)) else none)))]) yJ yQ (OrL.ok (l:=([]:OrL)) trivial) (fun p S hp => ?_) ?_
 ·refine uY (L:=qY T 52) (l:=[([0,1,0,1,1],jX (hEq js q n k 0) (fun K=>(bif (decide ((n:Int)=(k:Int)) && decide (n≤50)) then (bif (allN (fun i:Nat=>decide ((js i).lo≤q i) && decide (q i≤(js i).hi)) n 0) then (K (.exit 0) ⟨[],[]⟩) else (K .ret ⟨[(6,.v (.b false))],[]⟩)) else none)))]) (show AllP _ [([0,1,0,1,1],jX (hEq js q n k 0) (fun K=>(bif (decide ((n:Int)=(k:Int)) && decide (n≤50)) then (bif (allN (fun i:Nat=>decide ((js i).lo≤q i) && decide (q i≤(js i).hi)) n 0) then (K (.exit 0) ⟨[],[]⟩) else (K .ret ⟨[(6,.v (.b false))],[]⟩)) else none)))] from ⟨qQU fun K r hr => ?_,trivial⟩) p S hp
  ·obtain ⟨hg,hr⟩:=qH hr;rw [vQJ] at hg;have hn:=vJZ hg.2;have hk:n=k:=by have:=vJZ hg.1; omega
   exact (lpEq K js q n k hn hk).trans hr
 ·refine (pxeveryQ js q n k).trans ?_;unfold insQ;rw [yG,vJQ hn];cases decide ((n:Int)=(k:Int)) <;> cases (allN (fun i:Nat=>decide ((js i).lo≤q i) && decide (q i≤(js i).hi)) n 0) <;> rfl
def qIn (js:Nat→J) (ms:Nat→Ms) (q:Nat→Int) (n m k:Nat):Bool:=decide (rErr js ms n m=0) && insQ js q n k
theorem jGV (js:Nat→J) (ms:Nat→Ms) (q:Nat→Int) (n m k:Nat):zH Tryz.prog 28 [.a [.lf n (fJ js),.lf m (fM ms)],.lf k (fQ q)] (.v (.b (qIn js ms q n m k))):=by
 refine qG (N:=60) yJ yQ (OrL.ok (l:=[(50,o_cr [.a [.lf n (fJ js),.lf m (fM ms)]] (.v (.n .i64 (rErr js ms n m)))),(52,o_lk [.lf n (fJ js),.lf k (fQ q),.f 53 [] []] (decide (n≤50)) (.v (.b (insQ js q n k))))]) ⟨qZX (yVQ js ms n m),qXG (fun h=>snd_everyQ js q n k (vJZ h)),trivial⟩) ?_;refine (by kernel_rfl:_=bif (g1 [.a [.lf n (fJ js),.lf m (fM ms)]]) then (bif (decide ((rErr js ms n m)=0)) then (bif (g1 [.lf n (fJ js),.lf k (fQ q),.f 53 [] []] && decide (n≤50)) then (bif (insQ js q n k) then some (.v (.b true),[])
 else some (.v (.b false),[]))
 else none)
 else some (.v (.b false),[]))
 else none).trans ?_
 unfold qIn;rw [g1_t,g1_t];by_cases h:rErr js ms n m=0
 ·have:=qXU h
  rw [vJQ h,vJQ (show n≤50 by omega)];cases insQ js q n k <;> rfl
 ·rw [vYH h]; rfl
def hRi (js:Nat→J) (ms:Nat→Ms) (q:Nat→Int) (n m k:Nat) (i:Int):St:=⟨[(1,.v (.lf k (fQ q))),(2,.p 2 0),(5,.v (.n .i64 i))],[(2,.blk [.v (.lf n (fJ js)),.v (.lf m (fM ms))])]⟩
set_option maxRecDepth 100000 in
theorem rdRi (G:St→Option (Ret × Mem)) (K:Cont) (js:Nat→J) (ms:Nat→Ms) (q:Nat→Int) (n m k:Nat) (i:Int):zKJ 60 (cxF T (OrL.k [(37,o_cr [.a [.lf n (fJ js),.lf m (fM ms)]] (.v (.n .i64 (rErr js ms n m))))]) 60 75 (ntmF T 75)) (ckF T (OrL.k [(37,o_cr [.a [.lf n (fJ js),.lf m (fM ms)]] (.v (.n .i64 (rErr js ms n m))))]) 60) (qY T 75 [0,1,0,1,1]) ((cxF T (OrL.k [(37,o_cr [.a [.lf n (fJ js),.lf m (fM ms)]] (.v (.n .i64 (rErr js ms n m))))]) 60 75 (ntmF T 75)).T.hint (cxF T (OrL.k [(37,o_cr [.a [.lf n (fJ js),.lf m (fM ms)]] (.v (.n .i64 (rErr js ms n m))))]) 60 75 (ntmF T 75)).me (zY (qY T 75 [0,1,0,1,1]))) K G (hRi js ms q n m k i) =
 (bif (decide (i < (k:Int))) then (bif (inB i k) then (bif (inB i n) then (bif (decide ((q (i).toNat) < (js (i).toNat).lo)) then (K .ret ⟨[(4,.v (.b false))],[]⟩)
 else (bif (inB i k) then (bif (inB i n) then (bif (decide ((js (i).toNat).hi < (q (i).toNat))) then (K .ret ⟨[(4,.v (.b false))],[]⟩)
 else (G (hRi js ms q n m k (vJJ .i64 (i + 1)))))
 else none)
 else none))
 else none)
 else none)
 else (K (.exit 0) ⟨[],[]⟩)):=by kernel_rfl
theorem lpRi (K:Cont) (js:Nat→J) (ms:Nat→Ms) (q:Nat→Int) (n m k:Nat) (hk:k≤50) (hn:n=k):LF 60 (cxF T (OrL.k [(37,o_cr [.a [.lf n (fJ js),.lf m (fM ms)]] (.v (.n .i64 (rErr js ms n m))))]) 60 75 (ntmF T 75)) (ckF T (OrL.k [(37,o_cr [.a [.lf n (fJ js),.lf m (fM ms)]] (.v (.n .i64 (rErr js ms n m))))]) 60) (qY T 75 [0,1,0,1,1]) ((cxF T (OrL.k [(37,o_cr [.a [.lf n (fJ js),.lf m (fM ms)]] (.v (.n .i64 (rErr js ms n m))))]) 60 75 (ntmF T 75)).T.hint (cxF T (OrL.k [(37,o_cr [.a [.lf n (fJ js),.lf m (fM ms)]] (.v (.n .i64 (rErr js ms n m))))]) 60 75 (ntmF T 75)).me (zY (qY T 75 [0,1,0,1,1]))) K 60 (hRi js ms q n m k 0)=bif (allN (fun i:Nat => !decide (q i < (js i).lo) && !decide ((js i).hi < q i)) k 0) then (K (.exit 0) ⟨[],[]⟩) else (K .ret ⟨[(4,.v (.b false))],[]⟩):=by
 refine (zJV (c:=k) (hRi js ms q n m k) (fun i:Nat => !decide (q i < (js i).lo) && !decide ((js i).hi < q i)) (K (.exit 0) ⟨[],[]⟩) (fun i:Nat=>(K .ret ⟨[(4,.v (.b false))],[]⟩)) (fun G i hi => ?_) (fun G => ?_) k 0 60 (by omega) (by omega)).trans (qYJ _ _ _ _ _)
 ·refine (rdRi G K js ms q n m k i).trans ?_;rw [vJQ (show (i:Int) < (k:Int) by omega),qQQ (by omega),yW (show i < k by omega),yW (show i < n by omega),toN];cases decide (q i < (js i).lo) <;> cases decide ((js i).hi < q i) <;> rfl
 ·refine (rdRi G K js ms q n m k k).trans ?_;rw [vYH (show ¬ (k:Int) < (k:Int) by omega)];rfl
def rqIn (js:Nat→J) (ms:Nat→Ms) (q:Nat→Int) (n m k:Nat):Bool:=decide (rErr js ms n m=0) && (decide ((k:Int)=(n:Int)) && (allN (fun i:Nat => !decide (q i < (js i).lo) && !decide ((js i).hi < q i)) k 0))
set_option maxRecDepth 100000 in
theorem pxrqIn0 (js:Nat→J) (ms:Nat→Ms) (q:Nat→Int) (n m k:Nat):qYH T (OrL.k [(37,o_cr [.a [.lf n (fJ js),.lf m (fM ms)]] (.v (.n .i64 (rErr js ms n m))))]) (zZ [([0,1,0,1,1],jX (hRi js ms q n m k 0) (fun K=>(bif (decide (k≤50) && decide (n=k)) then (bif (allN (fun i:Nat => !decide (q i < (js i).lo) && !decide ((js i).hi < q i)) k 0) then (K (.exit 0) ⟨[],[]⟩) else (K .ret ⟨[(4,.v (.b false))],[]⟩)) else none)))]) 60 75 [.a [.lf n (fJ js),.lf m (fM ms)],.lf k (fQ q)] =
 (bif (g1 [.a [.lf n (fJ js),.lf m (fM ms)]]) then (bif (!decide ((rErr js ms n m)=0)) then some (.v (.b false),[])
 else (bif (!decide ((k:Int)=(n:Int))) then some (.v (.b false),[])
 else (bif (gSt (hRi js ms q n m k 0) (hRi js ms q n m k 0)) then (bif (decide (k≤50) && decide (n=k)) then (bif (allN (fun i:Nat => !decide (q i < (js i).lo) && !decide ((js i).hi < q i)) k 0) then some (.v (.b true),[])
 else some (.v (.b false),[]))
 else none)
 else none)))
 else none):=by kernel_rfl
theorem snd_rqIn0 (js:Nat→J) (ms:Nat→Ms) (q:Nat→Int) (n m k:Nat):zH Tryz.prog 75 [.a [.lf n (fJ js),.lf m (fM ms)],.lf k (fQ q)] (.v (.b (rqIn js ms q n m k))):=by
 refine jV (N:=60) (LO:=zZ [([0,1,0,1,1],jX (hRi js ms q n m k 0) (fun K=>(bif (decide (k≤50) && decide (n=k)) then (bif (allN (fun i:Nat => !decide (q i < (js i).lo) && !decide ((js i).hi < q i)) k 0) then (K (.exit 0) ⟨[],[]⟩) else (K .ret ⟨[(4,.v (.b false))],[]⟩)) else none)))]) yJ yQ (OrL.ok (l:=[(37,o_cr [.a [.lf n (fJ js),.lf m (fM ms)]] (.v (.n .i64 (rErr js ms n m))))]) ⟨qZX (yWH js ms n m),trivial⟩) (fun p S hp => ?_) ?_
 ·refine uY (L:=qY T 75) (l:=[([0,1,0,1,1],jX (hRi js ms q n m k 0) (fun K=>(bif (decide (k≤50) && decide (n=k)) then (bif (allN (fun i:Nat => !decide (q i < (js i).lo) && !decide ((js i).hi < q i)) k 0) then (K (.exit 0) ⟨[],[]⟩) else (K .ret ⟨[(4,.v (.b false))],[]⟩)) else none)))]) (show AllP _ [([0,1,0,1,1],jX (hRi js ms q n m k 0) (fun K=>(bif (decide (k≤50) && decide (n=k)) then (bif (allN (fun i:Nat => !decide (q i < (js i).lo) && !decide ((js i).hi < q i)) k 0) then (K (.exit 0) ⟨[],[]⟩) else (K .ret ⟨[(4,.v (.b false))],[]⟩)) else none)))] from ⟨qQU fun K r hr => ?_,trivial⟩) p S hp
  ·obtain ⟨hg,hr⟩:=qH hr;rw [vQJ] at hg;have hk:=vJZ hg.1;have hn:=vJZ hg.2;exact (lpRi K js ms q n m k hk hn).trans hr
 ·refine (pxrqIn0 js ms q n m k).trans ?_;unfold rqIn;rw [g1_t];by_cases h:rErr js ms n m=0
  ·have:=qXU h
   rw [vJQ h];by_cases e:k=n
   ·subst e;rw [yG,vJQ (show k≤50 by omega),vJQ (show k=k from rfl),vJQ (show (k:Int)=(k:Int) from rfl)];cases (allN (fun i:Nat => !decide (q i < (js i).lo) && !decide ((js i).hi < q i)) k 0) <;> rfl
   ·rw [vYH (show ¬ (k:Int)=(n:Int) by omega)];rfl
  ·rw [vYH h]; rfl
theorem nlt (a b:Int):(!decide (a < b))=decide (b≤a):=by by_cases h:a < b <;> simp [h] <;> omega
theorem rqIn_eq (js:Nat→J) (ms:Nat→Ms) (q:Nat→Int) (n m k:Nat):rqIn js ms q n m k=qIn js ms q n m k:=by
 unfold rqIn qIn insQ;by_cases e:n=k
 ·subst e;simp only [nlt]
 ·rw [vYH (show ¬ (n:Int)=(k:Int) by omega),vYH (show ¬ (k:Int)=(n:Int) by omega)]; rfl
theorem jYW (js:Nat→J) (ms:Nat→Ms) (q:Nat→Int) (n m k:Nat):zH Tryz.prog 75 [.a [.lf n (fJ js),.lf m (fM ms)],.lf k (fQ q)] (.v (.b (qIn js ms q n m k))):=by
 have h:=snd_rqIn0 js ms q n m k;rw [rqIn_eq] at h;exact h
theorem qJK {js:Nat→J} {ms:Nat→Ms} {q:Nat→Int} {n m k:Nat} (h:qIn js ms q n m k=true):rErr js ms n m=0∧n=k∧∀ i,i < n→(js i).lo≤q i∧q i≤(js i).hi:=by
 unfold qIn insQ at h;simp only [vQJ,decide_eq_true_eq] at h;refine ⟨h.1,by omega,fun i hi => ?_⟩
 have:=allN_iff.1 h.2.2 i (Nat.zero_le _) (by omega)
 simpa [vQJ,decide_eq_true_eq] using this
end Go.Proofs.YtmffoiemmlcmfaaGreat.Nl
namespace Go.Rx
open Go.RowKit Go.Sx Go.ChangeShapes Go.WideShapes
inductive Sh where
 | i (k:IntKind)
 | b
 | s
 | l (row:List Sh)
inductive Fit:Sh→PV→Prop
 | i (k:IntKind) (x:Int) (h:(Lit.int k x).wf=true):Fit (.i k) (.n k x)
 | b (x:Bool):Fit .b (.b x)
 | s (x:ByteArray) (h:x.size≤maxLen):Fit .s (.s x)
 | l (row:List Sh) (n:Nat) (f:Nat→List PV) (hn:n≤maxLen) (hl:∀ j,j < n→(f j).length=row.length) (h:∀ j,j < n→∀ (i:Nat) sh p,row[i]? = some sh→(f j)[i]? = some p→Fit sh p):Fit (.l row) (.lf n f)
def kKK:List (Nat × List Sh)→Nat→Bool
 | [],_=>true
 | x :: l,a=>Nat.beq x.1 a && kKK l (a + x.2.length)
def sumL:List (List Sh)→Nat
 | []=>0
 | r :: l=>r.length + sumL l
def shT (P:Program):Nat→TypeId→Option (List Sh)
 | 0,_=>none
 | g + 1,t=>match P.underlying t with
  | some (.int k)=>some [.i k]
  | some .bool=>some [.b]
  | some .string=>some [.s]
  | some (.slice e)=>(shT P g e).bind fun r=>bif Nat.beq (P.cellsOf e) r.length && Nat.blt 0 r.length then some [.l r] else none
  | some (.array n e)=>(shT P g e).bind fun r=>bif Nat.beq (P.cellsOf e) r.length && Nat.beq (P.cellsOf t) (sumL (List.replicate n r)) then some (List.replicate n r).flatten else none
  | some (.struct fs)=>(mapO (fun f:Field=>(shT P g f.type).bind fun r=>bif Nat.beq (P.cellsOf f.type) r.length then some (f.offset,r) else none) fs.toList).bind fun l =>
    bif kKK l 0 && Nat.beq (P.cellsOf t) (sumL (l.map (·.2))) then some (l.map (·.2)).flatten else none
  | _=>none
section
variable {P:Program} {w:World} {H:Type} {enc:TypeId × Value→H}
def Good (w:World) (shs:List Sh) (cs:List Value):Prop:=∃ ps:List PV,ps.length=shs.length∧(∀ (i:Nat) sh p,shs[i]? = some sh→ps[i]? = some p→Fit sh p)∧Al (RP (fun k=>k < w.heap.size) w) ps cs∧∀ v ∈ cs,v.oneCell'=true
theorem Good.one {sh:Sh} {p:PV} {v:Value} (h1:Fit sh p) (h2:RP (fun k=>k < w.heap.size) w p v) (h3:v.oneCell'=true):Good w [sh] [v] :=
 ⟨[p],rfl,(fun i s0 q hs hq=>by
  match i with
  | 0=>cases hs; cases hq; exact h1
  | i + 1=>cases hs),qKU h2 jYY,(fun u hu=>by obtain rfl:=List.mem_singleton.1 hu; exact h3)⟩
theorem Good.cat {r s:List Sh} {cs ds:List Value} (h1:Good w r cs) (h2:Good w s ds):Good w (r ++ s) (cs ++ ds):=by
 obtain ⟨p,a1,a2,a3,a4⟩:=h1;obtain ⟨q,b1,b2,b3,b4⟩:=h2;refine ⟨p ++ q,by simp [a1,b1],fun i sh x hs hx => ?_,a3.append b3,fun v hv => ?_⟩
 ·rcases Nat.lt_or_ge i r.length with hi | hi
  ·rw [List.getElem?_append_left hi] at hs;rw [List.getElem?_append_left (by omega)] at hx;exact a2 i sh x hs hx
  ·rw [List.getElem?_append_right hi] at hs;rw [List.getElem?_append_right (by omega),a1] at hx;exact b2 _ sh x hs hx
 ·rcases List.mem_append.1 hv with h | h
  ·exact a4 v h
  ·exact b4 v h
def Pieces (w:World):List (List Sh)→List Value→Prop
 | [],cs=>cs=[]
 | r :: l,cs=>Good w r (cs.take r.length)∧Pieces w l (cs.drop r.length)
theorem Pieces.good:∀ {l:List (List Sh)} {cs:List Value},Pieces w l cs→Good w l.flatten cs
 | [],cs,h=>by
  have:cs=[]:=h
  subst this;exact ⟨[],rfl,fun i sh p hs=>by simp at hs,jYY,fun v hv=>by cases hv⟩
 | r :: l,cs,h=>by
  have:=Good.cat h.1 h.2.good
  rw [List.take_append_drop] at this;exact this
theorem pieces_arr {r:List Sh}:∀ (n:Nat) (cs:List Value),cs.length=sumL (List.replicate n r)→(∀ i,i < n→Good w r ((cs.drop (i * r.length)).take r.length))→Pieces w (List.replicate n r) cs
 | 0,cs,hl,_=>by
  have:cs.length=0:=hl
  exact List.length_eq_zero_iff.1 this
 | n + 1,cs,hl,h=>by
  have hl':cs.length=r.length + sumL (List.replicate n r):=hl;refine ⟨by have:=h 0 (by omega); simpa using this,pieces_arr n _ (by rw [List.length_drop]; omega) fun i hi => ?_⟩
  have:=h (i + 1) (by omega)
  rw [List.drop_drop];rw [show r.length + i * r.length=(i + 1) * r.length by rw [Nat.add_mul]; omega];exact this
theorem pieces_str:∀ (l:List (Nat × List Sh)) (a:Nat) (cs:List Value),kKK l a=true→(cs.drop a).length=sumL (l.map (·.2))→(∀ x ∈ l,Good w x.2 ((cs.drop x.1).take x.2.length))→Pieces w (l.map (·.2)) (cs.drop a)
 | [],a,cs,_,hl,_=>List.length_eq_zero_iff.1 hl
 | x :: l,a,cs,hc,hl,h=>by
  simp only [kKK,vQJ] at hc;have e:=vQX hc.1;have hl':(cs.drop a).length=x.2.length + sumL (l.map (·.2)):=hl;rw [List.length_drop] at hl';have h0:=h x vZQ;rw [e] at h0;refine ⟨h0,?_⟩;show Pieces w (l.map (·.2)) ((cs.drop a).drop x.2.length);rw [List.drop_drop];exact pieces_str l (a + x.2.length) cs hc.2 (by rw [List.length_drop]; omega) fun y hy=>h y (vQH _ hy)
theorem jYK {sp:Nat→Bool} {held:Bool}:∀ (fuel:Nat) (t:TypeId) (cs:List Value) (x:DataW H × List MemPlace) (g:Nat) (shs:List Sh),DataW.trod enc P w 0 sp held fuel t cs=some x→shT P g t=some shs→Good w shs cs
 | 0,t,cs,x,g,shs,h,_=>by simp [DataW.trod] at h
 | fuel + 1,t,cs,x,0,shs,h,hs=>by cases hs
 | fuel + 1,t,cs,x,g + 1,shs,h,hs=>by
  unfold shT at hs;split at hs
  ·rename_i k hu;cases hs;obtain ⟨n,rfl,_,hwf⟩:=DataW.trod_int hu h;exact Good.one (.i _ _ hwf) (.n _ _) rfl
  ·rename_i hu;cases hs;obtain ⟨b,rfl,_⟩:=DataW.trod_bool hu h;exact Good.one (.b _) (.b _) rfl
  ·rename_i hu;cases hs;obtain ⟨s,rfl,_,hs⟩:=DataW.trod_string hu h;exact Good.one (.s _ hs) (.s _) rfl
  ·rename_i e hu;simp only [vQQ] at hs;obtain ⟨r,hr,hs⟩:=hs;obtain ⟨hb,hs⟩:=qH hs;cases hs;simp only [vQJ,Nat.blt_eq] at hb;have hk:=vQX hb.1;have hr0:=hb.2;rcases DataW.trod_slice hu h with ⟨rfl,_⟩ | ⟨a,len,cap,elems,rest,n,hf,rfl,_,_,hl,hm,hel,hcell,_,_⟩
   ·exact Good.one (.l r 0 (fun _=>[]) (Nat.zero_le _) (fun j hj=>by omega) (fun j hj=>by omega)) (.lf 0 _ _ (.l0 _ _)) rfl
   ·obtain rfl:n=fuel:=by omega
    have each:∀ i,∃ y:List PV × List Value,i < len→w.cells? 0 (a.add (i * r.length)) r.length=some y.2∧y.1.length=r.length∧(∀ (j:Nat) sh p,r[j]? = some sh→y.1[j]? = some p→Fit sh p)∧Al (RP (fun k=>k < w.heap.size) w) y.1 y.2∧∀ v ∈ y.2,v.oneCell'=true:=fun i=>by
     by_cases hi:i < len
     ·have hc:=hcell i hi;have he:elems[i]? = some (elems[i]'(by omega)):=vQK (by omega);rw [he,vQQ] at hc;obtain ⟨cs',h1,h2⟩:=hc;rw [hk] at h1;obtain ⟨ps,b1,b2,b3,b4⟩:=jYK n e cs' _ g r h2 hr;exact ⟨(ps,cs'),fun _=>⟨h1,b1,b2,b3,b4⟩⟩
     ·exact ⟨([],[]),fun h=>absurd h hi⟩
    obtain ⟨f,hf2⟩:=Classical.axiomOfChoice each;refine Good.one (.l r len (fun j=>(f j).1) (by omega) (fun j hj=>(hf2 j hj).2.1) (fun j hj=>(hf2 j hj).2.2.1)) (.lf len _ _ ?_) rfl;rcases Nat.eq_zero_or_pos len with h0 | hpos
    ·subst h0;exact .l0 _ _
    ·have hsome:∀ j t,j < len→t < r.length→w.cell? ((a.add (j * r.length)).add t)=(f j).2[t]?:=fun j t hj ht=>(World.cells?_some (hf2 j hj).1).2.2 t ht
     have hlen2:∀ j,j < len→(f j).2.length=r.length:=fun j hj=>(World.cells?_some (hf2 j hj).1).2.1
     have h00:=hsome 0 0 hpos hr0;have hg:(f 0).2[0]? = some ((f 0).2[0]'(by rw [hlen2 0 hpos]; exact hr0)):=vQK _;rw [hg] at h00;have hsp:a.spot=none:=by
      have e:(a.add (0 * r.length)).add 0=a:=by simp [Addr.add]
      rw [e] at h00;unfold World.cell? at h00;cases hb:w.heap[a.block]? with
      | none=>simp [hb] at h00
      | some o=>cases o <;> simp [hb] at h00; exact h00.1
     obtain ⟨bb,off,sp'⟩:=a;simp only at hsp;subst hsp;have hbb:bb < w.heap.size:=by
      rw [qXJ,qXJ] at h00;unfold World.cell? at h00;cases hb:w.heap[bb]? with
      | none=>simp [hb] at h00
      | some o=>exact qQV hb
     refine .l _ bb off len cap r.length (fun j t=>((f j).2[t]?).getD (.bool false)) (by simp) hl (fun q hq => ?_) hbb (fun j t hj ht => ?_) (fun j q t p hq hp => ?_)
     ·obtain ⟨j,hj,rfl⟩:=List.mem_map.1 hq;exact (hf2 j (List.mem_range.1 hj)).2.1
     ·have h1:=hsome j t hj ht;have hg2:(f j).2[t]? = some ((f j).2[t]'(by rw [hlen2 j hj]; exact ht)):=vQK _;rw [qXJ,qXJ,hg2,Nat.add_assoc] at h1;rw [hg2];exact ⟨h1,(hf2 j hj).2.2.2.2 _ (List.getElem_mem _)⟩
     ·have hj:j < len:=by have:=(List.getElem?_eq_some_iff.1 hq).1; simpa using this
      rw [vZY,List.getElem?_range hj] at hq;cases hq;have htl:=(List.getElem?_eq_some_iff.1 hp).1;have hg2:(f j).2[t]? = some ((f j).2[t]'(by rw [hlen2 j hj,← (hf2 j hj).2.1]; exact htl)):=vQK _
      have:=(hf2 j hj).2.2.2.1.2 t p _ hp hg2
      rw [hg2];exact this
  ·rename_i n e hu;simp only [vQQ] at hs;obtain ⟨r,hr,hs⟩:=hs;obtain ⟨hb,hs⟩:=qH hs;cases hs;simp only [vQJ] at hb;have hk:=vQX hb.1;have hk2:=vQX hb.2;obtain ⟨xs,m,hf,_,hl,hxl,hall⟩:=DataW.trod_array hu h;obtain rfl:m=fuel:=by omega
   refine (pieces_arr n cs (hl.trans hk2) fun i hi => ?_).good;have h1:=hall i hi;have he:xs[i]? = some (xs[i]'(by omega)):=vQK (by omega);rw [he,hk] at h1;exact jYK m e _ _ g r h1 hr
  ·rename_i fs hu;simp only [vQQ] at hs;obtain ⟨l,hlm,hs⟩:=hs;obtain ⟨hb,hs⟩:=qH hs;cases hs;simp only [vQJ] at hb;have hk2:=vQX hb.2;obtain ⟨xs,m,hf,_,hl,hxl,hall⟩:=DataW.trod_struct hu h;obtain rfl:m=fuel:=by omega
   have hm:=kW hlm
   have:=pieces_str (w:=w) l 0 cs hb.1 (by rw [vYW]; exact hl.trans hk2) fun y hy=>by
    obtain ⟨i,hi⟩:=List.mem_iff_getElem?.1 hy;have hil:=(List.getElem?_eq_some_iff.1 hi).1;have hl2:i < fs.toList.length:=by rw [hm.1]; exact hil
    have hfi:fs.toList[i]? = some (fs.toList[i]'hl2):=vQK hl2;have h1:=hm.2 i _ y hfi hi;generalize fs.toList[i]'hl2=fd at hfi h1;simp only [vQQ] at h1;obtain ⟨r,hr,h1⟩:=h1;obtain ⟨hb1,h1⟩:=qH h1;cases h1;have hk:=vQX hb1;have h2:=hall i fd (by simpa using hfi);have he:xs[i]? = some (xs[i]'(by simp at hxl hl2; omega)):=vQK _;rw [he,hk] at h2;exact jYK m fd.type _ _ g r h2 hr
   rw [vYW] at this;exact this.good
  ·cases hs
end
end Go.Rx
namespace Go.Rx
open Go.RowKit Go.Sx Go.ChangeShapes Go.WideShapes
section
variable {P:Program} {W:World} {H:Type} {enc:TypeId × Value→H}
def Fits (row:List Sh) (ps:List PV):Prop:=ps.length=row.length∧∀ (i:Nat) sh p,row[i]? = some sh→ps[i]? = some p→Fit sh p
theorem Fits.cons {s0:Sh} {row:List Sh} {ps:List PV} (h:Fits (s0 :: row) ps):∃ p qs,ps=p :: qs∧Fit s0 p∧Fits row qs:=by
 cases ps with
 | nil=>have:=h.1; simp at this
 | cons p qs=>exact ⟨p,qs,rfl,h.2 0 s0 p rfl rfl,by have:=h.1; simpa using this,fun i sh q h1 h2=>h.2 (i + 1) sh q h1 h2⟩
theorem Fits.nil {ps:List PV} (h:Fits [] ps):ps=[]:=List.eq_nil_of_length_eq_zero h.1
theorem Fit.int {k:IntKind} {p:PV} (h:Fit (.i k) p):∃ x,p=.n k x∧(Lit.int k x).wf=true:=by cases h with | i k x h=>exact ⟨x,rfl,h⟩
theorem Fit.str {p:PV} (h:Fit .s p):∃ x,p=.s x:=by cases h with | s x h=>exact ⟨x,rfl⟩
theorem Fit.bool {p:PV} (h:Fit .b p):∃ x,p=.b x:=by cases h with | b x=>exact ⟨x,rfl⟩
theorem Fit.slc {row:List Sh} {p:PV} (h:Fit (.l row) p):∃ n f,p=.lf n f∧∀ j,j < n→Fits row (f j):=by
 cases h with
 | l row n f hn hl h=>exact ⟨n,f,rfl,fun j hj=>⟨hl j hj,h j hj⟩⟩
theorem open_good {t:TypeId} {v:Value} {d:DataW H} {p:List MemPlace} {g:Nat} {shs:List Sh} (h:DataW.Trod enc P W 0 (fun _=>true) true t v d p) (hs:shT P g t=some shs):Good W shs v.cells.toList:=by
 obtain ⟨fuel,h⟩:=h;exact jYK fuel t _ _ g shs h hs
theorem open_slc {t e:TypeId} {v:Value} {d:DataW H} {p:List MemPlace} {g:Nat} {row:List Sh} (ht:P.underlying t=some (.slice e)) {r:Reach} {base:Nat} (hv:Value.okWide P W r base t v)
  (h:DataW.Trod enc P W 0 (fun _=>true) true t v d p) (hs:shT P g t=some [.l row]):∃ n f,RP (fun k=>k < W.heap.size) W (.lf n f) v∧∀ j,j < n→Fits row (f j):=by
 obtain ⟨a,l,c,rfl⟩:=slice_of ht hv;obtain ⟨ps,h1,h2,h3,_⟩:=open_good h hs;obtain ⟨q,qs,rfl,hf,hq⟩:=Fits.cons ⟨h1,h2⟩;obtain ⟨n,f,rfl,hr⟩:=hf.slc;exact ⟨n,f,h3.2 0 _ _ rfl rfl,hr⟩
theorem open_str {t:TypeId} {fs:Array Field} {v:Value} {d:DataW H} {p:List MemPlace} {g:Nat} {row:List Sh} (ht:P.underlying t=some (.struct fs)) {r:Reach} {base:Nat} (hv:Value.okWide P W r base t v)
  (h:DataW.Trod enc P W 0 (fun _=>true) true t v d p) (hs:shT P g t=some row):∃ ps,RP (fun k=>k < W.heap.size) W (.a ps) v∧Fits row ps:=by
 have hcs:∃ cs,v=.agg cs:=by
  unfold Value.okWide at hv;cases v <;> simp [ht] at hv
  exact ⟨_,rfl⟩
 obtain ⟨cs,rfl⟩:=hcs;obtain ⟨ps,h1,h2,h3,h4⟩:=open_good h hs;exact ⟨ps,.a ps cs.toList h3.1 h4 h3.2,h1,h2⟩
theorem lf_fn {α:Type} {F:Nat→Prop} {w:World} {n:Nat} {f:Nat→List PV} {v:Value} {enc:α→List PV} {row:List Sh} (a0:α) (hr:∀ ps,Fits row ps→∃ a,ps=enc a) (hf:∀ j,j < n→Fits row (f j)) (h:RP F w (.lf n f) v) :
  ∃ g:Nat→α,RP F w (.lf n fun j=>enc (g j)) v:=by
 have each:∀ j,∃ a:α,j < n→f j=enc a:=fun j=>by
  by_cases hj:j < n
  ·obtain ⟨a,ha⟩:=hr _ (hf j hj);exact ⟨a,fun _=>ha⟩
  ·exact ⟨a0,fun h=>absurd h hj⟩
 obtain ⟨g,hg⟩:=Classical.axiomOfChoice each;refine ⟨g,jHY ?_ (yYH rfl h)⟩;exact List.map_congr_left fun j hj=>hg j (List.mem_range.1 hj)
theorem zQJ {n:Nat} {f g:Nat→List PV} (h:∀ j,j < n→f j=g j):Same (.lf n f) (.lf n g):=fun F w v hv =>
 jHY (List.map_congr_left fun j hj=>h j (List.mem_range.1 hj)) (yYH rfl hv)
end
end Go.Rx
namespace Go.Rx
open Go.RowKit Go.Sx
def qGY (N:Nat) (C:Cx) (x:Code) (S:qKX):Prop:=∀ (K K':Cont) (K0:Ret × Mem→Option (Ret × Mem)) (σ:St) (r:Ret × Mem),(∀ e τ,K e τ=some r→Gets K0 r (K' e τ))→S (qGJ (C.T.hint C.me (zY x)) σ) K=some r →
 Gets K0 r (yKX (fun again σ=>runC N C x (fun e σ=>match e with
   | .normal=>again σ
   | e=>K' e (qUU (C.T.hint C.me (zY x)) σ)) (qGJ (C.T.hint C.me (zY x)) σ)) N σ)
section
variable {C:Cx} {cK:qVK} {r:Ret × Mem} {K0:Ret × Mem→Option (Ret × Mem)}
theorem qUK {N:Nat} {LO:List Nat→Option qKX} {B:Code} (hc:SndK C cK) (hL:∀ p S,LO p=some S→qGY N C (qGK 0 (qXX B p)) S):∀ (c:Code) (p:List Nat) {K K':Cont} (hp:qXX B p=c) (hK:∀ e σ,K e σ=some r→Gets K0 r (K' e σ)) (σ:St),yQQ N C cK LO c p K σ=some r→Gets K0 r (runC N C c K' σ)
 | .skip,p,K,K',hp,hK,σ,h=>hK _ _ h
 | .label _,p,K,K',hp,hK,σ,h=>hK _ _ h
 | .scope x,p,K,K',hp,hK,σ,h=>qUK hc hL x (0 :: p) (by simp only [qXX,hp,qGK]) hK σ h
 | .ret,p,K,K',hp,hK,σ,h=>hK _ _ h
 | .exit id,p,K,K',hp,hK,σ,h=>hK _ _ h
 | .region id ops d,p,K,K',hp,hK,σ,h=>by
  cases d with
  | true=>exact zQV hc (hK .normal) _ _ _ _ h
  | false=>exact zYV hc (hK .normal) _ _ h
 | .seq x y,p,K,K',hp,hK,σ,h=>by
  refine qUK hc hL x (0 :: p) (by simp only [qXX,hp,qGK]) (fun e τ hk => ?_) σ h;cases e with
  | normal=>exact qUK hc hL y (1 :: p) (by simp only [qXX,hp,qGK]) hK τ hk
  | _=>exact hK _ _ hk
 | .cond c x y,p,K,K',hp,hK,σ,h=>by
  simp only [yQQ,vQQ] at h;obtain ⟨v,hv,h⟩:=h;simp only [runC,hv,vYQ];split at h
  ·rename_i t;cases t with
   | true=>exact qUK hc hL x (0 :: p) (by simp only [qXX,hp,qGK]) hK σ h
   | false=>exact qUK hc hL y (1 :: p) (by simp only [qXX,hp,qGK]) hK σ h
  ·cases h
 | .block id x,p,K,K',hp,hK,σ,h=>by
  refine qUK hc hL x (0 :: p) (by simp only [qXX,hp,qGK]) (fun e τ hk => ?_) σ h;cases e with
  | exit id' =>
   simp only at hk ⊢;cases hb:Nat.beq id' id with
   | true=>rw [hb] at hk; exact hK _ _ hk
   | false=>rw [hb] at hk; exact hK _ _ hk
  | _=>exact hK _ _ hk
 | .loop x,p,K,K',hp,hK,σ,h=>by
  simp only [yQQ] at h;simp only [runC];cases hS:LO p with
  | none =>
   rw [hS] at h;refine zVJ (fun a a' ha τ hs => ?_) N σ h;refine qKG hc x (fun e υ hk => ?_) _ hs;cases e with
   | normal=>exact ha _ hk
   | _=>exact hK _ _ hk
  | some S =>
   rw [hS] at h
   have:=hL p S hS
   rw [hp] at this;exact this K K' K0 σ r hK h
 | .rangeFunc ..,p,K,K',hp,hK,σ,h=>by cases h
 | .goto _,p,K,K',hp,hK,σ,h=>by cases h
 | .refuse _,p,K,K',hp,hK,σ,h=>by cases h
end
def qZW (N:Nat) (C:Cx) (cK:qVK) (LO:List Nat→Option qKX) (x:Code) (p:List Nat) (h:Hint) (K:Cont) (G:St→Option (Ret × Mem)) (σ:St):Option (Ret × Mem):=yQQ N C cK LO x (0 :: p) (fun e τ=>match e with
 | .normal=>G (qGJ h τ)
 | e=>K e (qUU h τ)) σ
def LFL (N:Nat) (C:Cx) (cK:qVK) (LO:List Nat→Option qKX) (x:Code) (p:List Nat) (h:Hint) (K:Cont):Nat→St→Option (Ret × Mem)
 | 0,_=>none
 | n + 1,σ=>qZW N C cK LO x p h K (LFL N C cK LO x p h K n) σ
theorem LFL_get {N:Nat} {C:Cx} {cK:qVK} {LO:List Nat→Option qKX} {B x:Code} {p:List Nat} {K K':Cont} {K0:Ret × Mem→Option (Ret × Mem)} {r:Ret × Mem} (hc:SndK C cK) (hL:∀ p S,LO p=some S→qGY N C (qGK 0 (qXX B p)) S) (hx:qXX B (0 :: p)=x)
  (hK:∀ e τ,K e τ=some r→Gets K0 r (K' e τ)):∀ (n:Nat) (σ:St),LFL N C cK LO x p (C.T.hint C.me (zY x)) K n (qGJ (C.T.hint C.me (zY x)) σ)=some r→Gets K0 r (yKX (fun again σ=>runC N C x (fun e σ=>match e with
   | .normal=>again σ
   | e=>K' e (qUU (C.T.hint C.me (zY x)) σ)) (qGJ (C.T.hint C.me (zY x)) σ)) n σ)
 | 0,σ,h=>by cases h
 | n + 1,σ,h=>by
  simp only [LFL,qZW] at h;simp only [yKX];refine qUK hc hL x (0 :: p) hx (fun e τ hk => ?_) _ h;cases e with
  | normal=>exact LFL_get hc hL hx hK n τ hk
  | _=>exact hK _ _ hk
theorem loopOk2_of {N:Nat} {C:Cx} {cK:qVK} {LO:List Nat→Option qKX} {B x:Code} {p:List Nat} {S:qKX} (hc:SndK C cK) (hL:∀ p S,LO p=some S→qGY N C (qGK 0 (qXX B p)) S) (hx:qXX B (0 :: p)=x)
  (hS:∀ K σ r,S σ K=some r→LFL N C cK LO x p (C.T.hint C.me (zY x)) K N σ=some r):qGY N C x S:=fun K _ _ σ r hK h =>
 LFL_get hc hL hx hK N σ (hS K _ r h)
theorem kV {N:Nat} {C:Cx} {L:List Nat→Code}:∀ {l:List (List Nat × qKX)},AllP (fun x:List Nat × qKX=>qGY N C (L x.1) x.2) l→∀ p S,zZ l p=some S→qGY N C (L p) S
 | [],_,p,S,h=>by cases h
 | x :: xs,hl,p,S,h=>by
  simp only [zZ] at h;cases hb:jZV x.1 p with
  | true =>
   rw [hb] at h;simp only [vYV,vQZ] at h;subst h
   have:=yVV hb
   subst this;exact hl.1
  | false =>
   rw [hb] at h;exact kV hl.2 p S h
theorem kX {P:Program} {T:Tab} {ok:OrK} {LO:List Nat→Option qKX} {N f:Nat} {ps:List PV} {r:Ret} (hT:TabOk P T) (hm:P.follows .mixedOrders=true) (hO:ok.Ok P)
  (hL:∀ p S,LO p=some S→qGY N (cxF T ok N f (ntmF T f)) (qY T f p) S) (h:qYH T ok LO N f ps=some (r,[])):zH P f ps r:=by
 refine zXW (N:=N + 1) hT hm hO.orc ?_;unfold qYH at h;split at h
 ·cases h
 ·rename_i fi hfi;obtain ⟨hb,h⟩:=qH h;obtain ⟨q,h1,h2⟩:=qUK (K0:=fun q=>some (q.1,[])) (K':=endK T [] fi.results) (B:=jQX T f) kYQ hL (jQX T f) [] rfl (fun e σ hk=>by
   simp only [vQQ] at hk;exact hk) _ h
  cases h2;have eb:jQX T f=fi.body:=by unfold jQX; rw [hfi]
  have en:ntmF T f=fi.ntmps:=by unfold ntmF; rw [hfi]
  rw [eb,en] at h1;unfold run;simp only [runF,hfi,hb,vYV];unfold cxF at h1;rw [h1];rfl
noncomputable def sumF {τ:Type} (hd:τ→St) (ex:St→τ) (R:τ→Cont→Option (Ret × Mem)):qKX:=fun σ K=>bif gSt σ (hd (ex σ)) then R (ex σ) K else none
theorem qZH {N:Nat} {T:Tab} {ok:OrK} {f:Nat} {LO:List Nat→Option qKX} {p:List Nat} {τ:Type} {hd:τ→St} {ex:St→τ} {R:τ→Cont→Option (Ret × Mem)}
  (hL:∀ p S,LO p=some S→qGY N (cxF T ok N f (ntmF T f)) (qY T f p) S)
  (h:∀ s K r,R s K=some r→LFL N (cxF T ok N f (ntmF T f)) (ckF T ok N) LO (qY T f p) p (T.hint f (zY (qY T f p))) K N (hd s)=some r):qGY N (cxF T ok N f (ntmF T f)) (qY T f p) (sumF hd ex R) :=
 loopOk2_of (B:=jQX T f) (cK:=ckF T ok N) kYQ hL rfl fun K σ r hr=>by
  unfold sumF at hr;obtain ⟨hg,hq⟩:=qH hr;have e:=gSt_eq hg
  have:=h (ex σ) K r hq
  rw [← e] at this;exact this
theorem qJG {N:Nat} {C:Cx} {L:List Nat→Code}:∀ p S,zZ [] p=some S→qGY N C (L p) S:=fun p S h=>by cases h
def yQG {τ υ:Type} (dec:τ→τ ⊕ υ):Nat→τ→Option υ
 | 0,_=>none
 | n + 1,s=>match dec s with
  | .inl s'=>yQG dec n s'
  | .inr y=>some y
theorem jWG {τ υ β:Type} {L:Nat→St→Option β} {stp:(St→Option β)→St→Option β} (hs:∀ n s,L (n + 1) s=stp (L n) s) (h0:∀ s,L 0 s=none) (hd:τ→St) (Inv:τ→Prop) (dec:τ→τ ⊕ υ) (KX:υ→Option β)
  (r1:∀ G s,Inv s→stp G (hd s)=match dec s with | .inl s'=>G (hd s') | .inr y=>KX y) (hi:∀ s s',Inv s→dec s=.inl s'→Inv s'):∀ n s,Inv s→L n (hd s)=(yQG dec n s).bind KX
 | 0,s,_=>by rw [h0]; rfl
 | n + 1,s,h=>by
  rw [hs,r1 _ s h,yQG];cases hd':dec s with
  | inl s'=>exact jWG hs h0 hd Inv dec KX r1 hi n s' (hi s s' h hd')
  | inr y=>rfl
def runS {τ β:Type} (good:Nat→τ→Bool) (nx:Nat→τ→τ) (KX:τ→β) (KR:Nat→τ→β):Nat→Nat→τ→β
 | 0,_,s=>KX s
 | k + 1,p,s=>bif good p s then runS good nx KX KR k (p + 1) (nx p s) else KR p s
theorem qWK {τ β:Type} {L:Nat→St→Option β} {stp:(St→Option β)→St→Option β} (hs:∀ n s,L (n + 1) s=stp (L n) s) (hd:Nat→τ→St) (Inv:Nat→τ→Prop) (good:Nat→τ→Bool) (nx:Nat→τ→τ) {c:Nat} (KX:τ→Option β) (KR:Nat→τ→Option β)
  (r1:∀ G i s,i < c→Inv i s→stp G (hd i s)=bif good i s then G (hd (i + 1) (nx i s)) else KR i s) (hi:∀ i s,i < c→Inv i s→good i s=true→Inv (i + 1) (nx i s))
  (r2:∀ G s,Inv c s→stp G (hd c s)=KX s):∀ k p q s,p + k=c→k < q→Inv p s→L q (hd p s)=runS good nx KX KR k p s
 | 0,p,q + 1,s,hp,_,hv=>by
  have e:p=c:=by omega
  subst e;rw [hs,r2 _ s hv]; rfl
 | k + 1,p,q + 1,s,hp,hq,hv=>by
  rw [hs,r1 _ p s (by omega) hv];simp only [runS];cases hg:good p s with
  | true=>exact qWK hs hd Inv good nx KX KR r1 hi r2 k (p + 1) q (nx p s) (by omega) (by omega) (hi p s (by omega) hv hg)
  | false=>rfl
theorem yXJ {τ β:Type} {good:Nat→τ→Bool} {nx:Nat→τ→τ} {KX:τ→β} {KR:Nat→τ→β} {f:Nat→τ}:∀ k p,(∀ i,p≤i→i < p + k→nx i (f i)=f (i + 1))→(∀ i,p≤i→i < p + k→good i (f i)=true)→runS good nx KX KR k p (f p)=KX (f (p + k))
 | 0,_,_,_=>rfl
 | k + 1,p,h,hg=>by
  simp only [runS,hg p (Nat.le_refl _) (by omega),h p (Nat.le_refl _) (by omega),vYV];rw [yXJ k (p + 1) (fun i h1 h2=>h i (by omega) (by omega)) (fun i h1 h2=>hg i (by omega) (by omega)),show p + 1 + k=p + (k + 1) by omega]
def zXJ (g:Nat→List PV):Nat→Nat→(Nat→List PV)→Nat→List PV
 | 0,_,f=>f
 | k + 1,p,f=>zXJ g k (p + 1) fun v=>qJQ (Nat.beq v p) (g p) (f v)
theorem yZY (g:Nat→List PV):∀ (k p:Nat) (f:Nat→List PV) (v:Nat),zXJ g k p f v=if p≤v∧v < p + k then g v else f v
 | 0,p,f,v=>by rw [zXJ,if_neg (by omega)]
 | k + 1,p,f,v=>by
  rw [zXJ,yZY g k (p + 1),qJY,zHX];by_cases h:v=p
  ·subst h;rw [if_neg (by omega),if_pos (by omega),vJQ rfl]; rfl
  ·rw [vYH h,vYG];by_cases h2:p + 1≤v∧v < p + 1 + k
   ·rw [if_pos h2,if_pos (by omega)]
   ·rw [if_neg h2,if_neg (by omega)]
theorem zHH {β:Type} {g:Nat→List PV} {KX:(Nat→List PV)→β} {KR:Nat→(Nat→List PV)→β}:∀ k p f,runS (fun _ _=>true) (fun i f v=>qJQ (Nat.beq v i) (g i) (f v)) KX KR k p f=KX (zXJ g k p f)
 | 0,_,_=>rfl
 | k + 1,p,f=>by
  simp only [runS,vYV];exact zHH k (p + 1) _
theorem same_fill {n:Nat} {g f:Nat→List PV}:Same (.lf n (zXJ g n 0 f)) (.lf n g):=zQJ fun j hj=>by rw [yZY,if_pos (by omega)]
end Go.Rx
namespace Go.Proofs.YtmffoiemmlcmfaaGreat.Nm
open Go.Rx Rt Go.Sx Go.RowKit Od Ov Pc Na Nb Nc Nd Nx Nf Ng Nj Nl
def hSx (q:Nat→Int) (k:Nat) (i:Int):St:=⟨[(0,.v (.lf k (fQ q))),(1,.v (.f 91 [] [])),(7,.v (.n .i64 (k:Int))),(8,.v (.n .i64 i))],[]⟩
set_option maxRecDepth 100000 in
theorem rdSx (G:St→Option (Ret × Mem)) (K:Cont) (q:Nat→Int) (k:Nat) (i:Int):zKJ 60 (cxF T (OrL.k ([]:OrL)) 60 127 (ntmF T 127)) (ckF T (OrL.k ([]:OrL)) 60) (qY T 127 [0,1,0,1]) ((cxF T (OrL.k ([]:OrL)) 60 127 (ntmF T 127)).T.hint (cxF T (OrL.k ([]:OrL)) 60 127 (ntmF T 127)).me (zY (qY T 127 [0,1,0,1]))) K G (hSx q k i) =
 (bif (decide (i < (k:Int))) then (bif (inB i k) then (bif (decide ((q (i).toNat) < (-2147483648))) then (K .ret ⟨[(4,.v (.n .i64 i))],[]⟩)
 else (bif (decide (2147483648 < (q (i).toNat))) then (K .ret ⟨[(4,.v (.n .i64 i))],[]⟩)
 else (G (hSx q k (vJJ .i64 (i + 1))))))
 else none)
 else (K (.exit 0) ⟨[],[]⟩)):=by kernel_rfl
theorem lpSx (K:Cont) (q:Nat→Int) (k:Nat) (hk:k≤50):LF 60 (cxF T (OrL.k ([]:OrL)) 60 127 (ntmF T 127)) (ckF T (OrL.k ([]:OrL)) 60) (qY T 127 [0,1,0,1]) ((cxF T (OrL.k ([]:OrL)) 60 127 (ntmF T 127)).T.hint (cxF T (OrL.k ([]:OrL)) 60 127 (ntmF T 127)).me (zY (qY T 127 [0,1,0,1]))) K 60 (hSx q k 0)=bif (allN (fun i:Nat => !decide (q i < -2147483648) && !decide (2147483648 < q i)) k 0) then (K (.exit 0) ⟨[],[]⟩) else (K .ret ⟨[(4,.v (.n .i64 ((uX (fun i:Nat => !decide (q i < -2147483648) && !decide (2147483648 < q i)) k 0:Nat):Int)))],[]⟩):=by
 refine (zJV (c:=k) (hSx q k) (fun i:Nat => !decide (q i < -2147483648) && !decide (2147483648 < q i)) (K (.exit 0) ⟨[],[]⟩) (fun i:Nat=>(K .ret ⟨[(4,.v (.n .i64 (i:Int)))],[]⟩)) (fun G i hi => ?_) (fun G => ?_) k 0 60 (by omega) (by omega)).trans (zXV _ _ _ _ _)
 ·refine (rdSx G K q k i).trans ?_;rw [vJQ (show (i:Int) < (k:Int) by omega),qQQ (by omega),yW (show i < k by omega),toN];cases decide (q i < -2147483648) <;> cases decide (2147483648 < q i) <;> rfl
 ·refine (rdSx G K q k k).trans ?_;rw [vYH (show ¬ (k:Int) < (k:Int) by omega)];rfl
def smQ (q:Nat→Int) (k:Nat):Bool:=(allN (fun i:Nat => !decide (q i < -2147483648) && !decide (2147483648 < q i)) k 0)
set_option maxRecDepth 100000 in
theorem pxsidx (q:Nat→Int) (k:Nat):qYH T (OrL.k ([]:OrL)) (zZ [([0,1,0,1],jX (hSx q k 0) (fun K=>(bif (decide (k≤50)) then (bif (allN (fun i:Nat => !decide (q i < -2147483648) && !decide (2147483648 < q i)) k 0) then (K (.exit 0) ⟨[],[]⟩) else (K .ret ⟨[(4,.v (.n .i64 ((uX (fun i:Nat => !decide (q i < -2147483648) && !decide (2147483648 < q i)) k 0:Nat):Int)))],[]⟩)) else none)))]) 60 127 [.lf k (fQ q),.f 91 [] []] =
 (bif (gSt (hSx q k 0) (hSx q k 0)) then (bif (decide (k≤50)) then (bif (allN (fun i:Nat => !decide (q i < -2147483648) && !decide (2147483648 < q i)) k 0) then some (.v (.n .i64 (-1)),[])
 else some (.v (.n .i64 ((uX (fun i:Nat => !decide (q i < -2147483648) && !decide (2147483648 < q i)) k 0:Nat):Int)),[]))
 else none)
 else none):=by kernel_rfl
theorem snd_sidx (q:Nat→Int) (k:Nat) (hk:k≤50):zH Tryz.prog 127 [.lf k (fQ q),.f 91 [] []] (.v (.n .i64 (bif smQ q k then -1 else ((uX (fun i:Nat => !decide (q i < -2147483648) && !decide (2147483648 < q i)) k 0:Nat):Int)))):=by
 refine jV (N:=60) (LO:=zZ [([0,1,0,1],jX (hSx q k 0) (fun K=>(bif (decide (k≤50)) then (bif (allN (fun i:Nat => !decide (q i < -2147483648) && !decide (2147483648 < q i)) k 0) then (K (.exit 0) ⟨[],[]⟩) else (K .ret ⟨[(4,.v (.n .i64 ((uX (fun i:Nat => !decide (q i < -2147483648) && !decide (2147483648 < q i)) k 0:Nat):Int)))],[]⟩)) else none)))]) yJ yQ (OrL.ok (l:=([]:OrL)) trivial) (fun p S hp => ?_) ?_
 ·refine uY (L:=qY T 127) (l:=[([0,1,0,1],jX (hSx q k 0) (fun K=>(bif (decide (k≤50)) then (bif (allN (fun i:Nat => !decide (q i < -2147483648) && !decide (2147483648 < q i)) k 0) then (K (.exit 0) ⟨[],[]⟩) else (K .ret ⟨[(4,.v (.n .i64 ((uX (fun i:Nat => !decide (q i < -2147483648) && !decide (2147483648 < q i)) k 0:Nat):Int)))],[]⟩)) else none)))]) (show AllP _ [([0,1,0,1],jX (hSx q k 0) (fun K=>(bif (decide (k≤50)) then (bif (allN (fun i:Nat => !decide (q i < -2147483648) && !decide (2147483648 < q i)) k 0) then (K (.exit 0) ⟨[],[]⟩) else (K .ret ⟨[(4,.v (.n .i64 ((uX (fun i:Nat => !decide (q i < -2147483648) && !decide (2147483648 < q i)) k 0:Nat):Int)))],[]⟩)) else none)))] from ⟨qQU fun K r hr => ?_,trivial⟩) p S hp
  ·obtain ⟨hg,hr⟩:=qH hr;have hk:=vJZ hg;exact (lpSx K q k hk).trans hr
 ·refine (pxsidx q k).trans ?_;unfold smQ;rw [yG,vJQ hk];cases (allN (fun i:Nat => !decide (q i < -2147483648) && !decide (2147483648 < q i)) k 0) <;> rfl
theorem snd_scon (q:Nat→Int) (k:Nat) (hk:k≤50):zH Tryz.prog 90 [.lf k (fQ q),.f 91 [] []] (.v (.b (!smQ q k))):=by
 refine qG (N:=60) yJ yQ (OrL.ok (l:=[(127,o_cr [.lf k (fQ q),.f 91 [] []] (.v (.n .i64 (bif smQ q k then -1 else ((uX (fun i:Nat => !decide (q i < -2147483648) && !decide (2147483648 < q i)) k 0:Nat):Int)))))]) ⟨qZX (snd_sidx q k hk),trivial⟩) ?_;refine (by kernel_rfl:_=bif (g1 [.lf k (fQ q),.f 91 [] []]) then (bif (decide (0≤(bif smQ q k then -1 else ((uX (fun i:Nat => !decide (q i < -2147483648) && !decide (2147483648 < q i)) k 0:Nat):Int)))) then some (.v (.b true),[])
 else some (.v (.b false),[]))
 else none).trans ?_
 rw [g1_t];cases smQ q k with
 | true=>rfl
 | false =>
  rw [vYG,vJQ (show 0≤((uX (fun i:Nat => !decide (q i < -2147483648) && !decide (2147483648 < q i)) k 0:Nat):Int) by omega)];rfl
theorem snd_sm (q:Nat→Int) (k:Nat) (hk:k≤50):zH Tryz.prog 57 [.lf k (fQ q)] (.v (.b (smQ q k))):=by
 refine qG (N:=60) yJ yQ (OrL.ok (l:=[(90,o_cr [.lf k (fQ q),.f 91 [] []] (.v (.b (!smQ q k))))]) ⟨qZX (snd_scon q k hk),trivial⟩) ?_;refine (by kernel_rfl:_=bif (g1 [.lf k (fQ q),.f 91 [] []]) then (bif (!smQ q k) then some (.v (.b false),[])
 else some (.v (.b true),[]))
 else none).trans ?_
 rw [g1_t];cases smQ q k <;> rfl
def hSr (q:Nat→Int) (k:Nat) (i:Int):St:=⟨[(0,.v (.lf k (fQ q))),(3,.v (.n .i64 i))],[]⟩
set_option maxRecDepth 100000 in
theorem rdSr (G:St→Option (Ret × Mem)) (K:Cont) (q:Nat→Int) (k:Nat) (i:Int):zKJ 60 (cxF T (OrL.k ([]:OrL)) 60 36 (ntmF T 36)) (ckF T (OrL.k ([]:OrL)) 60) (qY T 36 [0,1,0,1]) ((cxF T (OrL.k ([]:OrL)) 60 36 (ntmF T 36)).T.hint (cxF T (OrL.k ([]:OrL)) 60 36 (ntmF T 36)).me (zY (qY T 36 [0,1,0,1]))) K G (hSr q k i) =
 (bif (decide (i < (k:Int))) then (bif (inB i k) then (bif (decide ((q (i).toNat) < (-2147483648))) then (K .ret ⟨[(2,.v (.b false))],[]⟩)
 else (bif (inB i k) then (bif (decide (2147483648 < (q (i).toNat))) then (K .ret ⟨[(2,.v (.b false))],[]⟩)
 else (G (hSr q k (vJJ .i64 (i + 1)))))
 else none))
 else none)
 else (K (.exit 0) ⟨[],[]⟩)):=by kernel_rfl
theorem lpSr (K:Cont) (q:Nat→Int) (k:Nat) (hk:k≤50):LF 60 (cxF T (OrL.k ([]:OrL)) 60 36 (ntmF T 36)) (ckF T (OrL.k ([]:OrL)) 60) (qY T 36 [0,1,0,1]) ((cxF T (OrL.k ([]:OrL)) 60 36 (ntmF T 36)).T.hint (cxF T (OrL.k ([]:OrL)) 60 36 (ntmF T 36)).me (zY (qY T 36 [0,1,0,1]))) K 60 (hSr q k 0)=bif (allN (fun i:Nat => !decide (q i < -2147483648) && !decide (2147483648 < q i)) k 0) then (K (.exit 0) ⟨[],[]⟩) else (K .ret ⟨[(2,.v (.b false))],[]⟩):=by
 refine (zJV (c:=k) (hSr q k) (fun i:Nat => !decide (q i < -2147483648) && !decide (2147483648 < q i)) (K (.exit 0) ⟨[],[]⟩) (fun i:Nat=>(K .ret ⟨[(2,.v (.b false))],[]⟩)) (fun G i hi => ?_) (fun G => ?_) k 0 60 (by omega) (by omega)).trans (qYJ _ _ _ _ _)
 ·refine (rdSr G K q k i).trans ?_;rw [vJQ (show (i:Int) < (k:Int) by omega),qQQ (by omega),yW (show i < k by omega),toN];cases decide (q i < -2147483648) <;> cases decide (2147483648 < q i) <;> rfl
 ·refine (rdSr G K q k k).trans ?_;rw [vYH (show ¬ (k:Int) < (k:Int) by omega)];rfl
set_option maxRecDepth 100000 in
theorem pxrsm (q:Nat→Int) (k:Nat):qYH T (OrL.k ([]:OrL)) (zZ [([0,1,0,1],jX (hSr q k 0) (fun K=>(bif (decide (k≤50)) then (bif (allN (fun i:Nat => !decide (q i < -2147483648) && !decide (2147483648 < q i)) k 0) then (K (.exit 0) ⟨[],[]⟩) else (K .ret ⟨[(2,.v (.b false))],[]⟩)) else none)))]) 60 36 [.lf k (fQ q)] =
 (bif (gSt (hSr q k 0) (hSr q k 0)) then (bif (decide (k≤50)) then (bif (allN (fun i:Nat => !decide (q i < -2147483648) && !decide (2147483648 < q i)) k 0) then some (.v (.b true),[])
 else some (.v (.b false),[]))
 else none)
 else none):=by kernel_rfl
theorem snd_rsm (q:Nat→Int) (k:Nat) (hk:k≤50):zH Tryz.prog 36 [.lf k (fQ q)] (.v (.b (smQ q k))):=by
 refine jV (N:=60) (LO:=zZ [([0,1,0,1],jX (hSr q k 0) (fun K=>(bif (decide (k≤50)) then (bif (allN (fun i:Nat => !decide (q i < -2147483648) && !decide (2147483648 < q i)) k 0) then (K (.exit 0) ⟨[],[]⟩) else (K .ret ⟨[(2,.v (.b false))],[]⟩)) else none)))]) yJ yQ (OrL.ok (l:=([]:OrL)) trivial) (fun p S hp => ?_) ?_
 ·refine uY (L:=qY T 36) (l:=[([0,1,0,1],jX (hSr q k 0) (fun K=>(bif (decide (k≤50)) then (bif (allN (fun i:Nat => !decide (q i < -2147483648) && !decide (2147483648 < q i)) k 0) then (K (.exit 0) ⟨[],[]⟩) else (K .ret ⟨[(2,.v (.b false))],[]⟩)) else none)))]) (show AllP _ [([0,1,0,1],jX (hSr q k 0) (fun K=>(bif (decide (k≤50)) then (bif (allN (fun i:Nat => !decide (q i < -2147483648) && !decide (2147483648 < q i)) k 0) then (K (.exit 0) ⟨[],[]⟩) else (K .ret ⟨[(2,.v (.b false))],[]⟩)) else none)))] from ⟨qQU fun K r hr => ?_,trivial⟩) p S hp
  ·obtain ⟨hg,hr⟩:=qH hr;have hk:=vJZ hg;exact (lpSr K q k hk).trans hr
 ·refine (pxrsm q k).trans ?_;unfold smQ;rw [yG,vJQ hk];cases (allN (fun i:Nat => !decide (q i < -2147483648) && !decide (2147483648 < q i)) k 0) <;> rfl
def qZG (g:Nat→Int):Nat→Nat→(Nat→Int)→Nat→Int
 | 0,_,a=>a
 | k + 1,p,a=>qZG g k (p + 1) fun v=>bif Nat.beq v p then g p else a v
theorem fillI_get (g:Nat→Int):∀ (k p:Nat) (a:Nat→Int) (v:Nat),qZG g k p a v=if p≤v∧v < p + k then g v else a v
 | 0,p,a,v=>by rw [qZG,if_neg (by omega)]
 | k + 1,p,a,v=>by
  rw [qZG,fillI_get g k (p + 1),zHX];by_cases h:v=p
  ·subst h;rw [if_neg (by omega),if_pos (by omega),vJQ rfl]; rfl
  ·rw [vYH h,vYG];by_cases h2:p + 1≤v∧v < p + 1 + k
   ·rw [if_pos h2,if_pos (by omega)]
   ·rw [if_neg h2,if_neg (by omega)]
theorem zJW {β:Type} {g:Nat→Int} {KX:(Nat→Int)→β} {KR:Nat→(Nat→Int)→β}:∀ k p a,runS (fun _ _=>true) (fun (i:Nat) (t:Nat→Int)=>(fun v=>bif Nat.beq v i then g i else t v)) KX KR k p a=KX (qZG g k p a)
 | 0,_,_=>rfl
 | k + 1,p,a=>by
  simp only [runS,vYV];exact zJW k (p + 1) _
theorem runS_fillJ {β:Type} {g h:Nat→Int} {KX:(Nat→Int) × (Nat→Int)→β} {KR:Nat→(Nat→Int) × (Nat→Int)→β}:∀ k p t,runS (fun _ _=>true) (fun (i:Nat) (t:(Nat→Int) × (Nat→Int))=>((fun v=>bif Nat.beq v i then g i else t.1 v),(fun v=>bif Nat.beq v i then h i else t.2 v))) KX KR k p t=KX (qZG g k p t.1,qZG h k p t.2)
 | 0,_,_=>rfl
 | k + 1,p,t=>by
  simp only [runS,vYV];exact runS_fillJ k (p + 1) _
theorem zZH {g a:Nat→Int} {k j:Nat} (h:j < k):qZG g k 0 a j=g j:=by rw [fillI_get,if_pos (by omega)]
noncomputable def orMp (q:Nat→Int) (k:Nat):OrL:=([]:OrL)
noncomputable def hMp (q:Nat→Int) (k:Nat) (i:Int) (a:Nat→Int) (b:Nat→Int):St:=⟨[(1,.v (.f 59 [] [])),(5,.o 10),(11,.v (.lf k (fQ q))),(12,.v (.n .i64 (k:Int))),(13,.v (.n .i64 i))],[(10,.reg 72 2 (.fo (k:Int).toNat (fun v=>[.n .i64 (a v),.n .i64 (b v)])))]⟩
set_option maxRecDepth 100000 in
theorem rdMp (G:St→Option (Ret × Mem)) (K:Cont) (q:Nat→Int) (k:Nat) (i:Int) (a:Nat→Int) (b:Nat→Int):qZW 60 (cxF Tf (OrL.k (orMp q k)) 60 58 (ntmF Tf 58)) (ckF Tf (OrL.k (orMp q k)) 60) (zZ []) (qY Tf 58 [0,1,0,1,1]) [0,1,0,1,1] (Tf.hint 58 (zY (qY Tf 58 [0,1,0,1,1]))) K G (hMp q k i a b) =
 (bif (decide (i < (k:Int))) then (bif (inB i k) then (bif (inB i (k:Int).toNat) then (G (hMp q k (vJJ .i64 (i + 1)) (fun v=>(bif (Nat.beq v (i).toNat) then (min (max (q (i).toNat) (-2147483648)) 2147483648) else (a v))) (fun v=>(bif (Nat.beq v (i).toNat) then (min (max (q (i).toNat) (-2147483648)) 2147483648) else (b v)))))
 else none)
 else none)
 else (K (.exit 0) ⟨[(5,.o 10)],[(10,.reg 72 2 (.fo (k:Int).toNat (fun v=>[.n .i64 (a v),.n .i64 (b v)])))]⟩)):=by kernel_rfl
theorem lpMp (K:Cont) (q:Nat→Int) (k:Nat) (hk:k≤50):LFL 60 (cxF Tf (OrL.k (orMp q k)) 60 58 (ntmF Tf 58)) (ckF Tf (OrL.k (orMp q k)) 60) (zZ []) (qY Tf 58 [0,1,0,1,1]) [0,1,0,1,1] (Tf.hint 58 (zY (qY Tf 58 [0,1,0,1,1]))) K 60 (hMp q k 0 (fun v=>0) (fun v=>0))=(K (.exit 0) ⟨[(5,.o 10)],[(10,.reg 72 2 (.fo (k:Int).toNat (fun v=>[.n .i64 ((qZG (fun i:Nat=>min (max (q i) (-2147483648)) 2147483648) k 0 (fun v=>0)) v),.n .i64 ((qZG (fun i:Nat=>min (max (q i) (-2147483648)) 2147483648) k 0 (fun v=>0)) v)])))]⟩):=by
 refine (qWK (L:=LFL 60 (cxF Tf (OrL.k (orMp q k)) 60 58 (ntmF Tf 58)) (ckF Tf (OrL.k (orMp q k)) 60) (zZ []) (qY Tf 58 [0,1,0,1,1]) [0,1,0,1,1] (Tf.hint 58 (zY (qY Tf 58 [0,1,0,1,1]))) K) (stp:=qZW 60 (cxF Tf (OrL.k (orMp q k)) 60 58 (ntmF Tf 58)) (ckF Tf (OrL.k (orMp q k)) 60) (zZ []) (qY Tf 58 [0,1,0,1,1]) [0,1,0,1,1] (Tf.hint 58 (zY (qY Tf 58 [0,1,0,1,1]))) K) (fun _ _=>rfl) (fun (i:Nat) (t:((Nat→Int) × (Nat→Int)))=>hMp q k (i:Int) t.1 t.2) (fun _ _=>True) (fun _ _=>true) (fun (i:Nat) t=>((fun v=>bif Nat.beq v i then min (max (q i) (-2147483648)) 2147483648 else t.1 v),(fun v=>bif Nat.beq v i then min (max (q i) (-2147483648)) 2147483648 else t.2 v))) (c:=k) (fun t=>(K (.exit 0) ⟨[(5,.o 10)],[(10,.reg 72 2 (.fo (k:Int).toNat (fun v=>[.n .i64 (t.1 v),.n .i64 (t.2 v)])))]⟩)) (fun _ _=>none) (fun G i t hi _ => ?_) (fun _ _ _ _ _=>trivial) (fun G t _ => ?_) k 0 60 ((fun v=>0),(fun v=>0)) (by omega) (by omega) trivial).trans (runS_fillJ k 0 _)
 ·refine (rdMp G K q k i t.1 t.2).trans ?_;simp only [vJQ (show (i:Int) < (k:Int) by omega),qQQ (show i < 1000000 by omega),yW (show i < k by omega),toN,vYV]
  all_goals rfl
 ·refine (rdMp G K q k k t.1 t.2).trans ?_;rw [vYH (show ¬ (k:Int) < (k:Int) by omega)];rfl
noncomputable def uQZ (q:Nat→Int) (k:Nat):List (List Nat × qKX):=[([0,1,0,1,1],sumF (fun _:Unit=>(hMp q k 0 (fun v=>0) (fun v=>0))) (fun _=>()) (fun _ K=>(bif (decide (k≤50)) then (K (.exit 0) ⟨[(5,.o 10)],[(10,.reg 72 2 (.fo (k:Int).toNat (fun v=>[.n .i64 ((qZG (fun i:Nat=>min (max (q i) (-2147483648)) 2147483648) k 0 (fun v=>0)) v),.n .i64 ((qZG (fun i:Nat=>min (max (q i) (-2147483648)) 2147483648) k 0 (fun v=>0)) v)])))]⟩) else none)))]
set_option maxRecDepth 100000 in
theorem pxmap (q:Nat→Int) (k:Nat):qYH Tf (OrL.k (orMp q k)) (zZ (uQZ q k)) 60 58 [.lf k (fQ q),.f 59 [] []] =
 (bif (decide (0≤(k:Int))) then (bif (decide ((k:Int)≤(k:Int))) then (bif (decide ((k:Int)≤1000000)) then (bif (gSt (hMp q k 0 (fun v=>0) (fun v=>0)) (hMp q k 0 (fun v=>0) (fun v=>0))) then (bif (decide (k≤50)) then some (.ow 72 2 (.fo (k:Int).toNat (fun v=>[.n .i64 ((qZG (fun i:Nat=>min (max (q i) (-2147483648)) 2147483648) k 0 (fun v=>0)) v),.n .i64 ((qZG (fun i:Nat=>min (max (q i) (-2147483648)) 2147483648) k 0 (fun v=>0)) v)])),[])
 else none)
 else none)
 else none)
 else none)
 else none):=by kernel_rfl
theorem snd_map (q:Nat→Int) (k:Nat) (hk:k≤50):zH Tryz.prog 58 [.lf k (fQ q),.f 59 [] []] (.ow 72 2 (.fo k (fun v=>[.n .i64 ((qZG (fun i:Nat=>min (max (q i) (-2147483648)) 2147483648) k 0 (fun v=>0)) v),.n .i64 ((qZG (fun i:Nat=>min (max (q i) (-2147483648)) 2147483648) k 0 (fun v=>0)) v)]))):=by
 refine kX (N:=60) (LO:=zZ (uQZ q k)) qVU yQ (OrL.ok (l:=(orMp q k)) trivial) (fun p S hp => ?_) ?_
 ·refine kV (L:=qY Tf 58) (l:=(uQZ q k)) (show AllP _ (uQZ q k) from ⟨?_,trivial⟩) p S hp
  ·dsimp only;refine qZH (T:=Tf) (ok:=(OrL.k (orMp q k))) (f:=58) (LO:=zZ []) (p:=[0,1,0,1,1]) qJG ?_;intro _ K r hr;obtain ⟨hg,hr⟩:=qH hr;have hk:=vJZ hg;exact (lpMp K q k hk).trans hr
 ·refine (pxmap q k).trans ?_;simp only [yG,vJQ hk,vJQ (show (0:Int)≤(k:Int) by omega),vJQ (show (k:Int)≤(k:Int) by omega),vJQ (show (k:Int)≤1000000 by omega),toN,vYV]
noncomputable def orRb (q:Nat→Int) (k:Nat):OrL:=[(36,o_lk [.lf k (fQ q)] (decide (k≤50)) (.v (.b (smQ q k))))]
noncomputable def hRb (q:Nat→Int) (k:Nat) (i:Int) (r:Nat) (f:Nat→List PV):St:=⟨[(0,.v (.lf k (fQ q))),(3,.o 25),(4,.v (.n .i64 i))],[(25,.reg 72 2 (.fo r f))]⟩
set_option maxRecDepth 100000 in
theorem rdRb (G:St→Option (Ret × Mem)) (K:Cont) (q:Nat→Int) (k:Nat) (i:Int) (r:Nat) (f:Nat→List PV):qZW 60 (cxF Tf (OrL.k (orRb q k)) 60 13 (ntmF Tf 13)) (ckF Tf (OrL.k (orRb q k)) 60) (zZ []) (qY Tf 13 [0,1,0,1,1,1]) [0,1,0,1,1,1] (Tf.hint 13 (zY (qY Tf 13 [0,1,0,1,1,1]))) K G (hRb q k i r f) =
 (bif (decide (i < (k:Int))) then (bif (inB i k) then (bif (inB i k) then (bif (decide (r + 1≤1000000)) then (G (hRb q k (vJJ .i64 (i + 1)) (r + 1) (fun v=>qJQ (Nat.beq v r) [.n .i64 (q (i).toNat),.n .i64 (q (i).toNat)] (f v))))
 else none)
 else none)
 else none)
 else (K (.exit 0) ⟨[(3,.o 25)],[(25,.reg 72 2 (.fo r f))]⟩)):=by kernel_rfl
theorem lpRb (K:Cont) (q:Nat→Int) (k:Nat) (hk:k≤50):LFL 60 (cxF Tf (OrL.k (orRb q k)) 60 13 (ntmF Tf 13)) (ckF Tf (OrL.k (orRb q k)) 60) (zZ []) (qY Tf 13 [0,1,0,1,1,1]) [0,1,0,1,1,1] (Tf.hint 13 (zY (qY Tf 13 [0,1,0,1,1,1]))) K 60 (hRb q k 0 0 (fun v=>[.n .i64 0,.n .i64 0]))=(K (.exit 0) ⟨[(3,.o 25)],[(25,.reg 72 2 (.fo k (zXJ (fun i:Nat=>[.n .i64 (q i),.n .i64 (q i)]) k 0 (fun v=>[.n .i64 0,.n .i64 0]))))]⟩):=by
 refine (qWK (L:=LFL 60 (cxF Tf (OrL.k (orRb q k)) 60 13 (ntmF Tf 13)) (ckF Tf (OrL.k (orRb q k)) 60) (zZ []) (qY Tf 13 [0,1,0,1,1,1]) [0,1,0,1,1,1] (Tf.hint 13 (zY (qY Tf 13 [0,1,0,1,1,1]))) K) (stp:=qZW 60 (cxF Tf (OrL.k (orRb q k)) 60 13 (ntmF Tf 13)) (ckF Tf (OrL.k (orRb q k)) 60) (zZ []) (qY Tf 13 [0,1,0,1,1,1]) [0,1,0,1,1,1] (Tf.hint 13 (zY (qY Tf 13 [0,1,0,1,1,1]))) K) (fun _ _=>rfl) (fun (i:Nat) (f:Nat→List PV)=>hRb q k (i:Int) i f) (fun _ _=>True) (fun _ _=>true) (fun (i:Nat) f v=>qJQ (Nat.beq v i) ([.n .i64 (q i),.n .i64 (q i)]) (f v)) (c:=k) (fun f=>(K (.exit 0) ⟨[(3,.o 25)],[(25,.reg 72 2 (.fo k f))]⟩)) (fun _ _=>none) (fun G i f hi _ => ?_) (fun _ _ _ _ _=>trivial) (fun G f _ => ?_) k 0 60 (fun v=>[.n .i64 0,.n .i64 0]) (by omega) (by omega) trivial).trans (zHH k 0 (fun v=>[.n .i64 0,.n .i64 0]))
 ·refine (rdRb G K q k (i:Int) i f).trans ?_;simp only [vJQ (show (i:Int) < (k:Int) by omega),qQQ (show i < 1000000 by omega),yW (show i < k by omega),toN,vJQ (show i + 1≤1000000 by omega),vYV]
  all_goals rfl
 ·refine (rdRb G K q k (k:Int) k f).trans ?_;rw [vYH (show ¬ (k:Int) < (k:Int) by omega)];rfl
noncomputable def kJV (q:Nat→Int) (k:Nat):List (List Nat × qKX):=[([0,1,0,1,1,1],sumF (fun _:Unit=>(hRb q k 0 0 (fun v=>[.n .i64 0,.n .i64 0]))) (fun _=>()) (fun _ K=>(bif (decide (k≤50)) then (K (.exit 0) ⟨[(3,.o 25)],[(25,.reg 72 2 (.fo k (zXJ (fun i:Nat=>[.n .i64 (q i),.n .i64 (q i)]) k 0 (fun v=>[.n .i64 0,.n .i64 0]))))]⟩) else none)))]
set_option maxRecDepth 100000 in
theorem pxrbx0 (q:Nat→Int) (k:Nat):qYH Tf (OrL.k (orRb q k)) (zZ (kJV q k)) 60 13 [.lf k (fQ q)] =
 (bif (g1 [.lf k (fQ q)] && decide (k≤50)) then (bif (smQ q k) then (bif (gSt (hRb q k 0 0 (fun v=>[.n .i64 0,.n .i64 0])) (hRb q k 0 0 (fun v=>[.n .i64 0,.n .i64 0]))) then (bif (decide (k≤50)) then some (.ow 72 2 (.fo k (zXJ (fun i:Nat=>[.n .i64 (q i),.n .i64 (q i)]) k 0 (fun v=>[.n .i64 0,.n .i64 0]))),[])
 else none)
 else none)
 else some (.v (.l []),[]))
 else none):=by kernel_rfl
theorem snd_rbx0 (q:Nat→Int) (k:Nat) (hk:k≤50):zH Tryz.prog 13 [.lf k (fQ q)] (bif smQ q k then .ow 72 2 (.fo k (zXJ (fun i:Nat=>[.n .i64 (q i),.n .i64 (q i)]) k 0 (fun v=>[.n .i64 0,.n .i64 0]))) else .v (.l [])):=by
 refine kX (N:=60) (LO:=zZ (kJV q k)) qVU yQ (OrL.ok (l:=(orRb q k)) ⟨qXG (fun h=>snd_rsm q k (vJZ h)),trivial⟩) (fun p S hp => ?_) ?_
 ·refine kV (L:=qY Tf 13) (l:=(kJV q k)) (show AllP _ (kJV q k) from ⟨?_,trivial⟩) p S hp
  ·dsimp only;refine qZH (T:=Tf) (ok:=(OrL.k (orRb q k))) (f:=13) (LO:=zZ []) (p:=[0,1,0,1,1,1]) qJG ?_;intro _ K r hr;obtain ⟨hg,hr⟩:=qH hr;have hk:=vJZ hg;exact (lpRb K q k hk).trans hr
 ·refine (pxrbx0 q k).trans ?_;rw [g1_t,yG,vJQ hk];cases smQ q k <;> rfl
theorem jYV {f e sz n:Nat} {g:Nat→List PV} {ps:List PV} (h:zH Tryz.prog f ps (.ow e sz (.fo n g))):zH Tryz.prog f ps (.v (.lf n g)):=by
 refine ⟨h.1,fun w F vals hF hal=>(h.2 w F vals hF hal).mono ?_⟩
 rintro en w' ⟨v,F',he,hg,f1,f2,hr⟩
 obtain ⟨F2,f3,f4,hx⟩:=hr.pv (x:=.lf n g) rfl;refine ⟨v,F2,he,hg,fun k hk=>f3 k (f1 k hk),fun k hk => ?_,hx⟩;rcases f4 k hk with h | h
 ·exact f2 k h
 ·exact .inr h
def ptB (q:Nat→Int):Nat→Iv:=fun i=>⟨q i,q i⟩
theorem zQY (q:Nat→Int) (k:Nat) (hk:k≤50):zH Tryz.prog 13 [.lf k (fQ q)] (.v (.lf (bif smQ q k then k else 0) (fB (ptB q)))):=by
 have h0:=snd_rbx0 q k hk;cases h:smQ q k with
 | true =>
  rw [h] at h0;exact qQW same_fill (jYV h0)
 | false =>
  rw [h] at h0;exact qQW (Same.lf rfl) h0
theorem smQ_of {q:Nat→Int} {k i:Nat} (h:smQ q k=true) (hi:i < k) : -2147483648≤q i∧q i≤2147483648:=by
 have:=allN_iff.1 h i (Nat.zero_le _) (by omega)
 simp only [vQJ,Bool.not_eq_true',decide_eq_false_iff_not] at this;omega
theorem kXV (q:Nat→Int) (k:Nat) (hk:k≤50):zH Tryz.prog 30 [.lf k (fQ q)] (.v (.lf (bif smQ q k then k else 0) (fB (ptB q)))):=by
 have h0:zH Tryz.prog 30 [.lf k (fQ q)] (bif smQ q k then .v (.lf k (fun v=>[.n .i64 ((qZG (fun i:Nat=>min (max (q i) (-2147483648)) 2147483648) k 0 (fun v=>0)) v),.n .i64 ((qZG (fun i:Nat=>min (max (q i) (-2147483648)) 2147483648) k 0 (fun v=>0)) v)])) else .v (.l [])):=by
  refine qG (T:=Tf) (N:=60) qVU yQ (OrL.ok (l:=[(57,o_lk [.lf k (fQ q)] (decide (k≤50)) (.v (.b (smQ q k)))),(58,o_lk [.lf k (fQ q),.f 59 [] []] (decide (k≤50)) (.ow 72 2 (.fo k (fun v=>[.n .i64 ((qZG (fun i:Nat=>min (max (q i) (-2147483648)) 2147483648) k 0 (fun v=>0)) v),.n .i64 ((qZG (fun i:Nat=>min (max (q i) (-2147483648)) 2147483648) k 0 (fun v=>0)) v)]))))]) ⟨qXG (fun h=>snd_sm q k (vJZ h)),qXG (fun h=>snd_map q k (vJZ h)),trivial⟩) ?_;refine (by kernel_rfl:_=bif (g1 [.lf k (fQ q)] && decide (k≤50)) then (bif (smQ q k) then (bif (g1 [.lf k (fQ q),.f 59 [] []] && decide (k≤50)) then some (.v (.lf k (fun v=>[.n .i64 ((qZG (fun i:Nat=>min (max (q i) (-2147483648)) 2147483648) k 0 (fun v=>0)) v),.n .i64 ((qZG (fun i:Nat=>min (max (q i) (-2147483648)) 2147483648) k 0 (fun v=>0)) v)])),[])
 else none)
 else some (.v (.l []),[]))
 else none).trans ?_
  simp only [g1_t,vJQ hk,vZJ,vYV];cases smQ q k <;> rfl
 cases h:smQ q k with
 | true =>
  rw [h] at h0;refine qQW (zQJ fun j (hj:j < k) => ?_) h0
  have:=smQ_of h hj
  show [PV.n .i64 (qZG _ k 0 _ j),PV.n .i64 (qZG _ k 0 _ j)]=[PV.n .i64 (q j),PV.n .i64 (q j)];rw [zZH hj,show min (max (q j) (-2147483648)) 2147483648=q j by omega]
 | false =>
  rw [h] at h0;exact qQW (Same.lf rfl) h0
end Go.Proofs.YtmffoiemmlcmfaaGreat.Nm

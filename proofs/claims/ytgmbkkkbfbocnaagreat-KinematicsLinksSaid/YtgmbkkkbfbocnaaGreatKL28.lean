/- Part 28 of the texts behind the last one: rules and contracts. No condition. -/
import Derived.Test.YtgmbkkkbfbocnaaGreatKL27
open Option renaming bind_eq_some_iff → vQQ
open Option.some renaming injEq → vQZ
open Prod.mk renaming injEq → vQY
open Bool renaming and_eq_true → vQJ
open List renaming getElem?_eq_getElem → vQK, mem_cons_self → vZQ, getElem?_map → vZY, take_succ_cons → vYK, drop_succ_cons → vYU, take_zero → vYX, drop_zero → vYW
open Classical renaming propDecidable → vYJ
open Go.IntKind renaming wrap → vJJ
namespace Go.Proofs.YtgmbkkkbfbocnaaGreat.Nx
open Go.Rx Rt Go.Sx Go.RowKit Od Na Nb Nc
noncomputable def o_iValid:List PV→Option (Bool × Ret):=fun ps=>match ps with
 | [.a a']=>(ivD a').bind fun a=>some (true,.v (.b (Iv.valid a)))
 | _=>none
theorem ok_iValid:zX Tryz.prog 135 o_iValid:=by
 intro ps r h;unfold o_iValid at h;split at h
 ·simp only [vQQ,vQZ,vQY] at h;obtain ⟨a,ha,hg,rfl⟩:=h;rw [uW ha];exact qK (qU Tryz.func135 (by kernel_rfl) (by kernel_rfl)) rfl rfl (fun w=>iValid _ _ w)
 ·cases h
noncomputable def L6:OrL:=(135,o_iValid) :: L5
theorem kKX:AllP (fun x:Nat × (List PV→Option (Bool × Ret))=>zX Tryz.prog x.1 x.2) L6:=⟨ok_iValid,L5_ok⟩
noncomputable def o_rValid:List PV→Option (Bool × Ret):=fun ps=>match ps with
 | [.a a']=>(ivD a').bind fun a=>some (true,.v (.b (Iv.valid a)))
 | _=>none
theorem ok_rValid:zX Tryz.prog 148 o_rValid:=by
 intro ps r h;unfold o_rValid at h;split at h
 ·simp only [vQQ,vQZ,vQY] at h;obtain ⟨a,ha,hg,rfl⟩:=h;rw [uW ha];exact qK (qU Tryz.func148 (by kernel_rfl) (by kernel_rfl)) rfl rfl (fun w=>jKU _ _ w)
 ·cases h
noncomputable def L7:OrL:=(148,o_rValid) :: L6
theorem jHG:AllP (fun x:Nat × (List PV→Option (Bool × Ret))=>zX Tryz.prog x.1 x.2) L7:=⟨ok_rValid,kKX⟩
def fB (bx:Nat→Iv):Nat→List PV:=fun v=>[.n .i64 (bx v).lo,.n .i64 (bx v).hi]
theorem yKQ {js:Nat→J} {ms:Nat→Ms} {n m:Nat} (h:rErr js ms n m=0):1≤n∧n≤10:=by
 unfold rErr at h;by_cases h0:(n:Int)=0
 ·rw [vJQ h0] at h; cases h
 by_cases h1:10 < (n:Int)
 ·rw [vYH h0,vJQ h1] at h; cases h
 omega
def hA (bx:Nat→Iv) (k:Nat) (i:Int):St:=⟨[(0,.v (.lf k (fB bx))),(3,.v (.n .i64 i))],[]⟩
set_option maxRecDepth 100000 in
theorem rdA (G:St→Option (Ret × Mem)) (K:Cont) (bx:Nat→Iv) (k:Nat) (i:Int):jWU 60 (cxF T (OrL.k L7) 60 114 (ntmF T 114)) (ckF T (OrL.k L7) 60) (qQ T 114 [0,1,0,1]) ((cxF T (OrL.k L7) 60 114 (ntmF T 114)).T.hint (cxF T (OrL.k L7) 60 114 (ntmF T 114)).me (qG (qQ T 114 [0,1,0,1]))) K G (hA bx k i) =
 (bif (decide (i < (k:Int))) then (bif (inB i k) then (bif Iv.valid (bx (i).toNat) then (G (hA bx k (vJJ .i64 (i + 1))))
 else (K .ret ⟨[(2,.v (.b false))],[]⟩))
 else none)
 else (K (.exit 0) ⟨[],[]⟩)):=by kernel_rfl
theorem lpA (K:Cont) (bx:Nat→Iv) (k:Nat) (hk:k≤50):LF 60 (cxF T (OrL.k L7) 60 114 (ntmF T 114)) (ckF T (OrL.k L7) 60) (qQ T 114 [0,1,0,1]) ((cxF T (OrL.k L7) 60 114 (ntmF T 114)).T.hint (cxF T (OrL.k L7) 60 114 (ntmF T 114)).me (qG (qQ T 114 [0,1,0,1]))) K 60 (hA bx k 0)=bif (allN (fun i:Nat=>Iv.valid (bx i)) k 0) then (K (.exit 0) ⟨[],[]⟩) else (K .ret ⟨[(2,.v (.b false))],[]⟩):=by
 refine (jGK (c:=k) (hA bx k) (fun i:Nat=>Iv.valid (bx i)) (K (.exit 0) ⟨[],[]⟩) (fun i:Nat=>(K .ret ⟨[(2,.v (.b false))],[]⟩)) (fun G i hi => ?_) (fun G => ?_) k 0 60 (by omega) (by omega)).trans (qYJ _ _ _ _ _)
 ·refine (rdA G K bx k i).trans ?_;rw [vJQ (show (i:Int) < (k:Int) by omega),qZH (by omega),kX (show i < k by omega),toN];cases Iv.valid (bx i) <;> rfl
 ·refine (rdA G K bx k k).trans ?_;rw [vYH (show ¬ (k:Int) < (k:Int) by omega)];rfl
def allV (bx:Nat→Iv) (k:Nat):Bool:=(allN (fun i:Nat=>Iv.valid (bx i)) k 0)
set_option maxRecDepth 100000 in
theorem pxallv (bx:Nat→Iv) (k:Nat):yQW T (OrL.k L7) (qX [([0,1,0,1],qQX (hA bx k 0) (fun K=>(bif (decide (k≤50)) then (bif (allN (fun i:Nat=>Iv.valid (bx i)) k 0) then (K (.exit 0) ⟨[],[]⟩) else (K .ret ⟨[(2,.v (.b false))],[]⟩)) else none)))]) 60 114 [.lf k (fB bx)] =
 (bif (gSt (hA bx k 0) (hA bx k 0)) then (bif (decide (k≤50)) then (bif (allN (fun i:Nat=>Iv.valid (bx i)) k 0) then some (.v (.b true),[])
 else some (.v (.b false),[]))
 else none)
 else none):=by kernel_rfl
theorem snd_allv (bx:Nat→Iv) (k:Nat) (hk:k≤50):yH Tryz.prog 114 [.lf k (fB bx)] (.v (.b (allV bx k))):=by
 refine qZW (N:=60) (LO:=qX [([0,1,0,1],qQX (hA bx k 0) (fun K=>(bif (decide (k≤50)) then (bif (allN (fun i:Nat=>Iv.valid (bx i)) k 0) then (K (.exit 0) ⟨[],[]⟩) else (K .ret ⟨[(2,.v (.b false))],[]⟩)) else none)))]) jU yJ (OrL.ok (l:=L7) jHG) (fun p S hp => ?_) ?_
 ·refine qKY (L:=qQ T 114) (l:=[([0,1,0,1],qQX (hA bx k 0) (fun K=>(bif (decide (k≤50)) then (bif (allN (fun i:Nat=>Iv.valid (bx i)) k 0) then (K (.exit 0) ⟨[],[]⟩) else (K .ret ⟨[(2,.v (.b false))],[]⟩)) else none)))]) (show AllP _ [([0,1,0,1],qQX (hA bx k 0) (fun K=>(bif (decide (k≤50)) then (bif (allN (fun i:Nat=>Iv.valid (bx i)) k 0) then (K (.exit 0) ⟨[],[]⟩) else (K .ret ⟨[(2,.v (.b false))],[]⟩)) else none)))] from ⟨qXW fun K r hr => ?_,trivial⟩) p S hp
  ·obtain ⟨hg,hr⟩:=qY hr;have hk:=vJZ hg;exact (lpA K bx k hk).trans hr
 ·refine (pxallv bx k).trans ?_;unfold allV;rw [jK,vJQ hk];cases (allN (fun i:Nat=>Iv.valid (bx i)) k 0) <;> rfl
def unFB (f:Nat→List PV):Nat→Iv:=fun i=>match f i with
 | [.n _ lo,.n _ hi]=>⟨lo,hi⟩
 | _=>⟨0,0⟩
theorem unFB_fB (bx:Nat→Iv):unFB (fB bx)=bx:=rfl
noncomputable def gFB (f:Nat→List PV):Bool:=@decide (f=fB (unFB f)) (vYJ _)
theorem gFB_fB (bx:Nat→Iv):gFB (fB bx)=true:=@vJQ _ (vYJ _) rfl
noncomputable def o_av:List PV→Option (Bool × Ret):=fun ps=>match ps with
 | [.lf k f]=>some (decide (k≤50) && gFB f,.v (.b (allV (unFB f) k)))
 | _=>none
theorem ok_av:zX Tryz.prog 114 o_av:=by
 intro ps r hh;unfold o_av at hh;split at hh
 ·simp only [vQZ,vQY,vQJ] at hh;obtain ⟨⟨hk,hf⟩,rfl⟩:=hh;rename_i k f;have e:f=fB (unFB f):=@vJZ _ (vYJ _) hf
  have:=snd_allv (unFB f) k (vJZ hk)
  rw [← e] at this;exact this
 ·cases hh
def isB (bx:Nat→Iv) (n k:Nat):Bool:=decide ((k:Int)=(n:Int)) && allV bx k
theorem jQW (js:Nat→J) (ms:Nat→Ms) (bx:Nat→Iv) (n m k:Nat) (hn:n≤50):yH Tryz.prog 66 [.a [.lf n (fJ js),.lf m (fM ms)],.lf k (fB bx)] (.v (.b (isB bx n k))):=by
 refine zQ (N:=60) jU yJ (OrL.ok (l:=[(114,o_av)]) ⟨ok_av,trivial⟩) ?_;refine (by kernel_rfl:_=bif (decide ((k:Int)=(n:Int))) then (bif (decide (k≤50) && gFB (fB bx)) then (bif (allV (unFB (fB bx)) k) then some (.v (.b true),[])
 else some (.v (.b false),[]))
 else none)
 else some (.v (.b false),[])).trans ?_
 unfold isB;by_cases e:(k:Int)=(n:Int)
 ·rw [vJQ e,vJQ (show k≤50 by omega),gFB_fB,unFB_fB];cases allV bx k <;> rfl
 ·rw [vYH e]; rfl
set_option maxRecDepth 100000 in
theorem tr_cNv (a0 a1:Int):runK T (OrL.k L7) 60 134 [.a [.n .i64 a0,.n .i64 a1]] =
 some (.v (.b (!Iv.valid ⟨a0,a1⟩)),[]):=by
 refine (by kernel_rfl:_=bif Iv.valid ⟨a0,a1⟩ then some (.v (.b false),[]) else some (.v (.b true),[])).trans ?_;cases Iv.valid ⟨a0,a1⟩ <;> rfl
noncomputable def kJH:List PV→Option (Bool × Ret):=fun ps=>match ps with
 | [.a a']=>(ivD a').bind fun a=>some (true,.v (.b (!Iv.valid a)))
 | _=>none
theorem ok_cNv:zX Tryz.prog 134 kJH:=by
 intro ps r h;unfold kJH at h;split at h
 ·simp only [vQQ,vQZ,vQY] at h;obtain ⟨a,ha,hg,rfl⟩:=h;rw [uW ha];exact zQ (N:=60) jU yJ (OrL.ok jHG) (tr_cNv _ _)
 ·cases h
noncomputable def L8:OrL:=(134,kJH) :: L7
theorem kKU:AllP (fun x:Nat × (List PV→Option (Bool × Ret))=>zX Tryz.prog x.1 x.2) L8:=⟨ok_cNv,jHG⟩
theorem wr_natL {p:Nat} (h:p < 9223372036854775807):vJJ .i64 ((p:Int) + 1)=((p + 1:Nat):Int):=by rw [zZ (by omega)]; omega
def hI (bx:Nat→Iv) (k:Nat) (i:Int):St:=⟨[(0,.v (.lf k (fB bx))),(1,.v (.f 134 [] [])),(7,.v (.n .i64 (k:Int))),(8,.v (.n .i64 i))],[]⟩
set_option maxRecDepth 100000 in
theorem rdI (G:St→Option (Ret × Mem)) (K:Cont) (bx:Nat→Iv) (k:Nat) (i:Int):jWU (k + 60) (cxF T (OrL.k L8) (k + 60) 163 (ntmF T 163)) (ckF T (OrL.k L8) (k + 60)) (qQ T 163 [0,1,0,1]) ((cxF T (OrL.k L8) (k + 60) 163 (ntmF T 163)).T.hint (cxF T (OrL.k L8) (k + 60) 163 (ntmF T 163)).me (qG (qQ T 163 [0,1,0,1]))) K G (hI bx k i) =
 (bif (decide (i < (k:Int))) then (bif (inB i k) then (bif !Iv.valid (bx (i).toNat) then (K .ret ⟨[(4,.v (.n .i64 i))],[]⟩)
 else (G (hI bx k (vJJ .i64 (i + 1)))))
 else none)
 else (K (.exit 0) ⟨[],[]⟩)):=by kernel_rfl
theorem lpI (K:Cont) (bx:Nat→Iv) (k:Nat) (hk:k≤9223372036854775807):LF (k + 60) (cxF T (OrL.k L8) (k + 60) 163 (ntmF T 163)) (ckF T (OrL.k L8) (k + 60)) (qQ T 163 [0,1,0,1]) ((cxF T (OrL.k L8) (k + 60) 163 (ntmF T 163)).T.hint (cxF T (OrL.k L8) (k + 60) 163 (ntmF T 163)).me (qG (qQ T 163 [0,1,0,1]))) K (k + 60) (hI bx k 0)=bif (allN (fun i:Nat=>Iv.valid (bx i)) k 0) then (K (.exit 0) ⟨[],[]⟩) else (K .ret ⟨[(4,.v (.n .i64 ((Rx.firstK (fun i:Nat=>Iv.valid (bx i)) k 0:Nat):Int)))],[]⟩):=by
 refine (jGK (c:=k) (hI bx k) (fun i:Nat=>Iv.valid (bx i)) (K (.exit 0) ⟨[],[]⟩) (fun i:Nat=>(K .ret ⟨[(4,.v (.n .i64 (i:Int)))],[]⟩)) (fun G i hi => ?_) (fun G => ?_) k 0 (k + 60) (by omega) (by omega)).trans (qGY _ _ _ _ _)
 ·refine (rdI G K bx k i).trans ?_;rw [vJQ (show (i:Int) < (k:Int) by omega),wr_natL (by omega),kX (show i < k by omega),toN];cases Iv.valid (bx i) <;> rfl
 ·refine (rdI G K bx k k).trans ?_;rw [vYH (show ¬ (k:Int) < (k:Int) by omega)];rfl
set_option maxRecDepth 100000 in
theorem pxidx (bx:Nat→Iv) (k:Nat):yQW T (OrL.k L8) (qX [([0,1,0,1],qQX (hI bx k 0) (fun K=>(bif (decide (k≤9223372036854775807)) then (bif (allN (fun i:Nat=>Iv.valid (bx i)) k 0) then (K (.exit 0) ⟨[],[]⟩) else (K .ret ⟨[(4,.v (.n .i64 ((Rx.firstK (fun i:Nat=>Iv.valid (bx i)) k 0:Nat):Int)))],[]⟩)) else none)))]) (k + 60) 163 [.lf k (fB bx),.f 134 [] []] =
 (bif (gSt (hI bx k 0) (hI bx k 0)) then (bif (decide (k≤9223372036854775807)) then (bif (allN (fun i:Nat=>Iv.valid (bx i)) k 0) then some (.v (.n .i64 (-1)),[])
 else some (.v (.n .i64 ((Rx.firstK (fun i:Nat=>Iv.valid (bx i)) k 0:Nat):Int)),[]))
 else none)
 else none):=by kernel_rfl
theorem snd_idx (bx:Nat→Iv) (k:Nat) (hk:k≤9223372036854775807):yH Tryz.prog 163 [.lf k (fB bx),.f 134 [] []] (.v (.n .i64 (bif allV bx k then -1 else ((Rx.firstK (fun i:Nat=>Iv.valid (bx i)) k 0:Nat):Int)))):=by
 refine qZW (N:=(k + 60)) (LO:=qX [([0,1,0,1],qQX (hI bx k 0) (fun K=>(bif (decide (k≤9223372036854775807)) then (bif (allN (fun i:Nat=>Iv.valid (bx i)) k 0) then (K (.exit 0) ⟨[],[]⟩) else (K .ret ⟨[(4,.v (.n .i64 ((Rx.firstK (fun i:Nat=>Iv.valid (bx i)) k 0:Nat):Int)))],[]⟩)) else none)))]) jU yJ (OrL.ok (l:=L8) kKU) (fun p S hp => ?_) ?_
 ·refine qKY (L:=qQ T 163) (l:=[([0,1,0,1],qQX (hI bx k 0) (fun K=>(bif (decide (k≤9223372036854775807)) then (bif (allN (fun i:Nat=>Iv.valid (bx i)) k 0) then (K (.exit 0) ⟨[],[]⟩) else (K .ret ⟨[(4,.v (.n .i64 ((Rx.firstK (fun i:Nat=>Iv.valid (bx i)) k 0:Nat):Int)))],[]⟩)) else none)))]) (show AllP _ [([0,1,0,1],qQX (hI bx k 0) (fun K=>(bif (decide (k≤9223372036854775807)) then (bif (allN (fun i:Nat=>Iv.valid (bx i)) k 0) then (K (.exit 0) ⟨[],[]⟩) else (K .ret ⟨[(4,.v (.n .i64 ((Rx.firstK (fun i:Nat=>Iv.valid (bx i)) k 0:Nat):Int)))],[]⟩)) else none)))] from ⟨qXW fun K r hr => ?_,trivial⟩) p S hp
  ·obtain ⟨hg,hr⟩:=qY hr;have hk:=vJZ hg;exact (lpI K bx k hk).trans hr
 ·refine (pxidx bx k).trans ?_;unfold allV;rw [jK,vJQ hk];cases (allN (fun i:Nat=>Iv.valid (bx i)) k 0) <;> rfl
theorem snd_conB (bx:Nat→Iv) (k:Nat) (hk:k≤9223372036854775807):yH Tryz.prog 133 [.lf k (fB bx),.f 134 [] []] (.v (.b (!allV bx k))):=by
 refine zQ (N:=60) jU yJ (OrL.ok (l:=[(163,o_cr [.lf k (fB bx),.f 134 [] []] (.v (.n .i64 (bif allV bx k then -1 else ((Rx.firstK (fun i:Nat=>Iv.valid (bx i)) k 0:Nat):Int)))))]) ⟨zKK (snd_idx bx k hk),trivial⟩) ?_;refine (by kernel_rfl:_=bif (g1 [.lf k (fB bx),.f 134 [] []]) then (bif (decide (0≤(bif allV bx k then -1 else ((Rx.firstK (fun i:Nat=>Iv.valid (bx i)) k 0:Nat):Int)))) then some (.v (.b true),[])
 else some (.v (.b false),[]))
 else none).trans ?_
 rw [g1_t];cases allV bx k with
 | true=>rfl
 | false =>
  rw [vYG,vJQ (show 0≤((Rx.firstK (fun i:Nat=>Iv.valid (bx i)) k 0:Nat):Int) by omega)];rfl
theorem snd_isP (js:Nat→J) (ms:Nat→Ms) (bx:Nat→Iv) (n m k:Nat) (hk:k≤9223372036854775807):yH Tryz.prog 84 [.a [.lf n (fJ js),.lf m (fM ms)],.lf k (fB bx)] (.v (.b (isB bx n k))):=by
 refine zQ (N:=60) jU yJ (OrL.ok (l:=[(133,o_cr [.lf k (fB bx),.f 134 [] []] (.v (.b (!allV bx k))))]) ⟨zKK (snd_conB bx k hk),trivial⟩) ?_;refine (by kernel_rfl:_=bif (decide ((k:Int)=(n:Int))) then (bif (g1 [.lf k (fB bx),.f 134 [] []]) then (bif (!allV bx k) then some (.v (.b false),[])
 else some (.v (.b true),[]))
 else none)
 else some (.v (.b false),[])).trans ?_
 unfold isB;rw [g1_t];cases decide ((k:Int)=(n:Int)) <;> cases allV bx k <;> rfl
end Go.Proofs.YtgmbkkkbfbocnaaGreat.Nx
namespace Go.Proofs.YtgmbkkkbfbocnaaGreat
open Go.Sx Go.Rx Rt Go.RowKit
namespace Tk
end Tk
open Tk
theorem en78:kU Tryz.prog 78:=qU Tryz.func78 (by kernel_rfl) (by kernel_rfl)
namespace Tk
noncomputable def zQZ:List PV→Option (Bool × Ret):=fun ps=>match ps with
 | [.a z']=>(z3D z').bind fun z=>some (true,.v (.a (v3C (V3.of z))))
 | _=>none
theorem yZK:zX Tryz.prog 74 zQZ:=by
 intro ps r h;unfold zQZ at h;split at h
 ·simp only [vQQ,vQZ,vQY] at h;obtain ⟨z,hz,hg,rfl⟩:=h;rw [jKJ hz];exact qK (qU Tryz.func74 (by kernel_rfl) (by kernel_rfl)) rfl rfl (fun w=>mPoint _ _ _ w)
 ·cases h
noncomputable def LTk1:OrL:=(74,zQZ) :: ([]:OrL)
theorem LTk1_ok:AllP (fun x:Nat × (List PV→Option (Bool × Ret))=>zX Tryz.prog x.1 x.2) LTk1:=⟨yZK,trivial⟩
noncomputable def yXJ:List PV→Option (Bool × Ret):=fun ps=>match ps with
 | [.a v']=>(v3D v').bind fun v=>some (true,.v (.a (poC (Po.shift v))))
 | _=>none
theorem ok_pShift:zX Tryz.prog 79 yXJ:=by
 intro ps r h;unfold yXJ at h;split at h
 ·simp only [vQQ,vQZ,vQY] at h;obtain ⟨v,hv,hg,rfl⟩:=h;rw [zZK hv];exact qK (qU Tryz.func79 (by kernel_rfl) (by kernel_rfl)) rfl rfl (fun w=>pShift _ _ _ _ _ _ w)
 ·cases h
noncomputable def LTk2:OrL:=(79,yXJ) :: LTk1
theorem LTk2_ok:AllP (fun x:Nat × (List PV→Option (Bool × Ret))=>zX Tryz.prog x.1 x.2) LTk2:=⟨ok_pShift,LTk1_ok⟩
noncomputable def jYJ:List PV→Option (Bool × Ret):=fun ps=>match ps with
 | [.n .i64 k,.a a']=>(ivD a').bind fun a=>some (true,.v (.a (poC (Po.turn k a))))
 | _=>none
theorem ok_pTurn:zX Tryz.prog 159 jYJ:=by
 intro ps r h;unfold jYJ at h;split at h
 ·simp only [vQQ,vQZ,vQY] at h;obtain ⟨a,ha,hg,rfl⟩:=h;rw [uW ha];exact qK (qU Tryz.func159 (by kernel_rfl) (by kernel_rfl)) rfl rfl (fun w=>pTurn _ _ _ w)
 ·cases h
noncomputable def LTk3:OrL:=(159,jYJ) :: LTk2
theorem LTk3_ok:AllP (fun x:Nat × (List PV→Option (Bool × Ret))=>zX Tryz.prog x.1 x.2) LTk3:=⟨ok_pTurn,LTk2_ok⟩
noncomputable def qKW:List PV→Option (Bool × Ret):=fun ps=>match ps with
 | []=>some (true,.v (.a (poC (Po.rest))))
 | _=>none
theorem zYQ:zX Tryz.prog 88 qKW:=by
 intro ps r h;unfold qKW at h;split at h
 ·simp only [vQZ,vQY] at h;obtain ⟨hg,rfl⟩:=h;exact qK (qU Tryz.func88 (by kernel_rfl) (by kernel_rfl)) rfl rfl (fun w=>pIdentity  w)
 ·cases h
noncomputable def LTk4:OrL:=(88,qKW) :: LTk3
theorem LTk4_ok:AllP (fun x:Nat × (List PV→Option (Bool × Ret))=>zX Tryz.prog x.1 x.2) LTk4:=⟨zYQ,LTk3_ok⟩
noncomputable def zVQ:List PV→Option (Bool × Ret):=fun ps=>match ps with
 | [.a p',.a q']=>(poD p').bind fun p=>(poD q').bind fun q=>some (true,.v (.a (poC (Po.mul p q))))
 | _=>none
theorem ok_pCompose:zX Tryz.prog 78 zVQ:=by
 intro ps r h;unfold zVQ at h;split at h
 ·simp only [vQQ,vQZ,vQY] at h;obtain ⟨p,hp,q,hq,hg,rfl⟩:=h;rw [yKY hp];rw [yKY hq];exact qK (qU Tryz.func78 (by kernel_rfl) (by kernel_rfl)) rfl rfl (fun w=>pCompose _ _ _ _ _ _ _ _ _ _ _ _ _ _ _ _ _ _ _ _ _ _ _ _ _ _ _ _ _ _ _ _ _ _ _ _ _ _ _ _ _ _ _ _ _ _ _ _ w)
 ·cases h
noncomputable def LTk5:OrL:=(78,zVQ) :: LTk4
theorem LTk5_ok:AllP (fun x:Nat × (List PV→Option (Bool × Ret))=>zX Tryz.prog x.1 x.2) LTk5:=⟨ok_pCompose,LTk4_ok⟩
end Tk
set_option maxRecDepth 100000 in
theorem kJoint (a0 a1:Int) (nm:ByteArray) (kind par ox oy oz jlo jhi we spd acc tq:Int) (w:World):Calls Tryz.prog 33 [.agg #[.string nm,.int .i64 kind,.int .i64 par,.int .i64 ox,.int .i64 oy,.int .i64 oz,.int .i64 jlo,.int .i64 jhi,.int .i64 we,.int .i64 spd,.int .i64 acc,.int .i64 tq],.agg #[.int .i64 a0,.int .i64 a1]].toArray w (Rets (po (yHJ kind ⟨ox,oy,oz⟩ (⟨a0,a1⟩:Iv))) (w)) :=
 zY (x:=.a (poC (yHJ kind ⟨ox,oy,oz⟩ ⟨a0,a1⟩))) (zQ (N:=60) (ps:=[.a [.s nm,.n .i64 kind,.n .i64 par,.n .i64 ox,.n .i64 oy,.n .i64 oz,.n .i64 jlo,.n .i64 jhi,.n .i64 we,.n .i64 spd,.n .i64 acc,.n .i64 tq],.a [.n .i64 a0,.n .i64 a1]]) jU yJ (OrL.ok (l:=LTk5) LTk5_ok) (by
 rcases kind with a | a
 ·rcases a with _ | _ | _ | _ | _ | _ | _ | a <;> kernel_rfl
 ·kernel_rfl)) rfl rfl w
end Go.Proofs.YtgmbkkkbfbocnaaGreat
namespace Go.Proofs.YtgmbkkkbfbocnaaGreat
open Go.Sx Go.Rx Rt Go.RowKit
namespace Tr
end Tr
open Tr
theorem en36:kU Tryz.prog 36:=qU Tryz.func36 (by kernel_rfl) (by kernel_rfl)
theorem en68:kU Tryz.prog 68:=qU Tryz.func68 (by kernel_rfl) (by kernel_rfl)
theorem en33:kU Tryz.prog 33:=qU Tryz.func33 (by kernel_rfl) (by kernel_rfl)
theorem en35:kU Tryz.prog 35:=qU Tryz.func35 (by kernel_rfl) (by kernel_rfl)
theorem ag66:aggB Tryz.prog 66=true:=by kernel_rfl
theorem ce66 (a0 a1 a2 a3 a4 a5:Int):qZU Tryz.prog 4 66 [.int .i64 a0,.int .i64 a1,.int .i64 a2,.int .i64 a3,.int .i64 a4,.int .i64 a5]=true:=by kernel_rfl
namespace Tr
noncomputable def zQQ:List PV→Option (Bool × Ret):=fun ps=>match ps with
 | [.a z']=>(z3D z').bind fun z=>some (true,.v (.a (v3C (V3.of z))))
 | _=>none
theorem yZJ:zX Tryz.prog 36 zQQ:=by
 intro ps r h;unfold zQQ at h;split at h
 ·simp only [vQQ,vQZ,vQY] at h;obtain ⟨z,hz,hg,rfl⟩:=h;rw [jKJ hz];exact qK (qU Tryz.func36 (by kernel_rfl) (by kernel_rfl)) rfl rfl (fun w=>jKX _ _ _ w)
 ·cases h
noncomputable def LTr1:OrL:=(36,zQQ) :: ([]:OrL)
theorem LTr1_ok:AllP (fun x:Nat × (List PV→Option (Bool × Ret))=>zX Tryz.prog x.1 x.2) LTr1:=⟨yZJ,trivial⟩
noncomputable def yXZ:List PV→Option (Bool × Ret):=fun ps=>match ps with
 | [.a v']=>(v3D v').bind fun v=>some (true,.v (.a (poC (Po.shift v))))
 | _=>none
theorem ok_qShift:zX Tryz.prog 116 yXZ:=by
 intro ps r h;unfold yXZ at h;split at h
 ·simp only [vQQ,vQZ,vQY] at h;obtain ⟨v,hv,hg,rfl⟩:=h;rw [zZK hv];exact qK (qU Tryz.func116 (by kernel_rfl) (by kernel_rfl)) rfl rfl (fun w=>qShift _ _ _ _ _ _ w)
 ·cases h
noncomputable def LTr2:OrL:=(116,yXZ) :: LTr1
theorem LTr2_ok:AllP (fun x:Nat × (List PV→Option (Bool × Ret))=>zX Tryz.prog x.1 x.2) LTr2:=⟨ok_qShift,LTr1_ok⟩
noncomputable def jYY:List PV→Option (Bool × Ret):=fun ps=>match ps with
 | [.n .i64 k,.a a']=>(ivD a').bind fun a=>some (true,.v (.a (poC (Po.turn k a))))
 | _=>none
theorem ok_qTurn:zX Tryz.prog 115 jYY:=by
 intro ps r h;unfold jYY at h;split at h
 ·simp only [vQQ,vQZ,vQY] at h;obtain ⟨a,ha,hg,rfl⟩:=h;rw [uW ha];exact qK (qU Tryz.func115 (by kernel_rfl) (by kernel_rfl)) rfl rfl (fun w=>qTurn _ _ _ w)
 ·cases h
noncomputable def LTr3:OrL:=(115,jYY) :: LTr2
theorem LTr3_ok:AllP (fun x:Nat × (List PV→Option (Bool × Ret))=>zX Tryz.prog x.1 x.2) LTr3:=⟨ok_qTurn,LTr2_ok⟩
noncomputable def zKU:List PV→Option (Bool × Ret):=fun ps=>match ps with
 | []=>some (true,.v (.a (poC (Po.rest))))
 | _=>none
theorem yUW:zX Tryz.prog 90 zKU:=by
 intro ps r h;unfold zKU at h;split at h
 ·simp only [vQZ,vQY] at h;obtain ⟨hg,rfl⟩:=h;exact qK (qU Tryz.func90 (by kernel_rfl) (by kernel_rfl)) rfl rfl (fun w=>qRest  w)
 ·cases h
noncomputable def LTr4:OrL:=(90,zKU) :: LTr3
theorem LTr4_ok:AllP (fun x:Nat × (List PV→Option (Bool × Ret))=>zX Tryz.prog x.1 x.2) LTr4:=⟨yUW,LTr3_ok⟩
noncomputable def zWH:List PV→Option (Bool × Ret):=fun ps=>match ps with
 | [.a p',.a q']=>(poD p').bind fun p=>(poD q').bind fun q=>some (true,.v (.a (poC (Po.mul p q))))
 | _=>none
theorem ok_qCompose:zX Tryz.prog 68 zWH:=by
 intro ps r h;unfold zWH at h;split at h
 ·simp only [vQQ,vQZ,vQY] at h;obtain ⟨p,hp,q,hq,hg,rfl⟩:=h;rw [yKY hp];rw [yKY hq];exact qK (qU Tryz.func68 (by kernel_rfl) (by kernel_rfl)) rfl rfl (fun w=>qCompose _ _ _ _ _ _ _ _ _ _ _ _ _ _ _ _ _ _ _ _ _ _ _ _ _ _ _ _ _ _ _ _ _ _ _ _ _ _ _ _ _ _ _ _ _ _ _ _ w)
 ·cases h
noncomputable def LTr5:OrL:=(68,zWH) :: LTr4
theorem LTr5_ok:AllP (fun x:Nat × (List PV→Option (Bool × Ret))=>zX Tryz.prog x.1 x.2) LTr5:=⟨ok_qCompose,LTr4_ok⟩
end Tr
set_option maxRecDepth 100000 in
theorem rJoint (a0 a1:Int) (nm:ByteArray) (kind par ox oy oz jlo jhi we spd acc tq:Int) (w:World):Calls Tryz.prog 67 [.agg #[.string nm,.int .i64 kind,.int .i64 par,.int .i64 ox,.int .i64 oy,.int .i64 oz,.int .i64 jlo,.int .i64 jhi,.int .i64 we,.int .i64 spd,.int .i64 acc,.int .i64 tq],.agg #[.int .i64 a0,.int .i64 a1]].toArray w (Rets (po (yHJ kind ⟨ox,oy,oz⟩ (⟨a0,a1⟩:Iv))) (w)) :=
 zY (x:=.a (poC (yHJ kind ⟨ox,oy,oz⟩ ⟨a0,a1⟩))) (zQ (N:=60) (ps:=[.a [.s nm,.n .i64 kind,.n .i64 par,.n .i64 ox,.n .i64 oy,.n .i64 oz,.n .i64 jlo,.n .i64 jhi,.n .i64 we,.n .i64 spd,.n .i64 acc,.n .i64 tq],.a [.n .i64 a0,.n .i64 a1]]) jU yJ (OrL.ok (l:=LTr5) LTr5_ok) (by
 rcases kind with a | a
 ·rcases a with _ | _ | _ | _ | _ | _ | _ | a <;> kernel_rfl
 ·kernel_rfl)) rfl rfl w
theorem awake11_val:Po.app (yHJ 3 ⟨9,0,0⟩ (Iv.of 16384)) (V3.of ⟨5,0,0⟩)=V3.of ⟨9,5,0⟩:=by kernel_rfl
theorem awake11  (w:World):Calls Tryz.prog 10 [].toArray w (Rets (vB (true)) (w)):=by
 refine yG (n:=13) Tryz.func10 rfl rfl rfl ?_;refine zJ ?_;refine qJ ?_;refine qW (qH rfl) rfl rfl rfl ?_;refine zK ?_;refine qZ ?_;refine zJ ?_;refine qJ ?_;refine qW (qYG la58 rfl rfl) rfl rfl rfl ?_;refine qW (qYG la88 rfl rfl) rfl rfl rfl ?_;refine qXJ (F:=iv) (jX en34 rfl (fun w _=>rOf _  w)) rfl rfl rfl ?_; intro r4 hr4;refine qXJ (F:=po) (jX en33 rfl (fun w _=>kJoint _ _ _ _ _ _ _ _ _ _ _ _ _ _ w)) rfl rfl rfl ?_; intro r5 hr5;refine qWZ 1 ze68 rfl rfl rfl ?_; intro b1;refine qZK 1 ty68 rfl rfl rfl rfl rfl rfl rfl rfl ?_;refine zK ?_;refine qZ ?_;refine zJ ?_;refine qUV 7 mo (by kernel_rfl) ?_;simp only [vYK,vYX,vYU,vYW];refine yW (qZQ 1 ty68 rfl rfl rfl) rfl rfl rfl ?_;refine yW (qYG la58 rfl rfl) rfl rfl rfl ?_;refine zJV (F:=v3) (jX en36 rfl (fun w _=>jKX _ _ _  w)) rfl rfl rfl ?_; intro r8 hr8;refine zJV (F:=v3) (jX en35 rfl (fun w _=>qApply _ _ _ _ _ _ _ _ _ _ _ _ _ _ _ _ _ _ _ _ _ _ _ _ _ _ _ _ _ _  w)) rfl rfl rfl ?_; intro r9 hr9;refine yW (qYG la58 rfl rfl) rfl rfl rfl ?_;refine zJV (F:=v3) (jX en36 rfl (fun w _=>jKX _ _ _  w)) rfl rfl rfl ?_; intro r11 hr11;refine yW (opV_eqA 4 rfl ag66 rfl rfl (ce66 _ _ _ _ _ _) (ce66 _ _ _ _ _ _)) rfl rfl rfl ?_;refine zQU ?_;refine qWV ?_;refine qW (qH rfl) rfl rfl rfl ?_;refine zK ?_;refine qZ ?_;refine uZ ?_;refine jW (rs:=[.tmp 0]) rfl (resC (kG rfl) (resN)) (congrArg (vB) (?_:_=true));show eqCells _ _=true;have e9:r9=Po.app r5 r8:=hr9;exact eq_v3 (by rw [e9,show r5=yHJ 3 ⟨9,0,0⟩ r4 from hr5,hr4,hr8,hr11]; exact awake11_val)
end Go.Proofs.YtgmbkkkbfbocnaaGreat
namespace Go.Proofs.YtgmbkkkbfbocnaaGreat
open Go.Sx
theorem yHU:zJW Tryz.prog 25 0 0=true:=by kernel_rfl
theorem ty22:tyB Tryz.prog 22 false 1=true:=by kernel_rfl
theorem sl22:slcB Tryz.prog 22 88 12=true:=by kernel_rfl
theorem ty25:tyB Tryz.prog 25 true 2=true:=by kernel_rfl
theorem yWW {k:Nat} (h:k≤1000000):vJJ .i64 ((k:Int) + 1)=((k + 1:Nat):Int):=by
 refine (zZ ?_).trans ?_ <;> omega
end Go.Proofs.YtgmbkkkbfbocnaaGreat
namespace Go.Proofs.YtgmbkkkbfbocnaaGreat
open Go.Sx
theorem kKZ:appB Tryz.prog 69 68 24 192=true:=by kernel_rfl
theorem kLinks  (aj am ab:Option Addr) (cj nm cm cb n:Nat) (js:List J) (bx:List Iv) (hn:n≤1000) (hjn:js.length=n) (hbn:bx.length=n) (hpar:∀ (k:Nat) (j:J),js[k]? = some j → -1≤j.parent∧j.parent < k) (w:World) (hS:qUQ 12 aj (js.map jc) w) (hT:qUQ 2 ab (bx.map ivc) w):Calls Tryz.prog 86 [.agg #[.slice aj n cj,.slice am nm cm],.slice ab n cb].toArray w (kYG (X:=Nat) (fun _=>True) (fun b=>.slice (some ⟨b,0,none⟩) n n) (fun b=>qUQ 24 (some ⟨b,0,none⟩) ((lks js bx n).map pc)) w):=by
 refine yG (n:=47) Tryz.func86 rfl rfl rfl ?_;refine zJ ?_;refine qJ ?_;refine zYJ 2 rfl rfl rfl rfl ?_; intro b2;refine qW (qH rfl) rfl rfl rfl ?_;refine zK ?_;refine qZ ?_;refine zJ ?_;refine qJ ?_;refine qW (zW yHU rfl) rfl rfl rfl ?_;refine qW (yX 2 ty22 rfl rfl rfl) rfl rfl rfl ?_;refine qW (qHG sl22 rfl) rfl rfl rfl ?_;refine doL_make 11 (yWU kKZ ze68) rfl (by omega) (by omega) rfl rfl ?_; intro b11;refine qW (qH rfl) rfl rfl rfl ?_;refine zK ?_;refine qZ ?_;refine zJ ?_;refine zJ ?_;refine qJ ?_;refine qW (zW yHU rfl) rfl rfl rfl ?_;refine qW (yX 2 ty22 rfl rfl rfl) rfl rfl rfl ?_;refine qW (qHG sl22 rfl) rfl rfl rfl ?_;refine qW (qV rfl) rfl rfl rfl ?_;refine zK ?_;refine qZ ?_;refine qUG ?_;refine doC_loopK [1,2,5,13,14] [2] (α:=Nat × List Po) (fun x=>n - x.1) (fun x=>x.1≤n∧lks js bx x.1=x.2∧x.2.length=x.1) (fun x=>⟨w,[(11,(· = b11),yGZ b11 24 68 (lkR x.2 (n - x.1)))]⟩) (fun x=>[(15,.int .i64 (x.1:Int))]) (fun _=>[]) (0,[]) rfl rfl ?_ ?_ ?_ ?_ rfl ?_
 ·
  exact ⟨Nat.zero_le _,rfl,rfl⟩
 ·
  exact rfl
 ·
  repeat' first | exact trivial | exact True.intro | refine ⟨rfl,?_⟩
 ·
  repeat' first | exact trivial | exact True.intro | refine ⟨rfl,?_⟩
 rintro ⟨k,ps⟩ ⟨hk,hps,hlen⟩
 dsimp only at hk hps hlen ⊢;subst hlen;refine zJ ?_;refine qJ ?_;refine qW (qWU rfl rfl) rfl rfl rfl ?_;refine zK ?_;refine qZ ?_;refine zJ ?_;refine qKK rfl (fun hc16 => ?_) (fun hc16 => ?_)
 ·
  have h2:ps.length < n:=by have:=vJZ hc16; omega
  obtain ⟨j,hjk⟩:∃ j,js[ps.length]? = some j:=⟨_,vQK (by omega)⟩
  obtain ⟨a,hak⟩:∃ a,bx[ps.length]? = some a:=⟨_,vQK (by omega)⟩
  have hj:(js.map jc)[ps.length]? = some (jc j):=by rw [vZY,hjk]; rfl
  have ha:(bx.map ivc)[ps.length]? = some (ivc a):=by rw [vZY,hak]; rfl
  have hpj:=hpar _ j hjk;obtain ⟨m,hm⟩:∃ m,n - ps.length=m + 1:=⟨n - ps.length - 1,by omega⟩
  rw [hm];have hz:(lkR ps (m + 1))[ps.length]? = some zRow:=by unfold lkR; rw [List.getElem?_append_right (by simp)]; simp
  refine qQJ ?_;refine qZ ?_;refine zJ ?_;refine qUG ?_;refine zJ ?_;refine qJ ?_;refine qW (qV rfl) rfl rfl rfl ?_;refine qW (qZZ (e:=88) (kH hS) (by kernel_rfl) rfl rfl rfl hj h2) rfl rfl rfl ?_;refine qW (qXU (vs:=[.string j.name,.int .i64 j.kind,.int .i64 j.parent,.int .i64 j.off.x,.int .i64 j.off.y,.int .i64 j.off.z,.int .i64 j.lo,.int .i64 j.hi,.int .i64 j.weight,.int .i64 j.speed,.int .i64 j.accel,.int .i64 j.torque]) ps.length 0 (kH hS) hj ty88 rfl rfl) rfl rfl rfl ?_;refine qWZ 7 ze88 rfl rfl rfl ?_; intro b7;refine qW (qH rfl) rfl rfl rfl ?_;refine qZK 7 ty88 rfl rfl rfl rfl rfl rfl rfl rfl ?_;refine zK ?_;refine qZ ?_;refine zJ ?_;refine qUV 8 mo (by kernel_rfl) ?_;simp only [vYK,vYX,vYU,vYW];refine yW (qV rfl) rfl rfl rfl ?_;refine yW (qV rfl) rfl rfl rfl ?_;refine yW (qZQ 7 ty88 rfl rfl rfl) rfl rfl rfl ?_;refine yW (qV rfl) rfl rfl rfl ?_;refine yW (qV rfl) rfl rfl rfl ?_;refine yW (qZZ (e:=62) (kH hT) (by kernel_rfl) rfl rfl rfl ha h2) rfl rfl rfl ?_;refine yW (qXU (vs:=[.int .i64 a.lo,.int .i64 a.hi]) ps.length 0 (kH hT) ha ty62 rfl rfl) rfl rfl rfl ?_;refine zJV (F:=po) (jX en33 rfl (fun w _=>kJoint _ _ _ _ _ _ _ _ _ _ _ _ _ _ w)) rfl rfl rfl ?_; intro r27 hr27;refine zQU ?_;refine qWV ?_;refine qW (qZZ (e:=68) ((zQK (id:=11) rfl).imp qVU) (by kernel_rfl) rfl rfl rfl hz h2) rfl rfl rfl ?_;refine doL_storeRow (vs:=pc r27) (j:=ps.length) 11 ty68 rfl rfl rfl (by simp [lkR]) rfl rfl rfl rfl ?_; intro R28 hR28;obtain rfl:=Option.some.inj hR28;rw [lkR_set];refine zK ?_;refine qZ ?_;refine zJ ?_;refine qJ ?_;refine qW (zW jUJ rfl) rfl rfl rfl ?_;refine qW (yX 7 ty3 rfl rfl rfl) rfl rfl rfl ?_;refine qW (yZY rfl rfl) rfl rfl rfl ?_;refine zK ?_;refine qZ ?_;refine qKK rfl (fun hc31 => ?_) (fun hc31 => ?_)
  ·
   have hp:¬ j.parent = -1:=by simpa using hc31
   have hpl:j.parent.toNat < ps.length:=by omega
   have hpn:j.parent=((j.parent.toNat:Nat):Int):=by omega
   refine qUV 12 mo (by kernel_rfl) ?_;simp only [vYK,vYX,vYU,vYW];refine yW (qV rfl) rfl rfl rfl ?_;refine yW (qV rfl) rfl rfl rfl ?_;refine yW (qV rfl) rfl rfl rfl ?_;refine yW (zW jUJ rfl) rfl rfl rfl ?_;refine yW (yX 7 ty3 rfl rfl rfl) rfl rfl rfl ?_;refine yW (qZZ (e:=68) ((zQK (id:=11) rfl).imp qVU) (by kernel_rfl) rfl rfl hpn (lkR_at hpl) (by omega)) rfl rfl rfl ?_;refine yW (qXU (vs:=pc (ps.getD j.parent.toNat Po.rest)) j.parent.toNat 0 ((zQK (id:=11) rfl).imp qVU) (lkR_at hpl) ty68 rfl rfl) rfl rfl rfl ?_;refine yW (qV rfl) rfl rfl rfl ?_;refine yW (qV rfl) rfl rfl rfl ?_;refine yW (qZZ (e:=68) ((zQK (id:=11) rfl).imp qVU) (by kernel_rfl) rfl rfl rfl jGU h2) rfl rfl rfl ?_;refine yW (qXU (vs:=pc r27) ps.length 0 ((zQK (id:=11) rfl).imp qVU) jGU ty68 rfl rfl) rfl rfl rfl ?_;refine zJV (F:=po) (jX en78 rfl (fun w _=>pCompose _ _ _ _ _ _ _ _ _ _ _ _ _ _ _ _ _ _ _ _ _ _ _ _ _ _ _ _ _ _ _ _ _ _ _ _ _ _ _ _ _ _ _ _ _ _ _ _  w)) rfl rfl rfl ?_; intro r43 hr43;refine zQU ?_;refine qWV ?_;refine qW (qZZ (e:=68) ((zQK (id:=11) rfl).imp qVU) (by kernel_rfl) rfl rfl rfl jGU h2) rfl rfl rfl ?_;refine doL_storeRow (vs:=pc r43) (j:=ps.length) 11 ty68 rfl rfl rfl (by simp [lkR]) rfl rfl rfl rfl ?_; intro R44 hR44;obtain rfl:=Option.some.inj hR44;rw [lkR_set2];refine zK ?_;refine kJ ?_;refine qZ ?_;refine qJ ?_;refine qW (qJG rfl rfl (yWW (by omega))) rfl rfl rfl ?_;refine qW (qV rfl) rfl rfl rfl ?_;refine zK ?_;refine zYX (ps.length + 1,ps ++ [r43]) (by refine ⟨?_,?_,?_⟩ <;> dsimp only; omega; rw [zHW hjk hak,hps]; exact congrArg (fun x=>ps ++ [x]) ((if_neg hp).trans (by rw [show r43=Po.mul (ps.getD j.parent.toNat Po.rest) r27 from hr43,hr27]; try rfl)); simp) (by show n - (ps.length + 1) < n - ps.length; omega) (by dsimp only; rw [show n - (ps.length + 1)=m by omega,← lkR_done]; try rfl) ?_ ?_ rfl
   repeat' first | exact trivial | exact True.intro | refine ⟨rfl,?_⟩
  ·
   have hp:j.parent = -1:=by simpa using hc31
   refine qQJ ?_;refine kJ ?_;refine qZ ?_;refine qJ ?_;refine qW (qJG rfl rfl (yWW (by omega))) rfl rfl rfl ?_;refine qW (qV rfl) rfl rfl rfl ?_;refine zK ?_;refine zYX (ps.length + 1,ps ++ [r27]) (by refine ⟨?_,?_,?_⟩ <;> dsimp only; omega; rw [zHW hjk hak,hps]; exact congrArg (fun x=>ps ++ [x]) ((if_pos hp).trans hr27.symm); simp) (by show n - (ps.length + 1) < n - ps.length; omega) (by dsimp only; rw [show n - (ps.length + 1)=m by omega,← lkR_done]; try rfl) ?_ ?_ rfl
   repeat' first | exact trivial | exact True.intro | refine ⟨rfl,?_⟩
 ·
  have h2:ps.length=n:=by have:=vJY hc16; omega
  refine yVV ?_;refine qYK ?_;refine qYK ?_;refine qVX ?_;refine qZ ?_;refine zJ ?_;refine qJ ?_;refine qW (qV rfl) rfl rfl rfl ?_;refine qW (qH rfl) rfl rfl rfl ?_;refine zK ?_;refine qZ ?_;refine uZ ?_;refine yUJ (rs:=[.tmp 4]) rfl (resC (kG rfl) (resN)) rfl ?_;intro w2 k2;obtain ⟨_,q2,q3⟩:=k2.facts _ vZQ;refine ⟨b11,trivial,rfl,k2.grow,ownD _,slc_dep _ _ _,fun z hz => ?_,?_⟩
  ·obtain ⟨ad,h1,h2⟩:=hz;cases h1;subst h2;exact ⟨(q2 _ rfl).1,(q2 _ rfl).2.1⟩
  ·have q4:=qVU _ q3;rw [← h2,hps]
   simpa [lkR,h2] using q4
end Go.Proofs.YtgmbkkkbfbocnaaGreat

/- Part 26 of the texts behind the last one: rules and contracts. No condition. -/
import Derived.Test.YtgmbkkkbfbocnaaGreatKL25
open Option.some renaming injEq → vQZ
open Prod.mk renaming injEq → vQY
open Go.IntKind renaming wrap → vJJ
namespace Go.Proofs.YtgmbkkkbfbocnaaGreat.Na
open Go.Rx Rt Go.Sx Go.RowKit Od
def okC (first:Bool) (c:Int):Bool:=(decide (97≤c) && decide (c≤122)) || (!first && ((decide (48≤c) && decide (c≤57)) || decide (c=95)))
def allC (s:ByteArray):Nat→Nat→Bool
 | 0,_=>true
 | k + 1,p=>okC (decide ((p:Int)=0)) (zXU s p) && allC s k (p + 1)
def wrld:ByteArray:=ByteArray.mk #[119,111,114,108,100]
def nmB (s:ByteArray):Bool:=!(decide ((s.size:Int)=0)) && (!(decide (16 < (s.size:Int))) && (!(s.toList == wrld.toList) && allC s s.size 0))
theorem okC_high {f:Bool} {c:Int} (h:128≤c):okC f c=false:=by
 unfold okC;rw [vYH (show ¬ c≤122 by omega),vYH (show ¬ c≤57 by omega),vYH (show ¬ c=95 by omega)]
 simp
theorem byteAt_get {s:ByteArray} {p:Nat} (h:p < s.size):zXU s p=((s[p]'h).toNat:Int):=by
 unfold zXU;rw [getElem?_pos s p h];rfl
def hTn (s:ByteArray) (pos:Nat):St:=⟨[(18,.p 18 0)],[(18,.itr s pos)]⟩
def kJX {α:Type} (first:Bool) (c:Int) (g k:α):α:=(bif (decide (97≤c)) then (bif (decide (c≤122)) then g else (bif first then k else (bif (decide (48≤c)) then (bif (decide (c≤57)) then g else (bif (!decide (c=95)) then k else g)) else (bif (!decide (c=95)) then k else g)))) else (bif first then k else (bif (decide (48≤c)) then (bif (decide (c≤57)) then g else (bif (!decide (c=95)) then k else g)) else (bif (!decide (c=95)) then k else g))))
theorem rawTn_eq {α:Type} (first:Bool) (c:Int) (g k:α):kJX first c g k=bif okC first c then g else k:=by
 unfold kJX okC;cases first <;> cases hA:decide (97≤c) <;> cases hB:decide (c≤122) <;> cases hC:decide (48≤c) <;> cases hD:decide (c≤57) <;> cases hE:decide (c=95) <;> first | rfl | (exfalso; simp only [decide_eq_true_eq,decide_eq_false_iff_not] at *; omega)
set_option maxRecDepth 100000 in
theorem rdTn (G:St→Option (Ret × Mem)) (K:Cont) (s:ByteArray) (pos:Nat):qWG 60 (cxF T (OrL.k ([]:OrL)) 60 53 (ntmF T 53)) (ckF T (OrL.k ([]:OrL)) 60) (qQ T 53 [0,1,0,1,1]) (fun e τ=>match e with
 | .normal=>G (qXZ ((cxF T (OrL.k ([]:OrL)) 60 53 (ntmF T 53)).T.hint (cxF T (OrL.k ([]:OrL)) 60 53 (ntmF T 53)).me (qG (qQ T 53 [0,1,0,1,1]))) τ)
 | e=>K e (qJK ((cxF T (OrL.k ([]:OrL)) 60 53 (ntmF T 53)).T.hint (cxF T (OrL.k ([]:OrL)) 60 53 (ntmF T 53)).me (qG (qQ T 53 [0,1,0,1,1]))) τ)) (hTn s pos) =
 bif (decide (pos < s.size)) then kJX (decide ((pos:Int)=0)) ((Utf8.decode s pos).1:Int) (G (hTn s (pos + (Utf8.decode s pos).2))) (K .ret ⟨[(2,.v (.b false))],[]⟩) else (K (.exit 0) ⟨[],[]⟩):=by kernel_rfl
theorem lpTn (K:Cont) (s:ByteArray):∀ (k p m:Nat),p + k=s.size→k < m→LF 60 (cxF T (OrL.k ([]:OrL)) 60 53 (ntmF T 53)) (ckF T (OrL.k ([]:OrL)) 60) (qQ T 53 [0,1,0,1,1]) ((cxF T (OrL.k ([]:OrL)) 60 53 (ntmF T 53)).T.hint (cxF T (OrL.k ([]:OrL)) 60 53 (ntmF T 53)).me (qG (qQ T 53 [0,1,0,1,1]))) K m (hTn s p)=bif allC s k p then (K (.exit 0) ⟨[],[]⟩) else (K .ret ⟨[(2,.v (.b false))],[]⟩)
 | 0,p,m + 1,hp,hm=>by
  refine (rdTn (fun σ=>LF 60 (cxF T (OrL.k ([]:OrL)) 60 53 (ntmF T 53)) (ckF T (OrL.k ([]:OrL)) 60) (qQ T 53 [0,1,0,1,1]) ((cxF T (OrL.k ([]:OrL)) 60 53 (ntmF T 53)).T.hint (cxF T (OrL.k ([]:OrL)) 60 53 (ntmF T 53)).me (qG (qQ T 53 [0,1,0,1,1]))) K m σ) K s p).trans ?_;rw [vYH (show ¬ p < s.size by omega)];rfl
 | k + 1,p,m + 1,hp,hm=>by
  refine (rdTn (fun σ=>LF 60 (cxF T (OrL.k ([]:OrL)) 60 53 (ntmF T 53)) (ckF T (OrL.k ([]:OrL)) 60) (qQ T 53 [0,1,0,1,1]) ((cxF T (OrL.k ([]:OrL)) 60 53 (ntmF T 53)).T.hint (cxF T (OrL.k ([]:OrL)) 60 53 (ntmF T 53)).me (qG (qQ T 53 [0,1,0,1,1]))) K m σ) K s p).trans ?_;have hlt:p < s.size:=by omega
  rw [vJQ hlt,vYV,rawTn_eq];simp only [allC];have hb:=byteAt_get hlt;by_cases h128:(s[p]'hlt).toNat < 128
  ·rw [Go.decode_ascii s p hlt h128,hb];rw [lpTn K s k (p + 1) m (by omega) (by omega)];cases okC (decide ((p:Int)=0)) ((s[p]'hlt).toNat:Int) <;> rfl
  ·have hd:=(Go.decode_high s p hlt (by omega)).1;rw [okC_high (c:=((Utf8.decode s p).1:Int)) (by omega),okC_high (c:=zXU s p) (by omega)];rfl
set_option maxRecDepth 100000 in
theorem pxTn (s:ByteArray):yQW T (OrL.k ([]:OrL)) (qX [([0,1,0,1,1],qQX (hTn s 0) (fun K=>bif decide (16 < (s.size:Int)) then none else (bif allC s s.size 0 then (K (.exit 0) ⟨[],[]⟩) else (K .ret ⟨[(2,.v (.b false))],[]⟩))))]) 60 53 [.s s] =
 (bif (decide ((s.size:Int)=0)) then some (.v (.b false),[]) else (bif (decide (16 < (s.size:Int))) then some (.v (.b false),[]) else (bif (s.toList == (ByteArray.mk #[119,111,114,108,100]).toList) then some (.v (.b false),[]) else (bif gSt (hTn s 0) (hTn s 0) then (bif decide (16 < (s.size:Int)) then none else (bif allC s s.size 0 then some (.v (.b true),[]) else some (.v (.b false),[]))) else none)))):=by kernel_rfl
theorem snd_Tn (s:ByteArray):yH Tryz.prog 53 [.s s] (.v (.b (nmB s))):=by
 refine qZW (N:=60) (LO:=qX [([0,1,0,1,1],qQX (hTn s 0) (fun K=>bif decide (16 < (s.size:Int)) then none else (bif allC s s.size 0 then (K (.exit 0) ⟨[],[]⟩) else (K .ret ⟨[(2,.v (.b false))],[]⟩))))]) jU yJ (OrL.ok (l:=[]) trivial) (fun p S hp => ?_) ?_
 ·refine qKY (L:=qQ T 53) (l:=[([0,1,0,1,1],qQX (hTn s 0) (fun K=>bif decide (16 < (s.size:Int)) then none else (bif allC s s.size 0 then (K (.exit 0) ⟨[],[]⟩) else (K .ret ⟨[(2,.v (.b false))],[]⟩))))]) (show AllP _ [([0,1,0,1,1],qQX (hTn s 0) (fun K=>bif decide (16 < (s.size:Int)) then none else (bif allC s s.size 0 then (K (.exit 0) ⟨[],[]⟩) else (K .ret ⟨[(2,.v (.b false))],[]⟩))))] from ⟨qXW fun K r hr => ?_,trivial⟩) p S hp;cases hq:decide (16 < (s.size:Int)) with
  | true=>rw [hq] at hr; cases hr
  | false =>
   rw [hq] at hr;have h16:=vJY hq;exact (lpTn K s s.size 0 60 (by omega) (by omega)).trans hr
 ·refine (pxTn s).trans ?_;rw [jK,vYV];show _=some (Ret.v (.b (!(decide ((s.size:Int)=0)) && (!(decide (16 < (s.size:Int))) && (!(s.toList == (ByteArray.mk #[119,111,114,108,100]).toList) && allC s s.size 0)))),[]);cases decide ((s.size:Int)=0) <;> cases decide (16 < (s.size:Int)) <;> cases (s.toList == (ByteArray.mk #[119,111,114,108,100]).toList) <;> cases allC s s.size 0 <;> rfl
def hRn (s:ByteArray) (i:Int):St:=⟨[(0,.v (.s s)),(3,.v (.n .i64 i))],[]⟩
def kJW {α:Type} (b:Bool) (first:Bool) (c:Int) (g k:Option α):Option α:=(bif b then (bif (decide (97≤c)) then (bif b then (bif (decide (c≤122)) then g else (bif first then k else (bif b then (bif (!decide (c=95)) then (bif b then (bif (decide (c < 48)) then k else (bif b then (bif (decide (57 < c)) then k else g) else none)) else none) else g) else none))) else none) else (bif first then k else (bif b then (bif (!decide (c=95)) then (bif b then (bif (decide (c < 48)) then k else (bif b then (bif (decide (57 < c)) then k else g) else none)) else none) else g) else none))) else none)
theorem rawRn_eq {α:Type} (first:Bool) (c:Int) (g k:Option α):kJW true first c g k=bif okC first c then g else k:=by
 unfold kJW okC;rw [show decide (c < 48) = !decide (48≤c) by rw [← decide_not]; exact decide_eq_decide.2 (by omega),show decide (57 < c) = !decide (c≤57) by rw [← decide_not]; exact decide_eq_decide.2 (by omega)];cases first <;> cases hA:decide (97≤c) <;> cases hB:decide (c≤122) <;> cases hC:decide (48≤c) <;> cases hD:decide (c≤57) <;> cases hE:decide (c=95) <;> first | rfl | (exfalso; simp only [decide_eq_true_eq,decide_eq_false_iff_not] at *; omega)
set_option maxRecDepth 100000 in
theorem rdRn (G:St→Option (Ret × Mem)) (K:Cont) (s:ByteArray) (i:Int):qWG 60 (cxF T (OrL.k ([]:OrL)) 60 106 (ntmF T 106)) (ckF T (OrL.k ([]:OrL)) 60) (qQ T 106 [0,1,0,1,1]) (fun e τ=>match e with
 | .normal=>G (qXZ ((cxF T (OrL.k ([]:OrL)) 60 106 (ntmF T 106)).T.hint (cxF T (OrL.k ([]:OrL)) 60 106 (ntmF T 106)).me (qG (qQ T 106 [0,1,0,1,1]))) τ)
 | e=>K e (qJK ((cxF T (OrL.k ([]:OrL)) 60 106 (ntmF T 106)).T.hint (cxF T (OrL.k ([]:OrL)) 60 106 (ntmF T 106)).me (qG (qQ T 106 [0,1,0,1,1]))) τ)) (hRn s i) =
 bif (decide (i < (s.size:Int))) then kJW (inB i s.size) (decide (i=0)) (zXU s i.toNat) (G (hRn s (vJJ .i64 (i + 1)))) (K .ret ⟨[(2,.v (.b false))],[]⟩) else (K (.exit 0) ⟨[],[]⟩):=by kernel_rfl
theorem lpRn (K:Cont) (s:ByteArray) (hs:s.size≤1000):∀ (k p m:Nat),p + k=s.size→k < m→LF 60 (cxF T (OrL.k ([]:OrL)) 60 106 (ntmF T 106)) (ckF T (OrL.k ([]:OrL)) 60) (qQ T 106 [0,1,0,1,1]) ((cxF T (OrL.k ([]:OrL)) 60 106 (ntmF T 106)).T.hint (cxF T (OrL.k ([]:OrL)) 60 106 (ntmF T 106)).me (qG (qQ T 106 [0,1,0,1,1]))) K m (hRn s p)=bif allC s k p then (K (.exit 0) ⟨[],[]⟩) else (K .ret ⟨[(2,.v (.b false))],[]⟩)
 | 0,p,m + 1,hp,hm=>by
  refine (rdRn (fun σ=>LF 60 (cxF T (OrL.k ([]:OrL)) 60 106 (ntmF T 106)) (ckF T (OrL.k ([]:OrL)) 60) (qQ T 106 [0,1,0,1,1]) ((cxF T (OrL.k ([]:OrL)) 60 106 (ntmF T 106)).T.hint (cxF T (OrL.k ([]:OrL)) 60 106 (ntmF T 106)).me (qG (qQ T 106 [0,1,0,1,1]))) K m σ) K s p).trans ?_;rw [vYH (show ¬ (p:Int) < (s.size:Int) by omega)];rfl
 | k + 1,p,m + 1,hp,hm=>by
  refine (rdRn (fun σ=>LF 60 (cxF T (OrL.k ([]:OrL)) 60 106 (ntmF T 106)) (ckF T (OrL.k ([]:OrL)) 60) (qQ T 106 [0,1,0,1,1]) ((cxF T (OrL.k ([]:OrL)) 60 106 (ntmF T 106)).T.hint (cxF T (OrL.k ([]:OrL)) 60 106 (ntmF T 106)).me (qG (qQ T 106 [0,1,0,1,1]))) K m σ) K s p).trans ?_;have hB:inB (p:Int) s.size=true:=by unfold inB; rw [vJQ (show (0:Int)≤p by omega),vJQ (show (p:Int).toNat < s.size by omega)]; rfl
  rw [vJQ (show (p:Int) < (s.size:Int) by omega),vYV,hB,rawRn_eq];simp only [allC];rw [show vJJ .i64 ((p:Int) + 1)=((p + 1:Nat):Int) by rw [zZ (by omega)]; omega,lpRn K s hs k (p + 1) m (by omega) (by omega)];show (bif okC (decide ((p:Int)=0)) (zXU s (p:Int).toNat) then _ else _)=_;rw [show (p:Int).toNat=p by omega];cases okC (decide ((p:Int)=0)) (zXU s p) <;> rfl
set_option maxRecDepth 100000 in
theorem pxRn (s:ByteArray):yQW T (OrL.k ([]:OrL)) (qX [([0,1,0,1,1],qQX (hRn s 0) (fun K=>bif decide (16 < (s.size:Int)) then none else (bif allC s s.size 0 then (K (.exit 0) ⟨[],[]⟩) else (K .ret ⟨[(2,.v (.b false))],[]⟩))))]) 60 106 [.s s] =
 (bif (decide ((s.size:Int) < 1)) then some (.v (.b false),[]) else (bif (decide (16 < (s.size:Int))) then some (.v (.b false),[]) else (bif (s.toList == (ByteArray.mk #[119,111,114,108,100]).toList) then some (.v (.b false),[]) else (bif gSt (hRn s 0) (hRn s 0) then (bif decide (16 < (s.size:Int)) then none else (bif allC s s.size 0 then some (.v (.b true),[]) else some (.v (.b false),[]))) else none)))):=by kernel_rfl
theorem snd_Rn (s:ByteArray):yH Tryz.prog 106 [.s s] (.v (.b (nmB s))):=by
 refine qZW (N:=60) (LO:=qX [([0,1,0,1,1],qQX (hRn s 0) (fun K=>bif decide (16 < (s.size:Int)) then none else (bif allC s s.size 0 then (K (.exit 0) ⟨[],[]⟩) else (K .ret ⟨[(2,.v (.b false))],[]⟩))))]) jU yJ (OrL.ok (l:=[]) trivial) (fun p S hp => ?_) ?_
 ·refine qKY (L:=qQ T 106) (l:=[([0,1,0,1,1],qQX (hRn s 0) (fun K=>bif decide (16 < (s.size:Int)) then none else (bif allC s s.size 0 then (K (.exit 0) ⟨[],[]⟩) else (K .ret ⟨[(2,.v (.b false))],[]⟩))))]) (show AllP _ [([0,1,0,1,1],qQX (hRn s 0) (fun K=>bif decide (16 < (s.size:Int)) then none else (bif allC s s.size 0 then (K (.exit 0) ⟨[],[]⟩) else (K .ret ⟨[(2,.v (.b false))],[]⟩))))] from ⟨qXW fun K r hr => ?_,trivial⟩) p S hp;cases hq:decide (16 < (s.size:Int)) with
  | true=>rw [hq] at hr; cases hr
  | false =>
   rw [hq] at hr;have h16:=vJY hq;exact (lpRn K s (by omega) s.size 0 60 (by omega) (by omega)).trans hr
 ·refine (pxRn s).trans ?_;rw [jK,vYV];rw [show decide ((s.size:Int) < 1)=decide ((s.size:Int)=0) from decide_eq_decide.2 (by omega)];show _=some (Ret.v (.b (!(decide ((s.size:Int)=0)) && (!(decide (16 < (s.size:Int))) && (!(s.toList == (ByteArray.mk #[119,111,114,108,100]).toList) && allC s s.size 0)))),[]);cases decide ((s.size:Int)=0) <;> cases decide (16 < (s.size:Int)) <;> cases (s.toList == (ByteArray.mk #[119,111,114,108,100]).toList) <;> cases allC s s.size 0 <;> rfl
end Go.Proofs.YtgmbkkkbfbocnaaGreat.Na
namespace Go.Proofs.YtgmbkkkbfbocnaaGreat.Nb
open Go.Rx Rt Go.Sx Go.RowKit Od
open Na
def fJ (js:Nat→J):Nat→List PV:=fun v=>jp (js v)
def fM (ms:Nat→Ms):Nat→List PV:=fun v=>mp (ms v)
def fnd (js:Nat→J) (nm:ByteArray):Nat→Nat→Int
 | 0,_ => -1
 | k + 1,p=>bif ((js p).name.toList == nm.toList) then (p:Int) else fnd js nm k (p + 1)
def dup (js:Nat→J) (nm:ByteArray):Nat→Nat→Bool
 | 0,_=>false
 | k + 1,p=>((js p).name.toList == nm.toList) || dup js nm k (p + 1)
def hF (js:Nat→J) (ms:Nat→Ms) (n m:Nat) (nm:ByteArray) (i:Int):St:=⟨[(1,.v (.s nm)),(2,.p 2 0),(8,.v (.n .i64 (n:Int))),(9,.v (.n .i64 i))],[(2,.blk [.v (.lf n (fJ js)),.v (.lf m (fM ms))])]⟩
set_option maxRecDepth 100000 in
theorem rdF (G:St→Option (Ret × Mem)) (K:Cont) (js:Nat→J) (ms:Nat→Ms) (n m:Nat) (nm:ByteArray) (i:Int):qWG 60 (cxF T (OrL.k ([]:OrL)) 60 164 (ntmF T 164)) (ckF T (OrL.k ([]:OrL)) 60) (qQ T 164 [0,1,0,1]) (fun e τ=>match e with
 | .normal=>G (qXZ ((cxF T (OrL.k ([]:OrL)) 60 164 (ntmF T 164)).T.hint (cxF T (OrL.k ([]:OrL)) 60 164 (ntmF T 164)).me (qG (qQ T 164 [0,1,0,1]))) τ)
 | e=>K e (qJK ((cxF T (OrL.k ([]:OrL)) 60 164 (ntmF T 164)).T.hint (cxF T (OrL.k ([]:OrL)) 60 164 (ntmF T 164)).me (qG (qQ T 164 [0,1,0,1]))) τ)) (hF js ms n m nm i) =
 (bif (decide (i < (n:Int))) then (bif (inB i n) then (bif ((js (i).toNat).name.toList == nm.toList) then (K .ret ⟨[(4,.v (.n .i64 i))],[]⟩)
 else (G (hF js ms n m nm (vJJ .i64 (i + 1)))))
 else none)
 else (K (.exit 0) ⟨[],[]⟩)):=by kernel_rfl
theorem lpF (K:Cont) (js:Nat→J) (ms:Nat→Ms) (n m:Nat) (nm:ByteArray) (hn:n≤1000):∀ (k p q:Nat),p + k=n→k < q→LF 60 (cxF T (OrL.k ([]:OrL)) 60 164 (ntmF T 164)) (ckF T (OrL.k ([]:OrL)) 60) (qQ T 164 [0,1,0,1]) ((cxF T (OrL.k ([]:OrL)) 60 164 (ntmF T 164)).T.hint (cxF T (OrL.k ([]:OrL)) 60 164 (ntmF T 164)).me (qG (qQ T 164 [0,1,0,1]))) K q (hF js ms n m nm p)=(bif decide (fnd js nm k p = -1) then K (.exit 0) ⟨[],[]⟩ else K .ret ⟨[(4,.v (.n .i64 (fnd js nm k p)))],[]⟩)
 | 0,p,q + 1,hp,hq=>by
  refine (rdF (fun σ=>LF 60 (cxF T (OrL.k ([]:OrL)) 60 164 (ntmF T 164)) (ckF T (OrL.k ([]:OrL)) 60) (qQ T 164 [0,1,0,1]) ((cxF T (OrL.k ([]:OrL)) 60 164 (ntmF T 164)).T.hint (cxF T (OrL.k ([]:OrL)) 60 164 (ntmF T 164)).me (qG (qQ T 164 [0,1,0,1]))) K q σ) K js ms n m nm p).trans ?_;rw [vYH (show ¬ (p:Int) < (n:Int) by omega)];rfl
 | k + 1,p,q + 1,hp,hq=>by
  refine (rdF (fun σ=>LF 60 (cxF T (OrL.k ([]:OrL)) 60 164 (ntmF T 164)) (ckF T (OrL.k ([]:OrL)) 60) (qQ T 164 [0,1,0,1]) ((cxF T (OrL.k ([]:OrL)) 60 164 (ntmF T 164)).T.hint (cxF T (OrL.k ([]:OrL)) 60 164 (ntmF T 164)).me (qG (qQ T 164 [0,1,0,1]))) K q σ) K js ms n m nm p).trans ?_;rw [vJQ (show (p:Int) < (n:Int) by omega),kX (show p < n by omega),qZH (by omega),lpF K js ms n m nm hn k (p + 1) q (by omega) (by omega),toN];by_cases hq:((js p).name.toList == nm.toList)=true
  ·simp only [fnd,hq,vYV,vYH (show ¬ (p:Int) = -1 by omega),vYG]
  ·rw [Bool.not_eq_true] at hq;simp only [fnd,hq,vYV,vYG]
set_option maxRecDepth 100000 in
theorem pxF (js:Nat→J) (ms:Nat→Ms) (n m:Nat) (nm:ByteArray):yQW T (OrL.k ([]:OrL)) (qX [([0,1,0,1],qQX (hF js ms n m nm 0) (fun K=>(bif decide (fnd js nm n 0 = -1) then K (.exit 0) ⟨[],[]⟩ else K .ret ⟨[(4,.v (.n .i64 (fnd js nm n 0)))],[]⟩)))]) 60 164 [(.a [.lf n (fJ js),.lf m (fM ms)]),.s nm] =
 bif gSt (hF js ms n m nm 0) (hF js ms n m nm 0) then (bif decide (fnd js nm n 0 = -1) then some (.v (.n .i64 (-1)),[]) else some (.v (.n .i64 (fnd js nm n 0)),[])) else none:=by kernel_rfl
theorem snd_find (js:Nat→J) (ms:Nat→Ms) (n m:Nat) (nm:ByteArray) (hn:n≤50):yH Tryz.prog 164 [(.a [.lf n (fJ js),.lf m (fM ms)]),.s nm] (.v (.n .i64 (fnd js nm n 0))):=by
 refine qZW (N:=60) (LO:=qX [([0,1,0,1],qQX (hF js ms n m nm 0) (fun K=>(bif decide (fnd js nm n 0 = -1) then K (.exit 0) ⟨[],[]⟩ else K .ret ⟨[(4,.v (.n .i64 (fnd js nm n 0)))],[]⟩)))]) jU yJ (OrL.ok (l:=[]) trivial) (fun p S hp => ?_) ?_
 ·refine qKY (L:=qQ T 164) (l:=[([0,1,0,1],qQX (hF js ms n m nm 0) (fun K=>(bif decide (fnd js nm n 0 = -1) then K (.exit 0) ⟨[],[]⟩ else K .ret ⟨[(4,.v (.n .i64 (fnd js nm n 0)))],[]⟩)))]) (show AllP _ [([0,1,0,1],qQX (hF js ms n m nm 0) (fun K=>(bif decide (fnd js nm n 0 = -1) then K (.exit 0) ⟨[],[]⟩ else K .ret ⟨[(4,.v (.n .i64 (fnd js nm n 0)))],[]⟩)))] from ⟨qXW fun K r hr => ?_,trivial⟩) p S hp;exact (lpF K js ms n m nm (by omega) n 0 60 (by omega) (by omega)).trans hr
 ·refine (pxF js ms n m nm).trans ?_;rw [jK,vYV];by_cases h:fnd js nm n 0 = -1
  ·rw [vJQ h,h]; rfl
  ·rw [vYH h]; rfl
theorem fnd_dup (js:Nat→J) (i:Nat):∀ (k p:Nat),p≤i→i < p + k→(fnd js (js i).name k p=(i:Int) ↔ dup js (js i).name (i - p) p=false)
 | 0,p,h1,h2=>by omega
 | k + 1,p,h1,h2=>by
  by_cases he:p=i
  ·subst he;rw [Nat.sub_self];simp [fnd,dup]
  ·have ih:=fnd_dup js i k (p + 1) (by omega) (by omega);rw [show i - p=(i - (p + 1)) + 1 by omega];simp only [fnd,dup];cases ((js p).name.toList == (js i).name.toList)
   ·simpa using ih
   ·simp; omega
def cpT {α:Type} (f:Int→α) (i:Int) (j:J):α:=(bif (decide (j.kind < 0)) then (f 803) else (bif (decide (6 < j.kind)) then (f 803) else (bif (decide (j.parent < (-1))) then (f 804) else (bif (decide (i≤j.parent)) then (f 804) else (bif (decide (j.off.x < (-4194304))) then (f 805) else (bif (decide (4194304 < j.off.x)) then (f 805) else (bif (decide (j.off.y < (-4194304))) then (f 805) else (bif (decide (4194304 < j.off.y)) then (f 805) else (bif (decide (j.off.z < (-4194304))) then (f 805) else (bif (decide (4194304 < j.off.z)) then (f 805) else (bif (decide (j.kind=1)) then (bif (decide (j.hi < j.lo)) then (f 806) else (bif (decide (j.lo < (-524288))) then (f 806) else (bif (decide (524288 < j.hi)) then (f 806) else (bif (decide (1≤j.weight)) then (bif (decide (j.weight≤1024)) then (bif (decide (1≤j.speed)) then (bif (decide (j.speed≤1048576)) then (bif (decide (1≤j.accel)) then (bif (decide (j.accel≤1048576)) then (bif (decide (1≤j.torque)) then (bif (decide (j.torque≤1099511627776)) then (f 0) else (f 807)) else (f 807)) else (f 807)) else (f 807)) else (f 807)) else (f 807)) else (f 807)) else (f 807))))) else (bif (decide (j.kind=2)) then (bif (decide (j.hi < j.lo)) then (f 806) else (bif (decide (j.lo < (-524288))) then (f 806) else (bif (decide (524288 < j.hi)) then (f 806) else (bif (decide (1≤j.weight)) then (bif (decide (j.weight≤1024)) then (bif (decide (1≤j.speed)) then (bif (decide (j.speed≤1048576)) then (bif (decide (1≤j.accel)) then (bif (decide (j.accel≤1048576)) then (bif (decide (1≤j.torque)) then (bif (decide (j.torque≤1099511627776)) then (f 0) else (f 807)) else (f 807)) else (f 807)) else (f 807)) else (f 807)) else (f 807)) else (f 807)) else (f 807))))) else (bif (decide (j.kind=3)) then (bif (decide (j.hi < j.lo)) then (f 806) else (bif (decide (j.lo < (-524288))) then (f 806) else (bif (decide (524288 < j.hi)) then (f 806) else (bif (decide (1≤j.weight)) then (bif (decide (j.weight≤1024)) then (bif (decide (1≤j.speed)) then (bif (decide (j.speed≤1048576)) then (bif (decide (1≤j.accel)) then (bif (decide (j.accel≤1048576)) then (bif (decide (1≤j.torque)) then (bif (decide (j.torque≤1099511627776)) then (f 0) else (f 807)) else (f 807)) else (f 807)) else (f 807)) else (f 807)) else (f 807)) else (f 807)) else (f 807))))) else (bif (decide (j.kind=4)) then (bif (decide (j.hi < j.lo)) then (f 806) else (bif (decide (j.lo < (-4194304))) then (f 806) else (bif (decide (4194304 < j.hi)) then (f 806) else (bif (decide (1≤j.weight)) then (bif (decide (j.weight≤1024)) then (bif (decide (1≤j.speed)) then (bif (decide (j.speed≤1048576)) then (bif (decide (1≤j.accel)) then (bif (decide (j.accel≤1048576)) then (bif (decide (1≤j.torque)) then (bif (decide (j.torque≤1099511627776)) then (f 0) else (f 807)) else (f 807)) else (f 807)) else (f 807)) else (f 807)) else (f 807)) else (f 807)) else (f 807))))) else (bif (decide (j.kind=5)) then (bif (decide (j.hi < j.lo)) then (f 806) else (bif (decide (j.lo < (-4194304))) then (f 806) else (bif (decide (4194304 < j.hi)) then (f 806) else (bif (decide (1≤j.weight)) then (bif (decide (j.weight≤1024)) then (bif (decide (1≤j.speed)) then (bif (decide (j.speed≤1048576)) then (bif (decide (1≤j.accel)) then (bif (decide (j.accel≤1048576)) then (bif (decide (1≤j.torque)) then (bif (decide (j.torque≤1099511627776)) then (f 0) else (f 807)) else (f 807)) else (f 807)) else (f 807)) else (f 807)) else (f 807)) else (f 807)) else (f 807))))) else (bif (decide (j.kind=6)) then (bif (decide (j.hi < j.lo)) then (f 806) else (bif (decide (j.lo < (-4194304))) then (f 806) else (bif (decide (4194304 < j.hi)) then (f 806) else (bif (decide (1≤j.weight)) then (bif (decide (j.weight≤1024)) then (bif (decide (1≤j.speed)) then (bif (decide (j.speed≤1048576)) then (bif (decide (1≤j.accel)) then (bif (decide (j.accel≤1048576)) then (bif (decide (1≤j.torque)) then (bif (decide (j.torque≤1099511627776)) then (f 0) else (f 807)) else (f 807)) else (f 807)) else (f 807)) else (f 807)) else (f 807)) else (f 807)) else (f 807))))) else (bif (decide (j.hi < j.lo)) then (f 806) else (bif (decide (j.lo < 0)) then (f 806) else (bif (decide (0 < j.hi)) then (f 806) else (bif (decide (1≤j.weight)) then (bif (decide (j.weight≤1024)) then (bif (decide (1≤j.speed)) then (bif (decide (j.speed≤1048576)) then (bif (decide (1≤j.accel)) then (bif (decide (j.accel≤1048576)) then (bif (decide (1≤j.torque)) then (bif (decide (j.torque≤1099511627776)) then (f 0) else (f 807)) else (f 807)) else (f 807)) else (f 807)) else (f 807)) else (f 807)) else (f 807)) else (f 807)))))))))))))))))))))
theorem cp_cj {α:Type} (f:Int→α) (i:Int) (j:J):cpT f i j=cjT f i j:=by
 unfold cpT cjT;by_cases h0:j.kind < 0
 ·simp only [vJQ h0,vYV]
 by_cases h6:6 < j.kind
 ·simp only [vJQ h6,vYV]
 rcases (by omega:j.kind=0 ∨ j.kind=1 ∨ j.kind=2 ∨ j.kind=3 ∨ j.kind=4 ∨ j.kind=5 ∨ j.kind=6) with h | h | h | h | h | h | h
 ·simp only [vJQ (show j.kind=0 by omega),vYH (show ¬ j.kind=1 by omega),vYH (show ¬ j.kind=2 by omega),vYH (show ¬ j.kind=3 by omega),vYH (show ¬ j.kind=4 by omega),vYH (show ¬ j.kind=5 by omega),vYH (show ¬ j.kind=6 by omega),vYV,vYG]
 ·simp only [vYH (show ¬ j.kind=0 by omega),vJQ (show j.kind=1 by omega),vYH (show ¬ j.kind=2 by omega),vYH (show ¬ j.kind=3 by omega),vYH (show ¬ j.kind=4 by omega),vYH (show ¬ j.kind=5 by omega),vYH (show ¬ j.kind=6 by omega),vYV,vYG]
 ·simp only [vYH (show ¬ j.kind=0 by omega),vYH (show ¬ j.kind=1 by omega),vJQ (show j.kind=2 by omega),vYH (show ¬ j.kind=3 by omega),vYH (show ¬ j.kind=4 by omega),vYH (show ¬ j.kind=5 by omega),vYH (show ¬ j.kind=6 by omega),vYV,vYG]
 ·simp only [vYH (show ¬ j.kind=0 by omega),vYH (show ¬ j.kind=1 by omega),vYH (show ¬ j.kind=2 by omega),vJQ (show j.kind=3 by omega),vYH (show ¬ j.kind=4 by omega),vYH (show ¬ j.kind=5 by omega),vYH (show ¬ j.kind=6 by omega),vYV,vYG]
 ·simp only [vYH (show ¬ j.kind=0 by omega),vYH (show ¬ j.kind=1 by omega),vYH (show ¬ j.kind=2 by omega),vYH (show ¬ j.kind=3 by omega),vJQ (show j.kind=4 by omega),vYH (show ¬ j.kind=5 by omega),vYH (show ¬ j.kind=6 by omega),vYV,vYG]
 ·simp only [vYH (show ¬ j.kind=0 by omega),vYH (show ¬ j.kind=1 by omega),vYH (show ¬ j.kind=2 by omega),vYH (show ¬ j.kind=3 by omega),vYH (show ¬ j.kind=4 by omega),vJQ (show j.kind=5 by omega),vYH (show ¬ j.kind=6 by omega),vYV,vYG]
 ·simp only [vYH (show ¬ j.kind=0 by omega),vYH (show ¬ j.kind=1 by omega),vYH (show ¬ j.kind=2 by omega),vYH (show ¬ j.kind=3 by omega),vYH (show ¬ j.kind=4 by omega),vYH (show ¬ j.kind=5 by omega),vJQ (show j.kind=6 by omega),vYV,vYG]
def jErr (js:Nat→J) (n i:Nat):Int:=bif nmB (js i).name then (bif dup js (js i).name i 0 then 802 else cjT (fun e=>e) i (js i)) else 802
noncomputable def o_nm:List PV→Option (Bool × Ret):=fun ps=>match ps with
 | [.s s]=>some (true,.v (.b (nmB s)))
 | _=>none
theorem ok_tn:zX Tryz.prog 53 o_nm:=by
 intro ps r hh;unfold o_nm at hh;split at hh
 ·simp only [vQZ,vQY] at hh;obtain ⟨_,rfl⟩:=hh;exact snd_Tn _
 ·cases hh
theorem kJG:zX Tryz.prog 106 o_nm:=by
 intro ps r hh;unfold o_nm at hh;split at hh
 ·simp only [vQZ,vQY] at hh;obtain ⟨_,rfl⟩:=hh;exact snd_Rn _
 ·cases hh
noncomputable def o_fd (js:Nat→J) (ms:Nat→Ms) (n m:Nat):List PV→Option (Bool × Ret):=fun ps=>match ps with
 | [r,.s s]=>some (gEq r (.a [.lf n (fJ js),.lf m (fM ms)]),.v (.n .i64 (fnd js s n 0)))
 | _=>none
theorem kQX (js:Nat→J) (ms:Nat→Ms) (n m:Nat) (hn:n≤50):zX Tryz.prog 164 (o_fd js ms n m):=by
 intro ps r hh;unfold o_fd at hh;split at hh
 ·simp only [vQZ,vQY] at hh;obtain ⟨hg,rfl⟩:=hh;obtain rfl:=yYX hg;exact snd_find _ _ _ _ _ hn
 ·cases hh
set_option maxRecDepth 100000 in
theorem tr_cjp (js:Nat→J) (ms:Nat→Ms) (n m:Nat) (i:Int):runK T (OrL.k [(53,o_nm),(164,o_fd js ms n m)]) 60 136 [(.a [.lf n (fJ js),.lf m (fM ms)]),.n .i64 i] =
 bif inB i n then (bif nmB (js i.toNat).name then (bif gEq (.a [.lf n (fJ js),.lf m (fM ms)]) (.a [.lf n (fJ js),.lf m (fM ms)]) then (bif !decide (fnd js (js i.toNat).name n 0=i) then some (.v (.n .i64 802),[]) else cpT F_n i (js i.toNat)) else none) else some (.v (.n .i64 802),[])) else none:=by kernel_rfl
theorem F_cj (i:Int) (j:J):cjT F_n i j=F_n (cjT (fun e=>e) i j):=by
 unfold cjT;simp only [Bool.apply_cond F_n]
theorem snd_cjp (js:Nat→J) (ms:Nat→Ms) (n m:Nat) (hn:n≤50) (i:Nat) (hi:i < n):yH Tryz.prog 136 [(.a [.lf n (fJ js),.lf m (fM ms)]),.n .i64 i] (.v (.n .i64 (jErr js n i))):=by
 refine zQ (N:=60) jU yJ (OrL.ok (l:=[(53,o_nm),(164,o_fd js ms n m)]) ⟨ok_tn,kQX js ms n m hn,trivial⟩) ?_;rw [tr_cjp,kX hi,vYV,toN,zUG,vYV,cp_cj,F_cj];have hd:=fnd_dup js i n 0 (by omega) (by omega);rw [Nat.sub_zero] at hd;unfold jErr;cases nmB (js i).name with
 | false=>rfl
 | true =>
  cases hq:dup js (js i).name i 0 with
  | false=>rw [vJQ (hd.2 hq)]; rfl
  | true=>rw [vYH (fun h=>by rw [hd.1 h] at hq; cases hq)]; rfl
def hC (js:Nat→J) (n:Nat) (i:Int) (k:Int):St:=⟨[(0,.v (.lf n (fJ js))),(1,.v (.n .i64 i)),(5,.p 5 0),(6,.v (.n .i64 k))],[(5,.blk [.v (.s (js (i).toNat).name),.v (.n .i64 (js (i).toNat).kind),.v (.n .i64 (js (i).toNat).parent),.v (.n .i64 (js (i).toNat).off.x),.v (.n .i64 (js (i).toNat).off.y),.v (.n .i64 (js (i).toNat).off.z),.v (.n .i64 (js (i).toNat).lo),.v (.n .i64 (js (i).toNat).hi),.v (.n .i64 (js (i).toNat).weight),.v (.n .i64 (js (i).toNat).speed),.v (.n .i64 (js (i).toNat).accel),.v (.n .i64 (js (i).toNat).torque)])]⟩
set_option maxRecDepth 100000 in
theorem rdC (G:St→Option (Ret × Mem)) (K:Cont) (js:Nat→J) (n:Nat) (i:Int) (k:Int):qWG 60 (cxF T (OrL.k [(106,o_nm)]) 60 113 (ntmF T 113)) (ckF T (OrL.k [(106,o_nm)]) 60) (qQ T 113 [0,1,0,1,1,1]) (fun e τ=>match e with
 | .normal=>G (qXZ ((cxF T (OrL.k [(106,o_nm)]) 60 113 (ntmF T 113)).T.hint (cxF T (OrL.k [(106,o_nm)]) 60 113 (ntmF T 113)).me (qG (qQ T 113 [0,1,0,1,1,1]))) τ)
 | e=>K e (qJK ((cxF T (OrL.k [(106,o_nm)]) 60 113 (ntmF T 113)).T.hint (cxF T (OrL.k [(106,o_nm)]) 60 113 (ntmF T 113)).me (qG (qQ T 113 [0,1,0,1,1,1]))) τ)) (hC js n i k) =
 (bif (decide (k < i)) then (bif (inB k n) then (bif ((js (k).toNat).name.toList == (js (i).toNat).name.toList) then (K .ret ⟨[(1,.v (.n .i64 i)),(4,.v (.n .i64 802)),(5,.p 5 0)],[(5,.blk [.v (.s (js (i).toNat).name),.v (.n .i64 (js (i).toNat).kind),.v (.n .i64 (js (i).toNat).parent),.v (.n .i64 (js (i).toNat).off.x),.v (.n .i64 (js (i).toNat).off.y),.v (.n .i64 (js (i).toNat).off.z),.v (.n .i64 (js (i).toNat).lo),.v (.n .i64 (js (i).toNat).hi),.v (.n .i64 (js (i).toNat).weight),.v (.n .i64 (js (i).toNat).speed),.v (.n .i64 (js (i).toNat).accel),.v (.n .i64 (js (i).toNat).torque)])]⟩)
 else (G (hC js n i (vJJ .i64 (k + 1)))))
 else none)
 else (K (.exit 0) ⟨[(1,.v (.n .i64 i)),(5,.p 5 0)],[(5,.blk [.v (.s (js (i).toNat).name),.v (.n .i64 (js (i).toNat).kind),.v (.n .i64 (js (i).toNat).parent),.v (.n .i64 (js (i).toNat).off.x),.v (.n .i64 (js (i).toNat).off.y),.v (.n .i64 (js (i).toNat).off.z),.v (.n .i64 (js (i).toNat).lo),.v (.n .i64 (js (i).toNat).hi),.v (.n .i64 (js (i).toNat).weight),.v (.n .i64 (js (i).toNat).speed),.v (.n .i64 (js (i).toNat).accel),.v (.n .i64 (js (i).toNat).torque)])]⟩)):=by kernel_rfl
def rC (js:Nat→J) (i:Int):St:=⟨[(1,.v (.n .i64 i)),(4,.v (.n .i64 802)),(5,.p 5 0)],[(5,.blk [.v (.s (js (i).toNat).name),.v (.n .i64 (js (i).toNat).kind),.v (.n .i64 (js (i).toNat).parent),.v (.n .i64 (js (i).toNat).off.x),.v (.n .i64 (js (i).toNat).off.y),.v (.n .i64 (js (i).toNat).off.z),.v (.n .i64 (js (i).toNat).lo),.v (.n .i64 (js (i).toNat).hi),.v (.n .i64 (js (i).toNat).weight),.v (.n .i64 (js (i).toNat).speed),.v (.n .i64 (js (i).toNat).accel),.v (.n .i64 (js (i).toNat).torque)])]⟩
def oC (js:Nat→J) (i:Int):St:=⟨[(1,.v (.n .i64 i)),(5,.p 5 0)],[(5,.blk [.v (.s (js (i).toNat).name),.v (.n .i64 (js (i).toNat).kind),.v (.n .i64 (js (i).toNat).parent),.v (.n .i64 (js (i).toNat).off.x),.v (.n .i64 (js (i).toNat).off.y),.v (.n .i64 (js (i).toNat).off.z),.v (.n .i64 (js (i).toNat).lo),.v (.n .i64 (js (i).toNat).hi),.v (.n .i64 (js (i).toNat).weight),.v (.n .i64 (js (i).toNat).speed),.v (.n .i64 (js (i).toNat).accel),.v (.n .i64 (js (i).toNat).torque)])]⟩
theorem lpC (K:Cont) (js:Nat→J) (n i:Nat) (hn:n≤1000) (hi:i < n):∀ (k p q:Nat),p + k=i→k < q→LF 60 (cxF T (OrL.k [(106,o_nm)]) 60 113 (ntmF T 113)) (ckF T (OrL.k [(106,o_nm)]) 60) (qQ T 113 [0,1,0,1,1,1]) ((cxF T (OrL.k [(106,o_nm)]) 60 113 (ntmF T 113)).T.hint (cxF T (OrL.k [(106,o_nm)]) 60 113 (ntmF T 113)).me (qG (qQ T 113 [0,1,0,1,1,1]))) K q (hC js n i p)=bif dup js (js i).name k p then (K .ret (rC js i)) else (K (.exit 0) (oC js i))
 | 0,p,q + 1,hp,hq=>by
  refine (rdC (fun σ=>LF 60 (cxF T (OrL.k [(106,o_nm)]) 60 113 (ntmF T 113)) (ckF T (OrL.k [(106,o_nm)]) 60) (qQ T 113 [0,1,0,1,1,1]) ((cxF T (OrL.k [(106,o_nm)]) 60 113 (ntmF T 113)).T.hint (cxF T (OrL.k [(106,o_nm)]) 60 113 (ntmF T 113)).me (qG (qQ T 113 [0,1,0,1,1,1]))) K q σ) K js n i p).trans ?_;rw [vYH (show ¬ (p:Int) < (i:Int) by omega)];rfl
 | k + 1,p,q + 1,hp,hq=>by
  refine (rdC (fun σ=>LF 60 (cxF T (OrL.k [(106,o_nm)]) 60 113 (ntmF T 113)) (ckF T (OrL.k [(106,o_nm)]) 60) (qQ T 113 [0,1,0,1,1,1]) ((cxF T (OrL.k [(106,o_nm)]) 60 113 (ntmF T 113)).T.hint (cxF T (OrL.k [(106,o_nm)]) 60 113 (ntmF T 113)).me (qG (qQ T 113 [0,1,0,1,1,1]))) K q σ) K js n i p).trans ?_;rw [vJQ (show (p:Int) < (i:Int) by omega),kX (show p < n by omega),qZH (by omega),lpC K js n i hn hi k (p + 1) q (by omega) (by omega),toN,toN];simp only [vYV,dup];cases ((js p).name.toList == (js i).name.toList) <;> rfl
set_option maxRecDepth 100000 in
theorem pxC (js:Nat→J) (n:Nat) (i:Int):yQW T (OrL.k [(106,o_nm)]) (qX [([0,1,0,1,1,1],qQX (hC js n i 0) (fun K=>bif dup js (js i.toNat).name i.toNat 0 then (K .ret (rC js i)) else (K (.exit 0) (oC js i))))]) 60 113 [.lf n (fJ js),.n .i64 i] =
 bif inB i n then (bif nmB (js i.toNat).name then (bif gSt (hC js n i 0) (hC js n i 0) then (bif dup js (js i.toNat).name i.toNat 0 then some (.v (.n .i64 802),[]) else cjT F_n i (js i.toNat)) else none) else some (.v (.n .i64 802),[])) else none:=by kernel_rfl
theorem snd_cjr (js:Nat→J) (n:Nat) (hn:n≤50) (i:Nat) (hi:i < n):yH Tryz.prog 113 [.lf n (fJ js),.n .i64 i] (.v (.n .i64 (jErr js n i))):=by
 refine qZW (N:=60) (LO:=qX [([0,1,0,1,1,1],qQX (hC js n (i:Int) 0) (fun K=>bif dup js (js (i:Int).toNat).name (i:Int).toNat 0 then (K .ret (rC js i)) else (K (.exit 0) (oC js i))))]) jU yJ (OrL.ok (l:=[(106,o_nm)]) ⟨kJG,trivial⟩) (fun p S hp => ?_) ?_
 ·refine qKY (L:=qQ T 113) (l:=[([0,1,0,1,1,1],qQX (hC js n (i:Int) 0) (fun K=>bif dup js (js (i:Int).toNat).name (i:Int).toNat 0 then (K .ret (rC js i)) else (K (.exit 0) (oC js i))))]) (show AllP _ [([0,1,0,1,1,1],qQX (hC js n (i:Int) 0) (fun K=>bif dup js (js (i:Int).toNat).name (i:Int).toNat 0 then (K .ret (rC js i)) else (K (.exit 0) (oC js i))))] from ⟨qXW fun K r hr => ?_,trivial⟩) p S hp
  have:=lpC K js n i (by omega) hi i 0 60 (by omega) (by omega)
  rw [toN] at hr;exact this.trans hr
 ·refine (pxC js n i).trans ?_;rw [kX hi,vYV,toN,jK,vYV,F_cj];unfold jErr;cases nmB (js i).name <;> cases dup js (js i).name i 0 <;> rfl
end Go.Proofs.YtgmbkkkbfbocnaaGreat.Nb

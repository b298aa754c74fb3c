/- Part 33 of the texts behind the last one: rules and contracts. No condition. -/
import Derived.Test.YtklmegnpfhiibaaGreatBK32
open List renaming mem_of_getElem? → vQW
open Go.IntKind renaming wrap → vYW
namespace Go.Proofs.YtklmegnpfhiibaaGreat.Xs
open Go.Rx Rt Go.Sx Go.RowKit Od Nb Nc Xb Xc Bb Xe Xf Xg Xh Xi Xk Xm Xn Xo Xp Xq Sq Xr
def slB (σ:St) (k:Nat):Bool:=match kH σ.S k with
 | some (.v (.b b))=>b
 | _=>false
def zR (b:Bool) (u v c:Int):List PV:=[.n .i64 u,.n .i64 v,.n .i64 c,.n .i64 0,.n .i64 0,bif b then .zs else .l [],.n .i64 0,.n .i64 0,bif b then .zs else .l [],.n .i64 0,bif b then .zs else .l [],bif b then .zs else .l []]
def fZ (cu cv cc:Nat→Int):Nat→List PV:=fun v=>zR false (cu v) (cv v) (cc v)
noncomputable def ori1 (N:Nat) (js:Nat→J) (ms:Nat→Ms) (n m:Nat) (np:Nat) (pn:Nat→Nat) (pv:Nat→Nat→Int) (ne:Nat) (_ _ _:Nat→Int) (_ _:Int):OrS:=orS [(10,o_dr js ms n m)] []
noncomputable def hi1 (N:Nat) (js:Nat→J) (ms:Nat→Ms) (n m:Nat) (np:Nat) (pn:Nat→Nat) (pv:Nat→Nat→Int) (ne:Nat) (cu cv cc:Nat→Int) (ua va:Int) (dn:Bool) (i:Int) (sn:Nat) (fr:Nat→List PV):St:=⟨[(2,.v (.n .i64 (min ua va))),(3,.v (.n .i64 (max ua va))),(4,.p 4 0),(5,.p 5 0),(9,.o 82),(10,.v (.b (dn))),(11,.v (.n .i64 i))],[(4,.blk [.v (.lf n (fJ js)),.v (.lf m (fM ms))]),(5,.blk [.v (.lf np (fP pn pv)),.v (.lf ne (fZ cu cv cc))]),(82,.reg 61 12 (.fo sn fr))]⟩
set_option maxRecDepth 100000 in
theorem rdi1 (G:St→Option (Ret × Mem)) (K:Cont) (N:Nat) (js:Nat→J) (ms:Nat→Ms) (n m:Nat) (np:Nat) (pn:Nat→Nat) (pv:Nat→Nat→Int) (ne:Nat) (cu cv cc:Nat→Int) (ua va:Int) (dn:Bool) (i:Int) (sn:Nat) (fr:Nat→List PV):stpT Tf 55 (ori1 N js ms n m np pn pv ne cu cv cc ua va) N [] [0,1,0,1,1,1,1] K G (hi1 N js ms n m np pn pv ne cu cv cc ua va dn i sn fr) =
 (bif (decide (i < (ne:Int))) then (bif (inB i ne) then (bif dn then (bif (decide (sn + 1≤1000000)) then (G (hi1 N js ms n m np pn pv ne cu cv cc ua va dn (vYW .i64 (i + 1)) (sn + 1) (fun v=>qW (Nat.beq v sn) [.n .i64 (cu (i).toNat),.n .i64 (cv (i).toNat),.n .i64 (cc (i).toNat),.n .i64 0,.n .i64 0,.l [],.n .i64 0,.n .i64 0,.l [],.n .i64 0,.l [],.l []] (fr v))))
 else none)
 else (bif (decide ((min ua va) < (cu (i).toNat))) then (bif (!decide ((cu (i).toNat)=(min ua va))) then (bif (inB (min ua va) np) then (bif (inB (max ua va) np) then (bif (gF1 (cdr js ms n m) (edr js ms n m) (pv ((min ua va)).toNat,pv ((max ua va)).toNat,pn ((min ua va)).toNat,pn ((max ua va)).toNat)) then (bif (decide (sn + 1≤1000000)) then (bif (decide ((sn + 1) + 1≤1000000)) then (G (hi1 N js ms n m np pn pv ne cu cv cc ua va true (vYW .i64 (i + 1)) ((sn + 1) + 1) (fun v=>qW (Nat.beq v (sn + 1)) [.n .i64 (cu (i).toNat),.n .i64 (cv (i).toNat),.n .i64 (cc (i).toNat),.n .i64 0,.n .i64 0,.l [],.n .i64 0,.n .i64 0,.l [],.n .i64 0,.l [],.l []] ((fun v=>qW (Nat.beq v sn) [.n .i64 (min ua va),.n .i64 (max ua va),.n .i64 (dsQ js ms (pv ((min ua va)).toNat) (pv ((max ua va)).toNat) n m (pn ((min ua va)).toNat) (pn ((max ua va)).toNat)),.n .i64 0,.n .i64 0,.zs,.n .i64 0,.n .i64 0,.zs,.n .i64 0,.zs,.zs] (fr v)) v))))
 else none)
 else none)
 else none)
 else none)
 else none)
 else (bif (!decide ((cv (i).toNat)=(max ua va))) then (bif (inB (min ua va) np) then (bif (inB (max ua va) np) then (bif (gF1 (cdr js ms n m) (edr js ms n m) (pv ((min ua va)).toNat,pv ((max ua va)).toNat,pn ((min ua va)).toNat,pn ((max ua va)).toNat)) then (bif (decide (sn + 1≤1000000)) then (bif (decide ((sn + 1) + 1≤1000000)) then (G (hi1 N js ms n m np pn pv ne cu cv cc ua va true (vYW .i64 (i + 1)) ((sn + 1) + 1) (fun v=>qW (Nat.beq v (sn + 1)) [.n .i64 (cu (i).toNat),.n .i64 (cv (i).toNat),.n .i64 (cc (i).toNat),.n .i64 0,.n .i64 0,.l [],.n .i64 0,.n .i64 0,.l [],.n .i64 0,.l [],.l []] ((fun v=>qW (Nat.beq v sn) [.n .i64 (min ua va),.n .i64 (max ua va),.n .i64 (dsQ js ms (pv ((min ua va)).toNat) (pv ((max ua va)).toNat) n m (pn ((min ua va)).toNat) (pn ((max ua va)).toNat)),.n .i64 0,.n .i64 0,.zs,.n .i64 0,.n .i64 0,.zs,.n .i64 0,.zs,.zs] (fr v)) v))))
 else none)
 else none)
 else none)
 else none)
 else none)
 else (bif (decide (sn + 1≤1000000)) then (G (hi1 N js ms n m np pn pv ne cu cv cc ua va true (vYW .i64 (i + 1)) (sn + 1) (fun v=>qW (Nat.beq v sn) [.n .i64 (cu (i).toNat),.n .i64 (cv (i).toNat),.n .i64 (cc (i).toNat),.n .i64 0,.n .i64 0,.l [],.n .i64 0,.n .i64 0,.l [],.n .i64 0,.l [],.l []] (fr v))))
 else none)))
 else (bif (decide ((cu (i).toNat)=(min ua va))) then (bif (decide ((max ua va)≤(cv (i).toNat))) then (bif (!decide ((cu (i).toNat)=(min ua va))) then (bif (inB (min ua va) np) then (bif (inB (max ua va) np) then (bif (gF1 (cdr js ms n m) (edr js ms n m) (pv ((min ua va)).toNat,pv ((max ua va)).toNat,pn ((min ua va)).toNat,pn ((max ua va)).toNat)) then (bif (decide (sn + 1≤1000000)) then (bif (decide ((sn + 1) + 1≤1000000)) then (G (hi1 N js ms n m np pn pv ne cu cv cc ua va true (vYW .i64 (i + 1)) ((sn + 1) + 1) (fun v=>qW (Nat.beq v (sn + 1)) [.n .i64 (cu (i).toNat),.n .i64 (cv (i).toNat),.n .i64 (cc (i).toNat),.n .i64 0,.n .i64 0,.l [],.n .i64 0,.n .i64 0,.l [],.n .i64 0,.l [],.l []] ((fun v=>qW (Nat.beq v sn) [.n .i64 (min ua va),.n .i64 (max ua va),.n .i64 (dsQ js ms (pv ((min ua va)).toNat) (pv ((max ua va)).toNat) n m (pn ((min ua va)).toNat) (pn ((max ua va)).toNat)),.n .i64 0,.n .i64 0,.zs,.n .i64 0,.n .i64 0,.zs,.n .i64 0,.zs,.zs] (fr v)) v))))
 else none)
 else none)
 else none)
 else none)
 else none)
 else (bif (!decide ((cv (i).toNat)=(max ua va))) then (bif (inB (min ua va) np) then (bif (inB (max ua va) np) then (bif (gF1 (cdr js ms n m) (edr js ms n m) (pv ((min ua va)).toNat,pv ((max ua va)).toNat,pn ((min ua va)).toNat,pn ((max ua va)).toNat)) then (bif (decide (sn + 1≤1000000)) then (bif (decide ((sn + 1) + 1≤1000000)) then (G (hi1 N js ms n m np pn pv ne cu cv cc ua va true (vYW .i64 (i + 1)) ((sn + 1) + 1) (fun v=>qW (Nat.beq v (sn + 1)) [.n .i64 (cu (i).toNat),.n .i64 (cv (i).toNat),.n .i64 (cc (i).toNat),.n .i64 0,.n .i64 0,.l [],.n .i64 0,.n .i64 0,.l [],.n .i64 0,.l [],.l []] ((fun v=>qW (Nat.beq v sn) [.n .i64 (min ua va),.n .i64 (max ua va),.n .i64 (dsQ js ms (pv ((min ua va)).toNat) (pv ((max ua va)).toNat) n m (pn ((min ua va)).toNat) (pn ((max ua va)).toNat)),.n .i64 0,.n .i64 0,.zs,.n .i64 0,.n .i64 0,.zs,.n .i64 0,.zs,.zs] (fr v)) v))))
 else none)
 else none)
 else none)
 else none)
 else none)
 else (bif (decide (sn + 1≤1000000)) then (G (hi1 N js ms n m np pn pv ne cu cv cc ua va true (vYW .i64 (i + 1)) (sn + 1) (fun v=>qW (Nat.beq v sn) [.n .i64 (cu (i).toNat),.n .i64 (cv (i).toNat),.n .i64 (cc (i).toNat),.n .i64 0,.n .i64 0,.l [],.n .i64 0,.n .i64 0,.l [],.n .i64 0,.l [],.l []] (fr v))))
 else none)))
 else (bif (decide (sn + 1≤1000000)) then (G (hi1 N js ms n m np pn pv ne cu cv cc ua va dn (vYW .i64 (i + 1)) (sn + 1) (fun v=>qW (Nat.beq v sn) [.n .i64 (cu (i).toNat),.n .i64 (cv (i).toNat),.n .i64 (cc (i).toNat),.n .i64 0,.n .i64 0,.l [],.n .i64 0,.n .i64 0,.l [],.n .i64 0,.l [],.l []] (fr v))))
 else none))
 else (bif (decide (sn + 1≤1000000)) then (G (hi1 N js ms n m np pn pv ne cu cv cc ua va dn (vYW .i64 (i + 1)) (sn + 1) (fun v=>qW (Nat.beq v sn) [.n .i64 (cu (i).toNat),.n .i64 (cv (i).toNat),.n .i64 (cc (i).toNat),.n .i64 0,.n .i64 0,.l [],.n .i64 0,.n .i64 0,.l [],.n .i64 0,.l [],.l []] (fr v))))
 else none))))
 else none)
 else (K (.exit 0) ⟨[(2,.v (.n .i64 (min ua va))),(3,.v (.n .i64 (max ua va))),(4,.p 4 0),(5,.p 5 0),(9,.o 82),(10,.v (.b (dn)))],[(4,.blk [.v (.lf n (fJ js)),.v (.lf m (fM ms))]),(5,.blk [.v (.lf np (fP pn pv)),.v (.lf ne (fZ cu cv cc))]),(82,.reg 61 12 (.fo sn fr))]⟩)):=by kernel_rfl
noncomputable def dci1 (js:Nat→J) (ms:Nat→Ms) (n m:Nat) (np:Nat) (pn:Nat→Nat) (pv:Nat→Nat→Int) (ne:Nat) (cu cv cc:Nat→Int) (ua va:Int):(Bool × Int × Nat × (Nat→List PV))→(Bool × Int × Nat × (Nat→List PV)) ⊕ (Nat × Bool × Int × Nat × (Nat→List PV)):=fun t=>match t with | (dn,i,sn,fr)=>(bif (decide (i < (ne:Int))) then (bif (inB i ne) then (bif dn then (bif (decide (sn + 1≤1000000)) then (.inl (dn,(vYW .i64 (i + 1)),(sn + 1),(fun v=>qW (Nat.beq v sn) [.n .i64 (cu (i).toNat),.n .i64 (cv (i).toNat),.n .i64 (cc (i).toNat),.n .i64 0,.n .i64 0,.l [],.n .i64 0,.n .i64 0,.l [],.n .i64 0,.l [],.l []] (fr v)))) else (.inr (1,(dn,i,sn,fr)))) else (bif (decide ((min ua va) < (cu (i).toNat))) then (bif (decide ((cu (i).toNat)=(min ua va))) then (bif (decide ((cv (i).toNat)=(max ua va))) then (bif (decide (sn + 1≤1000000)) then (.inl (true,(vYW .i64 (i + 1)),(sn + 1),(fun v=>qW (Nat.beq v sn) [.n .i64 (cu (i).toNat),.n .i64 (cv (i).toNat),.n .i64 (cc (i).toNat),.n .i64 0,.n .i64 0,.l [],.n .i64 0,.n .i64 0,.l [],.n .i64 0,.l [],.l []] (fr v)))) else (.inr (1,(dn,i,sn,fr)))) else (bif (inB (min ua va) np) then (bif (inB (max ua va) np) then (bif (gF1 (cdr js ms n m) (edr js ms n m) (pv ((min ua va)).toNat,pv ((max ua va)).toNat,pn ((min ua va)).toNat,pn ((max ua va)).toNat)) then (bif (decide (sn + 1≤1000000)) then (bif (decide ((sn + 1) + 1≤1000000)) then (.inl (true,(vYW .i64 (i + 1)),((sn + 1) + 1),(fun v=>qW (Nat.beq v (sn + 1)) [.n .i64 (cu (i).toNat),.n .i64 (cv (i).toNat),.n .i64 (cc (i).toNat),.n .i64 0,.n .i64 0,.l [],.n .i64 0,.n .i64 0,.l [],.n .i64 0,.l [],.l []] ((fun v=>qW (Nat.beq v sn) [.n .i64 (min ua va),.n .i64 (max ua va),.n .i64 (dsQ js ms (pv ((min ua va)).toNat) (pv ((max ua va)).toNat) n m (pn ((min ua va)).toNat) (pn ((max ua va)).toNat)),.n .i64 0,.n .i64 0,.zs,.n .i64 0,.n .i64 0,.zs,.n .i64 0,.zs,.zs] (fr v)) v)))) else (.inr (1,(dn,i,sn,fr)))) else (.inr (1,(dn,i,sn,fr)))) else (.inr (1,(dn,i,sn,fr)))) else (.inr (1,(dn,i,sn,fr)))) else (.inr (1,(dn,i,sn,fr))))) else (bif (inB (min ua va) np) then (bif (inB (max ua va) np) then (bif (gF1 (cdr js ms n m) (edr js ms n m) (pv ((min ua va)).toNat,pv ((max ua va)).toNat,pn ((min ua va)).toNat,pn ((max ua va)).toNat)) then (bif (decide (sn + 1≤1000000)) then (bif (decide ((sn + 1) + 1≤1000000)) then (.inl (true,(vYW .i64 (i + 1)),((sn + 1) + 1),(fun v=>qW (Nat.beq v (sn + 1)) [.n .i64 (cu (i).toNat),.n .i64 (cv (i).toNat),.n .i64 (cc (i).toNat),.n .i64 0,.n .i64 0,.l [],.n .i64 0,.n .i64 0,.l [],.n .i64 0,.l [],.l []] ((fun v=>qW (Nat.beq v sn) [.n .i64 (min ua va),.n .i64 (max ua va),.n .i64 (dsQ js ms (pv ((min ua va)).toNat) (pv ((max ua va)).toNat) n m (pn ((min ua va)).toNat) (pn ((max ua va)).toNat)),.n .i64 0,.n .i64 0,.zs,.n .i64 0,.n .i64 0,.zs,.n .i64 0,.zs,.zs] (fr v)) v)))) else (.inr (1,(dn,i,sn,fr)))) else (.inr (1,(dn,i,sn,fr)))) else (.inr (1,(dn,i,sn,fr)))) else (.inr (1,(dn,i,sn,fr)))) else (.inr (1,(dn,i,sn,fr))))) else (bif (decide ((cu (i).toNat)=(min ua va))) then (bif (decide ((max ua va)≤(cv (i).toNat))) then (bif (decide ((cv (i).toNat)=(max ua va))) then (bif (decide (sn + 1≤1000000)) then (.inl (true,(vYW .i64 (i + 1)),(sn + 1),(fun v=>qW (Nat.beq v sn) [.n .i64 (cu (i).toNat),.n .i64 (cv (i).toNat),.n .i64 (cc (i).toNat),.n .i64 0,.n .i64 0,.l [],.n .i64 0,.n .i64 0,.l [],.n .i64 0,.l [],.l []] (fr v)))) else (.inr (1,(dn,i,sn,fr)))) else (bif (inB (min ua va) np) then (bif (inB (max ua va) np) then (bif (gF1 (cdr js ms n m) (edr js ms n m) (pv ((min ua va)).toNat,pv ((max ua va)).toNat,pn ((min ua va)).toNat,pn ((max ua va)).toNat)) then (bif (decide (sn + 1≤1000000)) then (bif (decide ((sn + 1) + 1≤1000000)) then (.inl (true,(vYW .i64 (i + 1)),((sn + 1) + 1),(fun v=>qW (Nat.beq v (sn + 1)) [.n .i64 (cu (i).toNat),.n .i64 (cv (i).toNat),.n .i64 (cc (i).toNat),.n .i64 0,.n .i64 0,.l [],.n .i64 0,.n .i64 0,.l [],.n .i64 0,.l [],.l []] ((fun v=>qW (Nat.beq v sn) [.n .i64 (min ua va),.n .i64 (max ua va),.n .i64 (dsQ js ms (pv ((min ua va)).toNat) (pv ((max ua va)).toNat) n m (pn ((min ua va)).toNat) (pn ((max ua va)).toNat)),.n .i64 0,.n .i64 0,.zs,.n .i64 0,.n .i64 0,.zs,.n .i64 0,.zs,.zs] (fr v)) v)))) else (.inr (1,(dn,i,sn,fr)))) else (.inr (1,(dn,i,sn,fr)))) else (.inr (1,(dn,i,sn,fr)))) else (.inr (1,(dn,i,sn,fr)))) else (.inr (1,(dn,i,sn,fr))))) else (bif (decide (sn + 1≤1000000)) then (.inl (dn,(vYW .i64 (i + 1)),(sn + 1),(fun v=>qW (Nat.beq v sn) [.n .i64 (cu (i).toNat),.n .i64 (cv (i).toNat),.n .i64 (cc (i).toNat),.n .i64 0,.n .i64 0,.l [],.n .i64 0,.n .i64 0,.l [],.n .i64 0,.l [],.l []] (fr v)))) else (.inr (1,(dn,i,sn,fr))))) else (bif (decide (sn + 1≤1000000)) then (.inl (dn,(vYW .i64 (i + 1)),(sn + 1),(fun v=>qW (Nat.beq v sn) [.n .i64 (cu (i).toNat),.n .i64 (cv (i).toNat),.n .i64 (cc (i).toNat),.n .i64 0,.n .i64 0,.l [],.n .i64 0,.n .i64 0,.l [],.n .i64 0,.l [],.l []] (fr v)))) else (.inr (1,(dn,i,sn,fr))))))) else (.inr (1,(dn,i,sn,fr)))) else (.inr (0,(dn,i,sn,fr))))
noncomputable def kxi1 (N:Nat) (js:Nat→J) (ms:Nat→Ms) (n m:Nat) (np:Nat) (pn:Nat→Nat) (pv:Nat→Nat→Int) (ne:Nat) (cu cv cc:Nat→Int) (ua va:Int) (K:Cont) (w9:Nat × Bool × Int × Nat × (Nat→List PV)):Option (Ret × Mem):=bif Nat.beq w9.1 0 then (K (.exit 0) ⟨[(2,.v (.n .i64 (min ua va))),(3,.v (.n .i64 (max ua va))),(4,.p 4 0),(5,.p 5 0),(9,.o 82),(10,.v (.b (w9.2.1)))],[(4,.blk [.v (.lf n (fJ js)),.v (.lf m (fM ms))]),(5,.blk [.v (.lf np (fP pn pv)),.v (.lf ne (fZ cu cv cc))]),(82,.reg 61 12 (.fo w9.2.2.2.1 w9.2.2.2.2))]⟩) else none
theorem wli1 (K:Cont) (N:Nat) (js:Nat→J) (ms:Nat→Ms) (n m:Nat) (np:Nat) (pn:Nat→Nat) (pv:Nat→Nat→Int) (ne:Nat) (cu cv cc:Nat→Int) (ua va:Int):∀ n9 (t:(Bool × Int × Nat × (Nat→List PV))),LFT Tf 55 (ori1 N js ms n m np pn pv ne cu cv cc ua va) N [] [0,1,0,1,1,1,1] K n9 (hi1 N js ms n m np pn pv ne cu cv cc ua va t.1 t.2.1 t.2.2.1 t.2.2.2)=(qG (dci1 js ms n m np pn pv ne cu cv cc ua va) n9 t).bind (kxi1 N js ms n m np pn pv ne cu cv cc ua va K):=fun n9 t=>by
 refine qYG (L:=LFT Tf 55 (ori1 N js ms n m np pn pv ne cu cv cc ua va) N [] [0,1,0,1,1,1,1] K) (stp:=stpT Tf 55 (ori1 N js ms n m np pn pv ne cu cv cc ua va) N [] [0,1,0,1,1,1,1] K) (fun _ _=>rfl) (fun _=>rfl) (fun t=>hi1 N js ms n m np pn pv ne cu cv cc ua va t.1 t.2.1 t.2.2.1 t.2.2.2) (fun _=>True) (dci1 js ms n m np pn pv ne cu cv cc ua va) (kxi1 N js ms n m np pn pv ne cu cv cc ua va K) (fun G t _ => ?_) (fun _ _ _ _=>trivial) n9 t trivial;obtain ⟨dn,i,sn,fr⟩:=t;refine (rdi1 G K N js ms n m np pn pv ne cu cv cc ua va dn i sn fr).trans ?_;dsimp only [dci1];cases (decide (i < (ne:Int)))
 ·rfl
 ·cases (inB i ne)
  ·rfl
  ·cases dn
   ·cases (decide ((min ua va) < (cu (i).toNat)))
    ·cases (decide ((cu (i).toNat)=(min ua va)))
     ·cases (decide (sn + 1≤1000000))
      ·rfl
      ·rfl
     ·cases (decide ((max ua va)≤(cv (i).toNat)))
      ·cases (decide (sn + 1≤1000000))
       ·rfl
       ·rfl
      ·cases (decide ((cv (i).toNat)=(max ua va)))
       ·cases (inB (min ua va) np)
        ·rfl
        ·cases (inB (max ua va) np)
         ·rfl
         ·cases (gF1 (cdr js ms n m) (edr js ms n m) (pv ((min ua va)).toNat,pv ((max ua va)).toNat,pn ((min ua va)).toNat,pn ((max ua va)).toNat))
          ·rfl
          ·cases (decide (sn + 1≤1000000))
           ·rfl
           ·cases (decide ((sn + 1) + 1≤1000000))
            ·rfl
            ·rfl
       ·cases (decide (sn + 1≤1000000))
        ·rfl
        ·rfl
    ·cases (decide ((cu (i).toNat)=(min ua va)))
     ·cases (inB (min ua va) np)
      ·rfl
      ·cases (inB (max ua va) np)
       ·rfl
       ·cases (gF1 (cdr js ms n m) (edr js ms n m) (pv ((min ua va)).toNat,pv ((max ua va)).toNat,pn ((min ua va)).toNat,pn ((max ua va)).toNat))
        ·rfl
        ·cases (decide (sn + 1≤1000000))
         ·rfl
         ·cases (decide ((sn + 1) + 1≤1000000))
          ·rfl
          ·rfl
     ·cases (decide ((cv (i).toNat)=(max ua va)))
      ·cases (inB (min ua va) np)
       ·rfl
       ·cases (inB (max ua va) np)
        ·rfl
        ·cases (gF1 (cdr js ms n m) (edr js ms n m) (pv ((min ua va)).toNat,pv ((max ua va)).toNat,pn ((min ua va)).toNat,pn ((max ua va)).toNat))
         ·rfl
         ·cases (decide (sn + 1≤1000000))
          ·rfl
          ·cases (decide ((sn + 1) + 1≤1000000))
           ·rfl
           ·rfl
      ·cases (decide (sn + 1≤1000000))
       ·rfl
       ·rfl
   ·cases (decide (sn + 1≤1000000))
    ·rfl
    ·rfl
noncomputable def zHW (N:Nat) (js:Nat→J) (ms:Nat→Ms) (n m:Nat) (np:Nat) (pn:Nat→Nat) (pv:Nat→Nat→Int) (ne:Nat) (cu cv cc:Nat→Int) (ua va:Int) (t:(Bool × Int × Nat × (Nat→List PV))):Bool:=(qG (dci1 js ms n m np pn pv ne cu cv cc ua va) N t).isSome
noncomputable def qHA (N:Nat) (js:Nat→J) (ms:Nat→Ms) (n m:Nat) (np:Nat) (pn:Nat→Nat) (pv:Nat→Nat→Int) (ne:Nat) (cu cv cc:Nat→Int) (ua va:Int) (t:(Bool × Int × Nat × (Nat→List PV))):Nat × Bool × Int × Nat × (Nat→List PV):=(qG (dci1 js ms n m np pn pv ne cu cv cc ua va) N t).getD (99,t)
theorem lwi1 (K:Cont) (N:Nat) (js:Nat→J) (ms:Nat→Ms) (n m:Nat) (np:Nat) (pn:Nat→Nat) (pv:Nat→Nat→Int) (ne:Nat) (cu cv cc:Nat→Int) (ua va:Int) (t:(Bool × Int × Nat × (Nat→List PV))) (hg:zHW N js ms n m np pn pv ne cu cv cc ua va t=true):LFT Tf 55 (ori1 N js ms n m np pn pv ne cu cv cc ua va) N [] [0,1,0,1,1,1,1] K N (hi1 N js ms n m np pn pv ne cu cv cc ua va t.1 t.2.1 t.2.2.1 t.2.2.2)=kxi1 N js ms n m np pn pv ne cu cv cc ua va K (qHA N js ms n m np pn pv ne cu cv cc ua va t):=by
 refine (wli1 K N js ms n m np pn pv ne cu cv cc ua va N t).trans ?_;unfold zHW at hg;unfold qHA;cases h:qG (dci1 js ms n m np pn pv ne cu cv cc ua va) N t with
 | none=>rw [h] at hg; cases hg
 | some y=>rfl
def LX (a b c d:Int):Prop:=a < c ∨ (a=c∧b < d)
theorem LX.tr {a b c d x y:Int} (_:LX a b c d) (_:LX c d x y):LX a b x y:=by unfold LX at *; omega
structure SE (np:Nat) (D:Nat→Nat→Int) (ne:Nat) (cu cv cc:Nat→Int):Prop where
 ok:∀ i,i < ne→0≤cu i∧cu i < cv i∧cv i < (np:Int)∧cc i=D (cu i).toNat (cv i).toNat
 so:∀ i,i + 1 < ne→LX (cu i) (cv i) (cu (i + 1)) (cv (i + 1))
def OI (np:Nat) (D:Nat→Nat→Int) (sn:Nat) (fr:Nat→List PV) (B:Int→Int→Prop):Prop:=∃ (zb:Nat→Bool) (cu cv cc:Nat→Int),(∀ w,w < sn→fr w=zR (zb w) (cu w) (cv w) (cc w))∧SE np D sn cu cv cc∧∀ w,w < sn→B (cu w) (cv w)
theorem OI.push {np:Nat} {D:Nat→Nat→Int} {sn:Nat} {fr:Nat→List PV} {B B':Int→Int→Prop} (h:OI np D sn fr B) {x y c:Int} (b:Bool) (hx:0≤x∧x < y∧y < (np:Int)∧c=D x.toNat y.toNat) (hB:∀ p q,B p q→LX p q x y) (hB2:∀ p q,B p q→B' p q) (hn:B' x y):OI np D (sn + 1) (fun v=>qW (Nat.beq v sn) (zR b x y c) (fr v)) B':=by
 obtain ⟨zb,cu,cv,cc,h1,h2,h3⟩:=h;refine ⟨fun w=>if w=sn then b else zb w,fun w=>if w=sn then x else cu w,fun w=>if w=sn then y else cv w,fun w=>if w=sn then c else cc w,fun w hw => ?_,⟨fun w hw => ?_,fun w hw => ?_⟩,fun w hw => ?_⟩
 ·dsimp only;by_cases e:w=sn
  ·subst e; rw [Nat.beq_refl,qKJ,if_pos rfl,if_pos rfl,if_pos rfl,if_pos rfl]
  ·rw [qHL e,qKK,if_neg e,if_neg e,if_neg e,if_neg e]; exact h1 w (by omega)
 ·try dsimp only
  by_cases e:w=sn
  ·rw [if_pos e,if_pos e,if_pos e]; exact hx
  ·rw [if_neg e,if_neg e,if_neg e]; exact h2.ok w (by omega)
 ·try dsimp only
  rw [if_neg (show w ≠ sn by omega),if_neg (show w ≠ sn by omega)];by_cases e:w + 1=sn
  ·rw [if_pos e,if_pos e]; exact hB _ _ (h3 w (by omega))
  ·rw [if_neg e,if_neg e]; exact h2.so w (by omega)
 ·try dsimp only
  by_cases e:w=sn
  ·rw [if_pos e,if_pos e]; exact hn
  ·rw [if_neg e,if_neg e]; exact hB2 _ _ (h3 w (by omega))
def BI (ne:Nat) (cu cv:Nat→Int) (a b:Int) (i:Nat) (dn:Bool) (p q:Int):Prop:=(i < ne→LX p q (cu i) (cv i))∧(dn=false→LX p q a b)
section
variable {js:Nat→J} {ms:Nat→Ms} {n m np:Nat} {pn:Nat→Nat} {pv:Nat→Nat→Int} {ne:Nat} {cu cv cc:Nat→Int} {ua va:Int} (he:ne≤900000) (hpn:∀ j,j < np→pn j≤50) (hS:SE np (dE js ms n m pn pv) ne cu cv cc) (hu:0≤min ua va∧min ua va < max ua va∧max ua va < (np:Int))
include he hpn hS hu
theorem zWL:∀ (d i M:Nat) (dn:Bool) (sn:Nat) (fr:Nat→List PV),i + d=ne→d < M→sn≤i + 1→(dn=false→sn≤i)→OI np (dE js ms n m pn pv) sn fr (BI ne cu cv (min ua va) (max ua va) i dn)→∃ (dn':Bool) (sn':Nat) (fr':Nat→List PV),qG (dci1 js ms n m np pn pv ne cu cv cc ua va) M (dn,(i:Int),sn,fr)=some (0,dn',(ne:Int),sn',fr')∧sn'≤ne + 1∧(dn'=false→sn'≤ne)∧OI np (dE js ms n m pn pv) sn' fr' (BI ne cu cv (min ua va) (max ua va) ne dn')
 | _,_,0,_,_,_,_,h,_,_,_=>by omega
 | 0,i,M + 1,dn,sn,fr,hd,_,h1,h2,hI=>by
  obtain rfl:i=ne:=by omega
  refine ⟨dn,sn,fr,?_,h1,h2,hI⟩;rw [qG];dsimp only [dci1];rw [vYJ (show ¬ (i:Int) < (i:Int) by omega)];rfl
 | d + 1,i,M + 1,dn,sn,fr,hd,hM,h1,h2,hI=>by
  have hok:=hS.ok i (by omega);have hgo:∀ dn2,(∀ p q,BI ne cu cv (min ua va) (max ua va) i dn2 p q→BI ne cu cv (min ua va) (max ua va) (i + 1) dn2 p q):=fun dn2 p q hb=>⟨fun hl=>(hb.1 (by omega)).tr (hS.so i hl),hb.2⟩
  rw [qG];dsimp only [dci1];rw [vYK (show (i:Int) < (ne:Int) by omega),zU (show i < ne by omega),jG (show i < 1000000 by omega)];simp only [toN,vYZ,vYK (show sn + 1≤1000000 by omega),vYK (show sn + 1 + 1≤1000000 by omega),zYJ hu.1 (show min ua va < (np:Int) by omega),zYJ (show 0≤max ua va by omega) hu.2.2,jV (C:=cdr js ms n m) (t:=(pv (min ua va).toNat,pv (max ua va).toNat,pn (min ua va).toNat,pn (max ua va).toNat)) ⟨hpn _ (by omega),hpn _ (by omega)⟩];have push:∀ dn2,OI np (dE js ms n m pn pv) sn fr (BI ne cu cv (min ua va) (max ua va) i dn2)→(dn2=false→LX (cu i) (cv i) (min ua va) (max ua va))→OI np (dE js ms n m pn pv) (sn + 1) (fun w=>qW (Nat.beq w sn) (zR false (cu i) (cv i) (cc i)) (fr w)) (BI ne cu cv (min ua va) (max ua va) (i + 1) dn2):=fun dn2 h h' =>
   h.push false hok (fun p q hb=>hb.1 (by omega)) (hgo dn2) ⟨fun hl=>hS.so i hl,h'⟩
  have relax:dn=false→OI np (dE js ms n m pn pv) sn fr (BI ne cu cv (min ua va) (max ua va) i true):=fun _=>by
   obtain ⟨zb,x1,x2,x3,h3,h4,h5⟩:=hI;exact ⟨zb,x1,x2,x3,h3,h4,fun w hw=>⟨(h5 w hw).1,fun h=>by cases h⟩⟩
  have push2:dn=false→LX (min ua va) (max ua va) (cu i) (cv i)→OI np (dE js ms n m pn pv) (sn + 1 + 1) (fun w=>qW (Nat.beq w (sn + 1)) (zR false (cu i) (cv i) (cc i)) (qW (Nat.beq w sn) (zR true (min ua va) (max ua va) (dE js ms n m pn pv (min ua va).toNat (max ua va).toNat)) (fr w))) (BI ne cu cv (min ua va) (max ua va) (i + 1) true):=fun hdn hl=>by
   have s1:OI np (dE js ms n m pn pv) (sn + 1) _ (BI ne cu cv (min ua va) (max ua va) i true):=hI.push true ⟨hu.1,hu.2.1,hu.2.2,rfl⟩ (fun p q hb=>hb.2 hdn) (fun p q hb=>⟨hb.1,fun h=>by cases h⟩) ⟨fun _=>hl,fun h=>by cases h⟩;exact s1.push false hok (fun p q hb=>hb.1 (by omega)) (hgo true) ⟨fun hl=>hS.so i hl,fun h=>by cases h⟩
  cases dn with
  | true =>
   exact zWL d (i + 1) M true (sn + 1) _ (by omega) (by omega) (by omega) (fun h=>by cases h) (push true hI fun h=>by cases h)
  | false =>
   simp only [vYY];have h2:=h2 rfl;by_cases c1:min ua va < cu i
   ·rw [vYK c1,vYJ (show ¬ cu i=min ua va by omega)];exact zWL d (i + 1) M true (sn + 1 + 1) _ (by omega) (by omega) (by omega) (fun h=>by cases h) (push2 rfl (.inl c1))
   ·rw [vYJ c1];by_cases c2:cu i=min ua va
    ·rw [vYK c2];by_cases c3:max ua va≤cv i
     ·rw [vYK c3];by_cases c4:cv i=max ua va
      ·rw [vYK c4];exact zWL d (i + 1) M true (sn + 1) _ (by omega) (by omega) (by omega) (fun h=>by cases h) (push true (relax rfl) fun h=>by cases h)
      ·rw [vYJ c4];exact zWL d (i + 1) M true (sn + 1 + 1) _ (by omega) (by omega) (by omega) (fun h=>by cases h) (push2 rfl (.inr ⟨c2.symm,by omega⟩))
     ·rw [vYJ c3];exact zWL d (i + 1) M false (sn + 1) _ (by omega) (by omega) (by omega) (fun _=>by omega) (push false hI fun _=>.inr ⟨c2,by omega⟩)
    ·rw [vYJ c2];exact zWL d (i + 1) M false (sn + 1) _ (by omega) (by omega) (by omega) (fun _=>by omega) (push false hI fun _=>.inl (by omega))
end
theorem snd_rowsS {P:Program} {f e sz n:Nat} {ps:List PV} {g h:Nat→List PV} (hs:∀ j,j < n→Sames (g j) (h j)) (hh:zY P f ps (.ow e sz (.fo n g))):zY P f ps (.ow e sz (.fo n h)):=by
 refine ⟨hh.1,fun w F vals hF hal=>(hh.2 w F vals hF hal).mono fun _ w' ⟨v,F',he,hg,f1,f2,hr⟩=>⟨v,F',he,hg,f1,f2,?_⟩⟩;obtain ⟨ad,c,vr,rfl,h0,hal2,hrl,hone,hown,hb⟩:=hr;have len:∀ {xs ys:List PV},Sames xs ys→xs.length=ys.length:=fun {xs}=>by
  induction xs with
  | nil=>intro ys h; cases ys with | nil=>rfl | cons y ys=>exact h.elim
  | cons x xs ih=>intro ys h; cases ys with | nil=>exact h.elim | cons y ys=>simp [ih h.2]
 have hget:∀ (k:Nat→List PV) j,j < n→(Go.Rx.Rows.fo n k).L[j]? = some (k j):=fun k j hj=>uU k hj
 have hlen:∀ (k:Nat→List PV),(Go.Rx.Rows.fo n k).L.length=n:=fun k=>by simp [Go.Rx.Rows.L]
 have hl2:vr.length=n:=by rw [← hal2.1,hlen]
 refine ⟨ad,c,vr,rfl,h0,⟨by rw [hlen,hl2],fun i r v hr hv => ?_⟩,fun r hr => ?_,hone,hown,hb⟩
 ·have hi:i < n:=by have:=(List.getElem?_eq_some_iff.1 hr).1; rwa [hlen] at this
  rw [hget h i hi] at hr;cases hr;exact Sames.al (hs i hi) (hal2.2 i (g i) v (hget g i hi) hv)
 ·obtain ⟨j,hj⟩:=List.mem_iff_getElem?.1 hr;have hi:j < n:=by have:=(List.getElem?_eq_some_iff.1 hj).1; rwa [hlen] at this
  rw [hget h j hi] at hj;cases hj;rw [← len (hs j hi)];exact hrl _ (vQW (hget g j hi))
theorem same_zs:Same .zs (.l []):=fun F w v h=>by cases h; exact .l0 _ _
theorem zR_same (b:Bool) (u v c:Int):Sames (zR b u v c) (zR false u v c):=by
 have s:Same (bif b then .zs else .l []) (.l []):=by
  cases b with
  | true=>exact same_zs
  | false=>exact Same.refl _
 exact ⟨Same.refl _,Same.refl _,Same.refl _,Same.refl _,Same.refl _,s,Same.refl _,Same.refl _,s,Same.refl _,s,s,trivial⟩
noncomputable def yYK (N:Nat) (js:Nat→J) (ms:Nat→Ms) (n m:Nat) (np:Nat) (pn:Nat→Nat) (pv:Nat→Nat→Int) (ne:Nat) (cu cv cc:Nat→Int) (ua va:Int):List (List Nat × yV):=[([0,1,0,1,1,1,1],sumF (fun t:(Bool × Int × Nat × (Nat→List PV))=>(hi1 N js ms n m np pn pv ne cu cv cc ua va t.1 t.2.1 t.2.2.1 t.2.2.2)) (fun σ=>(slB σ 10,slI σ 11,rgN σ 82,rgF σ 82)) (fun t K=>(bif zHW N js ms n m np pn pv ne cu cv cc ua va t then kxi1 N js ms n m np pn pv ne cu cv cc ua va K (qHA N js ms n m np pn pv ne cu cv cc ua va t) else none)))]
set_option maxRecDepth 100000 in
theorem pxin0 (N:Nat) (js:Nat→J) (ms:Nat→Ms) (n m:Nat) (np:Nat) (pn:Nat→Nat) (pv:Nat→Nat→Int) (ne:Nat) (cu cv cc:Nat→Int) (ua va:Int):qQI Tf (ori1 N js ms n m np pn pv ne cu cv cc ua va) (qY (yYK N js ms n m np pn pv ne cu cv cc ua va)) N 55 [.a [.lf n (fJ js),.lf m (fM ms)],.a [.lf np (fP pn pv),.lf ne (fZ cu cv cc)],.n .i64 ua,.n .i64 va] =
 (bif (gSt (hi1 N js ms n m np pn pv ne cu cv cc ua va false 0 0 zE) (hi1 N js ms n m np pn pv ne cu cv cc ua va false 0 0 zE)) then (bif (zHW N js ms n m np pn pv ne cu cv cc ua va (false,0,0,zE)) then (bif (Nat.beq (qHA N js ms n m np pn pv ne cu cv cc ua va (false,0,0,zE)).1 0) then (bif (qHA N js ms n m np pn pv ne cu cv cc ua va (false,0,0,zE)).2.1 then some (.ow 61 12 (.fo (qHA N js ms n m np pn pv ne cu cv cc ua va (false,0,0,zE)).2.2.2.1 (qHA N js ms n m np pn pv ne cu cv cc ua va (false,0,0,zE)).2.2.2.2),[])
 else (bif (inB (min ua va) np) then (bif (inB (max ua va) np) then (bif (gF1 (cdr js ms n m) (edr js ms n m) (pv ((min ua va)).toNat,pv ((max ua va)).toNat,pn ((min ua va)).toNat,pn ((max ua va)).toNat)) then (bif (decide ((qHA N js ms n m np pn pv ne cu cv cc ua va (false,0,0,zE)).2.2.2.1 + 1≤1000000)) then some (.ow 61 12 (.fo ((qHA N js ms n m np pn pv ne cu cv cc ua va (false,0,0,zE)).2.2.2.1 + 1) (fun v=>qW (Nat.beq v (qHA N js ms n m np pn pv ne cu cv cc ua va (false,0,0,zE)).2.2.2.1) [.n .i64 (min ua va),.n .i64 (max ua va),.n .i64 (dsQ js ms (pv ((min ua va)).toNat) (pv ((max ua va)).toNat) n m (pn ((min ua va)).toNat) (pn ((max ua va)).toNat)),.n .i64 0,.n .i64 0,.zs,.n .i64 0,.n .i64 0,.zs,.n .i64 0,.zs,.zs] ((qHA N js ms n m np pn pv ne cu cv cc ua va (false,0,0,zE)).2.2.2.2 v))),[])
 else none)
 else none)
 else none)
 else none))
 else none)
 else none)
 else none):=by kernel_rfl
theorem snd_in0 (N:Nat) (js:Nat→J) (ms:Nat→Ms) (n m:Nat) (np:Nat) (pn:Nat→Nat) (pv:Nat→Nat→Int) (ne:Nat) (cu cv cc:Nat→Int) (ua va:Int) (hpn:∀ j,j < np→pn j≤50) (hu:0≤min ua va∧min ua va < max ua va∧max ua va < (np:Int)) {dn:Bool} {sn:Nat} {fr:Nat→List PV} (_:sn≤900001) (h:qG (dci1 js ms n m np pn pv ne cu cv cc ua va) N (false,0,0,zE)=some (0,dn,(ne:Int),sn,fr)):zY Tryz.prog 55 [.a [.lf n (fJ js),.lf m (fM ms)],.a [.lf np (fP pn pv),.lf ne (fZ cu cv cc)],.n .i64 ua,.n .i64 va] (.ow 61 12 (bif dn then .fo sn fr else .fo (sn + 1) (fun w=>qW (Nat.beq w sn) (zR true (min ua va) (max ua va) (dE js ms n m pn pv (min ua va).toNat (max ua va).toNat)) (fr w)))):=by
 refine qH (N:=N) (LO:=qY (yYK N js ms n m np pn pv ne cu cv cc ua va)) jY yH (jK (l:=[(10,o_dr js ms n m)]) (m:=[]) ⟨ok_dr js ms n m,trivial⟩ trivial) (fun p S hp => ?_) ?_
 ·refine qX (L:=qZ Tf 55) (l:=(yYK N js ms n m np pn pv ne cu cv cc ua va)) (show AllP _ (yYK N js ms n m np pn pv ne cu cv cc ua va) from ⟨?_,trivial⟩) p S hp
  ·dsimp only;refine jQ (T:=Tf) (o:=(ori1 N js ms n m np pn pv ne cu cv cc ua va)) (f:=55) (LO:=qY []) (p:=[0,1,0,1,1,1,1]) jU ?_;intro t K r hr;obtain ⟨hg,hr⟩:=qQ hr
   skip
   exact (lwi1 K N js ms n m np pn pv ne cu cv cc ua va t hg).trans hr
 ·refine (pxin0 N js ms n m np pn pv ne cu cv cc ua va).trans ?_;have o1:zHW N js ms n m np pn pv ne cu cv cc ua va (false,0,0,zE)=true:=by unfold zHW; rw [h]; rfl
  have o2:qHA N js ms n m np pn pv ne cu cv cc ua va (false,0,0,zE)=(0,dn,(ne:Int),sn,fr):=by unfold qHA; rw [h]; rfl
  rw [zW,o1,o2,zYJ hu.1 (show min ua va < (np:Int) by omega),zYJ (show 0≤max ua va by omega) hu.2.2,jV (C:=cdr js ms n m) (t:=(pv (min ua va).toNat,pv (max ua va).toNat,pn (min ua va).toNat,pn (max ua va).toNat)) ⟨hpn _ (by omega),hpn _ (by omega)⟩];dsimp only;rw [vYK (show sn + 1≤1000000 by omega)];cases dn <;> rfl
theorem in_ex (js:Nat→J) (ms:Nat→Ms) (n m:Nat) (np:Nat) (pn:Nat→Nat) (pv:Nat→Nat→Int) (ne:Nat) (cu cv cc:Nat→Int) (ua va:Int) (he:ne≤900000) (hpn:∀ j,j < np→pn j≤50) (hS:SE np (dE js ms n m pn pv) ne cu cv cc) (_:0≤ua∧ua < (np:Int)∧0≤va∧va < (np:Int)∧ua ≠ va):∃ (ne':Nat) (cu' cv' cc':Nat→Int),(ne'≤ne + 1∧SE np (dE js ms n m pn pv) ne' cu' cv' cc')∧zY Tryz.prog 55 [.a [.lf n (fJ js),.lf m (fM ms)],.a [.lf np (fP pn pv),.lf ne (fZ cu cv cc)],.n .i64 ua,.n .i64 va] (.ow 61 12 (.fo ne' (fZ cu' cv' cc'))):=by
 have hm:0≤min ua va∧min ua va < max ua va∧max ua va < (np:Int):=by omega
 obtain ⟨dn,sn,fr,h1,h2,h3,h4⟩:=zWL he hpn hS hm ne 0 (ne + 1) false 0 zE (by omega) (by omega) (by omega) (fun _=>Nat.le_refl _) ⟨fun _=>false,fun _=>0,fun _=>0,fun _=>0,fun w hw=>absurd hw (Nat.not_lt_zero w),⟨fun w hw=>absurd hw (Nat.not_lt_zero w),fun w hw=>absurd hw (Nat.not_lt_zero _)⟩,fun w hw=>absurd hw (Nat.not_lt_zero w)⟩;have hs:=snd_in0 (ne + 1) js ms n m np pn pv ne cu cv cc ua va hpn hm (by omega) h1;cases dn with
 | true =>
  obtain ⟨zb,x1,x2,x3,g1,g2,_⟩:=h4;exact ⟨sn,x1,x2,x3,⟨h2,g2⟩,snd_rowsS (fun j hj=>Eq.mpr (congrArg (fun r=>Sames r (fZ x1 x2 x3 j)) (g1 j hj)) (zR_same _ _ _ _)) hs⟩
 | false =>
  have h5:OI np (dE js ms n m pn pv) (sn + 1) _ (fun _ _=>True):=h4.push true ⟨hm.1,hm.2.1,hm.2.2,rfl⟩ (fun p q hb=>hb.2 rfl) (fun _ _ _=>trivial) trivial;obtain ⟨zb,x1,x2,x3,g1,g2,_⟩:=h5;exact ⟨sn + 1,x1,x2,x3,⟨by have:=h3 rfl; omega,g2⟩,snd_rowsS (fun j hj=>Eq.mpr (congrArg (fun r=>Sames r (fZ x1 x2 x3 j)) (g1 j hj)) (zR_same _ _ _ _)) hs⟩
end Go.Proofs.YtklmegnpfhiibaaGreat.Xs

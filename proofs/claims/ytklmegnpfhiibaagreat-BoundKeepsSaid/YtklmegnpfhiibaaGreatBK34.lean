/- Part 34 of the texts behind the last one: rules and contracts. No condition. -/
import Derived.Test.YtklmegnpfhiibaaGreatBK33
open Go.IntKind renaming wrap → vYW
namespace Go.Proofs.YtklmegnpfhiibaaGreat.Xu
open Go.Rx Rt Go.Sx Go.RowKit Od Nb Nc Xb Xc Bb Xe Xf Xg Xh Xi Xk Xm Xn Xo Xp Xq Sq Xr Xs
abbrev InT:Type:=Nat × (Nat→Nat) × (Nat→Nat→Int) × Nat × (Nat→Int) × (Nat→Int) × (Nat→Int) × Int × Int
abbrev InY:Type:=Nat × (Nat→Int) × (Nat→Int) × (Nat→Int)
def inC (js:Nat→J) (ms:Nat→Ms) (n m:Nat) (t:InT):Prop:=t.2.2.2.1≤900000∧(∀ j,j < t.1→t.2.1 j≤50)∧SE t.1 (dE js ms n m t.2.1 t.2.2.1) t.2.2.2.1 t.2.2.2.2.1 t.2.2.2.2.2.1 t.2.2.2.2.2.2.1∧0≤t.2.2.2.2.2.2.2.1∧t.2.2.2.2.2.2.2.1 < (t.1:Int)∧0≤t.2.2.2.2.2.2.2.2∧t.2.2.2.2.2.2.2.2 < (t.1:Int)∧t.2.2.2.2.2.2.2.1 ≠ t.2.2.2.2.2.2.2.2
def inR (js:Nat→J) (ms:Nat→Ms) (n m:Nat) (t:InT) (y:InY):Prop:=(y.1≤t.2.2.2.1 + 1∧SE t.1 (dE js ms n m t.2.1 t.2.2.1) y.1 y.2.1 y.2.2.1 y.2.2.2)∧zY Tryz.prog 55 [.a [.lf n (fJ js),.lf m (fM ms)],.a [.lf t.1 (fP t.2.1 t.2.2.1),.lf t.2.2.2.1 (fZ t.2.2.2.2.1 t.2.2.2.2.2.1 t.2.2.2.2.2.2.1)],.n .i64 t.2.2.2.2.2.2.2.1,.n .i64 t.2.2.2.2.2.2.2.2] (.ow 61 12 (.fo y.1 (fZ y.2.1 y.2.2.1 y.2.2.2)))
theorem in_all (js:Nat→J) (ms:Nat→Ms) (n m:Nat):∃ G:InT→InY,∀ t,inC js ms n m t→inR js ms n m t (G t):=qWF (0,z0,z0,z0) fun t h=>by
 obtain ⟨ne',x1,x2,x3,h1,h2⟩:=in_ex js ms n m t.1 t.2.1 t.2.2.1 t.2.2.2.1 t.2.2.2.2.1 t.2.2.2.2.2.1 t.2.2.2.2.2.2.1 t.2.2.2.2.2.2.2.1 t.2.2.2.2.2.2.2.2 h.1 h.2.1 h.2.2.1 h.2.2.2;exact ⟨(ne',x1,x2,x3),h1,h2⟩
noncomputable def inF (js:Nat→J) (ms:Nat→Ms) (n m:Nat):InT→InY:=Classical.choose (in_all js ms n m)
theorem inF_ok {js:Nat→J} {ms:Nat→Ms} {n m:Nat} {t:InT} (h:inC js ms n m t):inR js ms n m t (inF js ms n m t):=Classical.choose_spec (in_all js ms n m) t h
def unZ (k:Nat) (g:Nat→List PV):Nat→Int:=fun v=>match (g v)[k]? with
 | some (.n _ i)=>i
 | _=>0
def cis (js:Nat→J) (ms:Nat→Ms) (n m:Nat):Nat × (Nat→Nat) × (Nat→Nat→Int) × Nat × (Nat→Int) × (Nat→Int) × (Nat→Int) × Int × Int→Prop:=fun t=>match t with | (np,pn,pv,ne,cu,cv,cc,ua,va)=>inC js ms n m (np,pn,pv,ne,cu,cv,cc,ua,va)
def eis (js:Nat→J) (ms:Nat→Ms) (n m:Nat):Nat × (Nat→Nat) × (Nat→Nat→Int) × Nat × (Nat→Int) × (Nat→Int) × (Nat→Int) × Int × Int→List PV:=fun t=>match t with | (np,pn,pv,ne,cu,cv,cc,ua,va)=>[.a [.lf n (fJ js),.lf m (fM ms)],.a [.lf np (fP pn pv),.lf ne (fZ cu cv cc)],.n .i64 ua,.n .i64 va]
noncomputable def ris (js:Nat→J) (ms:Nat→Ms) (n m:Nat):Nat × (Nat→Nat) × (Nat→Nat→Int) × Nat × (Nat→Int) × (Nat→Int) × (Nat→Int) × Int × Int→Ret:=fun t=>match t with | (np,pn,pv,ne,cu,cv,cc,ua,va)=>.ow 61 12 (.fo (inF js ms n m (np,pn,pv,ne,cu,cv,cc,ua,va)).1 (fZ (inF js ms n m (np,pn,pv,ne,cu,cv,cc,ua,va)).2.1 (inF js ms n m (np,pn,pv,ne,cu,cv,cc,ua,va)).2.2.1 (inF js ms n m (np,pn,pv,ne,cu,cv,cc,ua,va)).2.2.2))
def dis:List PV→Nat × (Nat→Nat) × (Nat→Nat→Int) × Nat × (Nat→Int) × (Nat→Int) × (Nat→Int) × Int × Int:=fun ps=>match ps with
 | [_,.a [.lf np f,.lf m g],.n _ a,.n _ b]=>(np,unPn f,unPv f,m,unZ 0 g,unZ 1 g,unZ 2 g,a,b)
 | _=>(0,fun _=>0,fun _ _=>0,0,z0,z0,z0,0,0)
noncomputable def o_is (js:Nat→J) (ms:Nat→Ms) (n m:Nat):List PV→Option (Bool × Ret):=o_fm dis (cis js ms n m) (eis js ms n m) (ris js ms n m)
theorem ok_is (js:Nat→J) (ms:Nat→Ms) (n m:Nat):jH Tryz.prog 55 (o_is js ms n m):=qQD fun t h=>by
 obtain ⟨np,pn,pv,ne,cu,cv,cc,ua,va⟩:=t;exact (inF_ok h).2
def zz0:Nat→Nat→Int:=fun _ _=>0
def z0n:Nat→Nat:=fun _=>0
noncomputable def orn0 (N:Nat) (js:Nat→J) (ms:Nat→Ms) (n m:Nat) (nc:Nat) (qn:Nat→Nat) (qv:Nat→Nat→Int) (kk:Int):OrS:=orS [(28,o_cr [.a [.lf n (fJ js),.lf m (fM ms)]] (.v (.n .i64 (rErr js ms n m)))),(34,o_ir js ms n m),(53,o_po),(54,o_by js ms n m),(55,o_is js ms n m)] []
def bkV (σ:St) (k i:Nat):PV:=match qV σ.M k with
 | some (.blk cs)=>(match cs[i]? with | some (.v x)=>x | _=>.ni)
 | _=>.ni
def llN:PV→Nat
 | .lf n _=>n
 | _=>0
def llG:PV→Nat→Nat
 | .lf _ f=>unPn f
 | _=>fun _=>0
def llX:PV→Nat→Nat→Int
 | .lf _ f=>unPv f
 | _=>fun _ _=>0
noncomputable def hn0 (N:Nat) (js:Nat→J) (ms:Nat→Ms) (n m:Nat) (nc:Nat) (qn:Nat→Nat) (qv:Nat→Nat→Int) (kk:Int) (i:Int) (tp:Nat) (tn:Nat→Nat) (tv:Nat→Nat→Int):St:=⟨[(1,.v (.lf nc (fP qn qv))),(2,.v (.n .i64 kk)),(3,.p 3 0),(6,.p 6 0),(7,.p 7 0),(8,.v (.n .i64 i))],[(3,.blk [.v (.lf n (fJ js)),.v (.lf m (fM ms))]),(6,.blk [.nl,.nl]),(7,.blk [.o 52,.nl]),(52,.reg 30 1 (.fo tp (fun v=>[.lf (tn v) (fun w=>[.n .i64 (tv v w)])])))]⟩
set_option maxRecDepth 100000 in
theorem rdn0 (G:St→Option (Ret × Mem)) (K:Cont) (N:Nat) (js:Nat→J) (ms:Nat→Ms) (n m:Nat) (nc:Nat) (qn:Nat→Nat) (qv:Nat→Nat→Int) (kk:Int) (i:Int) (tp:Nat) (tn:Nat→Nat) (tv:Nat→Nat→Int):stpT Tf 25 (orn0 N js ms n m nc qn qv kk) N [] [0,1,0,1,1,1] K G (hn0 N js ms n m nc qn qv kk i tp tn tv) =
 (bif (decide (i < (nc:Int))) then (bif (decide ((tp:Int) < 1024)) then (bif (inB i nc) then (bif (gF1 (cir js ms n m) (eir js ms n m) ((qv (i).toNat),(qn (i).toNat))) then (bif (qIn js ms (qv (i).toNat) n m (qn (i).toNat)) then (bif (inB i nc) then (bif (gF1 cpo epo (tp,tn,tv,(qv (i).toNat),(qn (i).toNat))) then (bif (decide ((poI tn tv (qv (i).toNat) (qn (i).toNat) tp 0) < 0)) then (bif (inB i nc) then (bif (decide ((qn (i).toNat)≤1000000)) then (bif (decide (tp + 1≤1000000)) then (G (hn0 N js ms n m nc qn qv kk (vYW .i64 (i + 1)) (tp + 1) (fun v=>(bif (Nat.beq v tp) then (qn (i).toNat) else (tn v))) (fun v w=>(bif (Nat.beq v tp) then (qv (i).toNat w) else (tv v w)))))
 else none)
 else none)
 else none)
 else (G (hn0 N js ms n m nc qn qv kk (vYW .i64 (i + 1)) tp tn tv)))
 else none)
 else none)
 else (G (hn0 N js ms n m nc qn qv kk (vYW .i64 (i + 1)) tp tn tv)))
 else none)
 else none)
 else (K (.exit 0) ⟨[(2,.v (.n .i64 kk)),(3,.p 3 0),(6,.p 6 0),(7,.p 7 0)],[(3,.blk [.v (.lf n (fJ js)),.v (.lf m (fM ms))]),(6,.blk [.nl,.nl]),(7,.blk [.o 52,.nl]),(52,.reg 30 1 (.fo tp (fun v=>[.lf (tn v) (fun w=>[.n .i64 (tv v w)])])))]⟩))
 else (K (.exit 0) ⟨[(2,.v (.n .i64 kk)),(3,.p 3 0),(6,.p 6 0),(7,.p 7 0)],[(3,.blk [.v (.lf n (fJ js)),.v (.lf m (fM ms))]),(6,.blk [.nl,.nl]),(7,.blk [.o 52,.nl]),(52,.reg 30 1 (.fo tp (fun v=>[.lf (tn v) (fun w=>[.n .i64 (tv v w)])])))]⟩)):=by kernel_rfl
noncomputable def dcn0 (js:Nat→J) (ms:Nat→Ms) (n m:Nat) (nc:Nat) (qn:Nat→Nat) (qv:Nat→Nat→Int) (kk:Int):(Int × Nat × (Nat→Nat) × (Nat→Nat→Int))→(Int × Nat × (Nat→Nat) × (Nat→Nat→Int)) ⊕ (Nat × Int × Nat × (Nat→Nat) × (Nat→Nat→Int)):=fun t=>match t with | (i,tp,tn,tv)=>(bif (decide (i < (nc:Int))) then (bif (decide ((tp:Int) < 1024)) then (bif (inB i nc) then (bif (gF1 (cir js ms n m) (eir js ms n m) ((qv (i).toNat),(qn (i).toNat))) then (bif (qIn js ms (qv (i).toNat) n m (qn (i).toNat)) then (bif (gF1 cpo epo (tp,tn,tv,(qv (i).toNat),(qn (i).toNat))) then (bif (decide ((poI tn tv (qv (i).toNat) (qn (i).toNat) tp 0) < 0)) then (bif (decide ((qn (i).toNat)≤1000000)) then (bif (decide (tp + 1≤1000000)) then (.inl ((vYW .i64 (i + 1)),(tp + 1),(fun v=>(bif (Nat.beq v tp) then (qn (i).toNat) else (tn v))),(fun v w=>(bif (Nat.beq v tp) then (qv (i).toNat w) else (tv v w))))) else (.inr (1,(i,tp,tn,tv)))) else (.inr (1,(i,tp,tn,tv)))) else (.inl ((vYW .i64 (i + 1)),tp,tn,tv))) else (.inr (1,(i,tp,tn,tv)))) else (.inl ((vYW .i64 (i + 1)),tp,tn,tv))) else (.inr (1,(i,tp,tn,tv)))) else (.inr (1,(i,tp,tn,tv)))) else (.inr (0,(i,tp,tn,tv)))) else (.inr (0,(i,tp,tn,tv))))
noncomputable def kxn0 (N:Nat) (js:Nat→J) (ms:Nat→Ms) (n m:Nat) (nc:Nat) (qn:Nat→Nat) (qv:Nat→Nat→Int) (kk:Int) (K:Cont) (w9:Nat × Int × Nat × (Nat→Nat) × (Nat→Nat→Int)):Option (Ret × Mem):=bif Nat.beq w9.1 0 then (K (.exit 0) ⟨[(2,.v (.n .i64 kk)),(3,.p 3 0),(6,.p 6 0),(7,.p 7 0)],[(3,.blk [.v (.lf n (fJ js)),.v (.lf m (fM ms))]),(6,.blk [.nl,.nl]),(7,.blk [.o 52,.nl]),(52,.reg 30 1 (.fo w9.2.2.1 (fun v=>[.lf (w9.2.2.2.1 v) (fun w=>[.n .i64 (w9.2.2.2.2 v w)])])))]⟩) else none
theorem wln0 (K:Cont) (N:Nat) (js:Nat→J) (ms:Nat→Ms) (n m:Nat) (nc:Nat) (qn:Nat→Nat) (qv:Nat→Nat→Int) (kk:Int):∀ n9 (t:(Int × Nat × (Nat→Nat) × (Nat→Nat→Int))),LFT Tf 25 (orn0 N js ms n m nc qn qv kk) N [] [0,1,0,1,1,1] K n9 (hn0 N js ms n m nc qn qv kk t.1 t.2.1 t.2.2.1 t.2.2.2)=(qG (dcn0 js ms n m nc qn qv kk) n9 t).bind (kxn0 N js ms n m nc qn qv kk K):=fun n9 t=>by
 refine qYG (L:=LFT Tf 25 (orn0 N js ms n m nc qn qv kk) N [] [0,1,0,1,1,1] K) (stp:=stpT Tf 25 (orn0 N js ms n m nc qn qv kk) N [] [0,1,0,1,1,1] K) (fun _ _=>rfl) (fun _=>rfl) (fun t=>hn0 N js ms n m nc qn qv kk t.1 t.2.1 t.2.2.1 t.2.2.2) (fun _=>True) (dcn0 js ms n m nc qn qv kk) (kxn0 N js ms n m nc qn qv kk K) (fun G t _ => ?_) (fun _ _ _ _=>trivial) n9 t trivial;obtain ⟨i,tp,tn,tv⟩:=t;refine (rdn0 G K N js ms n m nc qn qv kk i tp tn tv).trans ?_;dsimp only [dcn0];cases (decide (i < (nc:Int)))
 ·rfl
 ·cases (decide ((tp:Int) < 1024))
  ·rfl
  ·cases (inB i nc)
   ·rfl
   ·cases (gF1 (cir js ms n m) (eir js ms n m) ((qv (i).toNat),(qn (i).toNat)))
    ·rfl
    ·cases (qIn js ms (qv (i).toNat) n m (qn (i).toNat))
     ·rfl
     ·cases (gF1 cpo epo (tp,tn,tv,(qv (i).toNat),(qn (i).toNat)))
      ·rfl
      ·cases (decide ((poI tn tv (qv (i).toNat) (qn (i).toNat) tp 0) < 0))
       ·rfl
       ·cases (decide ((qn (i).toNat)≤1000000))
        ·rfl
        ·cases (decide (tp + 1≤1000000))
         ·rfl
         ·rfl
noncomputable def zHK (N:Nat) (js:Nat→J) (ms:Nat→Ms) (n m:Nat) (nc:Nat) (qn:Nat→Nat) (qv:Nat→Nat→Int) (kk:Int) (t:(Int × Nat × (Nat→Nat) × (Nat→Nat→Int))):Bool:=(qG (dcn0 js ms n m nc qn qv kk) N t).isSome
noncomputable def jZ (N:Nat) (js:Nat→J) (ms:Nat→Ms) (n m:Nat) (nc:Nat) (qn:Nat→Nat) (qv:Nat→Nat→Int) (kk:Int) (t:(Int × Nat × (Nat→Nat) × (Nat→Nat→Int))):Nat × Int × Nat × (Nat→Nat) × (Nat→Nat→Int):=(qG (dcn0 js ms n m nc qn qv kk) N t).getD (99,t)
theorem lwn0 (K:Cont) (N:Nat) (js:Nat→J) (ms:Nat→Ms) (n m:Nat) (nc:Nat) (qn:Nat→Nat) (qv:Nat→Nat→Int) (kk:Int) (t:(Int × Nat × (Nat→Nat) × (Nat→Nat→Int))) (hg:zHK N js ms n m nc qn qv kk t=true):LFT Tf 25 (orn0 N js ms n m nc qn qv kk) N [] [0,1,0,1,1,1] K N (hn0 N js ms n m nc qn qv kk t.1 t.2.1 t.2.2.1 t.2.2.2)=kxn0 N js ms n m nc qn qv kk K (jZ N js ms n m nc qn qv kk t):=by
 refine (wln0 K N js ms n m nc qn qv kk N t).trans ?_;unfold zHK at hg;unfold jZ;cases h:qG (dcn0 js ms n m nc qn qv kk) N t with
 | none=>rw [h] at hg; cases hg
 | some y=>rfl
noncomputable def hn2 (N:Nat) (js:Nat→J) (ms:Nat→Ms) (n m:Nat) (nc:Nat) (qn:Nat→Nat) (qv:Nat→Nat→Int) (kk:Int) (iu:Int) (il:Int) (cl:Nat) (ol:Nat→Int) (tp:Nat) (tn:Nat→Nat) (tv:Nat→Nat→Int) (te:Nat) (eu:Nat→Int) (ev:Nat→Int) (ec:Nat→Int):St:=⟨[(2,.v (.n .i64 kk)),(3,.p 3 0),(6,.p 6 0),(7,.p 7 0),(9,.v (.n .i64 iu)),(10,.v (.lf cl (fun v=>[.n .i64 (ol v)]))),(11,.v (.n .i64 il))],[(3,.blk [.v (.lf n (fJ js)),.v (.lf m (fM ms))]),(6,.blk [.nl,.nl]),(7,.blk [.v (.lf tp (fun v=>[.lf (tn v) (fun w=>[.n .i64 (tv v w)])])),.o 89]),(89,.reg 61 12 (.fo te (fun v=>[.n .i64 (eu v),.n .i64 (ev v),.n .i64 (ec v),.n .i64 0,.n .i64 0,.l [],.n .i64 0,.n .i64 0,.l [],.n .i64 0,.l [],.l []])))]⟩
set_option maxRecDepth 100000 in
theorem rdn2 (G:St→Option (Ret × Mem)) (K:Cont) (N:Nat) (js:Nat→J) (ms:Nat→Ms) (n m:Nat) (nc:Nat) (qn:Nat→Nat) (qv:Nat→Nat→Int) (kk:Int) (iu:Int) (il:Int) (cl:Nat) (ol:Nat→Int) (tp:Nat) (tn:Nat→Nat) (tv:Nat→Nat→Int) (te:Nat) (eu:Nat→Int) (ev:Nat→Int) (ec:Nat→Int):stpT Tf 25 (orn0 N js ms n m nc qn qv kk) N [] [0,1,1,0,0,1,0,0,1,0,1,1,1,1] K G (hn2 N js ms n m nc qn qv kk iu il cl ol tp tn tv te eu ev ec) =
 (bif (decide (il < (cl:Int))) then (bif (decide (il < kk)) then (bif (inB il cl) then (bif (gF1 (cis js ms n m) (eis js ms n m) (tp,tn,tv,te,eu,ev,ec,iu,(ol (il).toNat))) then (G (hn2 N js ms n m nc qn qv kk iu (vYW .i64 (il + 1)) cl ol tp tn tv (inF js ms n m (tp,tn,tv,te,eu,ev,ec,iu,(ol (il).toNat))).1 ((inF js ms n m (tp,tn,tv,te,eu,ev,ec,iu,(ol (il).toNat))).2.1) ((inF js ms n m (tp,tn,tv,te,eu,ev,ec,iu,(ol (il).toNat))).2.2.1) ((inF js ms n m (tp,tn,tv,te,eu,ev,ec,iu,(ol (il).toNat))).2.2.2)))
 else none)
 else none)
 else (K (.exit 4) ⟨[(2,.v (.n .i64 kk)),(3,.p 3 0),(6,.p 6 0),(7,.p 7 0),(9,.v (.n .i64 iu))],[(3,.blk [.v (.lf n (fJ js)),.v (.lf m (fM ms))]),(6,.blk [.nl,.nl]),(7,.blk [.v (.lf tp (fun v=>[.lf (tn v) (fun w=>[.n .i64 (tv v w)])])),.o 89]),(89,.reg 61 12 (.fo te (fun v=>[.n .i64 (eu v),.n .i64 (ev v),.n .i64 (ec v),.n .i64 0,.n .i64 0,.l [],.n .i64 0,.n .i64 0,.l [],.n .i64 0,.l [],.l []])))]⟩))
 else (K (.exit 4) ⟨[(2,.v (.n .i64 kk)),(3,.p 3 0),(6,.p 6 0),(7,.p 7 0),(9,.v (.n .i64 iu))],[(3,.blk [.v (.lf n (fJ js)),.v (.lf m (fM ms))]),(6,.blk [.nl,.nl]),(7,.blk [.v (.lf tp (fun v=>[.lf (tn v) (fun w=>[.n .i64 (tv v w)])])),.o 89]),(89,.reg 61 12 (.fo te (fun v=>[.n .i64 (eu v),.n .i64 (ev v),.n .i64 (ec v),.n .i64 0,.n .i64 0,.l [],.n .i64 0,.n .i64 0,.l [],.n .i64 0,.l [],.l []])))]⟩)):=by kernel_rfl
noncomputable def dcn2 (js:Nat→J) (ms:Nat→Ms) (n m:Nat) (nc:Nat) (qn:Nat→Nat) (qv:Nat→Nat→Int) (kk:Int):(Int × Int × Nat × (Nat→Int) × Nat × (Nat→Nat) × (Nat→Nat→Int) × Nat × (Nat→Int) × (Nat→Int) × (Nat→Int))→(Int × Int × Nat × (Nat→Int) × Nat × (Nat→Nat) × (Nat→Nat→Int) × Nat × (Nat→Int) × (Nat→Int) × (Nat→Int)) ⊕ (Nat × Int × Int × Nat × (Nat→Int) × Nat × (Nat→Nat) × (Nat→Nat→Int) × Nat × (Nat→Int) × (Nat→Int) × (Nat→Int)):=fun t=>match t with | (iu,il,cl,ol,tp,tn,tv,te,eu,ev,ec)=>(bif (decide (il < (cl:Int))) then (bif (decide (il < kk)) then (bif (inB il cl) then (bif (gF1 (cis js ms n m) (eis js ms n m) (tp,tn,tv,te,eu,ev,ec,iu,(ol (il).toNat))) then (.inl (iu,(vYW .i64 (il + 1)),cl,ol,tp,tn,tv,(inF js ms n m (tp,tn,tv,te,eu,ev,ec,iu,(ol (il).toNat))).1,((inF js ms n m (tp,tn,tv,te,eu,ev,ec,iu,(ol (il).toNat))).2.1),((inF js ms n m (tp,tn,tv,te,eu,ev,ec,iu,(ol (il).toNat))).2.2.1),((inF js ms n m (tp,tn,tv,te,eu,ev,ec,iu,(ol (il).toNat))).2.2.2))) else (.inr (1,(iu,il,cl,ol,tp,tn,tv,te,eu,ev,ec)))) else (.inr (1,(iu,il,cl,ol,tp,tn,tv,te,eu,ev,ec)))) else (.inr (0,(iu,il,cl,ol,tp,tn,tv,te,eu,ev,ec)))) else (.inr (0,(iu,il,cl,ol,tp,tn,tv,te,eu,ev,ec))))
noncomputable def kxn2 (N:Nat) (js:Nat→J) (ms:Nat→Ms) (n m:Nat) (nc:Nat) (qn:Nat→Nat) (qv:Nat→Nat→Int) (kk:Int) (K:Cont) (w9:Nat × Int × Int × Nat × (Nat→Int) × Nat × (Nat→Nat) × (Nat→Nat→Int) × Nat × (Nat→Int) × (Nat→Int) × (Nat→Int)):Option (Ret × Mem):=bif Nat.beq w9.1 0 then (K (.exit 4) ⟨[(2,.v (.n .i64 kk)),(3,.p 3 0),(6,.p 6 0),(7,.p 7 0),(9,.v (.n .i64 w9.2.1))],[(3,.blk [.v (.lf n (fJ js)),.v (.lf m (fM ms))]),(6,.blk [.nl,.nl]),(7,.blk [.v (.lf w9.2.2.2.2.2.1 (fun v=>[.lf (w9.2.2.2.2.2.2.1 v) (fun w=>[.n .i64 (w9.2.2.2.2.2.2.2.1 v w)])])),.o 89]),(89,.reg 61 12 (.fo w9.2.2.2.2.2.2.2.2.1 (fun v=>[.n .i64 (w9.2.2.2.2.2.2.2.2.2.1 v),.n .i64 (w9.2.2.2.2.2.2.2.2.2.2.1 v),.n .i64 (w9.2.2.2.2.2.2.2.2.2.2.2 v),.n .i64 0,.n .i64 0,.l [],.n .i64 0,.n .i64 0,.l [],.n .i64 0,.l [],.l []])))]⟩) else none
theorem wln2 (K:Cont) (N:Nat) (js:Nat→J) (ms:Nat→Ms) (n m:Nat) (nc:Nat) (qn:Nat→Nat) (qv:Nat→Nat→Int) (kk:Int):∀ n9 (t:(Int × Int × Nat × (Nat→Int) × Nat × (Nat→Nat) × (Nat→Nat→Int) × Nat × (Nat→Int) × (Nat→Int) × (Nat→Int))),LFT Tf 25 (orn0 N js ms n m nc qn qv kk) N [] [0,1,1,0,0,1,0,0,1,0,1,1,1,1] K n9 (hn2 N js ms n m nc qn qv kk t.1 t.2.1 t.2.2.1 t.2.2.2.1 t.2.2.2.2.1 t.2.2.2.2.2.1 t.2.2.2.2.2.2.1 t.2.2.2.2.2.2.2.1 t.2.2.2.2.2.2.2.2.1 t.2.2.2.2.2.2.2.2.2.1 t.2.2.2.2.2.2.2.2.2.2)=(qG (dcn2 js ms n m nc qn qv kk) n9 t).bind (kxn2 N js ms n m nc qn qv kk K):=fun n9 t=>by
 refine qYG (L:=LFT Tf 25 (orn0 N js ms n m nc qn qv kk) N [] [0,1,1,0,0,1,0,0,1,0,1,1,1,1] K) (stp:=stpT Tf 25 (orn0 N js ms n m nc qn qv kk) N [] [0,1,1,0,0,1,0,0,1,0,1,1,1,1] K) (fun _ _=>rfl) (fun _=>rfl) (fun t=>hn2 N js ms n m nc qn qv kk t.1 t.2.1 t.2.2.1 t.2.2.2.1 t.2.2.2.2.1 t.2.2.2.2.2.1 t.2.2.2.2.2.2.1 t.2.2.2.2.2.2.2.1 t.2.2.2.2.2.2.2.2.1 t.2.2.2.2.2.2.2.2.2.1 t.2.2.2.2.2.2.2.2.2.2) (fun _=>True) (dcn2 js ms n m nc qn qv kk) (kxn2 N js ms n m nc qn qv kk K) (fun G t _ => ?_) (fun _ _ _ _=>trivial) n9 t trivial;obtain ⟨iu,il,cl,ol,tp,tn,tv,te,eu,ev,ec⟩:=t;refine (rdn2 G K N js ms n m nc qn qv kk iu il cl ol tp tn tv te eu ev ec).trans ?_;dsimp only [dcn2];cases (decide (il < (cl:Int)))
 ·rfl
 ·cases (decide (il < kk))
  ·rfl
  ·cases (inB il cl)
   ·rfl
   ·cases (gF1 (cis js ms n m) (eis js ms n m) (tp,tn,tv,te,eu,ev,ec,iu,(ol (il).toNat)))
    ·rfl
    ·rfl
noncomputable def zXY (N:Nat) (js:Nat→J) (ms:Nat→Ms) (n m:Nat) (nc:Nat) (qn:Nat→Nat) (qv:Nat→Nat→Int) (kk:Int) (t:(Int × Int × Nat × (Nat→Int) × Nat × (Nat→Nat) × (Nat→Nat→Int) × Nat × (Nat→Int) × (Nat→Int) × (Nat→Int))):Bool:=(qG (dcn2 js ms n m nc qn qv kk) N t).isSome
noncomputable def qJF (N:Nat) (js:Nat→J) (ms:Nat→Ms) (n m:Nat) (nc:Nat) (qn:Nat→Nat) (qv:Nat→Nat→Int) (kk:Int) (t:(Int × Int × Nat × (Nat→Int) × Nat × (Nat→Nat) × (Nat→Nat→Int) × Nat × (Nat→Int) × (Nat→Int) × (Nat→Int))):Nat × Int × Int × Nat × (Nat→Int) × Nat × (Nat→Nat) × (Nat→Nat→Int) × Nat × (Nat→Int) × (Nat→Int) × (Nat→Int):=(qG (dcn2 js ms n m nc qn qv kk) N t).getD (99,t)
theorem lwn2 (K:Cont) (N:Nat) (js:Nat→J) (ms:Nat→Ms) (n m:Nat) (nc:Nat) (qn:Nat→Nat) (qv:Nat→Nat→Int) (kk:Int) (t:(Int × Int × Nat × (Nat→Int) × Nat × (Nat→Nat) × (Nat→Nat→Int) × Nat × (Nat→Int) × (Nat→Int) × (Nat→Int))) (hg:zXY N js ms n m nc qn qv kk t=true):LFT Tf 25 (orn0 N js ms n m nc qn qv kk) N [] [0,1,1,0,0,1,0,0,1,0,1,1,1,1] K N (hn2 N js ms n m nc qn qv kk t.1 t.2.1 t.2.2.1 t.2.2.2.1 t.2.2.2.2.1 t.2.2.2.2.2.1 t.2.2.2.2.2.2.1 t.2.2.2.2.2.2.2.1 t.2.2.2.2.2.2.2.2.1 t.2.2.2.2.2.2.2.2.2.1 t.2.2.2.2.2.2.2.2.2.2)=kxn2 N js ms n m nc qn qv kk K (qJF N js ms n m nc qn qv kk t):=by
 refine (wln2 K N js ms n m nc qn qv kk N t).trans ?_;unfold zXY at hg;unfold qJF;cases h:qG (dcn2 js ms n m nc qn qv kk) N t with
 | none=>rw [h] at hg; cases hg
 | some y=>rfl
noncomputable def lin2 (N:Nat) (js:Nat→J) (ms:Nat→Ms) (n m:Nat) (nc:Nat) (qn:Nat→Nat) (qv:Nat→Nat→Int) (kk:Int):List (List Nat × yV):=[([0,1,1,0,0,1,0,0,1,0,1,1,1,1],sumF (fun t:(Int × Int × Nat × (Nat→Int) × Nat × (Nat→Nat) × (Nat→Nat→Int) × Nat × (Nat→Int) × (Nat→Int) × (Nat→Int))=>(hn2 N js ms n m nc qn qv kk t.1 t.2.1 t.2.2.1 t.2.2.2.1 t.2.2.2.2.1 t.2.2.2.2.2.1 t.2.2.2.2.2.2.1 t.2.2.2.2.2.2.2.1 t.2.2.2.2.2.2.2.2.1 t.2.2.2.2.2.2.2.2.2.1 t.2.2.2.2.2.2.2.2.2.2)) (fun σ=>(slI σ 9,slI σ 11,lfN σ 10,lfI σ 10,llN (bkV σ 7 0),llG (bkV σ 7 0),llX (bkV σ 7 0),rgN σ 89,rgI σ 89 0,rgI σ 89 1,rgI σ 89 2)) (fun t K=>(bif zXY N js ms n m nc qn qv kk t then kxn2 N js ms n m nc qn qv kk K (qJF N js ms n m nc qn qv kk t) else none)))]
theorem okn2 (N:Nat) (js:Nat→J) (ms:Nat→Ms) (n m:Nat) (nc:Nat) (qn:Nat→Nat) (qv:Nat→Nat→Int) (kk:Int):∀ p S,qY (lin2 N js ms n m nc qn qv kk) p=some S→kX N (cxS Tf (orn0 N js ms n m nc qn qv kk) N 25 (ntmF Tf 25)) (qZ Tf 25 p) S:=fun p S hp=>by
 refine qX (L:=qZ Tf 25) (l:=(lin2 N js ms n m nc qn qv kk)) (show AllP _ (lin2 N js ms n m nc qn qv kk) from ⟨?_,trivial⟩) p S hp;dsimp only;refine jQ (T:=Tf) (o:=(orn0 N js ms n m nc qn qv kk)) (f:=25) (LO:=qY []) (p:=[0,1,1,0,0,1,0,0,1,0,1,1,1,1]) jU ?_;intro t K r hr;obtain ⟨hg,hr⟩:=qQ hr
 skip
 exact (lwn2 K N js ms n m nc qn qv kk t hg).trans hr
noncomputable def hn1 (N:Nat) (js:Nat→J) (ms:Nat→Ms) (n m:Nat) (nc:Nat) (qn:Nat→Nat) (qv:Nat→Nat→Int) (kk:Int) (iu:Int) (tp:Nat) (tn:Nat→Nat) (tv:Nat→Nat→Int) (te:Nat) (eu:Nat→Int) (ev:Nat→Int) (ec:Nat→Int):St:=⟨[(2,.v (.n .i64 kk)),(3,.p 3 0),(6,.p 6 0),(7,.p 7 0),(9,.v (.n .i64 iu))],[(3,.blk [.v (.lf n (fJ js)),.v (.lf m (fM ms))]),(6,.blk [.nl,.nl]),(7,.blk [.v (.lf tp (fun v=>[.lf (tn v) (fun w=>[.n .i64 (tv v w)])])),.o 89]),(89,.reg 61 12 (.fo te (fun v=>[.n .i64 (eu v),.n .i64 (ev v),.n .i64 (ec v),.n .i64 0,.n .i64 0,.l [],.n .i64 0,.n .i64 0,.l [],.n .i64 0,.l [],.l []])))]⟩
set_option maxRecDepth 100000 in
theorem rdn1 (G:St→Option (Ret × Mem)) (K:Cont) (N:Nat) (js:Nat→J) (ms:Nat→Ms) (n m:Nat) (nc:Nat) (qn:Nat→Nat) (qv:Nat→Nat→Int) (kk:Int) (iu:Int) (tp:Nat) (tn:Nat→Nat) (tv:Nat→Nat→Int) (te:Nat) (eu:Nat→Int) (ev:Nat→Int) (ec:Nat→Int):stpT Tf 25 (orn0 N js ms n m nc qn qv kk) N (lin2 N js ms n m nc qn qv kk) [0,1,0,1,1,1,1] K G (hn1 N js ms n m nc qn qv kk iu tp tn tv te eu ev ec) =
 (bif (decide (iu < (tp:Int))) then (bif (inB iu tp) then (bif (gF1 (cby js ms n m) (eby js ms n m) (tp,tn,tv,(tn (iu).toNat),(tv (iu).toNat),iu)) then (bif (gSt (hn2 N js ms n m nc qn qv kk iu 0 (byF js ms n m (tp,tn,tv,(tn (iu).toNat),(tv (iu).toNat),iu)).1 (byF js ms n m (tp,tn,tv,(tn (iu).toNat),(tv (iu).toNat),iu)).2 tp tn tv te eu ev ec) (hn2 N js ms n m nc qn qv kk iu 0 (byF js ms n m (tp,tn,tv,(tn (iu).toNat),(tv (iu).toNat),iu)).1 (byF js ms n m (tp,tn,tv,(tn (iu).toNat),(tv (iu).toNat),iu)).2 tp tn tv te eu ev ec)) then (bif (zXY N js ms n m nc qn qv kk (iu,0,(byF js ms n m (tp,tn,tv,(tn (iu).toNat),(tv (iu).toNat),iu)).1,(byF js ms n m (tp,tn,tv,(tn (iu).toNat),(tv (iu).toNat),iu)).2,tp,tn,tv,te,eu,ev,ec)) then (bif (Nat.beq (qJF N js ms n m nc qn qv kk (iu,0,(byF js ms n m (tp,tn,tv,(tn (iu).toNat),(tv (iu).toNat),iu)).1,(byF js ms n m (tp,tn,tv,(tn (iu).toNat),(tv (iu).toNat),iu)).2,tp,tn,tv,te,eu,ev,ec)).1 0) then (G (hn1 N js ms n m nc qn qv kk (vYW .i64 ((qJF N js ms n m nc qn qv kk (iu,0,(byF js ms n m (tp,tn,tv,(tn (iu).toNat),(tv (iu).toNat),iu)).1,(byF js ms n m (tp,tn,tv,(tn (iu).toNat),(tv (iu).toNat),iu)).2,tp,tn,tv,te,eu,ev,ec)).2.1 + 1)) ((qJF N js ms n m nc qn qv kk (iu,0,(byF js ms n m (tp,tn,tv,(tn (iu).toNat),(tv (iu).toNat),iu)).1,(byF js ms n m (tp,tn,tv,(tn (iu).toNat),(tv (iu).toNat),iu)).2,tp,tn,tv,te,eu,ev,ec)).2.2.2.2.2.1) ((qJF N js ms n m nc qn qv kk (iu,0,(byF js ms n m (tp,tn,tv,(tn (iu).toNat),(tv (iu).toNat),iu)).1,(byF js ms n m (tp,tn,tv,(tn (iu).toNat),(tv (iu).toNat),iu)).2,tp,tn,tv,te,eu,ev,ec)).2.2.2.2.2.2.1) ((qJF N js ms n m nc qn qv kk (iu,0,(byF js ms n m (tp,tn,tv,(tn (iu).toNat),(tv (iu).toNat),iu)).1,(byF js ms n m (tp,tn,tv,(tn (iu).toNat),(tv (iu).toNat),iu)).2,tp,tn,tv,te,eu,ev,ec)).2.2.2.2.2.2.2.1) (qJF N js ms n m nc qn qv kk (iu,0,(byF js ms n m (tp,tn,tv,(tn (iu).toNat),(tv (iu).toNat),iu)).1,(byF js ms n m (tp,tn,tv,(tn (iu).toNat),(tv (iu).toNat),iu)).2,tp,tn,tv,te,eu,ev,ec)).2.2.2.2.2.2.2.2.1 ((qJF N js ms n m nc qn qv kk (iu,0,(byF js ms n m (tp,tn,tv,(tn (iu).toNat),(tv (iu).toNat),iu)).1,(byF js ms n m (tp,tn,tv,(tn (iu).toNat),(tv (iu).toNat),iu)).2,tp,tn,tv,te,eu,ev,ec)).2.2.2.2.2.2.2.2.2.1) ((qJF N js ms n m nc qn qv kk (iu,0,(byF js ms n m (tp,tn,tv,(tn (iu).toNat),(tv (iu).toNat),iu)).1,(byF js ms n m (tp,tn,tv,(tn (iu).toNat),(tv (iu).toNat),iu)).2,tp,tn,tv,te,eu,ev,ec)).2.2.2.2.2.2.2.2.2.2.1) ((qJF N js ms n m nc qn qv kk (iu,0,(byF js ms n m (tp,tn,tv,(tn (iu).toNat),(tv (iu).toNat),iu)).1,(byF js ms n m (tp,tn,tv,(tn (iu).toNat),(tv (iu).toNat),iu)).2,tp,tn,tv,te,eu,ev,ec)).2.2.2.2.2.2.2.2.2.2.2)))
 else none)
 else none)
 else none)
 else none)
 else none)
 else (K (.exit 2) ⟨[(6,.p 6 0),(7,.p 7 0)],[(6,.blk [.nl,.nl]),(7,.blk [.v (.lf tp (fun v=>[.lf (tn v) (fun w=>[.n .i64 (tv v w)])])),.o 89]),(89,.reg 61 12 (.fo te (fun v=>[.n .i64 (eu v),.n .i64 (ev v),.n .i64 (ec v),.n .i64 0,.n .i64 0,.l [],.n .i64 0,.n .i64 0,.l [],.n .i64 0,.l [],.l []])))]⟩)):=by kernel_rfl
noncomputable def dcn1 (N:Nat) (js:Nat→J) (ms:Nat→Ms) (n m:Nat) (nc:Nat) (qn:Nat→Nat) (qv:Nat→Nat→Int) (kk:Int):(Int × Nat × (Nat→Nat) × (Nat→Nat→Int) × Nat × (Nat→Int) × (Nat→Int) × (Nat→Int))→(Int × Nat × (Nat→Nat) × (Nat→Nat→Int) × Nat × (Nat→Int) × (Nat→Int) × (Nat→Int)) ⊕ (Nat × Int × Nat × (Nat→Nat) × (Nat→Nat→Int) × Nat × (Nat→Int) × (Nat→Int) × (Nat→Int)):=fun t=>match t with | (iu,tp,tn,tv,te,eu,ev,ec)=>(bif (decide (iu < (tp:Int))) then (bif (inB iu tp) then (bif (gF1 (cby js ms n m) (eby js ms n m) (tp,tn,tv,(tn (iu).toNat),(tv (iu).toNat),iu)) then (bif (gSt (hn2 N js ms n m nc qn qv kk iu 0 (byF js ms n m (tp,tn,tv,(tn (iu).toNat),(tv (iu).toNat),iu)).1 (byF js ms n m (tp,tn,tv,(tn (iu).toNat),(tv (iu).toNat),iu)).2 tp tn tv te eu ev ec) (hn2 N js ms n m nc qn qv kk iu 0 (byF js ms n m (tp,tn,tv,(tn (iu).toNat),(tv (iu).toNat),iu)).1 (byF js ms n m (tp,tn,tv,(tn (iu).toNat),(tv (iu).toNat),iu)).2 tp tn tv te eu ev ec)) then (bif (zXY N js ms n m nc qn qv kk (iu,0,(byF js ms n m (tp,tn,tv,(tn (iu).toNat),(tv (iu).toNat),iu)).1,(byF js ms n m (tp,tn,tv,(tn (iu).toNat),(tv (iu).toNat),iu)).2,tp,tn,tv,te,eu,ev,ec)) then (bif (Nat.beq (qJF N js ms n m nc qn qv kk (iu,0,(byF js ms n m (tp,tn,tv,(tn (iu).toNat),(tv (iu).toNat),iu)).1,(byF js ms n m (tp,tn,tv,(tn (iu).toNat),(tv (iu).toNat),iu)).2,tp,tn,tv,te,eu,ev,ec)).1 0) then (.inl ((vYW .i64 ((qJF N js ms n m nc qn qv kk (iu,0,(byF js ms n m (tp,tn,tv,(tn (iu).toNat),(tv (iu).toNat),iu)).1,(byF js ms n m (tp,tn,tv,(tn (iu).toNat),(tv (iu).toNat),iu)).2,tp,tn,tv,te,eu,ev,ec)).2.1 + 1)),((qJF N js ms n m nc qn qv kk (iu,0,(byF js ms n m (tp,tn,tv,(tn (iu).toNat),(tv (iu).toNat),iu)).1,(byF js ms n m (tp,tn,tv,(tn (iu).toNat),(tv (iu).toNat),iu)).2,tp,tn,tv,te,eu,ev,ec)).2.2.2.2.2.1),((qJF N js ms n m nc qn qv kk (iu,0,(byF js ms n m (tp,tn,tv,(tn (iu).toNat),(tv (iu).toNat),iu)).1,(byF js ms n m (tp,tn,tv,(tn (iu).toNat),(tv (iu).toNat),iu)).2,tp,tn,tv,te,eu,ev,ec)).2.2.2.2.2.2.1),((qJF N js ms n m nc qn qv kk (iu,0,(byF js ms n m (tp,tn,tv,(tn (iu).toNat),(tv (iu).toNat),iu)).1,(byF js ms n m (tp,tn,tv,(tn (iu).toNat),(tv (iu).toNat),iu)).2,tp,tn,tv,te,eu,ev,ec)).2.2.2.2.2.2.2.1),(qJF N js ms n m nc qn qv kk (iu,0,(byF js ms n m (tp,tn,tv,(tn (iu).toNat),(tv (iu).toNat),iu)).1,(byF js ms n m (tp,tn,tv,(tn (iu).toNat),(tv (iu).toNat),iu)).2,tp,tn,tv,te,eu,ev,ec)).2.2.2.2.2.2.2.2.1,((qJF N js ms n m nc qn qv kk (iu,0,(byF js ms n m (tp,tn,tv,(tn (iu).toNat),(tv (iu).toNat),iu)).1,(byF js ms n m (tp,tn,tv,(tn (iu).toNat),(tv (iu).toNat),iu)).2,tp,tn,tv,te,eu,ev,ec)).2.2.2.2.2.2.2.2.2.1),((qJF N js ms n m nc qn qv kk (iu,0,(byF js ms n m (tp,tn,tv,(tn (iu).toNat),(tv (iu).toNat),iu)).1,(byF js ms n m (tp,tn,tv,(tn (iu).toNat),(tv (iu).toNat),iu)).2,tp,tn,tv,te,eu,ev,ec)).2.2.2.2.2.2.2.2.2.2.1),((qJF N js ms n m nc qn qv kk (iu,0,(byF js ms n m (tp,tn,tv,(tn (iu).toNat),(tv (iu).toNat),iu)).1,(byF js ms n m (tp,tn,tv,(tn (iu).toNat),(tv (iu).toNat),iu)).2,tp,tn,tv,te,eu,ev,ec)).2.2.2.2.2.2.2.2.2.2.2))) else (.inr (1,(iu,tp,tn,tv,te,eu,ev,ec)))) else (.inr (1,(iu,tp,tn,tv,te,eu,ev,ec)))) else (.inr (1,(iu,tp,tn,tv,te,eu,ev,ec)))) else (.inr (1,(iu,tp,tn,tv,te,eu,ev,ec)))) else (.inr (1,(iu,tp,tn,tv,te,eu,ev,ec)))) else (.inr (0,(iu,tp,tn,tv,te,eu,ev,ec))))
noncomputable def kxn1 (N:Nat) (js:Nat→J) (ms:Nat→Ms) (n m:Nat) (nc:Nat) (qn:Nat→Nat) (qv:Nat→Nat→Int) (kk:Int) (K:Cont) (w9:Nat × Int × Nat × (Nat→Nat) × (Nat→Nat→Int) × Nat × (Nat→Int) × (Nat→Int) × (Nat→Int)):Option (Ret × Mem):=bif Nat.beq w9.1 0 then (K (.exit 2) ⟨[(6,.p 6 0),(7,.p 7 0)],[(6,.blk [.nl,.nl]),(7,.blk [.v (.lf w9.2.2.1 (fun v=>[.lf (w9.2.2.2.1 v) (fun w=>[.n .i64 (w9.2.2.2.2.1 v w)])])),.o 89]),(89,.reg 61 12 (.fo w9.2.2.2.2.2.1 (fun v=>[.n .i64 (w9.2.2.2.2.2.2.1 v),.n .i64 (w9.2.2.2.2.2.2.2.1 v),.n .i64 (w9.2.2.2.2.2.2.2.2 v),.n .i64 0,.n .i64 0,.l [],.n .i64 0,.n .i64 0,.l [],.n .i64 0,.l [],.l []])))]⟩) else none
theorem wln1 (K:Cont) (N:Nat) (js:Nat→J) (ms:Nat→Ms) (n m:Nat) (nc:Nat) (qn:Nat→Nat) (qv:Nat→Nat→Int) (kk:Int):∀ n9 (t:(Int × Nat × (Nat→Nat) × (Nat→Nat→Int) × Nat × (Nat→Int) × (Nat→Int) × (Nat→Int))),LFT Tf 25 (orn0 N js ms n m nc qn qv kk) N (lin2 N js ms n m nc qn qv kk) [0,1,0,1,1,1,1] K n9 (hn1 N js ms n m nc qn qv kk t.1 t.2.1 t.2.2.1 t.2.2.2.1 t.2.2.2.2.1 t.2.2.2.2.2.1 t.2.2.2.2.2.2.1 t.2.2.2.2.2.2.2)=(qG (dcn1 N js ms n m nc qn qv kk) n9 t).bind (kxn1 N js ms n m nc qn qv kk K):=fun n9 t=>by
 refine qYG (L:=LFT Tf 25 (orn0 N js ms n m nc qn qv kk) N (lin2 N js ms n m nc qn qv kk) [0,1,0,1,1,1,1] K) (stp:=stpT Tf 25 (orn0 N js ms n m nc qn qv kk) N (lin2 N js ms n m nc qn qv kk) [0,1,0,1,1,1,1] K) (fun _ _=>rfl) (fun _=>rfl) (fun t=>hn1 N js ms n m nc qn qv kk t.1 t.2.1 t.2.2.1 t.2.2.2.1 t.2.2.2.2.1 t.2.2.2.2.2.1 t.2.2.2.2.2.2.1 t.2.2.2.2.2.2.2) (fun _=>True) (dcn1 N js ms n m nc qn qv kk) (kxn1 N js ms n m nc qn qv kk K) (fun G t _ => ?_) (fun _ _ _ _=>trivial) n9 t trivial;obtain ⟨iu,tp,tn,tv,te,eu,ev,ec⟩:=t;refine (rdn1 G K N js ms n m nc qn qv kk iu tp tn tv te eu ev ec).trans ?_;dsimp only [dcn1];cases (decide (iu < (tp:Int)))
 ·rfl
 ·cases (inB iu tp)
  ·rfl
  ·cases (gF1 (cby js ms n m) (eby js ms n m) (tp,tn,tv,(tn (iu).toNat),(tv (iu).toNat),iu))
   ·rfl
   ·cases (gSt (hn2 N js ms n m nc qn qv kk iu 0 (byF js ms n m (tp,tn,tv,(tn (iu).toNat),(tv (iu).toNat),iu)).1 (byF js ms n m (tp,tn,tv,(tn (iu).toNat),(tv (iu).toNat),iu)).2 tp tn tv te eu ev ec) (hn2 N js ms n m nc qn qv kk iu 0 (byF js ms n m (tp,tn,tv,(tn (iu).toNat),(tv (iu).toNat),iu)).1 (byF js ms n m (tp,tn,tv,(tn (iu).toNat),(tv (iu).toNat),iu)).2 tp tn tv te eu ev ec))
    ·rfl
    ·cases (zXY N js ms n m nc qn qv kk (iu,0,(byF js ms n m (tp,tn,tv,(tn (iu).toNat),(tv (iu).toNat),iu)).1,(byF js ms n m (tp,tn,tv,(tn (iu).toNat),(tv (iu).toNat),iu)).2,tp,tn,tv,te,eu,ev,ec))
     ·rfl
     ·cases (Nat.beq (qJF N js ms n m nc qn qv kk (iu,0,(byF js ms n m (tp,tn,tv,(tn (iu).toNat),(tv (iu).toNat),iu)).1,(byF js ms n m (tp,tn,tv,(tn (iu).toNat),(tv (iu).toNat),iu)).2,tp,tn,tv,te,eu,ev,ec)).1 0)
      ·rfl
      ·rfl
noncomputable def zHJ (N:Nat) (js:Nat→J) (ms:Nat→Ms) (n m:Nat) (nc:Nat) (qn:Nat→Nat) (qv:Nat→Nat→Int) (kk:Int) (t:(Int × Nat × (Nat→Nat) × (Nat→Nat→Int) × Nat × (Nat→Int) × (Nat→Int) × (Nat→Int))):Bool:=(qG (dcn1 N js ms n m nc qn qv kk) N t).isSome
noncomputable def qUC (N:Nat) (js:Nat→J) (ms:Nat→Ms) (n m:Nat) (nc:Nat) (qn:Nat→Nat) (qv:Nat→Nat→Int) (kk:Int) (t:(Int × Nat × (Nat→Nat) × (Nat→Nat→Int) × Nat × (Nat→Int) × (Nat→Int) × (Nat→Int))):Nat × Int × Nat × (Nat→Nat) × (Nat→Nat→Int) × Nat × (Nat→Int) × (Nat→Int) × (Nat→Int):=(qG (dcn1 N js ms n m nc qn qv kk) N t).getD (99,t)
theorem lwn1 (K:Cont) (N:Nat) (js:Nat→J) (ms:Nat→Ms) (n m:Nat) (nc:Nat) (qn:Nat→Nat) (qv:Nat→Nat→Int) (kk:Int) (t:(Int × Nat × (Nat→Nat) × (Nat→Nat→Int) × Nat × (Nat→Int) × (Nat→Int) × (Nat→Int))) (hg:zHJ N js ms n m nc qn qv kk t=true):LFT Tf 25 (orn0 N js ms n m nc qn qv kk) N (lin2 N js ms n m nc qn qv kk) [0,1,0,1,1,1,1] K N (hn1 N js ms n m nc qn qv kk t.1 t.2.1 t.2.2.1 t.2.2.2.1 t.2.2.2.2.1 t.2.2.2.2.2.1 t.2.2.2.2.2.2.1 t.2.2.2.2.2.2.2)=kxn1 N js ms n m nc qn qv kk K (qUC N js ms n m nc qn qv kk t):=by
 refine (wln1 K N js ms n m nc qn qv kk N t).trans ?_;unfold zHJ at hg;unfold qUC;cases h:qG (dcn1 N js ms n m nc qn qv kk) N t with
 | none=>rw [h] at hg; cases hg
 | some y=>rfl
structure PT (js:Nat→J) (ms:Nat→Ms) (n m:Nat) (tp:Nat) (tn:Nat→Nat) (tv:Nat→Nat→Int):Prop where
 ins:∀ j,j < tp→qIn js ms (tv j) n m (tn j)=true
 dif:∀ j,j < tp→∀ i,i < j→smN (tv i) (tv j) (tn i) (tn j)=false
theorem zJW {α:Type} {tp w:Nat} (x y:α) (_:w < tp):(bif Nat.beq w tp then x else y)=y:=by rw [qHL (show w ≠ tp by omega)]; rfl
theorem zGX {α:Type} {tp:Nat} (x y:α):(bif Nat.beq tp tp then x else y)=x:=by rw [Nat.beq_refl]; rfl
theorem PT.push {js:Nat→J} {ms:Nat→Ms} {n m tp:Nat} {tn:Nat→Nat} {tv:Nat→Nat→Int} (h:PT js ms n m tp tn tv) {q:Nat→Int} {k:Nat} (h1:qIn js ms q n m k=true) (h2:∀ i,i < tp→smN (tv i) q (tn i) k=false):PT js ms n m (tp + 1) (fun v=>bif Nat.beq v tp then k else tn v) (fun v w=>bif Nat.beq v tp then q w else tv v w) where
 ins:=fun j hj=>by
  by_cases e:j=tp
  ·subst e;rw [zGX,show (fun w=>bif Nat.beq j j then q w else tv j w)=q from funext fun w=>zGX _ _]; exact h1
  ·rw [zJW _ _ (show j < tp by omega),show (fun w=>bif Nat.beq j tp then q w else tv j w)=tv j from funext fun w=>zJW _ _ (show j < tp by omega)]; exact h.ins j (by omega)
 dif:=fun j hj i hi=>by
  rw [zJW _ _ (show i < tp by omega),show (fun w=>bif Nat.beq i tp then q w else tv i w)=tv i from funext fun w=>zJW _ _ (show i < tp by omega)];by_cases e:j=tp
  ·subst e;rw [zGX,show (fun w=>bif Nat.beq j j then q w else tv j w)=q from funext fun w=>zGX _ _]; exact h2 i hi
  ·rw [zJW _ _ (show j < tp by omega),show (fun w=>bif Nat.beq j tp then q w else tv j w)=tv j from funext fun w=>zJW _ _ (show j < tp by omega)]; exact h.dif j (by omega) i hi
section
variable {js:Nat→J} {ms:Nat→Ms} {n m nc:Nat} {qn:Nat→Nat} {qv:Nat→Nat→Int} {kk:Int} (hc:nc≤50)
include hc
theorem yJB (hq:∀ j,j < nc→qIn js ms (qv j) n m (qn j)=true):∀ (d i M tp:Nat) (tn:Nat→Nat) (tv:Nat→Nat→Int),i + d=nc→d < M→tp≤i→(0 < i→0 < tp)→PT js ms n m tp tn tv→∃ (tp':Nat) (tn':Nat→Nat) (tv':Nat→Nat→Int),qG (dcn0 js ms n m nc qn qv kk) M ((i:Int),tp,tn,tv)=some (0,(nc:Int),tp',tn',tv')∧tp'≤nc∧(0 < nc→0 < tp')∧PT js ms n m tp' tn' tv'
 | _,_,0,_,_,_,_,h,_,_,_=>by omega
 | 0,i,M + 1,tp,tn,tv,hd,_,h1,h2,h3=>by
  obtain rfl:i=nc:=by omega
  refine ⟨tp,tn,tv,?_,h1,h2,h3⟩;rw [qG];dsimp only [dcn0];rw [vYJ (show ¬ (i:Int) < (i:Int) by omega)];rfl
 | d + 1,i,M + 1,tp,tn,tv,hd,hM,h1,h2,h3=>by
  have hin:=hq i (by omega);have hk:=qUI hin;rw [qG];dsimp only [dcn0];simp only [vYK (show (i:Int) < (nc:Int) by omega),vYK (show (tp:Int) < 1024 by omega),zU (show i < nc by omega),toN,jV (C:=cir js ms n m) (t:=(qv i,qn i)) trivial,hin,jV (C:=cpo) (t:=(tp,tn,tv,qv i,qn i)) ⟨show qn i≤1000 by omega,show tp≤1000 by omega⟩,vYK (show qn i≤1000000 by omega),vYK (show tp + 1≤1000000 by omega),jG (show i < 1000000 by omega),vYZ];by_cases hp:poI tn tv (qv i) (qn i) tp 0 < 0
  ·rw [vYK hp];have hd2:∀ j,j < tp→smN (tv j) (qv i) (tn j) (qn i)=false:=fun j hj=>by
    rcases zZC (pn:=tn) (pv:=tv) (q:=qv i) (k:=qn i) (d:=tp) (j:=0) with ⟨_,h4⟩ | ⟨h4,_⟩
    ·exact h4 j (Nat.zero_le _) (by omega)
    ·omega
   exact yJB hq d (i + 1) M (tp + 1) _ _ (by omega) (by omega) (by omega) (fun _=>by omega) (h3.push hin hd2)
  ·rw [vYJ hp];have ht:0 < tp:=by
    rcases Nat.eq_zero_or_pos tp with e | e
    ·subst e; exact absurd (show poI tn tv (qv i) (qn i) 0 0 < 0 by simp only [poI]; omega) hp
    ·exact e
   exact yJB hq d (i + 1) M tp _ _ (by omega) (by omega) (by omega) (fun _=>ht) h3
end
section
variable {js:Nat→J} {ms:Nat→Ms} {n m nc:Nat} {qn:Nat→Nat} {qv:Nat→Nat→Int} {kk:Int}
theorem it_n2 {tp:Nat} {tn:Nat→Nat} {tv:Nat→Nat→Int} (hT:PT js ms n m tp tn tv) {iu:Nat} (hi:iu < tp) {cl:Nat} {ol:Nat→Int} (hb:bdO tp (iu:Int) cl ol):∀ (d il M te:Nat) (eu ev ec:Nat→Int),il + d=cl→d < M→cl≤1000→te + d≤900000→SE tp (dE js ms n m tn tv) te eu ev ec→∃ (y:Int) (te':Nat) (eu' ev' ec':Nat→Int),qG (dcn2 js ms n m nc qn qv kk) M ((iu:Int),(il:Int),cl,ol,tp,tn,tv,te,eu,ev,ec)=some (0,(iu:Int),y,cl,ol,tp,tn,tv,te',eu',ev',ec')∧te'≤te + d∧SE tp (dE js ms n m tn tv) te' eu' ev' ec'
 | _,_,0,_,_,_,_,_,h,_,_,_=>by omega
 | 0,il,M + 1,te,eu,ev,ec,hd,_,_,_,hS=>by
  obtain rfl:il=cl:=by omega
  refine ⟨(il:Int),te,eu,ev,ec,?_,Nat.le_refl _,hS⟩;rw [qG];dsimp only [dcn2];rw [vYJ (show ¬ (il:Int) < (il:Int) by omega)];rfl
 | d + 1,il,M + 1,te,eu,ev,ec,hd,hM,hcl,hte,hS=>by
  rw [qG];dsimp only [dcn2];rw [vYK (show (il:Int) < (cl:Int) by omega)];by_cases hk:(il:Int) < kk
  ·obtain ⟨o1,o2,o3⟩:=hb il (by omega);have hC:inC js ms n m (tp,tn,tv,te,eu,ev,ec,(iu:Int),ol il):=⟨show te≤900000 by omega,fun j hj=>by have:=qUI (hT.ins j hj); dsimp only; omega,hS,show (0:Int)≤(iu:Int) by omega,show (iu:Int) < (tp:Int) by omega,o1,o2,Ne.symm o3⟩
   obtain ⟨⟨r1,r2⟩,_⟩:=inF_ok hC;simp only [vYK hk,zU (show il < cl by omega),toN,jV (C:=cis js ms n m) (t:=(tp,tn,tv,te,eu,ev,ec,(iu:Int),ol il)) hC,jG (show il < 1000000 by omega),vYZ];obtain ⟨y,te',x1,x2,x3,e1,e2,e3⟩:=it_n2 hT hi hb d (il + 1) M _ _ _ _ (by omega) (by omega) hcl (by have r1':(inF js ms n m (tp,tn,tv,te,eu,ev,ec,(iu:Int),ol il)).1≤te + 1:=r1; omega) r2;exact ⟨y,te',x1,x2,x3,e1,by have r1':(inF js ms n m (tp,tn,tv,te,eu,ev,ec,(iu:Int),ol il)).1≤te + 1:=r1; omega,e3⟩
  ·rw [vYJ hk];exact ⟨(il:Int),te,eu,ev,ec,rfl,by omega,hS⟩
end
section
variable {js:Nat→J} {ms:Nat→Ms} {n m nc:Nat} {qn:Nat→Nat} {qv:Nat→Nat→Int} {kk:Int}
theorem it_n1 {N:Nat} (hN:51≤N) {tp:Nat} {tn:Nat→Nat} {tv:Nat→Nat→Int} (ht:tp≤50) (hT:PT js ms n m tp tn tv):∀ (d iu M te:Nat) (eu ev ec:Nat→Int),iu + d=tp→d < M→te≤50 * iu→SE tp (dE js ms n m tn tv) te eu ev ec→∃ (te':Nat) (eu' ev' ec':Nat→Int),qG (dcn1 N js ms n m nc qn qv kk) M ((iu:Int),tp,tn,tv,te,eu,ev,ec)=some (0,(tp:Int),tp,tn,tv,te',eu',ev',ec')∧te'≤50 * tp∧SE tp (dE js ms n m tn tv) te' eu' ev' ec'
 | _,_,0,_,_,_,_,_,h,_,_=>by omega
 | 0,iu,M + 1,te,eu,ev,ec,hd,_,h1,hS=>by
  obtain rfl:iu=tp:=by omega
  refine ⟨te,eu,ev,ec,?_,h1,hS⟩;rw [qG];dsimp only [dcn1];rw [vYJ (show ¬ (iu:Int) < (iu:Int) by omega)];rfl
 | d + 1,iu,M + 1,te,eu,ev,ec,hd,hM,h1,hS=>by
  have hn:∀ j,j < tp→tn j≤50:=fun j hj=>by have:=qUI (hT.ins j hj); omega
  have hB:byC (tp,tn,tv,tn iu,tv iu,(iu:Int)):=⟨show tp≤1000 by omega,hn,hn iu (by omega)⟩
  obtain ⟨⟨b1,b2⟩,_⟩:=byF_ok (js:=js) (ms:=ms) (n:=n) (m:=m) hB;have b1':(byF js ms n m (tp,tn,tv,tn iu,tv iu,(iu:Int))).1≤tp:=b1;rw [qG];dsimp only [dcn1];simp only [vYK (show (iu:Int) < (tp:Int) by omega),zU (show iu < tp by omega),toN,jV (C:=cby js ms n m) (t:=(tp,tn,tv,tn iu,tv iu,(iu:Int))) hB,zW,vYZ];generalize byF js ms n m (tp,tn,tv,tn iu,tv iu,(iu:Int))=Y at b1' b2;obtain ⟨y,te',x1,x2,x3,e1,e2,e3⟩:=it_n2 (nc:=nc) (qn:=qn) (qv:=qv) (kk:=kk) hT (show iu < tp by omega) (cl:=Y.1) (ol:=Y.2) b2 Y.1 0 N te eu ev ec (by omega) (by omega) (by omega) (by omega) hS;rw [show ((0:Nat):Int)=0 from rfl] at e1;have o1:zXY N js ms n m nc qn qv kk ((iu:Int),0,Y.1,Y.2,tp,tn,tv,te,eu,ev,ec)=true:=by unfold zXY; rw [e1]; rfl
  have o2:qJF N js ms n m nc qn qv kk ((iu:Int),0,Y.1,Y.2,tp,tn,tv,te,eu,ev,ec)=(0,(iu:Int),y,Y.1,Y.2,tp,tn,tv,te',x1,x2,x3):=by unfold qJF; rw [e1]; rfl
  simp only [o1,o2,vYZ,Nat.beq_refl,jG (show iu < 1000000 by omega)];exact it_n1 hN ht hT d (iu + 1) M te' x1 x2 x3 (by omega) (by omega) (by omega) e3
end
noncomputable def yYZ (N:Nat) (js:Nat→J) (ms:Nat→Ms) (n m:Nat) (nc:Nat) (qn:Nat→Nat) (qv:Nat→Nat→Int) (kk:Int):List (List Nat × yV):=[([0,1,0,1,1,1],sumF (fun t:(Int × Nat × (Nat→Nat) × (Nat→Nat→Int))=>(hn0 N js ms n m nc qn qv kk t.1 t.2.1 t.2.2.1 t.2.2.2)) (fun σ=>(slI σ 8,rgN σ 52,unPn (rgF σ 52),unPv (rgF σ 52))) (fun t K=>(bif zHK N js ms n m nc qn qv kk t then kxn0 N js ms n m nc qn qv kk K (jZ N js ms n m nc qn qv kk t) else none))),([0,1,0,1,1,1,1],sumF (fun t:(Int × Nat × (Nat→Nat) × (Nat→Nat→Int) × Nat × (Nat→Int) × (Nat→Int) × (Nat→Int))=>(hn1 N js ms n m nc qn qv kk t.1 t.2.1 t.2.2.1 t.2.2.2.1 t.2.2.2.2.1 t.2.2.2.2.2.1 t.2.2.2.2.2.2.1 t.2.2.2.2.2.2.2)) (fun σ=>(slI σ 9,llN (bkV σ 7 0),llG (bkV σ 7 0),llX (bkV σ 7 0),rgN σ 89,rgI σ 89 0,rgI σ 89 1,rgI σ 89 2)) (fun t K=>(bif zHJ N js ms n m nc qn qv kk t then kxn1 N js ms n m nc qn qv kk K (qUC N js ms n m nc qn qv kk t) else none)))]
set_option maxRecDepth 100000 in
theorem pxnm0 (N:Nat) (js:Nat→J) (ms:Nat→Ms) (n m:Nat) (nc:Nat) (qn:Nat→Nat) (qv:Nat→Nat→Int) (kk:Int):qQI Tf (orn0 N js ms n m nc qn qv kk) (qY (yYZ N js ms n m nc qn qv kk)) N 25 [.a [.lf n (fJ js),.lf m (fM ms)],.lf nc (fP qn qv),.n .i64 kk] =
 (bif (g1 [.a [.lf n (fJ js),.lf m (fM ms)]]) then (bif (!decide ((rErr js ms n m)=0)) then some (.v (.a [.l [],.l []]),[])
 else (bif (gSt (hn0 N js ms n m nc qn qv kk 0 0 z0n zz0) (hn0 N js ms n m nc qn qv kk 0 0 z0n zz0)) then (bif (zHK N js ms n m nc qn qv kk (0,0,z0n,zz0)) then (bif (Nat.beq (jZ N js ms n m nc qn qv kk (0,0,z0n,zz0)).1 0) then (bif (gSt (hn1 N js ms n m nc qn qv kk 0 ((jZ N js ms n m nc qn qv kk (0,0,z0n,zz0)).2.2.1) ((jZ N js ms n m nc qn qv kk (0,0,z0n,zz0)).2.2.2.1) ((jZ N js ms n m nc qn qv kk (0,0,z0n,zz0)).2.2.2.2) 0 z0 z0 z0) (hn1 N js ms n m nc qn qv kk 0 ((jZ N js ms n m nc qn qv kk (0,0,z0n,zz0)).2.2.1) ((jZ N js ms n m nc qn qv kk (0,0,z0n,zz0)).2.2.2.1) ((jZ N js ms n m nc qn qv kk (0,0,z0n,zz0)).2.2.2.2) 0 z0 z0 z0)) then (bif (zHJ N js ms n m nc qn qv kk (0,((jZ N js ms n m nc qn qv kk (0,0,z0n,zz0)).2.2.1),((jZ N js ms n m nc qn qv kk (0,0,z0n,zz0)).2.2.2.1),((jZ N js ms n m nc qn qv kk (0,0,z0n,zz0)).2.2.2.2),0,z0,z0,z0)) then (bif (Nat.beq (qUC N js ms n m nc qn qv kk (0,((jZ N js ms n m nc qn qv kk (0,0,z0n,zz0)).2.2.1),((jZ N js ms n m nc qn qv kk (0,0,z0n,zz0)).2.2.2.1),((jZ N js ms n m nc qn qv kk (0,0,z0n,zz0)).2.2.2.2),0,z0,z0,z0)).1 0) then (bif (decide (8192 < ((qUC N js ms n m nc qn qv kk (0,((jZ N js ms n m nc qn qv kk (0,0,z0n,zz0)).2.2.1),((jZ N js ms n m nc qn qv kk (0,0,z0n,zz0)).2.2.2.1),((jZ N js ms n m nc qn qv kk (0,0,z0n,zz0)).2.2.2.2),0,z0,z0,z0)).2.2.2.2.2.1:Int))) then (bif (decide (8192≤(qUC N js ms n m nc qn qv kk (0,((jZ N js ms n m nc qn qv kk (0,0,z0n,zz0)).2.2.1),((jZ N js ms n m nc qn qv kk (0,0,z0n,zz0)).2.2.2.1),((jZ N js ms n m nc qn qv kk (0,0,z0n,zz0)).2.2.2.2),0,z0,z0,z0)).2.2.2.2.2.1)) then some (.oa [.lf (qUC N js ms n m nc qn qv kk (0,((jZ N js ms n m nc qn qv kk (0,0,z0n,zz0)).2.2.1),((jZ N js ms n m nc qn qv kk (0,0,z0n,zz0)).2.2.2.1),((jZ N js ms n m nc qn qv kk (0,0,z0n,zz0)).2.2.2.2),0,z0,z0,z0)).2.2.1 (fun v=>[.lf ((qUC N js ms n m nc qn qv kk (0,((jZ N js ms n m nc qn qv kk (0,0,z0n,zz0)).2.2.1),((jZ N js ms n m nc qn qv kk (0,0,z0n,zz0)).2.2.2.1),((jZ N js ms n m nc qn qv kk (0,0,z0n,zz0)).2.2.2.2),0,z0,z0,z0)).2.2.2.1 v) (fun w=>[.n .i64 ((qUC N js ms n m nc qn qv kk (0,((jZ N js ms n m nc qn qv kk (0,0,z0n,zz0)).2.2.1),((jZ N js ms n m nc qn qv kk (0,0,z0n,zz0)).2.2.2.1),((jZ N js ms n m nc qn qv kk (0,0,z0n,zz0)).2.2.2.2),0,z0,z0,z0)).2.2.2.2.1 v w)])])] 61 12 (.fo 8192 (fun v=>[.n .i64 ((qUC N js ms n m nc qn qv kk (0,((jZ N js ms n m nc qn qv kk (0,0,z0n,zz0)).2.2.1),((jZ N js ms n m nc qn qv kk (0,0,z0n,zz0)).2.2.2.1),((jZ N js ms n m nc qn qv kk (0,0,z0n,zz0)).2.2.2.2),0,z0,z0,z0)).2.2.2.2.2.2.1 v),.n .i64 ((qUC N js ms n m nc qn qv kk (0,((jZ N js ms n m nc qn qv kk (0,0,z0n,zz0)).2.2.1),((jZ N js ms n m nc qn qv kk (0,0,z0n,zz0)).2.2.2.1),((jZ N js ms n m nc qn qv kk (0,0,z0n,zz0)).2.2.2.2),0,z0,z0,z0)).2.2.2.2.2.2.2.1 v),.n .i64 ((qUC N js ms n m nc qn qv kk (0,((jZ N js ms n m nc qn qv kk (0,0,z0n,zz0)).2.2.1),((jZ N js ms n m nc qn qv kk (0,0,z0n,zz0)).2.2.2.1),((jZ N js ms n m nc qn qv kk (0,0,z0n,zz0)).2.2.2.2),0,z0,z0,z0)).2.2.2.2.2.2.2.2 v),.n .i64 0,.n .i64 0,.l [],.n .i64 0,.n .i64 0,.l [],.n .i64 0,.l [],.l []])),[])
 else none)
 else some (.oa [.lf (qUC N js ms n m nc qn qv kk (0,((jZ N js ms n m nc qn qv kk (0,0,z0n,zz0)).2.2.1),((jZ N js ms n m nc qn qv kk (0,0,z0n,zz0)).2.2.2.1),((jZ N js ms n m nc qn qv kk (0,0,z0n,zz0)).2.2.2.2),0,z0,z0,z0)).2.2.1 (fun v=>[.lf ((qUC N js ms n m nc qn qv kk (0,((jZ N js ms n m nc qn qv kk (0,0,z0n,zz0)).2.2.1),((jZ N js ms n m nc qn qv kk (0,0,z0n,zz0)).2.2.2.1),((jZ N js ms n m nc qn qv kk (0,0,z0n,zz0)).2.2.2.2),0,z0,z0,z0)).2.2.2.1 v) (fun w=>[.n .i64 ((qUC N js ms n m nc qn qv kk (0,((jZ N js ms n m nc qn qv kk (0,0,z0n,zz0)).2.2.1),((jZ N js ms n m nc qn qv kk (0,0,z0n,zz0)).2.2.2.1),((jZ N js ms n m nc qn qv kk (0,0,z0n,zz0)).2.2.2.2),0,z0,z0,z0)).2.2.2.2.1 v w)])])] 61 12 (.fo (qUC N js ms n m nc qn qv kk (0,((jZ N js ms n m nc qn qv kk (0,0,z0n,zz0)).2.2.1),((jZ N js ms n m nc qn qv kk (0,0,z0n,zz0)).2.2.2.1),((jZ N js ms n m nc qn qv kk (0,0,z0n,zz0)).2.2.2.2),0,z0,z0,z0)).2.2.2.2.2.1 (fun v=>[.n .i64 ((qUC N js ms n m nc qn qv kk (0,((jZ N js ms n m nc qn qv kk (0,0,z0n,zz0)).2.2.1),((jZ N js ms n m nc qn qv kk (0,0,z0n,zz0)).2.2.2.1),((jZ N js ms n m nc qn qv kk (0,0,z0n,zz0)).2.2.2.2),0,z0,z0,z0)).2.2.2.2.2.2.1 v),.n .i64 ((qUC N js ms n m nc qn qv kk (0,((jZ N js ms n m nc qn qv kk (0,0,z0n,zz0)).2.2.1),((jZ N js ms n m nc qn qv kk (0,0,z0n,zz0)).2.2.2.1),((jZ N js ms n m nc qn qv kk (0,0,z0n,zz0)).2.2.2.2),0,z0,z0,z0)).2.2.2.2.2.2.2.1 v),.n .i64 ((qUC N js ms n m nc qn qv kk (0,((jZ N js ms n m nc qn qv kk (0,0,z0n,zz0)).2.2.1),((jZ N js ms n m nc qn qv kk (0,0,z0n,zz0)).2.2.2.1),((jZ N js ms n m nc qn qv kk (0,0,z0n,zz0)).2.2.2.2),0,z0,z0,z0)).2.2.2.2.2.2.2.2 v),.n .i64 0,.n .i64 0,.l [],.n .i64 0,.n .i64 0,.l [],.n .i64 0,.l [],.l []])),[]))
 else none)
 else none)
 else none)
 else none)
 else none)
 else none))
 else none):=by kernel_rfl
theorem snd_nm0 (N:Nat) (js:Nat→J) (ms:Nat→Ms) (n m:Nat) (nc:Nat) (qn:Nat→Nat) (qv:Nat→Nat→Int) (kk:Int) (h0:rErr js ms n m=0) {tp te:Nat} {tn:Nat→Nat} {tv:Nat→Nat→Int} {eu ev ec:Nat→Int} (_:te≤8192) (h1:qG (dcn0 js ms n m nc qn qv kk) N (0,0,z0n,zz0)=some (0,(nc:Int),tp,tn,tv)) (h2:qG (dcn1 N js ms n m nc qn qv kk) N (0,tp,tn,tv,0,z0,z0,z0)=some (0,(tp:Int),tp,tn,tv,te,eu,ev,ec)):zY Tryz.prog 25 [.a [.lf n (fJ js),.lf m (fM ms)],.lf nc (fP qn qv),.n .i64 kk] (.oa [.lf tp (fP tn tv)] 61 12 (.fo te (fZ eu ev ec))):=by
 refine qH (N:=N) (LO:=qY (yYZ N js ms n m nc qn qv kk)) jY yH (jK (l:=[(28,o_cr [.a [.lf n (fJ js),.lf m (fM ms)]] (.v (.n .i64 (rErr js ms n m)))),(34,o_ir js ms n m),(53,o_po),(54,o_by js ms n m),(55,o_is js ms n m)]) (m:=[]) ⟨qWW (zWK js ms n m),ok_ir js ms n m,ok_po,ok_by js ms n m,ok_is js ms n m,trivial⟩ trivial) (fun p S hp => ?_) ?_
 ·refine qX (L:=qZ Tf 25) (l:=(yYZ N js ms n m nc qn qv kk)) (show AllP _ (yYZ N js ms n m nc qn qv kk) from ⟨?_,?_,trivial⟩) p S hp
  ·dsimp only;refine jQ (T:=Tf) (o:=(orn0 N js ms n m nc qn qv kk)) (f:=25) (LO:=qY []) (p:=[0,1,0,1,1,1]) jU ?_;intro t K r hr;obtain ⟨hg,hr⟩:=qQ hr
   skip
   exact (lwn0 K N js ms n m nc qn qv kk t hg).trans hr
  ·dsimp only;refine jQ (T:=Tf) (o:=(orn0 N js ms n m nc qn qv kk)) (f:=25) (LO:=(qY (lin2 N js ms n m nc qn qv kk))) (p:=[0,1,0,1,1,1,1]) (okn2 N js ms n m nc qn qv kk) ?_;intro t K r hr;obtain ⟨hg,hr⟩:=qQ hr
   skip
   exact (lwn1 K N js ms n m nc qn qv kk t hg).trans hr
 ·refine (pxnm0 N js ms n m nc qn qv kk).trans ?_;have o1:zHK N js ms n m nc qn qv kk (0,0,z0n,zz0)=true:=by unfold zHK; rw [h1]; rfl
  have o2:jZ N js ms n m nc qn qv kk (0,0,z0n,zz0)=(0,(nc:Int),tp,tn,tv):=by unfold jZ; rw [h1]; rfl
  have o3:zHJ N js ms n m nc qn qv kk (0,tp,tn,tv,0,z0,z0,z0)=true:=by unfold zHJ; rw [h2]; rfl
  have o4:qUC N js ms n m nc qn qv kk (0,tp,tn,tv,0,z0,z0,z0)=(0,(tp:Int),tp,tn,tv,te,eu,ev,ec):=by unfold qUC; rw [h2]; rfl
  simp only [g1_t,h0,zW,o1,o2,o3,o4,decide_true,Bool.not_true,Nat.beq_refl,vYZ,vYY,vYJ (show ¬ (8192:Int) < (te:Int) by omega)];rfl
theorem nm_ex (js:Nat→J) (ms:Nat→Ms) (n m:Nat) (nc:Nat) (qn:Nat→Nat) (qv:Nat→Nat→Int) (kk:Int) (h0:rErr js ms n m=0) (hc:nc≤50) (h1:0 < nc) (hq:∀ j,j < nc→qIn js ms (qv j) n m (qn j)=true):∃ (tp te:Nat) (tn:Nat→Nat) (tv:Nat→Nat→Int) (eu ev ec:Nat→Int),(0 < tp∧tp≤nc∧te≤50 * tp∧PT js ms n m tp tn tv∧SE tp (dE js ms n m tn tv) te eu ev ec)∧zY Tryz.prog 25 [.a [.lf n (fJ js),.lf m (fM ms)],.lf nc (fP qn qv),.n .i64 kk] (.oa [.lf tp (fP tn tv)] 61 12 (.fo te (fZ eu ev ec))):=by
 obtain ⟨tp,tn,tv,e1,e2,e3,e4⟩:=yJB (js:=js) (ms:=ms) (n:=n) (m:=m) (kk:=kk) hc hq nc 0 60 0 z0n zz0 (by omega) (by omega) (Nat.le_refl _) (fun h=>absurd h (Nat.lt_irrefl _)) ⟨fun j hj=>absurd hj (Nat.not_lt_zero j),fun j hj=>absurd hj (Nat.not_lt_zero j)⟩;obtain ⟨te,eu,ev,ec,g1,g2,g3⟩:=it_n1 (js:=js) (ms:=ms) (n:=n) (m:=m) (qn:=qn) (qv:=qv) (kk:=kk) (N:=60) (by omega) (show tp≤50 by omega) e4 tp 0 60 0 z0 z0 z0 (by omega) (by omega) (Nat.le_refl _) ⟨fun j hj=>absurd hj (Nat.not_lt_zero j),fun j hj=>absurd hj (Nat.not_lt_zero _)⟩;exact ⟨tp,te,tn,tv,eu,ev,ec,⟨e3 h1,e2,by omega,e4,g3⟩,snd_nm0 60 js ms n m nc qn qv kk h0 (by omega) e1 g1⟩
end Go.Proofs.YtklmegnpfhiibaaGreat.Xu

/- Part 16 of the texts behind the last one: rules and contracts. No condition. -/
import Derived.Test.YtgmbkkkbfbocnaaGreatGS15
open Bool renaming and_eq_true → vQJ, and_self → vZJ
open Go.IntKind renaming wrap → vJJ
namespace Go.Proofs.YtgmbkkkbfbocnaaGreat.Hk
open Go.Rx Rt Go.Sx Go.RowKit Od Na Nb Nc Nx Nf Nl Nm Ga Gb Gc Gd Ge Gf Gg Ha Hb Hc Hd He Hf Hg Hh Hi Hj
theorem jVX {n:Nat} {l:Int} (h : -1≤l∧l < (n:Int)):isLk n l=true:=by
 unfold isLk;rw [vJQ h.1,vJQ h.2]; rfl
theorem zZE {k:Int} {p:Z3} (h:zOk k p=true):(-k≤p.x∧p.x≤k)∧(-k≤p.y∧p.y≤k)∧(-k≤p.z∧p.z≤k):=by
 unfold zOk at h;simp only [vQJ,Bool.not_eq_true',decide_eq_false_iff_not] at h;omega
theorem zUL {k:Int} {p:Z3} (_:(-k≤p.x∧p.x≤k)∧(-k≤p.y∧p.y≤k)∧(-k≤p.z∧p.z≤k)):zOk k p=true:=by
 unfold zOk;rw [vYH (show ¬ p.x < -k by omega),vYH (show ¬ k < p.x by omega),vYH (show ¬ p.y < -k by omega),vYH (show ¬ k < p.y by omega),vYH (show ¬ p.z < -k by omega),vYH (show ¬ k < p.z by omega)]; rfl
theorem uHW {b:Z3} {n v:Nat} {p:Nat→Z3} (hv:v < n) (hp:zOk 2097152 (p v)=true) (hb:zOk 2097152 b=true):sft b n p v=⟨(p v).x + b.x,(p v).y + b.y,(p v).z + b.z⟩:=by
 have h1:=zZE hp;have h2:=zZE hb;unfold sft;rw [show Nat.blt v n=true from by rw [Nat.blt_eq]; exact hv,vYV,vYV,vYV,qV (by omega),qV (by omega),qV (by omega)]
theorem uYH {n:Nat} {l:Int} {b:Z3} {s:Shp} (hs:sOk s=true) (hb:zOk 2097152 b=true) (hl : -1≤l∧l < (n:Int)):shE n (lkS l (sftL b s))=0:=by
 obtain ⟨h1,h2,h3⟩:=zVX hs;unfold shOk at h1;rw [vQJ,Bool.not_eq_true'] at h1;have hp:zKQ (lkS l (sftL b s))=true:=allN_iff.2 fun v _ hv=>by
  have hv':v < s.np:=by
   have:v < 0 + s.np:=hv
   omega
  show zOk 4194304 (sft b s.np s.pts v)=true;rw [uHW hv' (h3 v hv') hb];have a1:=zZE (h3 v hv');have a2:=zZE hb;exact zUL (by dsimp only; omega)
 unfold shE;rw [hp];show (bif !isLk n l || (decide (s.rad < 1) || (decide (1048576 < s.rad) || (decide ((s.np:Int) < 1) || decide (8 < (s.np:Int))))) then (902:Int) else bif true then 0 else 805)=0;rw [h1.1,jVX hl]; rfl
theorem jHJ {n:Nat} {l:Int} {b:Z3} {shs:Nat→Shp} {m:Nat} (hs:∀ v,v < m→sOk (shs v)=true) (hb:zOk 2097152 b=true) (hl : -1≤l∧l < (n:Int)) {t:Nat × (Nat→Shp)} (ht:∀ v,v < t.1→shE n (t.2 v)=0):∀ v,v < (addN l (fun v=>(sftL b (shs v))) m t).1→shE n ((addN l (fun v=>(sftL b (shs v))) m t).2 v)=0 :=
 qQH (Q:=fun (j:Nat) (t:Nat × (Nat→Shp))=>∀ v,v < t.1→shE n (t.2 v)=0) (c:=m) (fun j t hj h v hv=>by
  have hv':v < t.1 + 1:=hv;show shE n (zJL t.2 t.1 (lkS l (sftL b (shs j))) v)=0;unfold zJL;rw [qVV];by_cases e:v=t.1
  ·rw [vJQ e]; exact uYH (hs j hj) hb hl
  ·rw [vYH e]; exact h v (by omega)) m 0 t (by omega) ht
theorem kYB {ws:Wsp} (h:wErr ws=0) {i:Nat} (_:i < ws.np):zOk 2097152 (ws.pl i)=true:=by
 have h2:=(qYI h).2.1;unfold fiB at h2;simp only [vQJ] at h2;exact allN_iff.1 h2.2.1 i (Nat.zero_le _) (by omega)
theorem xJV {ws:Wsp} (h:wErr ws=0) {i:Nat} (_:i < ws.nh):zOk 2097152 (ws.hd i).off=true:=by
 have h2:=(qYI h).2.1;unfold fiB at h2;simp only [vQJ] at h2;have h3:=allN_iff.1 h2.2.2.1 i (Nat.zero_le _) (by omega);unfold hdOk at h3;simp only [vQJ] at h3;exact h3.2.2
theorem xWI {ws:Wsp} {k:Nat} {q:Nat→Int} (ho:okW ws) (hv:vlB ws k q=true):(scR ws q).1=ws.c + sumN (fun j=>(ws.ob j).ns) ws.no∧(scR ws q).1≤24∧∀ v,v < (scR ws q).1→shE ws.n ((scR ws q).2 v)=0:=by
 obtain ⟨w0,hk,hq⟩:=zWE hv;have hnb:=yWJ (qYI w0).2.1;have hob:=jYQ w0 ho;have h:=qQH (Q:=fun (i:Nat) (t:Nat × (Nat→Shp))=>t.1=ws.c + sumN (fun j=>(ws.ob j).ns) i∧∀ v,v < t.1→shE ws.n (t.2 v)=0) (c:=ws.no) (nx:=scN ws q) (fun i t hi h=>⟨by
  rw [uYD,h.1];show _=ws.c + (sumN (fun j=>(ws.ob j).ns) i + (ws.ob i).ns)
  omega,by
  have h1:=(hob.2 i hi).2;have h2:=hq i (by omega);unfold scN;by_cases h0:0≤q i
  ·rw [vJQ h0,vYV];exact jHJ h1 (kYB w0 (by omega)) (by omega) h.2
  ·obtain ⟨e1,e2⟩:=uWZ h2.1 (show q i < 0 by omega) hnb.2.2.1;rw [vYH h0,vYG,e1];have hl:=uWY w0 (i:=(-1 - q i).toNat) (by omega);exact jHJ h1 (xJV w0 (by omega)) (by omega) h.2⟩) ws.no 0 (ws.c,ws.sh) (by omega) ⟨rfl,(qJB (qYI w0).1).2.2⟩
 refine ⟨h.1,?_,h.2⟩;show (qYA (scN ws q) ws.no 0 (ws.c,ws.sh)).1≤24;rw [h.1];exact hob.1
theorem yQQ (x:ByteArray):(x == x)=true:=by
 unfold BEq.beq;cases x with
 | mk d =>
 show (d == d)=true
 simp
noncomputable def orxj (q:Nat→J) (n:Nat):OrS:=orS [] []
noncomputable def hxj (q:Nat→J) (n:Nat) (i:Int):St:=⟨[(0,.v (.lf n (fJ q))),(1,.v (.lf n (fJ q))),(5,.v (.n .i64 i))],[]⟩
set_option maxRecDepth 100000 in
theorem rdxj (G:St→Option (Ret × Mem)) (K:Cont) (q:Nat→J) (n:Nat) (i:Int):jJ 100 (cxS Tf (orxj q n) 100 145 (ntmF Tf 145)) (evX Tf (orxj q n) 100 145 (ntmF Tf 145)) (qZ []) (qQ Tf 145 [0,1,0,1,1]) [0,1,0,1,1] (Tf.hint 145 (qJ (qQ Tf 145 [0,1,0,1,1]))) K G (hxj q n i) =
 (bif (decide (i < (n:Int))) then (bif (inB i n) then (bif (inB i n) then (bif (!(((q (i).toNat).name == (q (i).toNat).name) && ((decide ((q (i).toNat).kind=(q (i).toNat).kind)) && ((decide ((q (i).toNat).parent=(q (i).toNat).parent)) && ((decide ((q (i).toNat).off.x=(q (i).toNat).off.x)) && ((decide ((q (i).toNat).off.y=(q (i).toNat).off.y)) && ((decide ((q (i).toNat).off.z=(q (i).toNat).off.z)) && ((decide ((q (i).toNat).lo=(q (i).toNat).lo)) && ((decide ((q (i).toNat).hi=(q (i).toNat).hi)) && ((decide ((q (i).toNat).weight=(q (i).toNat).weight)) && ((decide ((q (i).toNat).speed=(q (i).toNat).speed)) && ((decide ((q (i).toNat).accel=(q (i).toNat).accel)) && ((decide ((q (i).toNat).torque=(q (i).toNat).torque)) && true))))))))))))) then (K .ret ⟨[(4,.v (.b false))],[]⟩)
 else (G (hxj q n (vJJ .i64 (i + 1)))))
 else none)
 else none)
 else (K (.exit 0) ⟨[],[]⟩)):=by kernel_rfl
theorem lpxj (K:Cont) (q:Nat→J) (n:Nat) (_:n≤50):LFX 100 (cxS Tf (orxj q n) 100 145 (ntmF Tf 145)) (evX Tf (orxj q n) 100 145 (ntmF Tf 145)) (qZ []) (qQ Tf 145 [0,1,0,1,1]) [0,1,0,1,1] (Tf.hint 145 (qJ (qQ Tf 145 [0,1,0,1,1]))) K 100 (hxj q n 0)=bif (allN (fun i:Nat=>true) n 0) then (K (.exit 0) ⟨[],[]⟩) else (K .ret ⟨[(4,.v (.b false))],[]⟩):=by
 refine (kW (L:=LFX 100 (cxS Tf (orxj q n) 100 145 (ntmF Tf 145)) (evX Tf (orxj q n) 100 145 (ntmF Tf 145)) (qZ []) (qQ Tf 145 [0,1,0,1,1]) [0,1,0,1,1] (Tf.hint 145 (qJ (qQ Tf 145 [0,1,0,1,1]))) K) (stp:=jJ 100 (cxS Tf (orxj q n) 100 145 (ntmF Tf 145)) (evX Tf (orxj q n) 100 145 (ntmF Tf 145)) (qZ []) (qQ Tf 145 [0,1,0,1,1]) [0,1,0,1,1] (Tf.hint 145 (qJ (qQ Tf 145 [0,1,0,1,1]))) K) (fun _ _=>rfl) (fun (i:Nat) (_:Unit)=>hxj q n (i:Int)) (fun _ _=>True) (fun (i:Nat) _=>true) (fun _ _=>()) (c:=n) (fun _=>(K (.exit 0) ⟨[],[]⟩)) (fun i _=>(K .ret ⟨[(4,.v (.b false))],[]⟩)) (fun G i f hi _ => ?_) (fun _ _ _ _ _=>trivial) (fun G f _ => ?_) n 0 100 () (by omega) (by omega) trivial).trans ((yH _ _ _ _ _).trans (yW _ _ _ _ _))
 ·refine (rdxj G K q n i).trans ?_;rw [vJQ (show (i:Int) < (n:Int) by omega),kY (by omega),yZ (show i < n by omega),toN];simp only [eq_self,decide_true,yQQ,beq_self_eq_true,vZJ,Bool.not_true,vYG,vYV]
  all_goals rfl
 ·refine (rdxj G K q n n).trans ?_;rw [vYH (show ¬ (n:Int) < (n:Int) by omega)];rfl
noncomputable def kUK (q:Nat→J) (n:Nat):List (List Nat × jG):=[([0,1,0,1,1],sumF (fun _:Unit=>(hxj q n 0)) (fun _=>()) (fun _ K=>(bif (decide (n≤50)) then (bif (allN (fun i:Nat=>true) n 0) then (K (.exit 0) ⟨[],[]⟩) else (K .ret ⟨[(4,.v (.b false))],[]⟩)) else none)))]
set_option maxRecDepth 100000 in
theorem xGQ (q:Nat→J) (n:Nat):uJ Tf (orxj q n) (qZ (kUK q n)) 100 145 [.lf n (fJ q),.lf n (fJ q)] =
 (bif (!decide ((n:Int)=(n:Int))) then some (.v (.b false),[])
 else (bif (gSt (hxj q n 0) (hxj q n 0)) then (bif (decide (n≤50)) then (bif (allN (fun i:Nat=>true) n 0) then some (.v (.b true),[])
 else some (.v (.b false),[]))
 else none)
 else none)):=by kernel_rfl
theorem uQB (q:Nat→J) (n:Nat) (hn:n≤50):yK Tryz.prog 145 [.lf n (fJ q),.lf n (fJ q)] (.v (.b true)):=by
 refine zZ (N:=100) (LO:=qZ (kUK q n)) jU zW (jW (l:=[]) (m:=[]) trivial trivial) (fun p S hp => ?_) ?_
 ·refine qH (L:=qQ Tf 145) (l:=(kUK q n)) (show AllP _ (kUK q n) from ⟨?_,trivial⟩) p S hp
  ·dsimp only;refine jY (T:=Tf) (o:=(orxj q n)) (f:=145) (LO:=qZ []) (p:=[0,1,0,1,1]) kK ?_;intro t K r hr;obtain ⟨hg,hr⟩:=qY hr;have hn:=vJZ hg;exact (lpxj K q n hn).trans hr
 ·refine (xGQ q n).trans ?_;rw [vJQ (show (n:Int)=(n:Int) from rfl),yU,vJQ hn,yJD];rfl
def cxj:Nat × (Nat→J)→Prop:=fun t=>match t with | (n,_)=>n≤50
def exj:Nat × (Nat→J)→List PV:=fun t=>match t with | (n,q)=>[.lf n (fJ q),.lf n (fJ q)]
noncomputable def rxj:Nat × (Nat→J)→Ret:=fun t=>match t with | (_,_)=>.v (.b true)
def dxj:List PV→Nat × (Nat→J):=fun ps=>match ps with
 | [.lf n f,_]=>(n,unFJ f)
 | _=>(0,fun _=>⟨ByteArray.empty,0,0,⟨0,0,0⟩,0,0,0,0,0,0⟩)
noncomputable def o_xj:List PV→Option (Bool × Ret):=o_fm dxj cxj exj rxj
theorem fQU:zY Tryz.prog 145 o_xj:=uK fun t h=>by
 obtain ⟨n,q⟩:=t;exact uQB q n h
noncomputable def orxm (q:Nat→Ms) (n:Nat):OrS:=orS [] []
noncomputable def hxm (q:Nat→Ms) (n:Nat) (i:Int):St:=⟨[(0,.v (.lf n (fM q))),(1,.v (.lf n (fM q))),(5,.v (.n .i64 i))],[]⟩
set_option maxRecDepth 100000 in
theorem rdxm (G:St→Option (Ret × Mem)) (K:Cont) (q:Nat→Ms) (n:Nat) (i:Int):jJ 100 (cxS Tf (orxm q n) 100 146 (ntmF Tf 146)) (evX Tf (orxm q n) 100 146 (ntmF Tf 146)) (qZ []) (qQ Tf 146 [0,1,0,1,1]) [0,1,0,1,1] (Tf.hint 146 (qJ (qQ Tf 146 [0,1,0,1,1]))) K G (hxm q n i) =
 (bif (decide (i < (n:Int))) then (bif (inB i n) then (bif (inB i n) then (bif (!((decide ((q (i).toNat).link=(q (i).toNat).link)) && ((decide ((q (i).toNat).mass=(q (i).toNat).mass)) && ((decide ((q (i).toNat).p.x=(q (i).toNat).p.x)) && ((decide ((q (i).toNat).p.y=(q (i).toNat).p.y)) && ((decide ((q (i).toNat).p.z=(q (i).toNat).p.z)) && true)))))) then (K .ret ⟨[(4,.v (.b false))],[]⟩)
 else (G (hxm q n (vJJ .i64 (i + 1)))))
 else none)
 else none)
 else (K (.exit 0) ⟨[],[]⟩)):=by kernel_rfl
theorem lpxm (K:Cont) (q:Nat→Ms) (n:Nat) (_:n≤50):LFX 100 (cxS Tf (orxm q n) 100 146 (ntmF Tf 146)) (evX Tf (orxm q n) 100 146 (ntmF Tf 146)) (qZ []) (qQ Tf 146 [0,1,0,1,1]) [0,1,0,1,1] (Tf.hint 146 (qJ (qQ Tf 146 [0,1,0,1,1]))) K 100 (hxm q n 0)=bif (allN (fun i:Nat=>true) n 0) then (K (.exit 0) ⟨[],[]⟩) else (K .ret ⟨[(4,.v (.b false))],[]⟩):=by
 refine (kW (L:=LFX 100 (cxS Tf (orxm q n) 100 146 (ntmF Tf 146)) (evX Tf (orxm q n) 100 146 (ntmF Tf 146)) (qZ []) (qQ Tf 146 [0,1,0,1,1]) [0,1,0,1,1] (Tf.hint 146 (qJ (qQ Tf 146 [0,1,0,1,1]))) K) (stp:=jJ 100 (cxS Tf (orxm q n) 100 146 (ntmF Tf 146)) (evX Tf (orxm q n) 100 146 (ntmF Tf 146)) (qZ []) (qQ Tf 146 [0,1,0,1,1]) [0,1,0,1,1] (Tf.hint 146 (qJ (qQ Tf 146 [0,1,0,1,1]))) K) (fun _ _=>rfl) (fun (i:Nat) (_:Unit)=>hxm q n (i:Int)) (fun _ _=>True) (fun (i:Nat) _=>true) (fun _ _=>()) (c:=n) (fun _=>(K (.exit 0) ⟨[],[]⟩)) (fun i _=>(K .ret ⟨[(4,.v (.b false))],[]⟩)) (fun G i f hi _ => ?_) (fun _ _ _ _ _=>trivial) (fun G f _ => ?_) n 0 100 () (by omega) (by omega) trivial).trans ((yH _ _ _ _ _).trans (yW _ _ _ _ _))
 ·refine (rdxm G K q n i).trans ?_;rw [vJQ (show (i:Int) < (n:Int) by omega),kY (by omega),yZ (show i < n by omega),toN];simp only [eq_self,decide_true,yQQ,beq_self_eq_true,vZJ,Bool.not_true,vYG,vYV]
  all_goals rfl
 ·refine (rdxm G K q n n).trans ?_;rw [vYH (show ¬ (n:Int) < (n:Int) by omega)];rfl
noncomputable def kUY (q:Nat→Ms) (n:Nat):List (List Nat × jG):=[([0,1,0,1,1],sumF (fun _:Unit=>(hxm q n 0)) (fun _=>()) (fun _ K=>(bif (decide (n≤50)) then (bif (allN (fun i:Nat=>true) n 0) then (K (.exit 0) ⟨[],[]⟩) else (K .ret ⟨[(4,.v (.b false))],[]⟩)) else none)))]
set_option maxRecDepth 100000 in
theorem xVI (q:Nat→Ms) (n:Nat):uJ Tf (orxm q n) (qZ (kUY q n)) 100 146 [.lf n (fM q),.lf n (fM q)] =
 (bif (!decide ((n:Int)=(n:Int))) then some (.v (.b false),[])
 else (bif (gSt (hxm q n 0) (hxm q n 0)) then (bif (decide (n≤50)) then (bif (allN (fun i:Nat=>true) n 0) then some (.v (.b true),[])
 else some (.v (.b false),[]))
 else none)
 else none)):=by kernel_rfl
theorem uQH (q:Nat→Ms) (n:Nat) (hn:n≤50):yK Tryz.prog 146 [.lf n (fM q),.lf n (fM q)] (.v (.b true)):=by
 refine zZ (N:=100) (LO:=qZ (kUY q n)) jU zW (jW (l:=[]) (m:=[]) trivial trivial) (fun p S hp => ?_) ?_
 ·refine qH (L:=qQ Tf 146) (l:=(kUY q n)) (show AllP _ (kUY q n) from ⟨?_,trivial⟩) p S hp
  ·dsimp only;refine jY (T:=Tf) (o:=(orxm q n)) (f:=146) (LO:=qZ []) (p:=[0,1,0,1,1]) kK ?_;intro t K r hr;obtain ⟨hg,hr⟩:=qY hr;have hn:=vJZ hg;exact (lpxm K q n hn).trans hr
 ·refine (xVI q n).trans ?_;rw [vJQ (show (n:Int)=(n:Int) from rfl),yU,vJQ hn,yJD];rfl
def cxm:Nat × (Nat→Ms)→Prop:=fun t=>match t with | (n,_)=>n≤50
def exm:Nat × (Nat→Ms)→List PV:=fun t=>match t with | (n,q)=>[.lf n (fM q),.lf n (fM q)]
noncomputable def rxm:Nat × (Nat→Ms)→Ret:=fun t=>match t with | (_,_)=>.v (.b true)
def dxm:List PV→Nat × (Nat→Ms):=fun ps=>match ps with
 | [.lf n f,_]=>(n,unFM f)
 | _=>(0,fun _=>⟨0,0,⟨0,0,0⟩⟩)
noncomputable def o_xm:List PV→Option (Bool × Ret):=o_fm dxm cxm exm rxm
theorem fQJ:zY Tryz.prog 146 o_xm:=uK fun t h=>by
 obtain ⟨n,q⟩:=t;exact uQH q n h
noncomputable def orxk (q:Nat→Skp) (n:Nat):OrS:=orS [] []
noncomputable def hxk (q:Nat→Skp) (n:Nat) (i:Int):St:=⟨[(0,.v (.lf n (fK q))),(1,.v (.lf n (fK q))),(5,.v (.n .i64 i))],[]⟩
set_option maxRecDepth 100000 in
theorem rdxk (G:St→Option (Ret × Mem)) (K:Cont) (q:Nat→Skp) (n:Nat) (i:Int):jJ 100 (cxS Tf (orxk q n) 100 110 (ntmF Tf 110)) (evX Tf (orxk q n) 100 110 (ntmF Tf 110)) (qZ []) (qQ Tf 110 [0,1,0,1,1]) [0,1,0,1,1] (Tf.hint 110 (qJ (qQ Tf 110 [0,1,0,1,1]))) K G (hxk q n i) =
 (bif (decide (i < (n:Int))) then (bif (inB i n) then (bif (inB i n) then (bif (!((decide ((q (i).toNat).a=(q (i).toNat).a)) && ((decide ((q (i).toNat).b=(q (i).toNat).b)) && true))) then (K .ret ⟨[(4,.v (.b false))],[]⟩)
 else (G (hxk q n (vJJ .i64 (i + 1)))))
 else none)
 else none)
 else (K (.exit 0) ⟨[],[]⟩)):=by kernel_rfl
theorem lpxk (K:Cont) (q:Nat→Skp) (n:Nat) (_:n≤70):LFX 100 (cxS Tf (orxk q n) 100 110 (ntmF Tf 110)) (evX Tf (orxk q n) 100 110 (ntmF Tf 110)) (qZ []) (qQ Tf 110 [0,1,0,1,1]) [0,1,0,1,1] (Tf.hint 110 (qJ (qQ Tf 110 [0,1,0,1,1]))) K 100 (hxk q n 0)=bif (allN (fun i:Nat=>true) n 0) then (K (.exit 0) ⟨[],[]⟩) else (K .ret ⟨[(4,.v (.b false))],[]⟩):=by
 refine (kW (L:=LFX 100 (cxS Tf (orxk q n) 100 110 (ntmF Tf 110)) (evX Tf (orxk q n) 100 110 (ntmF Tf 110)) (qZ []) (qQ Tf 110 [0,1,0,1,1]) [0,1,0,1,1] (Tf.hint 110 (qJ (qQ Tf 110 [0,1,0,1,1]))) K) (stp:=jJ 100 (cxS Tf (orxk q n) 100 110 (ntmF Tf 110)) (evX Tf (orxk q n) 100 110 (ntmF Tf 110)) (qZ []) (qQ Tf 110 [0,1,0,1,1]) [0,1,0,1,1] (Tf.hint 110 (qJ (qQ Tf 110 [0,1,0,1,1]))) K) (fun _ _=>rfl) (fun (i:Nat) (_:Unit)=>hxk q n (i:Int)) (fun _ _=>True) (fun (i:Nat) _=>true) (fun _ _=>()) (c:=n) (fun _=>(K (.exit 0) ⟨[],[]⟩)) (fun i _=>(K .ret ⟨[(4,.v (.b false))],[]⟩)) (fun G i f hi _ => ?_) (fun _ _ _ _ _=>trivial) (fun G f _ => ?_) n 0 100 () (by omega) (by omega) trivial).trans ((yH _ _ _ _ _).trans (yW _ _ _ _ _))
 ·refine (rdxk G K q n i).trans ?_;rw [vJQ (show (i:Int) < (n:Int) by omega),kY (by omega),yZ (show i < n by omega),toN];simp only [eq_self,decide_true,yQQ,beq_self_eq_true,vZJ,Bool.not_true,vYG,vYV]
  all_goals rfl
 ·refine (rdxk G K q n n).trans ?_;rw [vYH (show ¬ (n:Int) < (n:Int) by omega)];rfl
noncomputable def kUJ (q:Nat→Skp) (n:Nat):List (List Nat × jG):=[([0,1,0,1,1],sumF (fun _:Unit=>(hxk q n 0)) (fun _=>()) (fun _ K=>(bif (decide (n≤70)) then (bif (allN (fun i:Nat=>true) n 0) then (K (.exit 0) ⟨[],[]⟩) else (K .ret ⟨[(4,.v (.b false))],[]⟩)) else none)))]
set_option maxRecDepth 100000 in
theorem xVL (q:Nat→Skp) (n:Nat):uJ Tf (orxk q n) (qZ (kUJ q n)) 100 110 [.lf n (fK q),.lf n (fK q)] =
 (bif (!decide ((n:Int)=(n:Int))) then some (.v (.b false),[])
 else (bif (gSt (hxk q n 0) (hxk q n 0)) then (bif (decide (n≤70)) then (bif (allN (fun i:Nat=>true) n 0) then some (.v (.b true),[])
 else some (.v (.b false),[]))
 else none)
 else none)):=by kernel_rfl
theorem uQA (q:Nat→Skp) (n:Nat) (hn:n≤70):yK Tryz.prog 110 [.lf n (fK q),.lf n (fK q)] (.v (.b true)):=by
 refine zZ (N:=100) (LO:=qZ (kUJ q n)) jU zW (jW (l:=[]) (m:=[]) trivial trivial) (fun p S hp => ?_) ?_
 ·refine qH (L:=qQ Tf 110) (l:=(kUJ q n)) (show AllP _ (kUJ q n) from ⟨?_,trivial⟩) p S hp
  ·dsimp only;refine jY (T:=Tf) (o:=(orxk q n)) (f:=110) (LO:=qZ []) (p:=[0,1,0,1,1]) kK ?_;intro t K r hr;obtain ⟨hg,hr⟩:=qY hr;have hn:=vJZ hg;exact (lpxk K q n hn).trans hr
 ·refine (xVL q n).trans ?_;rw [vJQ (show (n:Int)=(n:Int) from rfl),yU,vJQ hn,yJD];rfl
def cxk:Nat × (Nat→Skp)→Prop:=fun t=>match t with | (n,_)=>n≤70
def exk:Nat × (Nat→Skp)→List PV:=fun t=>match t with | (n,q)=>[.lf n (fK q),.lf n (fK q)]
noncomputable def rxk:Nat × (Nat→Skp)→Ret:=fun t=>match t with | (_,_)=>.v (.b true)
def dxk:List PV→Nat × (Nat→Skp):=fun ps=>match ps with
 | [.lf n f,_]=>(n,unFK f)
 | _=>(0,fun _=>⟨0,0⟩)
noncomputable def o_xk:List PV→Option (Bool × Ret):=o_fm dxk cxk exk rxk
theorem fQK:zY Tryz.prog 110 o_xk:=uK fun t h=>by
 obtain ⟨n,q⟩:=t;exact uQA q n h
noncomputable def orxv (q:Nat→Z3) (n:Nat):OrS:=orS [] []
noncomputable def hxv (q:Nat→Z3) (n:Nat) (i:Int):St:=⟨[(0,.v (.lf n (fZ q))),(1,.v (.lf n (fZ q))),(5,.v (.n .i64 i))],[]⟩
set_option maxRecDepth 100000 in
theorem rdxv (G:St→Option (Ret × Mem)) (K:Cont) (q:Nat→Z3) (n:Nat) (i:Int):jJ 100 (cxS Tf (orxv q n) 100 111 (ntmF Tf 111)) (evX Tf (orxv q n) 100 111 (ntmF Tf 111)) (qZ []) (qQ Tf 111 [0,1,0,1,1]) [0,1,0,1,1] (Tf.hint 111 (qJ (qQ Tf 111 [0,1,0,1,1]))) K G (hxv q n i) =
 (bif (decide (i < (n:Int))) then (bif (inB i n) then (bif (inB i n) then (bif (!((decide ((q (i).toNat).x=(q (i).toNat).x)) && ((decide ((q (i).toNat).y=(q (i).toNat).y)) && ((decide ((q (i).toNat).z=(q (i).toNat).z)) && true)))) then (K .ret ⟨[(4,.v (.b false))],[]⟩)
 else (G (hxv q n (vJJ .i64 (i + 1)))))
 else none)
 else none)
 else (K (.exit 0) ⟨[],[]⟩)):=by kernel_rfl
theorem lpxv (K:Cont) (q:Nat→Z3) (n:Nat) (_:n≤50):LFX 100 (cxS Tf (orxv q n) 100 111 (ntmF Tf 111)) (evX Tf (orxv q n) 100 111 (ntmF Tf 111)) (qZ []) (qQ Tf 111 [0,1,0,1,1]) [0,1,0,1,1] (Tf.hint 111 (qJ (qQ Tf 111 [0,1,0,1,1]))) K 100 (hxv q n 0)=bif (allN (fun i:Nat=>true) n 0) then (K (.exit 0) ⟨[],[]⟩) else (K .ret ⟨[(4,.v (.b false))],[]⟩):=by
 refine (kW (L:=LFX 100 (cxS Tf (orxv q n) 100 111 (ntmF Tf 111)) (evX Tf (orxv q n) 100 111 (ntmF Tf 111)) (qZ []) (qQ Tf 111 [0,1,0,1,1]) [0,1,0,1,1] (Tf.hint 111 (qJ (qQ Tf 111 [0,1,0,1,1]))) K) (stp:=jJ 100 (cxS Tf (orxv q n) 100 111 (ntmF Tf 111)) (evX Tf (orxv q n) 100 111 (ntmF Tf 111)) (qZ []) (qQ Tf 111 [0,1,0,1,1]) [0,1,0,1,1] (Tf.hint 111 (qJ (qQ Tf 111 [0,1,0,1,1]))) K) (fun _ _=>rfl) (fun (i:Nat) (_:Unit)=>hxv q n (i:Int)) (fun _ _=>True) (fun (i:Nat) _=>true) (fun _ _=>()) (c:=n) (fun _=>(K (.exit 0) ⟨[],[]⟩)) (fun i _=>(K .ret ⟨[(4,.v (.b false))],[]⟩)) (fun G i f hi _ => ?_) (fun _ _ _ _ _=>trivial) (fun G f _ => ?_) n 0 100 () (by omega) (by omega) trivial).trans ((yH _ _ _ _ _).trans (yW _ _ _ _ _))
 ·refine (rdxv G K q n i).trans ?_;rw [vJQ (show (i:Int) < (n:Int) by omega),kY (by omega),yZ (show i < n by omega),toN];simp only [eq_self,decide_true,yQQ,beq_self_eq_true,vZJ,Bool.not_true,vYG,vYV]
  all_goals rfl
 ·refine (rdxv G K q n n).trans ?_;rw [vYH (show ¬ (n:Int) < (n:Int) by omega)];rfl
noncomputable def kUZ (q:Nat→Z3) (n:Nat):List (List Nat × jG):=[([0,1,0,1,1],sumF (fun _:Unit=>(hxv q n 0)) (fun _=>()) (fun _ K=>(bif (decide (n≤50)) then (bif (allN (fun i:Nat=>true) n 0) then (K (.exit 0) ⟨[],[]⟩) else (K .ret ⟨[(4,.v (.b false))],[]⟩)) else none)))]
set_option maxRecDepth 100000 in
theorem xVF (q:Nat→Z3) (n:Nat):uJ Tf (orxv q n) (qZ (kUZ q n)) 100 111 [.lf n (fZ q),.lf n (fZ q)] =
 (bif (!decide ((n:Int)=(n:Int))) then some (.v (.b false),[])
 else (bif (gSt (hxv q n 0) (hxv q n 0)) then (bif (decide (n≤50)) then (bif (allN (fun i:Nat=>true) n 0) then some (.v (.b true),[])
 else some (.v (.b false),[]))
 else none)
 else none)):=by kernel_rfl
theorem uQG (q:Nat→Z3) (n:Nat) (hn:n≤50):yK Tryz.prog 111 [.lf n (fZ q),.lf n (fZ q)] (.v (.b true)):=by
 refine zZ (N:=100) (LO:=qZ (kUZ q n)) jU zW (jW (l:=[]) (m:=[]) trivial trivial) (fun p S hp => ?_) ?_
 ·refine qH (L:=qQ Tf 111) (l:=(kUZ q n)) (show AllP _ (kUZ q n) from ⟨?_,trivial⟩) p S hp
  ·dsimp only;refine jY (T:=Tf) (o:=(orxv q n)) (f:=111) (LO:=qZ []) (p:=[0,1,0,1,1]) kK ?_;intro t K r hr;obtain ⟨hg,hr⟩:=qY hr;have hn:=vJZ hg;exact (lpxv K q n hn).trans hr
 ·refine (xVF q n).trans ?_;rw [vJQ (show (n:Int)=(n:Int) from rfl),yU,vJQ hn,yJD];rfl
def cxv:Nat × (Nat→Z3)→Prop:=fun t=>match t with | (n,_)=>n≤50
def exv:Nat × (Nat→Z3)→List PV:=fun t=>match t with | (n,q)=>[.lf n (fZ q),.lf n (fZ q)]
noncomputable def rxv:Nat × (Nat→Z3)→Ret:=fun t=>match t with | (_,_)=>.v (.b true)
def dxv:List PV→Nat × (Nat→Z3):=fun ps=>match ps with
 | [.lf n f,_]=>(n,unFZ f)
 | _=>(0,fun _=>⟨0,0,0⟩)
noncomputable def o_xv:List PV→Option (Bool × Ret):=o_fm dxv cxv exv rxv
theorem fQY:zY Tryz.prog 111 o_xv:=uK fun t h=>by
 obtain ⟨n,q⟩:=t;exact uQG q n h
noncomputable def xHH (_:Nat→J) (_:Nat→Ms) (n m:Nat):OrS:=orS [(145,o_xj),(146,o_xm)] []
noncomputable def kUV (_:Nat→J) (_:Nat→Ms) (n m:Nat):List (List Nat × jG):=[]
set_option maxRecDepth 100000 in
theorem xGK (js:Nat→J) (ms:Nat→Ms) (n m:Nat):uJ Tf (xHH js ms n m) (qZ (kUV js ms n m)) 60 109 [.a [.lf n (fJ js),.lf m (fM ms)],.a [.lf n (fJ js),.lf m (fM ms)]] =
 (bif (gF1 cxj exj (n,js)) then (bif (gF1 cxm exm (m,ms)) then some (.v (.b true),[])
 else none)
 else none):=by kernel_rfl
theorem uQF (js:Nat→J) (ms:Nat→Ms) (n m:Nat) (hn:n≤50) (hm:m≤50):yK Tryz.prog 109 [.a [.lf n (fJ js),.lf m (fM ms)],.a [.lf n (fJ js),.lf m (fM ms)]] (.v (.b true)):=by
 refine zZ (N:=60) (LO:=qZ (kUV js ms n m)) jU zW (jW (l:=[(145,o_xj),(146,o_xm)]) (m:=[]) ⟨fQU,fQJ,trivial⟩ trivial) (fun p S hp => ?_) ?_
 ·refine qH (L:=qQ Tf 109) (l:=(kUV js ms n m)) (show AllP _ (kUV js ms n m) from trivial) p S hp
 ·refine (xGK js ms n m).trans ?_;rw [jQ (C:=cxj) (t:=(n,js)) hn,jQ (C:=cxm) (t:=(m,ms)) hm];rfl
def csr:(Nat→J) × (Nat→Ms) × Nat × Nat→Prop:=fun t=>match t with | (_,_,n,m)=>n≤50∧m≤50
def esr:(Nat→J) × (Nat→Ms) × Nat × Nat→List PV:=fun t=>match t with | (js,ms,n,m)=>[.a [.lf n (fJ js),.lf m (fM ms)],.a [.lf n (fJ js),.lf m (fM ms)]]
noncomputable def rsr:(Nat→J) × (Nat→Ms) × Nat × Nat→Ret:=fun t=>match t with | (_,_,_,_)=>.v (.b true)
def dsr:List PV→(Nat→J) × (Nat→Ms) × Nat × Nat:=fun ps=>match ps with
 | [.a [.lf n js,.lf m ms],_]=>(unFJ js,unFM ms,n,m)
 | _=>(fun _=>⟨ByteArray.empty,0,0,⟨0,0,0⟩,0,0,0,0,0,0⟩,fun _=>⟨0,0,⟨0,0,0⟩⟩,0,0)
noncomputable def o_sr:List PV→Option (Bool × Ret):=o_fm dsr csr esr rsr
theorem fQW:zY Tryz.prog 109 o_sr:=uK fun t h=>by
 obtain ⟨js,ms,n,m⟩:=t;exact uQF js ms n m h.1 h.2
noncomputable def orEa (_:Nat→J) (_:Nat→Ms) (_:Nat→Shp) (_:Nat→Skp) (n m c d:Nat):OrS:=orS [(109,o_sr),(110,o_xk),(111,o_xv)] []
noncomputable def hEa (js:Nat→J) (ms:Nat→Ms) (sh:Nat→Shp) (sk:Nat→Skp) (n m c d:Nat) (i:Int):St:=⟨[(2,.p 2 0),(3,.p 3 0),(5,.v (.n .i64 i))],[(2,.blk [.v (.lf n (fJ js)),.v (.lf m (fM ms)),.v (.lf c (fS sh)),.v (.lf d (fK sk))]),(3,.blk [.v (.lf n (fJ js)),.v (.lf m (fM ms)),.v (.lf c (fS sh)),.v (.lf d (fK sk))])]⟩
set_option maxRecDepth 100000 in
theorem rdEa (G:St→Option (Ret × Mem)) (K:Cont) (js:Nat→J) (ms:Nat→Ms) (sh:Nat→Shp) (sk:Nat→Skp) (n m c d:Nat) (i:Int):jJ 60 (cxS Tf (orEa js ms sh sk n m c d) 60 61 (ntmF Tf 61)) (evX Tf (orEa js ms sh sk n m c d) 60 61 (ntmF Tf 61)) (qZ []) (qQ Tf 61 [0,1,0,1,1]) [0,1,0,1,1] (Tf.hint 61 (qJ (qQ Tf 61 [0,1,0,1,1]))) K G (hEa js ms sh sk n m c d i) =
 (bif (decide (i < (c:Int))) then (bif (inB i c) then (bif (inB i c) then (bif (!decide ((sh (i).toNat).link=(sh (i).toNat).link)) then (K .ret ⟨[(4,.v (.b false))],[]⟩)
 else (bif (!decide ((sh (i).toNat).rad=(sh (i).toNat).rad)) then (K .ret ⟨[(4,.v (.b false))],[]⟩)
 else (bif (gF1 cxv exv (((sh (i).toNat).np),((sh (i).toNat).pts))) then (G (hEa js ms sh sk n m c d (vJJ .i64 (i + 1))))
 else none)))
 else none)
 else none)
 else (K (.exit 0) ⟨[],[]⟩)):=by kernel_rfl
theorem lpEa (K:Cont) (js:Nat→J) (ms:Nat→Ms) (sh:Nat→Shp) (sk:Nat→Skp) (n m c d:Nat) (_:c≤50) (hg:∀ i,i < c→(sh i).np≤50):LFX 60 (cxS Tf (orEa js ms sh sk n m c d) 60 61 (ntmF Tf 61)) (evX Tf (orEa js ms sh sk n m c d) 60 61 (ntmF Tf 61)) (qZ []) (qQ Tf 61 [0,1,0,1,1]) [0,1,0,1,1] (Tf.hint 61 (qJ (qQ Tf 61 [0,1,0,1,1]))) K 60 (hEa js ms sh sk n m c d 0)=bif (allN (fun i:Nat=>true) c 0) then (K (.exit 0) ⟨[],[]⟩) else (K .ret ⟨[(4,.v (.b false))],[]⟩):=by
 refine (kW (L:=LFX 60 (cxS Tf (orEa js ms sh sk n m c d) 60 61 (ntmF Tf 61)) (evX Tf (orEa js ms sh sk n m c d) 60 61 (ntmF Tf 61)) (qZ []) (qQ Tf 61 [0,1,0,1,1]) [0,1,0,1,1] (Tf.hint 61 (qJ (qQ Tf 61 [0,1,0,1,1]))) K) (stp:=jJ 60 (cxS Tf (orEa js ms sh sk n m c d) 60 61 (ntmF Tf 61)) (evX Tf (orEa js ms sh sk n m c d) 60 61 (ntmF Tf 61)) (qZ []) (qQ Tf 61 [0,1,0,1,1]) [0,1,0,1,1] (Tf.hint 61 (qJ (qQ Tf 61 [0,1,0,1,1]))) K) (fun _ _=>rfl) (fun (i:Nat) (_:Unit)=>hEa js ms sh sk n m c d (i:Int)) (fun _ _=>True) (fun (i:Nat) _=>true) (fun _ _=>()) (c:=c) (fun _=>(K (.exit 0) ⟨[],[]⟩)) (fun i _=>(K .ret ⟨[(4,.v (.b false))],[]⟩)) (fun G i f hi _ => ?_) (fun _ _ _ _ _=>trivial) (fun G f _ => ?_) c 0 60 () (by omega) (by omega) trivial).trans ((yH _ _ _ _ _).trans (yW _ _ _ _ _))
 ·refine (rdEa G K js ms sh sk n m c d i).trans ?_;rw [vJQ (show (i:Int) < (c:Int) by omega),kY (by omega),yZ (show i < c by omega),toN,jQ (C:=cxv) (t:=((sh i).np,(sh i).pts)) (hg i hi)];simp only [eq_self,decide_true,Bool.not_true,vYV,vYG]
  all_goals rfl
 ·refine (rdEa G K js ms sh sk n m c d c).trans ?_;rw [vYH (show ¬ (c:Int) < (c:Int) by omega)];rfl
noncomputable def kUW (js:Nat→J) (ms:Nat→Ms) (sh:Nat→Shp) (sk:Nat→Skp) (n m c d:Nat):List (List Nat × jG):=[([0,1,0,1,1],sumF (fun _:Unit=>(hEa js ms sh sk n m c d 0)) (fun _=>()) (fun _ K=>(bif gP (c≤50∧∀ i,i < c→(sh i).np≤50) then (bif (allN (fun i:Nat=>true) c 0) then (K (.exit 0) ⟨[],[]⟩) else (K .ret ⟨[(4,.v (.b false))],[]⟩)) else none)))]
set_option maxRecDepth 100000 in
theorem xGJ (js:Nat→J) (ms:Nat→Ms) (sh:Nat→Shp) (sk:Nat→Skp) (n m c d:Nat):uJ Tf (orEa js ms sh sk n m c d) (qZ (kUW js ms sh sk n m c d)) 60 61 [.a [.lf n (fJ js),.lf m (fM ms),.lf c (fS sh),.lf d (fK sk)],.a [.lf n (fJ js),.lf m (fM ms),.lf c (fS sh),.lf d (fK sk)]] =
 (bif (gF1 csr esr (js,ms,n,m)) then (bif (gF1 cxk exk (d,sk)) then (bif (!decide ((c:Int)=(c:Int))) then some (.v (.b false),[])
 else (bif (gSt (hEa js ms sh sk n m c d 0) (hEa js ms sh sk n m c d 0)) then (bif gP (c≤50∧∀ i,i < c→(sh i).np≤50) then (bif (allN (fun i:Nat=>true) c 0) then some (.v (.b true),[])
 else some (.v (.b false),[]))
 else none)
 else none))
 else none)
 else none):=by kernel_rfl
theorem uQE (js:Nat→J) (ms:Nat→Ms) (sh:Nat→Shp) (sk:Nat→Skp) (n m c d:Nat) (hn:n≤50) (hm:m≤50) (hc:c≤50) (hd:d≤70) (hg:∀ i,i < c→(sh i).np≤50):yK Tryz.prog 61 [.a [.lf n (fJ js),.lf m (fM ms),.lf c (fS sh),.lf d (fK sk)],.a [.lf n (fJ js),.lf m (fM ms),.lf c (fS sh),.lf d (fK sk)]] (.v (.b true)):=by
 refine zZ (N:=60) (LO:=qZ (kUW js ms sh sk n m c d)) jU zW (jW (l:=[(109,o_sr),(110,o_xk),(111,o_xv)]) (m:=[]) ⟨fQW,fQK,fQY,trivial⟩ trivial) (fun p S hp => ?_) ?_
 ·refine qH (L:=qQ Tf 61) (l:=(kUW js ms sh sk n m c d)) (show AllP _ (kUW js ms sh sk n m c d) from ⟨?_,trivial⟩) p S hp
  ·dsimp only;refine jY (T:=Tf) (o:=(orEa js ms sh sk n m c d)) (f:=61) (LO:=qZ []) (p:=[0,1,0,1,1]) kK ?_;intro t K r hr;obtain ⟨hg,hr⟩:=qY hr
   skip
   exact (lpEa K js ms sh sk n m c d (jK hg).1 (jK hg).2).trans hr
 ·refine (xGJ js ms sh sk n m c d).trans ?_;rw [jQ (C:=csr) (t:=(js,ms,n,m)) ⟨hn,hm⟩,jQ (C:=cxk) (t:=(d,sk)) hd,vJQ (show (c:Int)=(c:Int) from rfl),yU,qUJ (show c≤50∧∀ i,i < c→(sh i).np≤50 from ⟨hc,hg⟩),yJD];rfl
def css:(Nat→J) × (Nat→Ms) × (Nat→Shp) × (Nat→Skp) × Nat × Nat × Nat × Nat→Prop:=fun t=>match t with | (_,_,sh,_,n,m,c,d)=>(n≤50∧m≤50)∧(c≤50∧d≤70)∧∀ i,i < c→(sh i).np≤50
def ess:(Nat→J) × (Nat→Ms) × (Nat→Shp) × (Nat→Skp) × Nat × Nat × Nat × Nat→List PV:=fun t=>match t with | (js,ms,sh,sk,n,m,c,d)=>[.a [.lf n (fJ js),.lf m (fM ms),.lf c (fS sh),.lf d (fK sk)],.a [.lf n (fJ js),.lf m (fM ms),.lf c (fS sh),.lf d (fK sk)]]
noncomputable def rss:(Nat→J) × (Nat→Ms) × (Nat→Shp) × (Nat→Skp) × Nat × Nat × Nat × Nat→Ret:=fun t=>match t with | (_,_,_,_,_,_,_,_)=>.v (.b true)
def dss:List PV→(Nat→J) × (Nat→Ms) × (Nat→Shp) × (Nat→Skp) × Nat × Nat × Nat × Nat:=fun ps=>match ps with
 | [.a [.lf n js,.lf m ms,.lf c sh,.lf d sk],_]=>(unFJ js,unFM ms,unFS sh,unFK sk,n,m,c,d)
 | _=>(fun _=>⟨ByteArray.empty,0,0,⟨0,0,0⟩,0,0,0,0,0,0⟩,fun _=>⟨0,0,⟨0,0,0⟩⟩,fun _=>⟨0,0,0,fun _=>⟨0,0,0⟩⟩,fun _=>⟨0,0⟩,0,0,0,0)
noncomputable def o_ss:List PV→Option (Bool × Ret):=o_fm dss css ess rss
theorem fQX:zY Tryz.prog 61 o_ss:=uK fun t h=>by
 obtain ⟨js,ms,sh,sk,n,m,c,d⟩:=t;exact uQE js ms sh sk n m c d h.1.1 h.1.2 h.2.1.1 h.2.1.2 h.2.2
def csc:Wsp × Nat × (Nat→Int)→Prop:=fun t=>match t with | (ws,_,_)=>okW ws
def esc:Wsp × Nat × (Nat→Int)→List PV:=fun t=>match t with | (ws,k,q)=>[.a (wP ws),.a [.lf k (fQ q)]]
noncomputable def rsc:Wsp × Nat × (Nat→Int)→Ret:=fun t=>match t with | (ws,k,q)=>.v (.t [.a [.lf (bif vlB ws k q then ws.n else 0) (fJ ws.js),.lf (bif vlB ws k q then ws.m else 0) (fM ws.ms),.lf (bif vlB ws k q then (scR ws q).1 else 0) (fS (scR ws q).2),.lf (bif vlB ws k q then ws.d else 0) (fK ws.sk)],.n .i64 (scE ws k q)])
def dsc:List PV→Wsp × Nat × (Nat→Int):=fun ps=>match ps with
 | [.a r,.a [.lf k f]]=>(unW r,k,unFQ f)
 | _=>(unW [],0,fun _=>0)
noncomputable def o_sc:List PV→Option (Bool × Ret):=o_fm dsc csc esc rsc
theorem fQH:zY Tryz.prog 46 o_sc:=uK fun t h=>by
 obtain ⟨ws,k,q⟩:=t;exact uZZ ws k q h
def cso_:Wsp × Nat × (Nat→Int)→Prop:=fun t=>match t with | (ws,_,_)=>okW ws
def eso_:Wsp × Nat × (Nat→Int)→List PV:=fun t=>match t with | (ws,k,q)=>[.a (wP ws),.a [.lf k (fQ q)]]
noncomputable def rso_:Wsp × Nat × (Nat→Int)→Ret:=fun t=>match t with | (ws,k,q)=>.v (.t [.a [.lf (bif vlB ws k q then ws.n else 0) (fJ ws.js),.lf (bif vlB ws k q then ws.m else 0) (fM ws.ms),.lf (bif vlB ws k q then (scR ws q).1 else 0) (fS (scR ws q).2),.lf (bif vlB ws k q then ws.d else 0) (fK ws.sk)],.n .i64 (scE ws k q)])
def dso_:List PV→Wsp × Nat × (Nat→Int):=fun ps=>match ps with
 | [.a r,.a [.lf k f]]=>(unW r,k,unFQ f)
 | _=>(unW [],0,fun _=>0)
noncomputable def uUE:List PV→Option (Bool × Ret):=o_fm dso_ cso_ eso_ rso_
theorem xZH:zY Tryz.prog 60 uUE:=uK fun t h=>by
 obtain ⟨ws,k,q⟩:=t;exact uZY ws k q h
noncomputable def xHD (_:Wsp) (k:Nat) (q:Nat→Int):OrS:=orS [(46,o_sc),(60,uUE),(61,o_ss),(62,o_vl),(63,o_rv)] []
noncomputable def kXZ (_:Wsp) (k:Nat) (q:Nat→Int):List (List Nat × jG):=[]
set_option maxRecDepth 100000 in
theorem xGF (ws:Wsp) (k:Nat) (q:Nat→Int):uJ Tf (xHD ws k q) (qZ (kXZ ws k q)) 60 18 [.a (wP ws),.a [.lf k (fQ q)]] =
 (bif (gF1 csc esc (ws,k,q)) then (bif (gF1 cso_ eso_ (ws,k,q)) then (bif (decide ((scE ws k q)=(scE ws k q))) then (bif (gF1 css ess (ws.js,ws.ms,((scR ws q).2),ws.sk,(bif vlB ws k q then ws.n else 0),(bif vlB ws k q then ws.m else 0),(bif vlB ws k q then (scR ws q).1 else 0),(bif vlB ws k q then ws.d else 0))) then (bif (gF1 cvl evl (ws,k,q)) then (bif (vlB ws k q) then (bif (gF1 crv erv (ws,k,q)) then (bif (vlB ws k q) then some (.v (.b true),[])
 else some (.v (.b false),[]))
 else none)
 else (bif (gF1 crv erv (ws,k,q)) then (bif (vlB ws k q) then some (.v (.b false),[])
 else some (.v (.b true),[]))
 else none))
 else none)
 else none)
 else some (.v (.b false),[]))
 else none)
 else none):=by kernel_rfl
theorem uZD (ws:Wsp) (k:Nat) (q:Nat→Int) (ho:okW ws):yK Tryz.prog 18 [.a (wP ws),.a [.lf k (fQ q)]] (.v (.b true)):=by
 refine zZ (N:=60) (LO:=qZ (kXZ ws k q)) jU zW (jW (l:=[(46,o_sc),(60,uUE),(61,o_ss),(62,o_vl),(63,o_rv)]) (m:=[]) ⟨fQH,xZH,fQX,xZX,xZE,trivial⟩ trivial) (fun p S hp => ?_) ?_
 ·refine qH (L:=qQ Tf 18) (l:=(kXZ ws k q)) (show AllP _ (kXZ ws k q) from trivial) p S hp
 ·refine (xGF ws k q).trans ?_;have hs:css (ws.js,ws.ms,(scR ws q).2,ws.sk,(bif vlB ws k q then ws.n else 0),(bif vlB ws k q then ws.m else 0),(bif vlB ws k q then (scR ws q).1 else 0),(bif vlB ws k q then ws.d else 0)):=by
   cases hv:vlB ws k q with
   | false=>exact ⟨⟨Nat.zero_le _,Nat.zero_le _⟩,⟨Nat.zero_le _,Nat.zero_le _⟩,fun i hi=>absurd hi (Nat.not_lt_zero i)⟩
   | true =>
    obtain ⟨w0,_,_⟩:=zWE hv;have w1:=(qYI w0).1;have hn:=zJI (qJB w1).1;have hm:=jUK (qJB w1).1;have hd:=jKG w1;obtain ⟨_,h2,h3⟩:=xWI ho hv;exact ⟨⟨(by show ws.n≤50; omega),(by show ws.m≤50; omega)⟩,⟨(by show (scR ws q).1≤50; omega),(by show ws.d≤70; omega)⟩,fun i hi=>by
     have:=qHX (zVU (h3 i hi)).2
     omega⟩
  have hs':=jQ (C:=css) (enc:=ess) hs;simp only [jQ (C:=csc) (t:=(ws,k,q)) ho,jQ (C:=cso_) (t:=(ws,k,q)) ho,jQ (C:=cvl) (t:=(ws,k,q)) ho,jQ (C:=crv) (t:=(ws,k,q)) ho,hs',vYV,eq_self,decide_true,beq_self_eq_true];cases vlB ws k q <;> rfl
def cls:Wsp × Nat × (Nat→Int)→Prop:=fun t=>match t with | (ws,_,_)=>okW ws
def els:Wsp × Nat × (Nat→Int)→List PV:=fun t=>match t with | (ws,k,q)=>[.a (wP ws),.a [.lf k (fQ q)]]
noncomputable def rls:Wsp × Nat × (Nat→Int)→Ret:=fun t=>match t with | (_,_,_)=>.v (.b true)
def dls:List PV→Wsp × Nat × (Nat→Int):=fun ps=>match ps with
 | [.a r,.a [.lf k f]]=>(unW r,k,unFQ f)
 | _=>(unW [],0,fun _=>0)
noncomputable def o_ls:List PV→Option (Bool × Ret):=o_fm dls cls els rls
theorem fQF:zY Tryz.prog 18 o_ls:=uK fun t h=>by
 obtain ⟨ws,k,q⟩:=t;exact uZD ws k q h
end Go.Proofs.YtgmbkkkbfbocnaaGreat.Hk
namespace Go.Proofs.YtgmbkkkbfbocnaaGreat.Sn
open Go.Rx Rt Go.Sx Go.RowKit Od Nb
noncomputable def xHA (x k:Int):OrS:=orS [] []
noncomputable def kUB (x k:Int):List (List Nat × jG):=[]
set_option maxRecDepth 100000 in
theorem xGV (x k:Int):uJ Tf (xHA x k) (qZ (kUB x k)) 60 20 [.n .i64 x,.n .i64 k] =
 (bif (decide (k=0)) then none
 else (bif (decide ((x.tmod k) < 0)) then some (.v (.n .i64 (vJJ .i64 ((x.tmod k) + k))),[])
 else some (.v (.n .i64 (x.tmod k)),[]))):=by kernel_rfl
theorem yKA (x k:Int) (hk:0 < k∧k≤9223372036854775807):yK Tryz.prog 20 [.n .i64 x,.n .i64 k] (.v (.n .i64 (x % k))):=by
 refine zZ (N:=60) (LO:=qZ (kUB x k)) jU zW (jW (l:=[]) (m:=[]) trivial trivial) (fun p S hp => ?_) ?_
 ·refine qH (L:=qQ Tf 20) (l:=(kUB x k)) (show AllP _ (kUB x k) from trivial) p S hp
 ·refine (xGV x k).trans ?_;have hk0:k ≠ 0:=by omega
  have h1:=Int.emod_nonneg x hk0;have h2:=Int.emod_lt_of_pos x hk.1;rw [vYH (show ¬ k=0 by omega),Int.tmod_eq_emod];by_cases h:0≤x ∨ k ∣ x
  ·rw [if_pos h,show ((0:Nat):Int)=0 from rfl,Int.sub_zero,vYH (show ¬ x % k < 0 by omega)];rfl
  ·rw [if_neg h,show ((k.natAbs:Nat):Int)=k by omega,vJQ (show x % k - k < 0 by omega),show vJJ .i64 (x % k - k + k)=x % k from by rw [show x % k - k + k=x % k by omega]; exact qV (by omega)];rfl
def crn:Int × Int→Prop:=fun t=>match t with | (_,k)=>0 < k∧k≤9223372036854775807
def ern:Int × Int→List PV:=fun t=>match t with | (x,k)=>[.n .i64 x,.n .i64 k]
noncomputable def rrn:Int × Int→Ret:=fun t=>match t with | (x,k)=>.v (.n .i64 (x % k))
def drn:List PV→Int × Int:=fun ps=>match ps with
 | [.n _ x,.n _ k]=>(x,k)
 | _=>(0,0)
noncomputable def o_rn:List PV→Option (Bool × Ret):=o_fm drn crn ern rrn
theorem kJD:zY Tryz.prog 20 o_rn:=uK fun t h=>by
 obtain ⟨x,k⟩:=t;exact yKA x k h
noncomputable def ornx (w m:Nat) (e:Nat→Int) (k:Int):OrS:=orS [(20,o_rn)] []
noncomputable def lsnx (w m:Nat) (e:Nat→Int) (k:Int):List (List Nat × jG):=[]
set_option maxRecDepth 100000 in
theorem pxnx (w m:Nat) (e:Nat→Int) (k:Int):uHV Tf (ornx w m e k) (qZ (lsnx w m e k)) 60 30 [.p 1000000 0,.v (.n .i64 k)] [.lf w (fQ e),.n .i64 (m:Int)] =
 (bif (decide ((w:Int)≤(m:Int))) then some (.v (.t [.n .i64 0,.lf w (fQ e),.n .i64 (m:Int)]),[])
 else (bif (inB (vJJ .i64 ((vJJ .i64 ((m:Int) + 1)) - 1)) w) then (bif (gF1 crn ern ((e ((vJJ .i64 ((vJJ .i64 ((m:Int) + 1)) - 1))).toNat),k)) then some (.v (.t [.n .i64 ((e ((vJJ .i64 ((vJJ .i64 ((m:Int) + 1)) - 1))).toNat) % k),.lf w (fQ e),.n .i64 (vJJ .i64 ((m:Int) + 1))]),[])
 else none)
 else none)):=by kernel_rfl
theorem uGF (w m:Nat) (e:Nat→Int) (k:Int) (_:m≤w) (_:w≤9223372036854775807) (hk:0 < k∧k≤9223372036854775807):yJF Tryz.prog 30 [.p 1000000 0,.v (.n .i64 k)] [.lf w (fQ e),.n .i64 (m:Int)] (.n .i64 (nxV e w m k)) ([.lf w (fQ e),.n .i64 ((min (m + 1) w:Nat):Int)]):=by
 refine yKL (N:=60) (LO:=qZ (lsnx w m e k)) jU zW (jW (l:=[(20,o_rn)]) (m:=[]) ⟨kJD,trivial⟩ trivial) (fun p S hp => ?_) ?_
 ·refine qH (L:=qQ Tf 30) (l:=(lsnx w m e k)) (show AllP _ (lsnx w m e k) from trivial) p S hp
 ·refine (pxnx w m e k).trans ?_;unfold nxV eW;by_cases h:m < w
  ·have h1:vJJ .i64 ((m:Int) + 1)=(m:Int) + 1:=qV (by omega);have h2:vJJ .i64 ((m:Int) + 1 - 1)=((m:Nat):Int):=by rw [qV (by omega)]; omega
   rw [vYH (show ¬ (w:Int)≤(m:Int) by omega),h1,h2,yZ h,toN,jQ (C:=crn) (t:=(_,k)) hk,show Nat.blt m w=true from by rw [Nat.blt_eq]; exact h,show min (m + 1) w=m + 1 by omega];rfl
  ·rw [vJQ (show (w:Int)≤(m:Int) by omega),show Nat.blt m w=false from by rw [Bool.eq_false_iff,ne_eq,Nat.blt_eq]; exact h,show min (m + 1) w=m by omega]
   simp
def cnx:Nat × Nat × (Nat→Int) × Int→Prop:=fun t=>match t with | (w,m,_,k)=>m≤w∧w≤9223372036854775807∧0 < k∧k≤9223372036854775807
def hnx:Nat × Nat × (Nat→Int) × Int→List HV:=fun t=>match t with | (_,_,_,k)=>[.p pid 0,.v (.n .i64 k)]
def enx:Nat × Nat × (Nat→Int) × Int→List PV:=fun t=>match t with | (w,m,e,_)=>[.lf w (fQ e),.n .i64 (m:Int)]
noncomputable def xnx:Nat × Nat × (Nat→Int) × Int→PV:=fun t=>match t with | (w,m,e,k)=>.n .i64 (nxV e w m k)
noncomputable def qnx:Nat × Nat × (Nat→Int) × Int→List PV:=fun t=>match t with | (w,m,e,_)=>[.lf w (fQ e),.n .i64 ((min (m + 1) w:Nat):Int)]
def dnx:List HV→List PV→Nat × Nat × (Nat→Int) × Int:=fun hs ps=>match hs,ps with
 | [_,.v (.n _ k)],[.lf w f,.n _ c]=>(w,c.toNat,unFQ f,k)
 | _,_=>(0,0,fun _=>0,0)
noncomputable def o_nx:List HV→List PV→Option (Bool × (PV × List PV)):=o_fb dnx cnx hnx enx xnx qnx
theorem uUY:jHW Tryz.prog 30 o_nx:=fZU fun t h=>by
 obtain ⟨w,m,e,k⟩:=t;exact uGF w m e k h.1 h.2.1 h.2.2
def abcB:ByteArray:=ByteArray.mk #[97,98,99,100,101,102,103,104,105,106]
def ltrI (i:Int):ByteArray:=abcB.extract i.toNat (vJJ .i64 (i + 1)).toNat
end Go.Proofs.YtgmbkkkbfbocnaaGreat.Sn

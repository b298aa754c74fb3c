/- Part 11 of the texts behind the last one: rules and contracts. No condition. -/
import Derived.Test.YtmeldddgjfocdaaGreatGN10
open Bool renaming and_eq_true → vQJ, and_self → vZQ
open Go.IntKind renaming wrap → vYX
namespace Go.Proofs.YtmeldddgjfocdaaGreat.Hk
open Go.Rx Rt Go.Sx Go.RowKit Od Na Nb Nc Nx Nf Nl Nm Ga Gb Gc Gd Ge Gf Gg Ha Hb Hc Hd He Hf Hg Hh Hi Hj
theorem yYJ {n:Nat} {l:Int} (h : -1≤l∧l < (n:Int)):isLk n l=true:=by
 unfold isLk;rw [vYJ h.1,vYJ h.2]; rfl
theorem qXD {k:Int} {p:Z3} (h:zOk k p=true):(-k≤p.x∧p.x≤k)∧(-k≤p.y∧p.y≤k)∧(-k≤p.z∧p.z≤k):=by
 unfold zOk at h;simp only [vQJ,Bool.not_eq_true',decide_eq_false_iff_not] at h;omega
theorem qGZ {k:Int} {p:Z3} (_:(-k≤p.x∧p.x≤k)∧(-k≤p.y∧p.y≤k)∧(-k≤p.z∧p.z≤k)):zOk k p=true:=by
 unfold zOk;rw [vYY (show ¬ p.x < -k by omega),vYY (show ¬ k < p.x by omega),vYY (show ¬ p.y < -k by omega),vYY (show ¬ k < p.y by omega),vYY (show ¬ p.z < -k by omega),vYY (show ¬ k < p.z by omega)]; rfl
theorem jUV {b:Z3} {n v:Nat} {p:Nat→Z3} (hv:v < n) (hp:zOk 2097152 (p v)=true) (hb:zOk 2097152 b=true):sft b n p v=⟨(p v).x + b.x,(p v).y + b.y,(p v).z + b.z⟩:=by
 have h1:=qXD hp;have h2:=qXD hb;unfold sft;rw [show Nat.blt v n=true from by rw [Nat.blt_eq]; exact hv,vYQ,vYQ,vYQ,zU (by omega),zU (by omega),zU (by omega)]
theorem jZK {n:Nat} {l:Int} {b:Z3} {s:Shp} (hs:sOk s=true) (hb:zOk 2097152 b=true) (hl : -1≤l∧l < (n:Int)):shE n (lkS l (sftL b s))=0:=by
 obtain ⟨h1,h2,h3⟩:=zUI hs;unfold shOk at h1;rw [vQJ,Bool.not_eq_true'] at h1;have hp:qVL (lkS l (sftL b s))=true:=allN_iff.2 fun v _ hv=>by
  have hv':v < s.np:=by
   have:v < 0 + s.np:=hv
   omega
  show zOk 4194304 (sft b s.np s.pts v)=true;rw [jUV hv' (h3 v hv') hb];have a1:=qXD (h3 v hv');have a2:=qXD hb;exact qGZ (by dsimp only; omega)
 unfold shE;rw [hp];show (bif !isLk n l || (decide (s.rad < 1) || (decide (1048576 < s.rad) || (decide ((s.np:Int) < 1) || decide (8 < (s.np:Int))))) then (902:Int) else bif true then 0 else 805)=0;rw [h1.1,yYJ hl]; rfl
theorem yJH {n:Nat} {l:Int} {b:Z3} {shs:Nat→Shp} {m:Nat} (hs:∀ v,v < m→sOk (shs v)=true) (hb:zOk 2097152 b=true) (hl : -1≤l∧l < (n:Int)) {t:Nat × (Nat→Shp)} (ht:∀ v,v < t.1→shE n (t.2 v)=0):∀ v,v < (addN l (fun v=>(sftL b (shs v))) m t).1→shE n ((addN l (fun v=>(sftL b (shs v))) m t).2 v)=0 :=
 jK (Q:=fun (j:Nat) (t:Nat × (Nat→Shp))=>∀ v,v < t.1→shE n (t.2 v)=0) (c:=m) (fun j t hj h v hv=>by
  have hv':v < t.1 + 1:=hv;show shE n (qKH t.2 t.1 (lkS l (sftL b (shs j))) v)=0;unfold qKH;rw [qVD];by_cases e:v=t.1
  ·rw [vYJ e]; exact jZK (hs j hj) hb hl
  ·rw [vYY e]; exact h v (by omega)) m 0 t (by omega) ht
theorem yUC {ws:Wsp} (h:wErr ws=0) {i:Nat} (_:i < ws.np):zOk 2097152 (ws.pl i)=true:=by
 have h2:=(qZY h).2.1;unfold fiB at h2;simp only [vQJ] at h2;exact allN_iff.1 h2.2.1 i (Nat.zero_le _) (by omega)
theorem jWL {ws:Wsp} (h:wErr ws=0) {i:Nat} (_:i < ws.nh):zOk 2097152 (ws.hd i).off=true:=by
 have h2:=(qZY h).2.1;unfold fiB at h2;simp only [vQJ] at h2;have h3:=allN_iff.1 h2.2.2.1 i (Nat.zero_le _) (by omega);unfold hdOk at h3;simp only [vQJ] at h3;exact h3.2.2
theorem jUG {ws:Wsp} {k:Nat} {q:Nat→Int} (ho:okW ws) (hv:vlB ws k q=true):(scR ws q).1=ws.c + sumN (fun j=>(ws.ob j).ns) ws.no∧(scR ws q).1≤24∧∀ v,v < (scR ws q).1→shE ws.n ((scR ws q).2 v)=0:=by
 obtain ⟨w0,hk,hq⟩:=zKZ hv;have hnb:=zHY (qZY w0).2.1;have hob:=yXI w0 ho;have h:=jK (Q:=fun (i:Nat) (t:Nat × (Nat→Shp))=>t.1=ws.c + sumN (fun j=>(ws.ob j).ns) i∧∀ v,v < t.1→shE ws.n (t.2 v)=0) (c:=ws.no) (nx:=scN ws q) (fun i t hi h=>⟨by
  rw [jUH,h.1];show _=ws.c + (sumN (fun j=>(ws.ob j).ns) i + (ws.ob i).ns)
  omega,by
  have h1:=(hob.2 i hi).2;have h2:=hq i (by omega);unfold scN;by_cases h0:0≤q i
  ·rw [vYJ h0,vYQ];exact yJH h1 (yUC w0 (by omega)) (by omega) h.2
  ·obtain ⟨e1,e2⟩:=jVG h2.1 (show q i < 0 by omega) hnb.2.2.1;rw [vYY h0,vYZ,e1];have hl:=jKX w0 (i:=(-1 - q i).toNat) (by omega);exact yJH h1 (jWL w0 (by omega)) (by omega) h.2⟩) ws.no 0 (ws.c,ws.sh) (by omega) ⟨rfl,(qZQ (qZY w0).1).2.2⟩
 refine ⟨h.1,?_,h.2⟩;show (qYZ (scN ws q) ws.no 0 (ws.c,ws.sh)).1≤24;rw [h.1];exact hob.1
theorem zQF (x:ByteArray):(x == x)=true:=by
 unfold BEq.beq;cases x with
 | mk d =>
 show (d == d)=true
 simp
noncomputable def orxj (q:Nat→J) (n:Nat):OrS:=orS [] []
noncomputable def hxj (q:Nat→J) (n:Nat) (i:Int):St:=⟨[(0,.v (.lf n (fJ q))),(1,.v (.lf n (fJ q))),(5,.v (.n .i64 i))],[]⟩
set_option maxRecDepth 100000 in
theorem rdxj (G:St→Option (Ret × Mem)) (K:Cont) (q:Nat→J) (n:Nat) (i:Int):yJ 100 (cxS Tf (orxj q n) 100 90 (ntmF Tf 90)) (evX Tf (orxj q n) 100 90 (ntmF Tf 90)) (qZ []) (qQ Tf 90 [0,1,0,1,1]) [0,1,0,1,1] (Tf.hint 90 (qJ (qQ Tf 90 [0,1,0,1,1]))) K G (hxj q n i) =
 (bif (decide (i < (n:Int))) then (bif (inB i n) then (bif (inB i n) then (bif (!(((q (i).toNat).name == (q (i).toNat).name) && ((decide ((q (i).toNat).kind=(q (i).toNat).kind)) && ((decide ((q (i).toNat).parent=(q (i).toNat).parent)) && ((decide ((q (i).toNat).off.x=(q (i).toNat).off.x)) && ((decide ((q (i).toNat).off.y=(q (i).toNat).off.y)) && ((decide ((q (i).toNat).off.z=(q (i).toNat).off.z)) && ((decide ((q (i).toNat).lo=(q (i).toNat).lo)) && ((decide ((q (i).toNat).hi=(q (i).toNat).hi)) && ((decide ((q (i).toNat).weight=(q (i).toNat).weight)) && ((decide ((q (i).toNat).speed=(q (i).toNat).speed)) && ((decide ((q (i).toNat).accel=(q (i).toNat).accel)) && ((decide ((q (i).toNat).torque=(q (i).toNat).torque)) && true))))))))))))) then (K .ret ⟨[(4,.v (.b false))],[]⟩)
 else (G (hxj q n (vYX .i64 (i + 1)))))
 else none)
 else none)
 else (K (.exit 0) ⟨[],[]⟩)):=by kernel_rfl
theorem lpxj (K:Cont) (q:Nat→J) (n:Nat) (_:n≤50):LFX 100 (cxS Tf (orxj q n) 100 90 (ntmF Tf 90)) (evX Tf (orxj q n) 100 90 (ntmF Tf 90)) (qZ []) (qQ Tf 90 [0,1,0,1,1]) [0,1,0,1,1] (Tf.hint 90 (qJ (qQ Tf 90 [0,1,0,1,1]))) K 100 (hxj q n 0)=bif (allN (fun i:Nat=>true) n 0) then (K (.exit 0) ⟨[],[]⟩) else (K .ret ⟨[(4,.v (.b false))],[]⟩):=by
 refine (jJ (L:=LFX 100 (cxS Tf (orxj q n) 100 90 (ntmF Tf 90)) (evX Tf (orxj q n) 100 90 (ntmF Tf 90)) (qZ []) (qQ Tf 90 [0,1,0,1,1]) [0,1,0,1,1] (Tf.hint 90 (qJ (qQ Tf 90 [0,1,0,1,1]))) K) (stp:=yJ 100 (cxS Tf (orxj q n) 100 90 (ntmF Tf 90)) (evX Tf (orxj q n) 100 90 (ntmF Tf 90)) (qZ []) (qQ Tf 90 [0,1,0,1,1]) [0,1,0,1,1] (Tf.hint 90 (qJ (qQ Tf 90 [0,1,0,1,1]))) K) (fun _ _=>rfl) (fun (i:Nat) (_:Unit)=>hxj q n (i:Int)) (fun _ _=>True) (fun (i:Nat) _=>true) (fun _ _=>()) (c:=n) (fun _=>(K (.exit 0) ⟨[],[]⟩)) (fun i _=>(K .ret ⟨[(4,.v (.b false))],[]⟩)) (fun G i f hi _ => ?_) (fun _ _ _ _ _=>trivial) (fun G f _ => ?_) n 0 100 () (by omega) (by omega) trivial).trans ((zG _ _ _ _ _).trans (yZ _ _ _ _ _))
 ·refine (rdxj G K q n i).trans ?_;rw [vYJ (show (i:Int) < (n:Int) by omega),jZ (by omega),zJ (show i < n by omega),toN];simp only [eq_self,decide_true,zQF,beq_self_eq_true,vZQ,Bool.not_true,vYZ,vYQ]
  all_goals rfl
 ·refine (rdxj G K q n n).trans ?_;rw [vYY (show ¬ (n:Int) < (n:Int) by omega)];rfl
noncomputable def yWG (q:Nat→J) (n:Nat):List (List Nat × yU):=[([0,1,0,1,1],sumF (fun _:Unit=>(hxj q n 0)) (fun _=>()) (fun _ K=>(bif (decide (n≤50)) then (bif (allN (fun i:Nat=>true) n 0) then (K (.exit 0) ⟨[],[]⟩) else (K .ret ⟨[(4,.v (.b false))],[]⟩)) else none)))]
set_option maxRecDepth 100000 in
theorem jHX (q:Nat→J) (n:Nat):kH Tf (orxj q n) (qZ (yWG q n)) 100 90 [.lf n (fJ q),.lf n (fJ q)] =
 (bif (!decide ((n:Int)=(n:Int))) then some (.v (.b false),[])
 else (bif (gSt (hxj q n 0) (hxj q n 0)) then (bif (decide (n≤50)) then (bif (allN (fun i:Nat=>true) n 0) then some (.v (.b true),[])
 else some (.v (.b false),[]))
 else none)
 else none)):=by kernel_rfl
theorem yHC (q:Nat→J) (n:Nat) (hn:n≤50):qH Tryz.prog 90 [.lf n (fJ q),.lf n (fJ q)] (.v (.b true)):=by
 refine qX (N:=100) (LO:=qZ (yWG q n)) yG qG (yH (l:=[]) (m:=[]) trivial trivial) (fun p S hp => ?_) ?_
 ·refine qK (L:=qQ Tf 90) (l:=(yWG q n)) (show AllP _ (yWG q n) from ⟨?_,trivial⟩) p S hp
  ·dsimp only;refine yQ (T:=Tf) (o:=(orxj q n)) (f:=90) (LO:=qZ []) (p:=[0,1,0,1,1]) yV ?_;intro t K r hr;obtain ⟨hg,hr⟩:=qY hr;have hn:=vYK hg;exact (lpxj K q n hn).trans hr
 ·refine (jHX q n).trans ?_;rw [vYJ (show (n:Int)=(n:Int) from rfl),zQ,vYJ hn,zJD];rfl
def cxj:Nat × (Nat→J)→Prop:=fun t=>match t with | (n,_)=>n≤50
def exj:Nat × (Nat→J)→List PV:=fun t=>match t with | (n,q)=>[.lf n (fJ q),.lf n (fJ q)]
noncomputable def rxj:Nat × (Nat→J)→Ret:=fun t=>match t with | (_,_)=>.v (.b true)
def dxj:List PV→Nat × (Nat→J):=fun ps=>match ps with
 | [.lf n f,_]=>(n,unFJ f)
 | _=>(0,fun _=>⟨ByteArray.empty,0,0,⟨0,0,0⟩,0,0,0,0,0,0⟩)
noncomputable def o_xj:List PV→Option (Bool × Ret):=o_fm dxj cxj exj rxj
theorem kZJ:jG Tryz.prog 90 o_xj:=qQU fun t h=>by
 obtain ⟨n,q⟩:=t;exact yHC q n h
noncomputable def orxm (q:Nat→Ms) (n:Nat):OrS:=orS [] []
noncomputable def hxm (q:Nat→Ms) (n:Nat) (i:Int):St:=⟨[(0,.v (.lf n (fM q))),(1,.v (.lf n (fM q))),(5,.v (.n .i64 i))],[]⟩
set_option maxRecDepth 100000 in
theorem rdxm (G:St→Option (Ret × Mem)) (K:Cont) (q:Nat→Ms) (n:Nat) (i:Int):yJ 100 (cxS Tf (orxm q n) 100 91 (ntmF Tf 91)) (evX Tf (orxm q n) 100 91 (ntmF Tf 91)) (qZ []) (qQ Tf 91 [0,1,0,1,1]) [0,1,0,1,1] (Tf.hint 91 (qJ (qQ Tf 91 [0,1,0,1,1]))) K G (hxm q n i) =
 (bif (decide (i < (n:Int))) then (bif (inB i n) then (bif (inB i n) then (bif (!((decide ((q (i).toNat).link=(q (i).toNat).link)) && ((decide ((q (i).toNat).mass=(q (i).toNat).mass)) && ((decide ((q (i).toNat).p.x=(q (i).toNat).p.x)) && ((decide ((q (i).toNat).p.y=(q (i).toNat).p.y)) && ((decide ((q (i).toNat).p.z=(q (i).toNat).p.z)) && true)))))) then (K .ret ⟨[(4,.v (.b false))],[]⟩)
 else (G (hxm q n (vYX .i64 (i + 1)))))
 else none)
 else none)
 else (K (.exit 0) ⟨[],[]⟩)):=by kernel_rfl
theorem lpxm (K:Cont) (q:Nat→Ms) (n:Nat) (_:n≤50):LFX 100 (cxS Tf (orxm q n) 100 91 (ntmF Tf 91)) (evX Tf (orxm q n) 100 91 (ntmF Tf 91)) (qZ []) (qQ Tf 91 [0,1,0,1,1]) [0,1,0,1,1] (Tf.hint 91 (qJ (qQ Tf 91 [0,1,0,1,1]))) K 100 (hxm q n 0)=bif (allN (fun i:Nat=>true) n 0) then (K (.exit 0) ⟨[],[]⟩) else (K .ret ⟨[(4,.v (.b false))],[]⟩):=by
 refine (jJ (L:=LFX 100 (cxS Tf (orxm q n) 100 91 (ntmF Tf 91)) (evX Tf (orxm q n) 100 91 (ntmF Tf 91)) (qZ []) (qQ Tf 91 [0,1,0,1,1]) [0,1,0,1,1] (Tf.hint 91 (qJ (qQ Tf 91 [0,1,0,1,1]))) K) (stp:=yJ 100 (cxS Tf (orxm q n) 100 91 (ntmF Tf 91)) (evX Tf (orxm q n) 100 91 (ntmF Tf 91)) (qZ []) (qQ Tf 91 [0,1,0,1,1]) [0,1,0,1,1] (Tf.hint 91 (qJ (qQ Tf 91 [0,1,0,1,1]))) K) (fun _ _=>rfl) (fun (i:Nat) (_:Unit)=>hxm q n (i:Int)) (fun _ _=>True) (fun (i:Nat) _=>true) (fun _ _=>()) (c:=n) (fun _=>(K (.exit 0) ⟨[],[]⟩)) (fun i _=>(K .ret ⟨[(4,.v (.b false))],[]⟩)) (fun G i f hi _ => ?_) (fun _ _ _ _ _=>trivial) (fun G f _ => ?_) n 0 100 () (by omega) (by omega) trivial).trans ((zG _ _ _ _ _).trans (yZ _ _ _ _ _))
 ·refine (rdxm G K q n i).trans ?_;rw [vYJ (show (i:Int) < (n:Int) by omega),jZ (by omega),zJ (show i < n by omega),toN];simp only [eq_self,decide_true,zQF,beq_self_eq_true,vZQ,Bool.not_true,vYZ,vYQ]
  all_goals rfl
 ·refine (rdxm G K q n n).trans ?_;rw [vYY (show ¬ (n:Int) < (n:Int) by omega)];rfl
noncomputable def yWW (q:Nat→Ms) (n:Nat):List (List Nat × yU):=[([0,1,0,1,1],sumF (fun _:Unit=>(hxm q n 0)) (fun _=>()) (fun _ K=>(bif (decide (n≤50)) then (bif (allN (fun i:Nat=>true) n 0) then (K (.exit 0) ⟨[],[]⟩) else (K .ret ⟨[(4,.v (.b false))],[]⟩)) else none)))]
set_option maxRecDepth 100000 in
theorem jHK (q:Nat→Ms) (n:Nat):kH Tf (orxm q n) (qZ (yWW q n)) 100 91 [.lf n (fM q),.lf n (fM q)] =
 (bif (!decide ((n:Int)=(n:Int))) then some (.v (.b false),[])
 else (bif (gSt (hxm q n 0) (hxm q n 0)) then (bif (decide (n≤50)) then (bif (allN (fun i:Nat=>true) n 0) then some (.v (.b true),[])
 else some (.v (.b false),[]))
 else none)
 else none)):=by kernel_rfl
theorem yHA (q:Nat→Ms) (n:Nat) (hn:n≤50):qH Tryz.prog 91 [.lf n (fM q),.lf n (fM q)] (.v (.b true)):=by
 refine qX (N:=100) (LO:=qZ (yWW q n)) yG qG (yH (l:=[]) (m:=[]) trivial trivial) (fun p S hp => ?_) ?_
 ·refine qK (L:=qQ Tf 91) (l:=(yWW q n)) (show AllP _ (yWW q n) from ⟨?_,trivial⟩) p S hp
  ·dsimp only;refine yQ (T:=Tf) (o:=(orxm q n)) (f:=91) (LO:=qZ []) (p:=[0,1,0,1,1]) yV ?_;intro t K r hr;obtain ⟨hg,hr⟩:=qY hr;have hn:=vYK hg;exact (lpxm K q n hn).trans hr
 ·refine (jHK q n).trans ?_;rw [vYJ (show (n:Int)=(n:Int) from rfl),zQ,vYJ hn,zJD];rfl
def cxm:Nat × (Nat→Ms)→Prop:=fun t=>match t with | (n,_)=>n≤50
def exm:Nat × (Nat→Ms)→List PV:=fun t=>match t with | (n,q)=>[.lf n (fM q),.lf n (fM q)]
noncomputable def rxm:Nat × (Nat→Ms)→Ret:=fun t=>match t with | (_,_)=>.v (.b true)
def dxm:List PV→Nat × (Nat→Ms):=fun ps=>match ps with
 | [.lf n f,_]=>(n,unFM f)
 | _=>(0,fun _=>⟨0,0,⟨0,0,0⟩⟩)
noncomputable def o_xm:List PV→Option (Bool × Ret):=o_fm dxm cxm exm rxm
theorem kZZ:jG Tryz.prog 91 o_xm:=qQU fun t h=>by
 obtain ⟨n,q⟩:=t;exact yHA q n h
noncomputable def orxk (q:Nat→Skp) (n:Nat):OrS:=orS [] []
noncomputable def hxk (q:Nat→Skp) (n:Nat) (i:Int):St:=⟨[(0,.v (.lf n (fK q))),(1,.v (.lf n (fK q))),(5,.v (.n .i64 i))],[]⟩
set_option maxRecDepth 100000 in
theorem rdxk (G:St→Option (Ret × Mem)) (K:Cont) (q:Nat→Skp) (n:Nat) (i:Int):yJ 100 (cxS Tf (orxk q n) 100 92 (ntmF Tf 92)) (evX Tf (orxk q n) 100 92 (ntmF Tf 92)) (qZ []) (qQ Tf 92 [0,1,0,1,1]) [0,1,0,1,1] (Tf.hint 92 (qJ (qQ Tf 92 [0,1,0,1,1]))) K G (hxk q n i) =
 (bif (decide (i < (n:Int))) then (bif (inB i n) then (bif (inB i n) then (bif (!((decide ((q (i).toNat).a=(q (i).toNat).a)) && ((decide ((q (i).toNat).b=(q (i).toNat).b)) && true))) then (K .ret ⟨[(4,.v (.b false))],[]⟩)
 else (G (hxk q n (vYX .i64 (i + 1)))))
 else none)
 else none)
 else (K (.exit 0) ⟨[],[]⟩)):=by kernel_rfl
theorem lpxk (K:Cont) (q:Nat→Skp) (n:Nat) (_:n≤70):LFX 100 (cxS Tf (orxk q n) 100 92 (ntmF Tf 92)) (evX Tf (orxk q n) 100 92 (ntmF Tf 92)) (qZ []) (qQ Tf 92 [0,1,0,1,1]) [0,1,0,1,1] (Tf.hint 92 (qJ (qQ Tf 92 [0,1,0,1,1]))) K 100 (hxk q n 0)=bif (allN (fun i:Nat=>true) n 0) then (K (.exit 0) ⟨[],[]⟩) else (K .ret ⟨[(4,.v (.b false))],[]⟩):=by
 refine (jJ (L:=LFX 100 (cxS Tf (orxk q n) 100 92 (ntmF Tf 92)) (evX Tf (orxk q n) 100 92 (ntmF Tf 92)) (qZ []) (qQ Tf 92 [0,1,0,1,1]) [0,1,0,1,1] (Tf.hint 92 (qJ (qQ Tf 92 [0,1,0,1,1]))) K) (stp:=yJ 100 (cxS Tf (orxk q n) 100 92 (ntmF Tf 92)) (evX Tf (orxk q n) 100 92 (ntmF Tf 92)) (qZ []) (qQ Tf 92 [0,1,0,1,1]) [0,1,0,1,1] (Tf.hint 92 (qJ (qQ Tf 92 [0,1,0,1,1]))) K) (fun _ _=>rfl) (fun (i:Nat) (_:Unit)=>hxk q n (i:Int)) (fun _ _=>True) (fun (i:Nat) _=>true) (fun _ _=>()) (c:=n) (fun _=>(K (.exit 0) ⟨[],[]⟩)) (fun i _=>(K .ret ⟨[(4,.v (.b false))],[]⟩)) (fun G i f hi _ => ?_) (fun _ _ _ _ _=>trivial) (fun G f _ => ?_) n 0 100 () (by omega) (by omega) trivial).trans ((zG _ _ _ _ _).trans (yZ _ _ _ _ _))
 ·refine (rdxk G K q n i).trans ?_;rw [vYJ (show (i:Int) < (n:Int) by omega),jZ (by omega),zJ (show i < n by omega),toN];simp only [eq_self,decide_true,zQF,beq_self_eq_true,vZQ,Bool.not_true,vYZ,vYQ]
  all_goals rfl
 ·refine (rdxk G K q n n).trans ?_;rw [vYY (show ¬ (n:Int) < (n:Int) by omega)];rfl
noncomputable def yWV (q:Nat→Skp) (n:Nat):List (List Nat × yU):=[([0,1,0,1,1],sumF (fun _:Unit=>(hxk q n 0)) (fun _=>()) (fun _ K=>(bif (decide (n≤70)) then (bif (allN (fun i:Nat=>true) n 0) then (K (.exit 0) ⟨[],[]⟩) else (K .ret ⟨[(4,.v (.b false))],[]⟩)) else none)))]
set_option maxRecDepth 100000 in
theorem jHU (q:Nat→Skp) (n:Nat):kH Tf (orxk q n) (qZ (yWV q n)) 100 92 [.lf n (fK q),.lf n (fK q)] =
 (bif (!decide ((n:Int)=(n:Int))) then some (.v (.b false),[])
 else (bif (gSt (hxk q n 0) (hxk q n 0)) then (bif (decide (n≤70)) then (bif (allN (fun i:Nat=>true) n 0) then some (.v (.b true),[])
 else some (.v (.b false),[]))
 else none)
 else none)):=by kernel_rfl
theorem yHB (q:Nat→Skp) (n:Nat) (hn:n≤70):qH Tryz.prog 92 [.lf n (fK q),.lf n (fK q)] (.v (.b true)):=by
 refine qX (N:=100) (LO:=qZ (yWV q n)) yG qG (yH (l:=[]) (m:=[]) trivial trivial) (fun p S hp => ?_) ?_
 ·refine qK (L:=qQ Tf 92) (l:=(yWV q n)) (show AllP _ (yWV q n) from ⟨?_,trivial⟩) p S hp
  ·dsimp only;refine yQ (T:=Tf) (o:=(orxk q n)) (f:=92) (LO:=qZ []) (p:=[0,1,0,1,1]) yV ?_;intro t K r hr;obtain ⟨hg,hr⟩:=qY hr;have hn:=vYK hg;exact (lpxk K q n hn).trans hr
 ·refine (jHU q n).trans ?_;rw [vYJ (show (n:Int)=(n:Int) from rfl),zQ,vYJ hn,zJD];rfl
def cxk:Nat × (Nat→Skp)→Prop:=fun t=>match t with | (n,_)=>n≤70
def exk:Nat × (Nat→Skp)→List PV:=fun t=>match t with | (n,q)=>[.lf n (fK q),.lf n (fK q)]
noncomputable def rxk:Nat × (Nat→Skp)→Ret:=fun t=>match t with | (_,_)=>.v (.b true)
def dxk:List PV→Nat × (Nat→Skp):=fun ps=>match ps with
 | [.lf n f,_]=>(n,unFK f)
 | _=>(0,fun _=>⟨0,0⟩)
noncomputable def o_xk:List PV→Option (Bool × Ret):=o_fm dxk cxk exk rxk
theorem kZY:jG Tryz.prog 92 o_xk:=qQU fun t h=>by
 obtain ⟨n,q⟩:=t;exact yHB q n h
noncomputable def orxv (q:Nat→Z3) (n:Nat):OrS:=orS [] []
noncomputable def hxv (q:Nat→Z3) (n:Nat) (i:Int):St:=⟨[(0,.v (.lf n (fZ q))),(1,.v (.lf n (fZ q))),(5,.v (.n .i64 i))],[]⟩
set_option maxRecDepth 100000 in
theorem rdxv (G:St→Option (Ret × Mem)) (K:Cont) (q:Nat→Z3) (n:Nat) (i:Int):yJ 100 (cxS Tf (orxv q n) 100 93 (ntmF Tf 93)) (evX Tf (orxv q n) 100 93 (ntmF Tf 93)) (qZ []) (qQ Tf 93 [0,1,0,1,1]) [0,1,0,1,1] (Tf.hint 93 (qJ (qQ Tf 93 [0,1,0,1,1]))) K G (hxv q n i) =
 (bif (decide (i < (n:Int))) then (bif (inB i n) then (bif (inB i n) then (bif (!((decide ((q (i).toNat).x=(q (i).toNat).x)) && ((decide ((q (i).toNat).y=(q (i).toNat).y)) && ((decide ((q (i).toNat).z=(q (i).toNat).z)) && true)))) then (K .ret ⟨[(4,.v (.b false))],[]⟩)
 else (G (hxv q n (vYX .i64 (i + 1)))))
 else none)
 else none)
 else (K (.exit 0) ⟨[],[]⟩)):=by kernel_rfl
theorem lpxv (K:Cont) (q:Nat→Z3) (n:Nat) (_:n≤50):LFX 100 (cxS Tf (orxv q n) 100 93 (ntmF Tf 93)) (evX Tf (orxv q n) 100 93 (ntmF Tf 93)) (qZ []) (qQ Tf 93 [0,1,0,1,1]) [0,1,0,1,1] (Tf.hint 93 (qJ (qQ Tf 93 [0,1,0,1,1]))) K 100 (hxv q n 0)=bif (allN (fun i:Nat=>true) n 0) then (K (.exit 0) ⟨[],[]⟩) else (K .ret ⟨[(4,.v (.b false))],[]⟩):=by
 refine (jJ (L:=LFX 100 (cxS Tf (orxv q n) 100 93 (ntmF Tf 93)) (evX Tf (orxv q n) 100 93 (ntmF Tf 93)) (qZ []) (qQ Tf 93 [0,1,0,1,1]) [0,1,0,1,1] (Tf.hint 93 (qJ (qQ Tf 93 [0,1,0,1,1]))) K) (stp:=yJ 100 (cxS Tf (orxv q n) 100 93 (ntmF Tf 93)) (evX Tf (orxv q n) 100 93 (ntmF Tf 93)) (qZ []) (qQ Tf 93 [0,1,0,1,1]) [0,1,0,1,1] (Tf.hint 93 (qJ (qQ Tf 93 [0,1,0,1,1]))) K) (fun _ _=>rfl) (fun (i:Nat) (_:Unit)=>hxv q n (i:Int)) (fun _ _=>True) (fun (i:Nat) _=>true) (fun _ _=>()) (c:=n) (fun _=>(K (.exit 0) ⟨[],[]⟩)) (fun i _=>(K .ret ⟨[(4,.v (.b false))],[]⟩)) (fun G i f hi _ => ?_) (fun _ _ _ _ _=>trivial) (fun G f _ => ?_) n 0 100 () (by omega) (by omega) trivial).trans ((zG _ _ _ _ _).trans (yZ _ _ _ _ _))
 ·refine (rdxv G K q n i).trans ?_;rw [vYJ (show (i:Int) < (n:Int) by omega),jZ (by omega),zJ (show i < n by omega),toN];simp only [eq_self,decide_true,zQF,beq_self_eq_true,vZQ,Bool.not_true,vYZ,vYQ]
  all_goals rfl
 ·refine (rdxv G K q n n).trans ?_;rw [vYY (show ¬ (n:Int) < (n:Int) by omega)];rfl
noncomputable def yWX (q:Nat→Z3) (n:Nat):List (List Nat × yU):=[([0,1,0,1,1],sumF (fun _:Unit=>(hxv q n 0)) (fun _=>()) (fun _ K=>(bif (decide (n≤50)) then (bif (allN (fun i:Nat=>true) n 0) then (K (.exit 0) ⟨[],[]⟩) else (K .ret ⟨[(4,.v (.b false))],[]⟩)) else none)))]
set_option maxRecDepth 100000 in
theorem jHJ (q:Nat→Z3) (n:Nat):kH Tf (orxv q n) (qZ (yWX q n)) 100 93 [.lf n (fZ q),.lf n (fZ q)] =
 (bif (!decide ((n:Int)=(n:Int))) then some (.v (.b false),[])
 else (bif (gSt (hxv q n 0) (hxv q n 0)) then (bif (decide (n≤50)) then (bif (allN (fun i:Nat=>true) n 0) then some (.v (.b true),[])
 else some (.v (.b false),[]))
 else none)
 else none)):=by kernel_rfl
theorem yHH (q:Nat→Z3) (n:Nat) (hn:n≤50):qH Tryz.prog 93 [.lf n (fZ q),.lf n (fZ q)] (.v (.b true)):=by
 refine qX (N:=100) (LO:=qZ (yWX q n)) yG qG (yH (l:=[]) (m:=[]) trivial trivial) (fun p S hp => ?_) ?_
 ·refine qK (L:=qQ Tf 93) (l:=(yWX q n)) (show AllP _ (yWX q n) from ⟨?_,trivial⟩) p S hp
  ·dsimp only;refine yQ (T:=Tf) (o:=(orxv q n)) (f:=93) (LO:=qZ []) (p:=[0,1,0,1,1]) yV ?_;intro t K r hr;obtain ⟨hg,hr⟩:=qY hr;have hn:=vYK hg;exact (lpxv K q n hn).trans hr
 ·refine (jHJ q n).trans ?_;rw [vYJ (show (n:Int)=(n:Int) from rfl),zQ,vYJ hn,zJD];rfl
def cxv:Nat × (Nat→Z3)→Prop:=fun t=>match t with | (n,_)=>n≤50
def exv:Nat × (Nat→Z3)→List PV:=fun t=>match t with | (n,q)=>[.lf n (fZ q),.lf n (fZ q)]
noncomputable def rxv:Nat × (Nat→Z3)→Ret:=fun t=>match t with | (_,_)=>.v (.b true)
def dxv:List PV→Nat × (Nat→Z3):=fun ps=>match ps with
 | [.lf n f,_]=>(n,unFZ f)
 | _=>(0,fun _=>⟨0,0,0⟩)
noncomputable def o_xv:List PV→Option (Bool × Ret):=o_fm dxv cxv exv rxv
theorem kZQ:jG Tryz.prog 93 o_xv:=qQU fun t h=>by
 obtain ⟨n,q⟩:=t;exact yHH q n h
noncomputable def kQH (_:Nat→J) (_:Nat→Ms) (n m:Nat):OrS:=orS [(90,o_xj),(91,o_xm)] []
noncomputable def yWC (_:Nat→J) (_:Nat→Ms) (n m:Nat):List (List Nat × yU):=[]
set_option maxRecDepth 100000 in
theorem jHH (js:Nat→J) (ms:Nat→Ms) (n m:Nat):kH Tf (kQH js ms n m) (qZ (yWC js ms n m)) 60 38 [.a [.lf n (fJ js),.lf m (fM ms)],.a [.lf n (fJ js),.lf m (fM ms)]] =
 (bif (gF1 cxj exj (n,js)) then (bif (gF1 cxm exm (m,ms)) then some (.v (.b true),[])
 else none)
 else none):=by kernel_rfl
theorem zHL (js:Nat→J) (ms:Nat→Ms) (n m:Nat) (hn:n≤50) (hm:m≤50):qH Tryz.prog 38 [.a [.lf n (fJ js),.lf m (fM ms)],.a [.lf n (fJ js),.lf m (fM ms)]] (.v (.b true)):=by
 refine qX (N:=60) (LO:=qZ (yWC js ms n m)) yG qG (yH (l:=[(90,o_xj),(91,o_xm)]) (m:=[]) ⟨kZJ,kZZ,trivial⟩ trivial) (fun p S hp => ?_) ?_
 ·refine qK (L:=qQ Tf 38) (l:=(yWC js ms n m)) (show AllP _ (yWC js ms n m) from trivial) p S hp
 ·refine (jHH js ms n m).trans ?_;rw [jH (C:=cxj) (t:=(n,js)) hn,jH (C:=cxm) (t:=(m,ms)) hm];rfl
def csr:(Nat→J) × (Nat→Ms) × Nat × Nat→Prop:=fun t=>match t with | (_,_,n,m)=>n≤50∧m≤50
def esr:(Nat→J) × (Nat→Ms) × Nat × Nat→List PV:=fun t=>match t with | (js,ms,n,m)=>[.a [.lf n (fJ js),.lf m (fM ms)],.a [.lf n (fJ js),.lf m (fM ms)]]
noncomputable def rsr:(Nat→J) × (Nat→Ms) × Nat × Nat→Ret:=fun t=>match t with | (_,_,_,_)=>.v (.b true)
def dsr:List PV→(Nat→J) × (Nat→Ms) × Nat × Nat:=fun ps=>match ps with
 | [.a [.lf n js,.lf m ms],_]=>(unFJ js,unFM ms,n,m)
 | _=>(fun _=>⟨ByteArray.empty,0,0,⟨0,0,0⟩,0,0,0,0,0,0⟩,fun _=>⟨0,0,⟨0,0,0⟩⟩,0,0)
noncomputable def o_sr:List PV→Option (Bool × Ret):=o_fm dsr csr esr rsr
theorem kZU:jG Tryz.prog 38 o_sr:=qQU fun t h=>by
 obtain ⟨js,ms,n,m⟩:=t;exact zHL js ms n m h.1 h.2
noncomputable def orEa (_:Nat→J) (_:Nat→Ms) (_:Nat→Shp) (_:Nat→Skp) (n m c d:Nat):OrS:=orS [(38,o_sr),(92,o_xk),(93,o_xv)] []
noncomputable def hEa (js:Nat→J) (ms:Nat→Ms) (sh:Nat→Shp) (sk:Nat→Skp) (n m c d:Nat) (i:Int):St:=⟨[(2,.p 2 0),(3,.p 3 0),(5,.v (.n .i64 i))],[(2,.blk [.v (.lf n (fJ js)),.v (.lf m (fM ms)),.v (.lf c (fS sh)),.v (.lf d (fK sk))]),(3,.blk [.v (.lf n (fJ js)),.v (.lf m (fM ms)),.v (.lf c (fS sh)),.v (.lf d (fK sk))])]⟩
set_option maxRecDepth 100000 in
theorem rdEa (G:St→Option (Ret × Mem)) (K:Cont) (js:Nat→J) (ms:Nat→Ms) (sh:Nat→Shp) (sk:Nat→Skp) (n m c d:Nat) (i:Int):yJ 60 (cxS Tf (orEa js ms sh sk n m c d) 60 39 (ntmF Tf 39)) (evX Tf (orEa js ms sh sk n m c d) 60 39 (ntmF Tf 39)) (qZ []) (qQ Tf 39 [0,1,0,1,1]) [0,1,0,1,1] (Tf.hint 39 (qJ (qQ Tf 39 [0,1,0,1,1]))) K G (hEa js ms sh sk n m c d i) =
 (bif (decide (i < (c:Int))) then (bif (inB i c) then (bif (inB i c) then (bif (!decide ((sh (i).toNat).link=(sh (i).toNat).link)) then (K .ret ⟨[(4,.v (.b false))],[]⟩)
 else (bif (!decide ((sh (i).toNat).rad=(sh (i).toNat).rad)) then (K .ret ⟨[(4,.v (.b false))],[]⟩)
 else (bif (gF1 cxv exv (((sh (i).toNat).np),((sh (i).toNat).pts))) then (G (hEa js ms sh sk n m c d (vYX .i64 (i + 1))))
 else none)))
 else none)
 else none)
 else (K (.exit 0) ⟨[],[]⟩)):=by kernel_rfl
theorem lpEa (K:Cont) (js:Nat→J) (ms:Nat→Ms) (sh:Nat→Shp) (sk:Nat→Skp) (n m c d:Nat) (_:c≤50) (hg:∀ i,i < c→(sh i).np≤50):LFX 60 (cxS Tf (orEa js ms sh sk n m c d) 60 39 (ntmF Tf 39)) (evX Tf (orEa js ms sh sk n m c d) 60 39 (ntmF Tf 39)) (qZ []) (qQ Tf 39 [0,1,0,1,1]) [0,1,0,1,1] (Tf.hint 39 (qJ (qQ Tf 39 [0,1,0,1,1]))) K 60 (hEa js ms sh sk n m c d 0)=bif (allN (fun i:Nat=>true) c 0) then (K (.exit 0) ⟨[],[]⟩) else (K .ret ⟨[(4,.v (.b false))],[]⟩):=by
 refine (jJ (L:=LFX 60 (cxS Tf (orEa js ms sh sk n m c d) 60 39 (ntmF Tf 39)) (evX Tf (orEa js ms sh sk n m c d) 60 39 (ntmF Tf 39)) (qZ []) (qQ Tf 39 [0,1,0,1,1]) [0,1,0,1,1] (Tf.hint 39 (qJ (qQ Tf 39 [0,1,0,1,1]))) K) (stp:=yJ 60 (cxS Tf (orEa js ms sh sk n m c d) 60 39 (ntmF Tf 39)) (evX Tf (orEa js ms sh sk n m c d) 60 39 (ntmF Tf 39)) (qZ []) (qQ Tf 39 [0,1,0,1,1]) [0,1,0,1,1] (Tf.hint 39 (qJ (qQ Tf 39 [0,1,0,1,1]))) K) (fun _ _=>rfl) (fun (i:Nat) (_:Unit)=>hEa js ms sh sk n m c d (i:Int)) (fun _ _=>True) (fun (i:Nat) _=>true) (fun _ _=>()) (c:=c) (fun _=>(K (.exit 0) ⟨[],[]⟩)) (fun i _=>(K .ret ⟨[(4,.v (.b false))],[]⟩)) (fun G i f hi _ => ?_) (fun _ _ _ _ _=>trivial) (fun G f _ => ?_) c 0 60 () (by omega) (by omega) trivial).trans ((zG _ _ _ _ _).trans (yZ _ _ _ _ _))
 ·refine (rdEa G K js ms sh sk n m c d i).trans ?_;rw [vYJ (show (i:Int) < (c:Int) by omega),jZ (by omega),zJ (show i < c by omega),toN,jH (C:=cxv) (t:=((sh i).np,(sh i).pts)) (hg i hi)];simp only [eq_self,decide_true,Bool.not_true,vYQ,vYZ]
  all_goals rfl
 ·refine (rdEa G K js ms sh sk n m c d c).trans ?_;rw [vYY (show ¬ (c:Int) < (c:Int) by omega)];rfl
noncomputable def yWB (js:Nat→J) (ms:Nat→Ms) (sh:Nat→Shp) (sk:Nat→Skp) (n m c d:Nat):List (List Nat × yU):=[([0,1,0,1,1],sumF (fun _:Unit=>(hEa js ms sh sk n m c d 0)) (fun _=>()) (fun _ K=>(bif gP (c≤50∧∀ i,i < c→(sh i).np≤50) then (bif (allN (fun i:Nat=>true) c 0) then (K (.exit 0) ⟨[],[]⟩) else (K .ret ⟨[(4,.v (.b false))],[]⟩)) else none)))]
set_option maxRecDepth 100000 in
theorem jHG (js:Nat→J) (ms:Nat→Ms) (sh:Nat→Shp) (sk:Nat→Skp) (n m c d:Nat):kH Tf (orEa js ms sh sk n m c d) (qZ (yWB js ms sh sk n m c d)) 60 39 [.a [.lf n (fJ js),.lf m (fM ms),.lf c (fS sh),.lf d (fK sk)],.a [.lf n (fJ js),.lf m (fM ms),.lf c (fS sh),.lf d (fK sk)]] =
 (bif (gF1 csr esr (js,ms,n,m)) then (bif (gF1 cxk exk (d,sk)) then (bif (!decide ((c:Int)=(c:Int))) then some (.v (.b false),[])
 else (bif (gSt (hEa js ms sh sk n m c d 0) (hEa js ms sh sk n m c d 0)) then (bif gP (c≤50∧∀ i,i < c→(sh i).np≤50) then (bif (allN (fun i:Nat=>true) c 0) then some (.v (.b true),[])
 else some (.v (.b false),[]))
 else none)
 else none))
 else none)
 else none):=by kernel_rfl
theorem yHF (js:Nat→J) (ms:Nat→Ms) (sh:Nat→Shp) (sk:Nat→Skp) (n m c d:Nat) (hn:n≤50) (hm:m≤50) (hc:c≤50) (hd:d≤70) (hg:∀ i,i < c→(sh i).np≤50):qH Tryz.prog 39 [.a [.lf n (fJ js),.lf m (fM ms),.lf c (fS sh),.lf d (fK sk)],.a [.lf n (fJ js),.lf m (fM ms),.lf c (fS sh),.lf d (fK sk)]] (.v (.b true)):=by
 refine qX (N:=60) (LO:=qZ (yWB js ms sh sk n m c d)) yG qG (yH (l:=[(38,o_sr),(92,o_xk),(93,o_xv)]) (m:=[]) ⟨kZU,kZY,kZQ,trivial⟩ trivial) (fun p S hp => ?_) ?_
 ·refine qK (L:=qQ Tf 39) (l:=(yWB js ms sh sk n m c d)) (show AllP _ (yWB js ms sh sk n m c d) from ⟨?_,trivial⟩) p S hp
  ·dsimp only;refine yQ (T:=Tf) (o:=(orEa js ms sh sk n m c d)) (f:=39) (LO:=qZ []) (p:=[0,1,0,1,1]) yV ?_;intro t K r hr;obtain ⟨hg,hr⟩:=qY hr
   skip
   exact (lpEa K js ms sh sk n m c d (zX hg).1 (zX hg).2).trans hr
 ·refine (jHG js ms sh sk n m c d).trans ?_;rw [jH (C:=csr) (t:=(js,ms,n,m)) ⟨hn,hm⟩,jH (C:=cxk) (t:=(d,sk)) hd,vYJ (show (c:Int)=(c:Int) from rfl),zQ,qYH (show c≤50∧∀ i,i < c→(sh i).np≤50 from ⟨hc,hg⟩),zJD];rfl
end Go.Proofs.YtmeldddgjfocdaaGreat.Hk
namespace Go.Proofs.YtmeldddgjfocdaaGreat.Sn
open Go.Rx Rt Go.Sx Go.RowKit Od Nb
noncomputable def kQA (x k:Int):OrS:=orS [] []
noncomputable def yWF (x k:Int):List (List Nat × yU):=[]
set_option maxRecDepth 100000 in
theorem jHC (x k:Int):kH Tf (kQA x k) (qZ (yWF x k)) 60 23 [.n .i64 x,.n .i64 k] =
 (bif (decide (k=0)) then none
 else (bif (decide ((x.tmod k) < 0)) then some (.v (.n .i64 (vYX .i64 ((x.tmod k) + k))),[])
 else some (.v (.n .i64 (x.tmod k)),[]))):=by kernel_rfl
theorem jQY (x k:Int) (hk:0 < k∧k≤9223372036854775807):qH Tryz.prog 23 [.n .i64 x,.n .i64 k] (.v (.n .i64 (x % k))):=by
 refine qX (N:=60) (LO:=qZ (yWF x k)) yG qG (yH (l:=[]) (m:=[]) trivial trivial) (fun p S hp => ?_) ?_
 ·refine qK (L:=qQ Tf 23) (l:=(yWF x k)) (show AllP _ (yWF x k) from trivial) p S hp
 ·refine (jHC x k).trans ?_;have hk0:k ≠ 0:=by omega
  have h1:=Int.emod_nonneg x hk0;have h2:=Int.emod_lt_of_pos x hk.1;rw [vYY (show ¬ k=0 by omega),Int.tmod_eq_emod];by_cases h:0≤x ∨ k ∣ x
  ·rw [if_pos h,show ((0:Nat):Int)=0 from rfl,Int.sub_zero,vYY (show ¬ x % k < 0 by omega)];rfl
  ·rw [if_neg h,show ((k.natAbs:Nat):Int)=k by omega,vYJ (show x % k - k < 0 by omega),show vYX .i64 (x % k - k + k)=x % k from by rw [show x % k - k + k=x % k by omega]; exact zU (by omega)];rfl
def crn:Int × Int→Prop:=fun t=>match t with | (_,k)=>0 < k∧k≤9223372036854775807
def ern:Int × Int→List PV:=fun t=>match t with | (x,k)=>[.n .i64 x,.n .i64 k]
noncomputable def rrn:Int × Int→Ret:=fun t=>match t with | (x,k)=>.v (.n .i64 (x % k))
def drn:List PV→Int × Int:=fun ps=>match ps with
 | [.n _ x,.n _ k]=>(x,k)
 | _=>(0,0)
noncomputable def o_rn:List PV→Option (Bool × Ret):=o_fm drn crn ern rrn
theorem jJY:jG Tryz.prog 23 o_rn:=qQU fun t h=>by
 obtain ⟨x,k⟩:=t;exact jQY x k h
noncomputable def ornx (w m:Nat) (e:Nat→Int) (k:Int):OrS:=orS [(23,o_rn)] []
noncomputable def lsnx (w m:Nat) (e:Nat→Int) (k:Int):List (List Nat × yU):=[]
set_option maxRecDepth 100000 in
theorem pxnx (w m:Nat) (e:Nat→Int) (k:Int):jUA Tf (ornx w m e k) (qZ (lsnx w m e k)) 60 43 [.p 1000000 0,.v (.n .i64 k)] [.lf w (fQ e),.n .i64 (m:Int)] =
 (bif (decide ((w:Int)≤(m:Int))) then some (.v (.t [.n .i64 0,.lf w (fQ e),.n .i64 (m:Int)]),[])
 else (bif (inB (vYX .i64 ((vYX .i64 ((m:Int) + 1)) - 1)) w) then (bif (gF1 crn ern ((e ((vYX .i64 ((vYX .i64 ((m:Int) + 1)) - 1))).toNat),k)) then some (.v (.t [.n .i64 ((e ((vYX .i64 ((vYX .i64 ((m:Int) + 1)) - 1))).toNat) % k),.lf w (fQ e),.n .i64 (vYX .i64 ((m:Int) + 1))]),[])
 else none)
 else none)):=by kernel_rfl
theorem jUQ (w m:Nat) (e:Nat→Int) (k:Int) (_:m≤w) (_:w≤9223372036854775807) (hk:0 < k∧k≤9223372036854775807):zJF Tryz.prog 43 [.p 1000000 0,.v (.n .i64 k)] [.lf w (fQ e),.n .i64 (m:Int)] (.n .i64 (nxV e w m k)) ([.lf w (fQ e),.n .i64 ((min (m + 1) w:Nat):Int)]):=by
 refine zKG (N:=60) (LO:=qZ (lsnx w m e k)) yG qG (yH (l:=[(23,o_rn)]) (m:=[]) ⟨jJY,trivial⟩ trivial) (fun p S hp => ?_) ?_
 ·refine qK (L:=qQ Tf 43) (l:=(lsnx w m e k)) (show AllP _ (lsnx w m e k) from trivial) p S hp
 ·refine (pxnx w m e k).trans ?_;unfold nxV eW;by_cases h:m < w
  ·have h1:vYX .i64 ((m:Int) + 1)=(m:Int) + 1:=zU (by omega);have h2:vYX .i64 ((m:Int) + 1 - 1)=((m:Nat):Int):=by rw [zU (by omega)]; omega
   rw [vYY (show ¬ (w:Int)≤(m:Int) by omega),h1,h2,zJ h,toN,jH (C:=crn) (t:=(_,k)) hk,show Nat.blt m w=true from by rw [Nat.blt_eq]; exact h,show min (m + 1) w=m + 1 by omega];rfl
  ·rw [vYJ (show (w:Int)≤(m:Int) by omega),show Nat.blt m w=false from by rw [Bool.eq_false_iff,ne_eq,Nat.blt_eq]; exact h,show min (m + 1) w=m by omega]
   simp
def cnx:Nat × Nat × (Nat→Int) × Int→Prop:=fun t=>match t with | (w,m,_,k)=>m≤w∧w≤9223372036854775807∧0 < k∧k≤9223372036854775807
def hnx:Nat × Nat × (Nat→Int) × Int→List HV:=fun t=>match t with | (_,_,_,k)=>[.p pid 0,.v (.n .i64 k)]
def enx:Nat × Nat × (Nat→Int) × Int→List PV:=fun t=>match t with | (w,m,e,_)=>[.lf w (fQ e),.n .i64 (m:Int)]
noncomputable def xnx:Nat × Nat × (Nat→Int) × Int→PV:=fun t=>match t with | (w,m,e,k)=>.n .i64 (nxV e w m k)
noncomputable def qnx:Nat × Nat × (Nat→Int) × Int→List PV:=fun t=>match t with | (w,m,e,_)=>[.lf w (fQ e),.n .i64 ((min (m + 1) w:Nat):Int)]
def dnx:List HV→List PV→Nat × Nat × (Nat→Int) × Int:=fun hs ps=>match hs,ps with
 | [_,.v (.n _ k)],[.lf w f,.n _ c]=>(w,c.toNat,unFQ f,k)
 | _,_=>(0,0,fun _=>0,0)
noncomputable def o_nx:List HV→List PV→Option (Bool × (PV × List PV)):=o_fb dnx cnx hnx enx xnx qnx
theorem jJK:yJA Tryz.prog 43 o_nx:=kZI fun t h=>by
 obtain ⟨w,m,e,k⟩:=t;exact jUQ w m e k h.1 h.2.1 h.2.2
def abcB:ByteArray:=ByteArray.mk #[97,98,99,100,101,102,103,104,105,106]
def ltrI (i:Int):ByteArray:=abcB.extract i.toNat (vYX .i64 (i + 1)).toNat
end Go.Proofs.YtmeldddgjfocdaaGreat.Sn

/- Part 19 of the texts behind the last one: rules and contracts. No condition. -/
import Derived.Test.YtgmbkkkbfbocnaaGreatGM18
open Bool renaming and_eq_true → vQJ, and_self → vZJ, true_and → vZH
open Go.IntKind renaming wrap → vJJ
namespace Go.Proofs.YtgmbkkkbfbocnaaGreat.Hf
open Go.Rx Rt Go.Sx Go.RowKit Od Na Nb Nc Nx Nf Nl Nm Ga Gb Gc Gd Ge Gf Gg Ha Hb Hc Hd He
theorem bz {c:Bool} {x y:Int} (h:(bif c then x else y)=0) (hx:x ≠ 0):c=false∧y=0:=by
 cases c with
 | true=>exact absurd h hx
 | false=>exact ⟨rfl,h⟩
theorem cj_lim {i:Int} {j:J} (h:cjT (fun e=>e) i j=0) : -4194304≤j.lo∧j.lo≤j.hi∧j.hi≤4194304:=by
 unfold cjT at h
 iterate 10 obtain ⟨_,h⟩:=bz h (by decide)
 by_cases k0:j.kind=0
 ·rw [vJQ k0,vYV] at h;obtain ⟨a,h⟩:=bz h (by decide);obtain ⟨b,h⟩:=bz h (by decide);obtain ⟨c,h⟩:=bz h (by decide);have a:=vJY a;have b:=vJY b;have c:=vJY c;omega
 rw [vYH k0,vYG] at h;by_cases k1:j.kind=1
 ·rw [vJQ k1,vYV] at h;obtain ⟨a,h⟩:=bz h (by decide);obtain ⟨b,h⟩:=bz h (by decide);obtain ⟨c,h⟩:=bz h (by decide);have a:=vJY a;have b:=vJY b;have c:=vJY c;omega
 rw [vYH k1,vYG] at h;by_cases k2:j.kind=2
 ·rw [vJQ k2,vYV] at h;obtain ⟨a,h⟩:=bz h (by decide);obtain ⟨b,h⟩:=bz h (by decide);obtain ⟨c,h⟩:=bz h (by decide);have a:=vJY a;have b:=vJY b;have c:=vJY c;omega
 rw [vYH k2,vYG] at h;by_cases k3:j.kind=3
 ·rw [vJQ k3,vYV] at h;obtain ⟨a,h⟩:=bz h (by decide);obtain ⟨b,h⟩:=bz h (by decide);obtain ⟨c,h⟩:=bz h (by decide);have a:=vJY a;have b:=vJY b;have c:=vJY c;omega
 rw [vYH k3,vYG] at h;obtain ⟨a,h⟩:=bz h (by decide);obtain ⟨b,h⟩:=bz h (by decide);obtain ⟨c,h⟩:=bz h (by decide);have a:=vJY a;have b:=vJY b;have c:=vJY c;omega
theorem rerr_lim {js:Nat→J} {ms:Nat→Ms} {n m:Nat} (h:rErr js ms n m=0):∀ i,i < n → -4194304≤(js i).lo∧(js i).lo≤(js i).hi∧(js i).hi≤4194304:=fun i hi =>
 cj_lim (jerr_cj (kZV (rerr_je h) i (Nat.zero_le _) (by omega)))
theorem sm_of {js:Nat→J} {ms:Nat→Ms} {q:Nat→Int} {n m k:Nat} (h:qIn js ms q n m k=true):rErr js ms n m=0∧n=k∧(1≤n∧n≤10)∧smQ q k=true∧isB (ptB q) n k=true:=by
 obtain ⟨h1,h2,h3⟩:=qIn_spec h;have hn:=zHX h1;have hl:=rerr_lim h1;subst h2;have hq:∀ i,i < n → -4194304≤q i∧q i≤4194304:=fun i hi=>by
  have a:=hl i hi;have b:=h3 i hi;omega
 refine ⟨h1,rfl,hn,allN_iff.2 fun j _ hj => ?_,?_⟩
 ·have:=hq j (by omega)
  rw [vYH (show ¬ q j < -2147483648 by omega),vYH (show ¬ 2147483648 < q j by omega)]; rfl
 ·unfold isB allV;rw [vJQ (show (n:Int)=(n:Int) from rfl),vZH];refine allN_iff.2 fun j _ hj => ?_
  have:=hq j (by omega)
  unfold Iv.valid ptB
  simp
  omega
def cbx:Nat × (Nat→Int)→Prop:=fun t=>match t with | (k,_)=>k≤50
def ebx:Nat × (Nat→Int)→List PV:=fun t=>match t with | (k,q)=>[.lf k (fQ q)]
noncomputable def rbx:Nat × (Nat→Int)→Ret:=fun t=>match t with | (k,q)=>.v (.lf (bif smQ q k then k else 0) (fB (ptB q)))
def dbx:List PV→Nat × (Nat→Int):=fun ps=>match ps with
 | [.lf k f]=>(k,unFQ f)
 | _=>(0,fun _=>0)
noncomputable def o_bx:List PV→Option (Bool × Ret):=o_fm dbx cbx ebx rbx
theorem ok_bx:zJ Tryz.prog 72 o_bx:=qQV fun t h=>by
 obtain ⟨k,q⟩:=t;exact snd_bx q k h
def cry:Nat × (Nat→Int)→Prop:=fun t=>match t with | (k,_)=>k≤50
def ery:Nat × (Nat→Int)→List PV:=fun t=>match t with | (k,q)=>[.lf k (fQ q)]
noncomputable def rry:Nat × (Nat→Int)→Ret:=fun t=>match t with | (k,q)=>.v (.lf (bif smQ q k then k else 0) (fB (ptB q)))
def dry:List PV→Nat × (Nat→Int):=fun ps=>match ps with
 | [.lf k f]=>(k,unFQ f)
 | _=>(0,fun _=>0)
noncomputable def o_ry:List PV→Option (Bool × Ret):=o_fm dry cry ery rry
theorem ok_ry:zJ Tryz.prog 23 o_ry:=qQV fun t h=>by
 obtain ⟨k,q⟩:=t;exact snd_rbx q k h
def unFB (f:Nat→List PV):Nat→Iv:=fun v=>match f v with
 | [.n _ a,.n _ b]=>⟨a,b⟩
 | _=>⟨0,0⟩
def cka:(Nat→J) × (Nat→Ms) × (Nat→Iv) × Nat × Nat × Nat→Prop:=fun t=>match t with | (_,_,_,_,_,k)=>k≤9223372036854775807
def eka:(Nat→J) × (Nat→Ms) × (Nat→Iv) × Nat × Nat × Nat→List PV:=fun t=>match t with | (js,ms,bx,n,m,k)=>[.a [.lf n (fJ js),.lf m (fM ms)],.lf k (fB bx)]
noncomputable def rka:(Nat→J) × (Nat→Ms) × (Nat→Iv) × Nat × Nat × Nat→Ret:=fun t=>match t with | (js,ms,bx,n,m,k)=>.v (.lf (bif decide (rErr js ms n m=0) && isB bx n k then n else 0) (fP (LP js bx n)))
def dka:List PV→(Nat→J) × (Nat→Ms) × (Nat→Iv) × Nat × Nat × Nat:=fun ps=>match ps with
 | [.a [.lf n js,.lf m ms],.lf k f]=>(unFJ js,unFM ms,unFB f,n,m,k)
 | _=>(fun _=>⟨ByteArray.empty,0,0,⟨0,0,0⟩,0,0,0,0,0,0⟩,fun _=>⟨0,0,⟨0,0,0⟩⟩,fun _=>⟨0,0⟩,0,0,0)
noncomputable def o_ka:List PV→Option (Bool × Ret):=o_fm dka cka eka rka
theorem ok_ka:zJ Tryz.prog 38 o_ka:=qQV fun t h=>by
 obtain ⟨js,ms,bx,n,m,k⟩:=t;exact snd_kaT js ms bx n m k h
def crl:(Nat→J) × (Nat→Ms) × (Nat→Iv) × Nat × Nat × Nat→Prop:=fun t=>match t with | (_,_,_,_,_,_)=>True
def erl:(Nat→J) × (Nat→Ms) × (Nat→Iv) × Nat × Nat × Nat→List PV:=fun t=>match t with | (js,ms,bx,n,m,k)=>[.a [.lf n (fJ js),.lf m (fM ms)],.lf k (fB bx)]
noncomputable def rrl:(Nat→J) × (Nat→Ms) × (Nat→Iv) × Nat × Nat × Nat→Ret:=fun t=>match t with | (js,ms,bx,n,m,k)=>.v (.lf (bif decide (rErr js ms n m=0) && isB bx n k then n else 0) (fP (LP js bx n)))
def drl:List PV→(Nat→J) × (Nat→Ms) × (Nat→Iv) × Nat × Nat × Nat:=fun ps=>match ps with
 | [.a [.lf n js,.lf m ms],.lf k f]=>(unFJ js,unFM ms,unFB f,n,m,k)
 | _=>(fun _=>⟨ByteArray.empty,0,0,⟨0,0,0⟩,0,0,0,0,0,0⟩,fun _=>⟨0,0,⟨0,0,0⟩⟩,fun _=>⟨0,0⟩,0,0,0)
noncomputable def o_rl:List PV→Option (Bool × Ret):=o_fm drl crl erl rrl
theorem ok_rl:zJ Tryz.prog 22 o_rl:=qQV fun t h=>by
 obtain ⟨js,ms,bx,n,m,k⟩:=t;exact snd_rlT js ms bx n m k
def atC (s:Int) (off to:Z3) (po:Po):Bool:=(!(decide (po.r.x.x.lo < (vJJ .i64 (65536 - s)))) && (!(decide (po.r.x.y.lo < (vJJ .i64 (0 - s)))) && (!(decide (s < po.r.x.y.hi)) && (!(decide (po.r.x.z.lo < (vJJ .i64 (0 - s)))) && (!(decide (s < po.r.x.z.hi)) && (!(decide (po.r.y.x.lo < (vJJ .i64 (0 - s)))) && (!(decide (s < po.r.y.x.hi)) && (!(decide (po.r.y.y.lo < (vJJ .i64 (65536 - s)))) && (!(decide (po.r.y.z.lo < (vJJ .i64 (0 - s)))) && (!(decide (s < po.r.y.z.hi)) && (!(decide (po.r.z.x.lo < (vJJ .i64 (0 - s)))) && (!(decide (s < po.r.z.x.hi)) && (!(decide (po.r.z.y.lo < (vJJ .i64 (0 - s)))) && (!(decide (s < po.r.z.y.hi)) && (!(decide (po.r.z.z.lo < (vJJ .i64 (65536 - s)))) && (!(decide ((Po.app po (V3.of off)).x.lo < (vJJ .i64 (to.x - s)))) && (!(decide ((vJJ .i64 (to.x + s)) < (Po.app po (V3.of off)).x.hi)) && (!(decide ((Po.app po (V3.of off)).y.lo < (vJJ .i64 (to.y - s)))) && (!(decide ((vJJ .i64 (to.y + s)) < (Po.app po (V3.of off)).y.hi)) && (!(decide ((Po.app po (V3.of off)).z.lo < (vJJ .i64 (to.z - s)))) && (!(decide ((vJJ .i64 (to.z + s)) < (Po.app po (V3.of off)).z.hi)) && true)))))))))))))))))))))
def atB (ws:Wsp) (a b:Int) (k:Nat) (q:Nat→Int):Bool:=decide (wErr ws=0) && (knB ws a b && (qIn ws.js ws.ms q ws.n ws.m k && atC ws.slack (ws.hd a.toNat).off (ws.pl b.toNat) (LP ws.js (ptB q) ws.n (ws.hd a.toNat).link.toNat)))
theorem bfT (c y:Bool):(bif c then some (Ret.v (.b false),([]:Mem)) else some (Ret.v (.b y),([]:Mem)))=some (Ret.v (.b (!c && y)),([]:Mem)):=by cases c <;> rfl
theorem yXU {i:Int} {n:Nat} (h:0≤i∧i < (n:Int)):inB i n=true:=by
 unfold inB;rw [vJQ h.1,vJQ (show i.toNat < n by omega)]; rfl
theorem knB_spec {ws:Wsp} {a b:Int} (h:knB ws a b=true):(0≤a∧a < (ws.nh:Int))∧(0≤b∧b < (ws.np:Int)):=by
 unfold knB at h;simp only [vQJ,decide_eq_true_eq] at h;omega
theorem hand_ok {ws:Wsp} (h:wErr ws=0) {i:Nat} (_:i < ws.nh):0≤(ws.hd i).link∧(ws.hd i).link < (ws.n:Int):=by
 have h2:=(wE_spec h).2.1;unfold fiB at h2;simp only [vQJ] at h2;have h3:=allN_iff.1 h2.2.2.1 i (Nat.zero_le _) (by omega);unfold hdOk at h3;simp only [vQJ,Bool.not_eq_true',decide_eq_false_iff_not] at h3;omega
noncomputable def oratp (_:Wsp) (a b:Int) (k:Nat) (q:Nat→Int):OrS:=orS ((16,o_gk) :: (70,o_kn) :: (71,o_in) :: (72,o_bx) :: (38,o_ka) :: L9) []
noncomputable def kWZ (_:Wsp) (a b:Int) (k:Nat) (q:Nat→Int):List (List Nat × jK):=[]
set_option maxRecDepth 100000 in
theorem pxatp (ws:Wsp) (a b:Int) (k:Nat) (q:Nat→Int):qQU Tf (oratp ws a b k q) (qZ (kWZ ws a b k q)) 60 24 [.a (wP ws),.n .i64 a,.n .i64 b,.lf k (fQ q)] =
 (bif (gF1 cgk egk ws) then (bif (!decide ((wErr ws)=0)) then some (.v (.b false),[])
 else (bif (gF1 ckn ekn (ws,a,b)) then (bif (knB ws a b) then (bif (gF1 cin ein (ws.js,ws.ms,ws.n,ws.m,k,q)) then (bif (qIn ws.js ws.ms q ws.n ws.m k) then (bif (inB a ws.nh) then (bif (gF1 cbx ebx (k,q)) then (bif (gF1 cka eka (ws.js,ws.ms,(ptB q),ws.n,ws.m,(bif smQ q k then k else 0))) then (bif (inB (ws.hd (a).toNat).link (bif decide (rErr ws.js ws.ms ws.n ws.m=0) && isB (ptB q) ws.n (bif smQ q k then k else 0) then ws.n else 0)) then (bif (decide ((LP ws.js (ptB q) ws.n ((ws.hd (a).toNat).link).toNat).r.x.x.lo < (vJJ .i64 (65536 - ws.slack)))) then some (.v (.b false),[])
 else (bif (decide ((LP ws.js (ptB q) ws.n ((ws.hd (a).toNat).link).toNat).r.x.y.lo < (vJJ .i64 (0 - ws.slack)))) then some (.v (.b false),[])
 else (bif (decide (ws.slack < (LP ws.js (ptB q) ws.n ((ws.hd (a).toNat).link).toNat).r.x.y.hi)) then some (.v (.b false),[])
 else (bif (decide ((LP ws.js (ptB q) ws.n ((ws.hd (a).toNat).link).toNat).r.x.z.lo < (vJJ .i64 (0 - ws.slack)))) then some (.v (.b false),[])
 else (bif (decide (ws.slack < (LP ws.js (ptB q) ws.n ((ws.hd (a).toNat).link).toNat).r.x.z.hi)) then some (.v (.b false),[])
 else (bif (decide ((LP ws.js (ptB q) ws.n ((ws.hd (a).toNat).link).toNat).r.y.x.lo < (vJJ .i64 (0 - ws.slack)))) then some (.v (.b false),[])
 else (bif (decide (ws.slack < (LP ws.js (ptB q) ws.n ((ws.hd (a).toNat).link).toNat).r.y.x.hi)) then some (.v (.b false),[])
 else (bif (decide ((LP ws.js (ptB q) ws.n ((ws.hd (a).toNat).link).toNat).r.y.y.lo < (vJJ .i64 (65536 - ws.slack)))) then some (.v (.b false),[])
 else (bif (decide ((LP ws.js (ptB q) ws.n ((ws.hd (a).toNat).link).toNat).r.y.z.lo < (vJJ .i64 (0 - ws.slack)))) then some (.v (.b false),[])
 else (bif (decide (ws.slack < (LP ws.js (ptB q) ws.n ((ws.hd (a).toNat).link).toNat).r.y.z.hi)) then some (.v (.b false),[])
 else (bif (decide ((LP ws.js (ptB q) ws.n ((ws.hd (a).toNat).link).toNat).r.z.x.lo < (vJJ .i64 (0 - ws.slack)))) then some (.v (.b false),[])
 else (bif (decide (ws.slack < (LP ws.js (ptB q) ws.n ((ws.hd (a).toNat).link).toNat).r.z.x.hi)) then some (.v (.b false),[])
 else (bif (decide ((LP ws.js (ptB q) ws.n ((ws.hd (a).toNat).link).toNat).r.z.y.lo < (vJJ .i64 (0 - ws.slack)))) then some (.v (.b false),[])
 else (bif (decide (ws.slack < (LP ws.js (ptB q) ws.n ((ws.hd (a).toNat).link).toNat).r.z.y.hi)) then some (.v (.b false),[])
 else (bif (decide ((LP ws.js (ptB q) ws.n ((ws.hd (a).toNat).link).toNat).r.z.z.lo < (vJJ .i64 (65536 - ws.slack)))) then some (.v (.b false),[])
 else (bif (inB b ws.np) then (bif (decide ((Po.app (LP ws.js (ptB q) ws.n ((ws.hd (a).toNat).link).toNat) (V3.of (ws.hd (a).toNat).off)).x.lo < (vJJ .i64 ((ws.pl (b).toNat).x - ws.slack)))) then some (.v (.b false),[])
 else (bif (decide ((vJJ .i64 ((ws.pl (b).toNat).x + ws.slack)) < (Po.app (LP ws.js (ptB q) ws.n ((ws.hd (a).toNat).link).toNat) (V3.of (ws.hd (a).toNat).off)).x.hi)) then some (.v (.b false),[])
 else (bif (decide ((Po.app (LP ws.js (ptB q) ws.n ((ws.hd (a).toNat).link).toNat) (V3.of (ws.hd (a).toNat).off)).y.lo < (vJJ .i64 ((ws.pl (b).toNat).y - ws.slack)))) then some (.v (.b false),[])
 else (bif (decide ((vJJ .i64 ((ws.pl (b).toNat).y + ws.slack)) < (Po.app (LP ws.js (ptB q) ws.n ((ws.hd (a).toNat).link).toNat) (V3.of (ws.hd (a).toNat).off)).y.hi)) then some (.v (.b false),[])
 else (bif (decide ((Po.app (LP ws.js (ptB q) ws.n ((ws.hd (a).toNat).link).toNat) (V3.of (ws.hd (a).toNat).off)).z.lo < (vJJ .i64 ((ws.pl (b).toNat).z - ws.slack)))) then some (.v (.b false),[])
 else (bif (decide ((vJJ .i64 ((ws.pl (b).toNat).z + ws.slack)) < (Po.app (LP ws.js (ptB q) ws.n ((ws.hd (a).toNat).link).toNat) (V3.of (ws.hd (a).toNat).off)).z.hi)) then some (.v (.b false),[])
 else some (.v (.b true),[])))))))
 else none))))))))))))))))
 else none)
 else none)
 else none)
 else none)
 else some (.v (.b false),[]))
 else none)
 else some (.v (.b false),[]))
 else none))
 else none):=by kernel_rfl
theorem snd_atp (ws:Wsp) (a b:Int) (k:Nat) (q:Nat→Int) (ho:okW ws):yK Tryz.prog 24 [.a (wP ws),.n .i64 a,.n .i64 b,.lf k (fQ q)] (.v (.b (atB ws a b k q))):=by
 refine zW (N:=60) (LO:=qZ (kWZ ws a b k q)) jH zG (kY (l:=((16,o_gk) :: (70,o_kn) :: (71,o_in) :: (72,o_bx) :: (38,o_ka) :: L9)) (m:=[]) ⟨ok_gk,ok_kn,ok_in,ok_bx,ok_ka,kVQ⟩ trivial) (fun p S hp => ?_) ?_
 ·refine zU (L:=qQ Tf 24) (l:=(kWZ ws a b k q)) (show AllP _ (kWZ ws a b k q) from trivial) p S hp
 ·refine (pxatp ws a b k q).trans ?_;unfold atB;rw [jU (C:=cgk) (t:=ws) ho];by_cases h0:wErr ws=0
  ·rw [vJQ h0,jU (C:=ckn) (t:=(ws,a,b)) trivial];cases hk:knB ws a b with
   | false=>rfl
   | true =>
    obtain ⟨k1,k2⟩:=knB_spec hk;rw [jU (C:=cin) (t:=(ws.js,ws.ms,ws.n,ws.m,k,q)) trivial];cases hq:qIn ws.js ws.ms q ws.n ws.m k with
    | false=>rfl
    | true =>
     obtain ⟨h1,h2,h3,h4,h5⟩:=sm_of hq;have hl:=yXU (hand_ok h0 (i:=a.toNat) (by omega));simp only [yXU k1,yXU k2,jU (C:=cbx) (t:=(k,q)) (show k≤50 by omega),h4,vYV,jU (C:=cka) (t:=(ws.js,ws.ms,ptB q,ws.n,ws.m,k)) (show k≤9223372036854775807 by omega),h5,vJQ h1,vZJ,hl,Bool.not_true,vYG,bfT];rfl
  ·rw [vYH h0]; rfl
theorem atC_ref (s:Int) (off to:Z3) (po:Po):(!(decide (po.r.x.x.lo < (vJJ .i64 (65536 - s)))) && (!(decide (po.r.x.y.lo < (vJJ .i64 (0 - s)))) && (!(decide (s < po.r.x.y.hi)) && (!(decide (po.r.x.z.lo < (vJJ .i64 (0 - s)))) && (!(decide (s < po.r.x.z.hi)) && (!(decide ((Po.app po (V3.of off)).x.lo < (vJJ .i64 (to.x - s)))) && (!(decide ((vJJ .i64 (to.x + s)) < (Po.app po (V3.of off)).x.hi)) && (!(decide (po.r.y.x.lo < (vJJ .i64 (0 - s)))) && (!(decide (s < po.r.y.x.hi)) && (!(decide (po.r.y.y.lo < (vJJ .i64 (65536 - s)))) && (!(decide (po.r.y.z.lo < (vJJ .i64 (0 - s)))) && (!(decide (s < po.r.y.z.hi)) && (!(decide ((Po.app po (V3.of off)).y.lo < (vJJ .i64 (to.y - s)))) && (!(decide ((vJJ .i64 (to.y + s)) < (Po.app po (V3.of off)).y.hi)) && (!(decide (po.r.z.x.lo < (vJJ .i64 (0 - s)))) && (!(decide (s < po.r.z.x.hi)) && (!(decide (po.r.z.y.lo < (vJJ .i64 (0 - s)))) && (!(decide (s < po.r.z.y.hi)) && (!(decide (po.r.z.z.lo < (vJJ .i64 (65536 - s)))) && (!(decide ((Po.app po (V3.of off)).z.lo < (vJJ .i64 (to.z - s)))) && (!(decide ((vJJ .i64 (to.z + s)) < (Po.app po (V3.of off)).z.hi)) && true)))))))))))))))))))))=atC s off to po:=by
 unfold atC;rw [Bool.eq_iff_iff];simp only [vQJ];constructor
 ·rintro ⟨h0,h1,h2,h3,h4,h15,h16,h5,h6,h7,h8,h9,h17,h18,h10,h11,h12,h13,h14,h19,h20,_⟩
  exact ⟨h0,h1,h2,h3,h4,h5,h6,h7,h8,h9,h10,h11,h12,h13,h14,h15,h16,h17,h18,h19,h20,trivial⟩
 ·rintro ⟨h0,h1,h2,h3,h4,h5,h6,h7,h8,h9,h10,h11,h12,h13,h14,h15,h16,h17,h18,h19,h20,_⟩
  exact ⟨h0,h1,h2,h3,h4,h15,h16,h5,h6,h7,h8,h9,h17,h18,h10,h11,h12,h13,h14,h19,h20,trivial⟩
noncomputable def orhat (_:Wsp) (a b:Int) (k:Nat) (q:Nat→Int):OrS:=orS ((17,o_rw) :: (58,o_ri) :: (23,o_ry) :: (22,o_rl) :: L9) []
noncomputable def kXK (_:Wsp) (a b:Int) (k:Nat) (q:Nat→Int):List (List Nat × jK):=[]
set_option maxRecDepth 100000 in
theorem pxhat (ws:Wsp) (a b:Int) (k:Nat) (q:Nat→Int):qQU Tf (orhat ws a b k q) (qZ (kXK ws a b k q)) 60 25 [.a (wP ws),.n .i64 a,.n .i64 b,.lf k (fQ q)] =
 (bif (gF1 crw erw ws) then (bif (!decide ((wErr ws)=0)) then some (.v (.b false),[])
 else (bif (decide (a < 0)) then some (.v (.b false),[])
 else (bif (decide ((ws.nh:Int)≤a)) then some (.v (.b false),[])
 else (bif (decide (b < 0)) then some (.v (.b false),[])
 else (bif (decide ((ws.np:Int)≤b)) then some (.v (.b false),[])
 else (bif (gF1 cri eri (ws.js,ws.ms,ws.n,ws.m,k,q)) then (bif (qIn ws.js ws.ms q ws.n ws.m k) then (bif (inB a ws.nh) then (bif (gF1 cry ery (k,q)) then (bif (gF1 crl erl (ws.js,ws.ms,(ptB q),ws.n,ws.m,(bif smQ q k then k else 0))) then (bif (inB (ws.hd (a).toNat).link (bif decide (rErr ws.js ws.ms ws.n ws.m=0) && isB (ptB q) ws.n (bif smQ q k then k else 0) then ws.n else 0)) then (bif (decide ((LP ws.js (ptB q) ws.n ((ws.hd (a).toNat).link).toNat).r.x.x.lo < (vJJ .i64 (65536 - ws.slack)))) then some (.v (.b false),[])
 else (bif (decide ((LP ws.js (ptB q) ws.n ((ws.hd (a).toNat).link).toNat).r.x.y.lo < (vJJ .i64 (0 - ws.slack)))) then some (.v (.b false),[])
 else (bif (decide (ws.slack < (LP ws.js (ptB q) ws.n ((ws.hd (a).toNat).link).toNat).r.x.y.hi)) then some (.v (.b false),[])
 else (bif (decide ((LP ws.js (ptB q) ws.n ((ws.hd (a).toNat).link).toNat).r.x.z.lo < (vJJ .i64 (0 - ws.slack)))) then some (.v (.b false),[])
 else (bif (decide (ws.slack < (LP ws.js (ptB q) ws.n ((ws.hd (a).toNat).link).toNat).r.x.z.hi)) then some (.v (.b false),[])
 else (bif (inB b ws.np) then (bif (decide ((Po.app (LP ws.js (ptB q) ws.n ((ws.hd (a).toNat).link).toNat) (V3.of (ws.hd (a).toNat).off)).x.lo < (vJJ .i64 ((ws.pl (b).toNat).x - ws.slack)))) then some (.v (.b false),[])
 else (bif (inB b ws.np) then (bif (decide ((vJJ .i64 ((ws.pl (b).toNat).x + ws.slack)) < (Po.app (LP ws.js (ptB q) ws.n ((ws.hd (a).toNat).link).toNat) (V3.of (ws.hd (a).toNat).off)).x.hi)) then some (.v (.b false),[])
 else (bif (decide ((LP ws.js (ptB q) ws.n ((ws.hd (a).toNat).link).toNat).r.y.x.lo < (vJJ .i64 (0 - ws.slack)))) then some (.v (.b false),[])
 else (bif (decide (ws.slack < (LP ws.js (ptB q) ws.n ((ws.hd (a).toNat).link).toNat).r.y.x.hi)) then some (.v (.b false),[])
 else (bif (decide ((LP ws.js (ptB q) ws.n ((ws.hd (a).toNat).link).toNat).r.y.y.lo < (vJJ .i64 (65536 - ws.slack)))) then some (.v (.b false),[])
 else (bif (decide ((LP ws.js (ptB q) ws.n ((ws.hd (a).toNat).link).toNat).r.y.z.lo < (vJJ .i64 (0 - ws.slack)))) then some (.v (.b false),[])
 else (bif (decide (ws.slack < (LP ws.js (ptB q) ws.n ((ws.hd (a).toNat).link).toNat).r.y.z.hi)) then some (.v (.b false),[])
 else (bif (inB b ws.np) then (bif (decide ((Po.app (LP ws.js (ptB q) ws.n ((ws.hd (a).toNat).link).toNat) (V3.of (ws.hd (a).toNat).off)).y.lo < (vJJ .i64 ((ws.pl (b).toNat).y - ws.slack)))) then some (.v (.b false),[])
 else (bif (inB b ws.np) then (bif (decide ((vJJ .i64 ((ws.pl (b).toNat).y + ws.slack)) < (Po.app (LP ws.js (ptB q) ws.n ((ws.hd (a).toNat).link).toNat) (V3.of (ws.hd (a).toNat).off)).y.hi)) then some (.v (.b false),[])
 else (bif (decide ((LP ws.js (ptB q) ws.n ((ws.hd (a).toNat).link).toNat).r.z.x.lo < (vJJ .i64 (0 - ws.slack)))) then some (.v (.b false),[])
 else (bif (decide (ws.slack < (LP ws.js (ptB q) ws.n ((ws.hd (a).toNat).link).toNat).r.z.x.hi)) then some (.v (.b false),[])
 else (bif (decide ((LP ws.js (ptB q) ws.n ((ws.hd (a).toNat).link).toNat).r.z.y.lo < (vJJ .i64 (0 - ws.slack)))) then some (.v (.b false),[])
 else (bif (decide (ws.slack < (LP ws.js (ptB q) ws.n ((ws.hd (a).toNat).link).toNat).r.z.y.hi)) then some (.v (.b false),[])
 else (bif (decide ((LP ws.js (ptB q) ws.n ((ws.hd (a).toNat).link).toNat).r.z.z.lo < (vJJ .i64 (65536 - ws.slack)))) then some (.v (.b false),[])
 else (bif (inB b ws.np) then (bif (decide ((Po.app (LP ws.js (ptB q) ws.n ((ws.hd (a).toNat).link).toNat) (V3.of (ws.hd (a).toNat).off)).z.lo < (vJJ .i64 ((ws.pl (b).toNat).z - ws.slack)))) then some (.v (.b false),[])
 else (bif (inB b ws.np) then (bif (decide ((vJJ .i64 ((ws.pl (b).toNat).z + ws.slack)) < (Po.app (LP ws.js (ptB q) ws.n ((ws.hd (a).toNat).link).toNat) (V3.of (ws.hd (a).toNat).off)).z.hi)) then some (.v (.b false),[])
 else some (.v (.b true),[]))
 else none))
 else none)))))))
 else none))
 else none)))))))
 else none))
 else none))))))
 else none)
 else none)
 else none)
 else none)
 else some (.v (.b false),[]))
 else none))))))
 else none):=by kernel_rfl
theorem snd_hat (ws:Wsp) (a b:Int) (k:Nat) (q:Nat→Int) (ho:okW ws):yK Tryz.prog 25 [.a (wP ws),.n .i64 a,.n .i64 b,.lf k (fQ q)] (.v (.b (atB ws a b k q))):=by
 refine zW (N:=60) (LO:=qZ (kXK ws a b k q)) jH zG (kY (l:=((17,o_rw) :: (58,o_ri) :: (23,o_ry) :: (22,o_rl) :: L9)) (m:=[]) ⟨ok_rw,ok_ri,ok_ry,ok_rl,kVQ⟩ trivial) (fun p S hp => ?_) ?_
 ·refine zU (L:=qQ Tf 25) (l:=(kXK ws a b k q)) (show AllP _ (kXK ws a b k q) from trivial) p S hp
 ·refine (pxhat ws a b k q).trans ?_;unfold atB;rw [jU (C:=crw) (t:=ws) ho];by_cases h0:wErr ws=0
  ·rw [vJQ h0];unfold knB;rw [nle 0 a,nle 0 b,← nlt0 a (ws.nh:Int),← nlt0 b (ws.np:Int)];by_cases ka:a < 0
   ·rw [vJQ ka]; rfl
   by_cases kb:(ws.nh:Int)≤a
   ·rw [vYH ka,vJQ kb]; rfl
   by_cases kc:b < 0
   ·rw [vYH ka,vYH kb,vJQ kc]; rfl
   by_cases kd:(ws.np:Int)≤b
   ·rw [vYH ka,vYH kb,vYH kc,vJQ kd]; rfl
   have k1:0≤a∧a < (ws.nh:Int):=by omega
   have k2:0≤b∧b < (ws.np:Int):=by omega
   rw [vYH ka,vYH kb,vYH kc,vYH kd,jU (C:=cri) (t:=(ws.js,ws.ms,ws.n,ws.m,k,q)) trivial];cases hq:qIn ws.js ws.ms q ws.n ws.m k with
   | false=>rfl
   | true =>
    obtain ⟨h1,h2,h3,h4,h5⟩:=sm_of hq;have hl:=yXU (hand_ok h0 (i:=a.toNat) (by omega));simp only [yXU k1,yXU k2,jU (C:=cry) (t:=(k,q)) (show k≤50 by omega),h4,vYV,jU (C:=crl) (t:=(ws.js,ws.ms,ptB q,ws.n,ws.m,k)) trivial,h5,vJQ h1,vZJ,hl,Bool.not_true,Bool.not_false,vYG,bfT];exact congrArg (fun y=>some (Ret.v (.b y),([]:Mem))) (atC_ref _ _ _ _)
  ·rw [vYH h0]; rfl
def cat:Wsp × Int × Int × Nat × (Nat→Int)→Prop:=fun t=>match t with | (ws,_,_,_,_)=>okW ws
def eat:Wsp × Int × Int × Nat × (Nat→Int)→List PV:=fun t=>match t with | (ws,a,b,k,q)=>[.a (wP ws),.n .i64 a,.n .i64 b,.lf k (fQ q)]
noncomputable def rat:Wsp × Int × Int × Nat × (Nat→Int)→Ret:=fun t=>match t with | (ws,a,b,k,q)=>.v (.b (atB ws a b k q))
def dat:List PV→Wsp × Int × Int × Nat × (Nat→Int):=fun ps=>match ps with
 | [.a r,.n _ a,.n _ b,.lf k f]=>(unW r,a,b,k,unFQ f)
 | _=>(unW [],0,0,0,fun _=>0)
noncomputable def o_at:List PV→Option (Bool × Ret):=o_fm dat cat eat rat
theorem ok_at:zJ Tryz.prog 24 o_at:=qQV fun t h=>by
 obtain ⟨ws,a,b,k,q⟩:=t;exact snd_atp ws a b k q h
def cht:Wsp × Int × Int × Nat × (Nat→Int)→Prop:=fun t=>match t with | (ws,_,_,_,_)=>okW ws
def eht:Wsp × Int × Int × Nat × (Nat→Int)→List PV:=fun t=>match t with | (ws,a,b,k,q)=>[.a (wP ws),.n .i64 a,.n .i64 b,.lf k (fQ q)]
noncomputable def rht:Wsp × Int × Int × Nat × (Nat→Int)→Ret:=fun t=>match t with | (ws,a,b,k,q)=>.v (.b (atB ws a b k q))
def dht:List PV→Wsp × Int × Int × Nat × (Nat→Int):=fun ps=>match ps with
 | [.a r,.n _ a,.n _ b,.lf k f]=>(unW r,a,b,k,unFQ f)
 | _=>(unW [],0,0,0,fun _=>0)
noncomputable def o_ht:List PV→Option (Bool × Ret):=o_fm dht cht eht rht
theorem ok_ht:zJ Tryz.prog 25 o_ht:=qQV fun t h=>by
 obtain ⟨ws,a,b,k,q⟩:=t;exact snd_hat ws a b k q h
end Go.Proofs.YtgmbkkkbfbocnaaGreat.Hf
namespace Go.Proofs.YtgmbkkkbfbocnaaGreat.Hg
open Go.Rx Rt Go.Sx Go.RowKit Od Na Nb Nc Nx Nf Nl Nm Ga Gb Gc Gd Ge Gf Gg Ha Hb Hc Hd He Hf
def mvC (q:Nat→Int) (k:Nat) (x y:Int):Bool:=hasQ q k x && !hasQ q k y
def mvQ (q:Nat→Int) (k:Nat) (x y:Int):Nat→Int:=fun v=>bif Nat.beq v (ixQ q k x).toNat then y else q v
theorem ixB {q:Nat→Int} {k:Nat} {x:Int} (h:hasQ q k x=true):inB (ixQ q k x) k=true:=by
 obtain ⟨i,h1,h2,_⟩:=zJQ h;rw [h2]; exact yX h1
noncomputable def ormvd0 (k:Nat) (q:Nat→Int) (x y:Int):OrS:=orS [(142,o_iq),(112,o_ct),(143,kGK)] []
noncomputable def jVQ (k:Nat) (q:Nat→Int) (x y:Int):List (List Nat × jK):=[]
set_option maxRecDepth 100000 in
theorem pxmvd0 (k:Nat) (q:Nat→Int) (x y:Int):qQU Tf (ormvd0 k q x y) (qZ (jVQ k q x y)) 60 92 [.a [.lf k (fQ q)],.n .i64 x,.n .i64 y] =
 (bif (gF1 ciq eiq (k,q,x)) then (bif (decide ((ixQ q k x) < 0)) then some (.v (.t [.a [.l []],.b false]),[])
 else (bif (gF1 cct ect (k,q,y)) then (bif (hasQ q k y) then some (.v (.t [.a [.l []],.b false]),[])
 else (bif (gF1 ccoi ecoi (k,q)) then (bif (inB (ixQ q k x) k) then some (.v (.t [.a [.lf k (fQ (mvQ q k x y))],.b true]),[])
 else none)
 else none))
 else none))
 else none):=by kernel_rfl
theorem snd_mvd0 (k:Nat) (q:Nat→Int) (x y:Int) (hk:k≤50):yK Tryz.prog 92 [.a [.lf k (fQ q)],.n .i64 x,.n .i64 y] (.v (bif mvC q k x y then .t [.a [.lf k (fQ (mvQ q k x y))],.b true] else .t [.a [.l []],.b false])):=by
 refine zW (N:=60) (LO:=qZ (jVQ k q x y)) jH zG (kY (l:=[(142,o_iq),(112,o_ct),(143,kGK)]) (m:=[]) ⟨ok_iq,ok_ct,ok_coi,trivial⟩ trivial) (fun p S hp => ?_) ?_
 ·refine zU (L:=qQ Tf 92) (l:=(jVQ k q x y)) (show AllP _ (jVQ k q x y) from trivial) p S hp
 ·refine (pxmvd0 k q x y).trans ?_;unfold mvC;rw [jU (C:=ciq) (t:=(k,q,x)) hk,jUV];cases hx:hasQ q k x with
  | false=>rfl
  | true =>
   rw [jU (C:=cct) (t:=(k,q,y)) hk];cases hy:hasQ q k y with
   | true=>rfl
   | false =>
    obtain ⟨i,h1,_,_⟩:=zJQ hx;rw [jU (C:=ccoi) (t:=(k,q)) ⟨by omega,hk⟩,ixB hx];rfl
theorem snd_mvd (k:Nat) (q:Nat→Int) (x y:Int) (hk:k≤50):yK Tryz.prog 92 [.a [.lf k (fQ q)],.n .i64 x,.n .i64 y] (.v (.t [.a [.lf (bif mvC q k x y then k else 0) (fQ (mvQ q k x y))],.b (mvC q k x y)])):=by
 have h0:=snd_mvd0 k q x y hk;cases h:mvC q k x y with
 | true=>rw [h] at h0; exact h0
 | false=>rw [h] at h0; exact qZZ (Same.t (xs:=[_,_]) ⟨Same.a (xs:=[_]) ⟨Same.lf rfl,trivial⟩,fun _ _ _ h=>h,trivial⟩) h0
def cmv:Nat × (Nat→Int) × Int × Int→Prop:=fun t=>match t with | (k,_,_,_)=>k≤50
def emv:Nat × (Nat→Int) × Int × Int→List PV:=fun t=>match t with | (k,q,x,y)=>[.a [.lf k (fQ q)],.n .i64 x,.n .i64 y]
noncomputable def rmv:Nat × (Nat→Int) × Int × Int→Ret:=fun t=>match t with | (k,q,x,y)=>.v (.t [.a [.lf (bif mvC q k x y then k else 0) (fQ (mvQ q k x y))],.b (mvC q k x y)])
def dmv:List PV→Nat × (Nat→Int) × Int × Int:=fun ps=>match ps with
 | [.a [.lf k f],.n _ x,.n _ y]=>(k,unFQ f,x,y)
 | _=>(0,fun _=>0,0,0)
noncomputable def o_mv:List PV→Option (Bool × Ret):=o_fm dmv cmv emv rmv
theorem ok_mv:zJ Tryz.prog 92 o_mv:=qQV fun t h=>by
 obtain ⟨k,q,x,y⟩:=t;exact snd_mvd k q x y h
noncomputable def orrmv0 (k:Nat) (q:Nat→Int) (x y:Int):OrS:=orS [] []
noncomputable def jWG (k:Nat) (q:Nat→Int) (x y:Int):List (List Nat × jK):=[]
set_option maxRecDepth 100000 in
theorem pxrmv0 (k:Nat) (q:Nat→Int) (x y:Int):qQU Tf (orrmv0 k q x y) (qZ (jWG k q x y)) 60 125 [.a [.lf k (fQ q)],.n .i64 x,.n .i64 y] =
 (bif (decide (k≤1000000)) then (bif (inB x k) then some (.v (.a [.lf k (fun v=>[.n .i64 (bif (Nat.beq v (x).toNat) then y else (q v))])]),[])
 else none)
 else none):=by kernel_rfl
theorem snd_rmv0 (k:Nat) (q:Nat→Int) (x y:Int) (_:k≤50) (hx:inB x k=true):yK Tryz.prog 125 [.a [.lf k (fQ q)],.n .i64 x,.n .i64 y] (.v (.a [.lf k (fQ (fun v=>bif Nat.beq v x.toNat then y else q v))])):=by
 refine zW (N:=60) (LO:=qZ (jWG k q x y)) jH zG (kY (l:=[]) (m:=[]) trivial trivial) (fun p S hp => ?_) ?_
 ·refine zU (L:=qQ Tf 125) (l:=(jWG k q x y)) (show AllP _ (jWG k q x y) from trivial) p S hp
 ·refine (pxrmv0 k q x y).trans ?_;rw [vJQ (show k≤1000000 by omega),hx];rfl
def crm:Nat × (Nat→Int) × Int × Int→Prop:=fun t=>match t with | (k,_,x,_)=>k≤50∧inB x k=true
def erm:Nat × (Nat→Int) × Int × Int→List PV:=fun t=>match t with | (k,q,x,y)=>[.a [.lf k (fQ q)],.n .i64 x,.n .i64 y]
noncomputable def rrm:Nat × (Nat→Int) × Int × Int→Ret:=fun t=>match t with | (k,q,x,y)=>.v (.a [.lf k (fQ (fun v=>bif Nat.beq v x.toNat then y else q v))])
def drm:List PV→Nat × (Nat→Int) × Int × Int:=fun ps=>match ps with
 | [.a [.lf k f],.n _ x,.n _ y]=>(k,unFQ f,x,y)
 | _=>(0,fun _=>0,0,0)
noncomputable def o_rm:List PV→Option (Bool × Ret):=o_fm drm crm erm rrm
theorem ok_rm:zJ Tryz.prog 125 o_rm:=qQV fun t h=>by
 obtain ⟨k,q,x,y⟩:=t;exact snd_rmv0 k q x y h.1 h.2
def tkC (ws:Wsp) (k:Nat) (q:Nat→Int) (k2:Nat) (q2:Nat→Int) (a b x y:Int):Bool:=vlB ws k q && (atB ws a b k2 q2 && mvC q k x y)
theorem jHK {ws:Wsp} {k:Nat} {q:Nat→Int} (h:vlB ws k q=true):k≤6:=by
 unfold vlB at h;simp only [vQJ,decide_eq_true_eq] at h
 have:=kVZ h.1
 omega
noncomputable def ortk0 (_:Wsp) (k:Nat) (q:Nat→Int) (_:Nat) (_:Nat→Int) (a b:Int):OrS:=orS [(62,o_vl),(24,o_at),(92,o_mv)] []
noncomputable def kKY (_:Wsp) (k:Nat) (q:Nat→Int) (_:Nat) (_:Nat→Int) (a b:Int):List (List Nat × jK):=[]
set_option maxRecDepth 100000 in
theorem pxtk0 (ws:Wsp) (k:Nat) (q:Nat→Int) (k2:Nat) (q2:Nat→Int) (a b:Int):qQU Tf (ortk0 ws k q k2 q2 a b) (qZ (kKY ws k q k2 q2 a b)) 60 44 [.a (wP ws),.a [.lf k (fQ q)],.lf k2 (fQ q2),.n .i64 a,.n .i64 b] =
 (bif (gF1 cvl evl (ws,k,q)) then (bif (vlB ws k q) then (bif (gF1 cat eat (ws,a,b,k2,q2)) then (bif (atB ws a b k2 q2) then (bif (gF1 cmv emv (k,q,b,(vJJ .i64 ((-1) - a)))) then (bif (mvC q k b (vJJ .i64 ((-1) - a))) then some (.v (.t [.a [.lf (bif mvC q k b (vJJ .i64 ((-1) - a)) then k else 0) (fun v=>[.n .i64 (mvQ q k b (vJJ .i64 ((-1) - a)) v)])],.b true]),[])
 else some (.v (.t [.a [.lf (bif mvC q k b (vJJ .i64 ((-1) - a)) then k else 0) (fun v=>[.n .i64 (mvQ q k b (vJJ .i64 ((-1) - a)) v)])],.b false]),[]))
 else none)
 else some (.v (.t [.a [.l []],.b false]),[]))
 else none)
 else some (.v (.t [.a [.l []],.b false]),[]))
 else none):=by kernel_rfl
theorem snd_tk0 (ws:Wsp) (k:Nat) (q:Nat→Int) (k2:Nat) (q2:Nat→Int) (a b:Int) (ho:okW ws):yK Tryz.prog 44 [.a (wP ws),.a [.lf k (fQ q)],.lf k2 (fQ q2),.n .i64 a,.n .i64 b] (.v (bif vlB ws k q && atB ws a b k2 q2 then .t [.a [.lf (bif mvC q k b (vJJ .i64 ((-1) - a)) then k else 0) (fQ (mvQ q k b (vJJ .i64 ((-1) - a))))],.b (mvC q k b (vJJ .i64 ((-1) - a)))] else .t [.a [.l []],.b false])):=by
 refine zW (N:=60) (LO:=qZ (kKY ws k q k2 q2 a b)) jH zG (kY (l:=[(62,o_vl),(24,o_at),(92,o_mv)]) (m:=[]) ⟨ok_vl,ok_at,ok_mv,trivial⟩ trivial) (fun p S hp => ?_) ?_
 ·refine zU (L:=qQ Tf 44) (l:=(kKY ws k q k2 q2 a b)) (show AllP _ (kKY ws k q k2 q2 a b) from trivial) p S hp
 ·refine (pxtk0 ws k q k2 q2 a b).trans ?_;rw [jU (C:=cvl) (t:=(ws,k,q)) ho];cases hv:vlB ws k q with
  | false=>rfl
  | true =>
   rw [jU (C:=cat) (t:=(ws,a,b,k2,q2)) ho];cases ha:atB ws a b k2 q2 with
   | false=>rfl
   | true =>
    have:=jHK hv
    rw [jU (C:=cmv) (t:=(k,q,b,(vJJ .i64 ((-1) - a)))) (show k≤50 by omega)];cases mvC q k b (vJJ .i64 ((-1) - a)) <;> rfl
theorem snd_tk (ws:Wsp) (k:Nat) (q:Nat→Int) (k2:Nat) (q2:Nat→Int) (a b:Int) (ho:okW ws):yK Tryz.prog 44 [.a (wP ws),.a [.lf k (fQ q)],.lf k2 (fQ q2),.n .i64 a,.n .i64 b] (.v (.t [.a [.lf (bif tkC ws k q k2 q2 a b b (vJJ .i64 ((-1) - a)) then k else 0) (fQ (mvQ q k b (vJJ .i64 ((-1) - a))))],.b (tkC ws k q k2 q2 a b b (vJJ .i64 ((-1) - a)))])):=by
 have h0:=snd_tk0 ws k q k2 q2 a b ho;unfold tkC;cases hv:vlB ws k q with
 | false=>rw [hv] at h0; exact qZZ (Same.t (xs:=[_,_]) ⟨Same.a (xs:=[_]) ⟨Same.lf rfl,trivial⟩,fun _ _ _ h=>h,trivial⟩) h0
 | true =>
  cases ha:atB ws a b k2 q2 with
  | false=>rw [hv,ha] at h0; exact qZZ (Same.t (xs:=[_,_]) ⟨Same.a (xs:=[_]) ⟨Same.lf rfl,trivial⟩,fun _ _ _ h=>h,trivial⟩) h0
  | true=>rw [hv,ha] at h0; simpa using h0
noncomputable def orrtk0 (_:Wsp) (k:Nat) (q:Nat→Int) (_:Nat) (_:Nat→Int) (a b:Int):OrS:=orS [(63,o_rv),(25,o_ht),(124,o_oa),(125,o_rm)] []
noncomputable def jWW (_:Wsp) (k:Nat) (q:Nat→Int) (_:Nat) (_:Nat→Int) (a b:Int):List (List Nat × jK):=[]
set_option maxRecDepth 100000 in
theorem pxrtk0 (ws:Wsp) (k:Nat) (q:Nat→Int) (k2:Nat) (q2:Nat→Int) (a b:Int):qQU Tf (orrtk0 ws k q k2 q2 a b) (qZ (jWW ws k q k2 q2 a b)) 60 75 [.a (wP ws),.a [.lf k (fQ q)],.lf k2 (fQ q2),.n .i64 a,.n .i64 b] =
 (bif (gF1 crv erv (ws,k,q)) then (bif (vlB ws k q) then (bif (gF1 cht eht (ws,a,b,k2,q2)) then (bif (atB ws a b k2 q2) then (bif (gF1 coa eoa (k,q,(vJJ .i64 ((-1) - a)))) then (bif (decide (0≤(ixQ q k (vJJ .i64 ((-1) - a))))) then some (.v (.t [.a [.l []],.b false]),[])
 else (bif (gF1 coa eoa (k,q,b)) then (bif (decide ((ixQ q k b) < 0)) then some (.v (.t [.a [.l []],.b false]),[])
 else (bif (gF1 coa eoa (k,q,b)) then (bif (gF1 crm erm (k,q,(ixQ q k b),(vJJ .i64 ((-1) - a)))) then some (.v (.t [.a [.lf k (fun v=>[.n .i64 (bif Nat.beq v (ixQ q k b).toNat then (vJJ .i64 ((-1) - a)) else (q v))])],.b true]),[])
 else none)
 else none))
 else none))
 else none)
 else some (.v (.t [.a [.l []],.b false]),[]))
 else none)
 else some (.v (.t [.a [.l []],.b false]),[]))
 else none):=by kernel_rfl
theorem snd_rtk0 (ws:Wsp) (k:Nat) (q:Nat→Int) (k2:Nat) (q2:Nat→Int) (a b:Int) (ho:okW ws):yK Tryz.prog 75 [.a (wP ws),.a [.lf k (fQ q)],.lf k2 (fQ q2),.n .i64 a,.n .i64 b] (.v (bif tkC ws k q k2 q2 a b b (vJJ .i64 ((-1) - a)) then .t [.a [.lf k (fQ (mvQ q k b (vJJ .i64 ((-1) - a))))],.b true] else .t [.a [.l []],.b false])):=by
 refine zW (N:=60) (LO:=qZ (jWW ws k q k2 q2 a b)) jH zG (kY (l:=[(63,o_rv),(25,o_ht),(124,o_oa),(125,o_rm)]) (m:=[]) ⟨ok_rv,ok_ht,ok_oa,ok_rm,trivial⟩ trivial) (fun p S hp => ?_) ?_
 ·refine zU (L:=qQ Tf 75) (l:=(jWW ws k q k2 q2 a b)) (show AllP _ (jWW ws k q k2 q2 a b) from trivial) p S hp
 ·refine (pxrtk0 ws k q k2 q2 a b).trans ?_;unfold tkC mvC;rw [jU (C:=crv) (t:=(ws,k,q)) ho];cases hv:vlB ws k q with
  | false=>rfl
  | true =>
   rw [jU (C:=cht) (t:=(ws,a,b,k2,q2)) ho];cases ha:atB ws a b k2 q2 with
   | false=>rfl
   | true =>
    have hk:=jHK hv;simp only [jU (C:=coa) (t:=(k,q,b)) (show k≤50 by omega),jU (C:=coa) (t:=(k,q,(vJJ .i64 ((-1) - a)))) (show k≤50 by omega),jUW,jUV,vYV];cases hx:hasQ q k b with
    | false=>cases hy:hasQ q k (vJJ .i64 ((-1) - a)) <;> rfl
    | true =>
     cases hy:hasQ q k (vJJ .i64 ((-1) - a)) with
     | true=>rfl
     | false =>
      rw [jU (C:=crm) (t:=(k,q,ixQ q k b,(vJJ .i64 ((-1) - a)))) (show k≤50∧inB (ixQ q k b) k=true from ⟨by omega,ixB hx⟩)];rfl
theorem snd_rtk (ws:Wsp) (k:Nat) (q:Nat→Int) (k2:Nat) (q2:Nat→Int) (a b:Int) (ho:okW ws):yK Tryz.prog 75 [.a (wP ws),.a [.lf k (fQ q)],.lf k2 (fQ q2),.n .i64 a,.n .i64 b] (.v (.t [.a [.lf (bif tkC ws k q k2 q2 a b b (vJJ .i64 ((-1) - a)) then k else 0) (fQ (mvQ q k b (vJJ .i64 ((-1) - a))))],.b (tkC ws k q k2 q2 a b b (vJJ .i64 ((-1) - a)))])):=by
 have h0:=snd_rtk0 ws k q k2 q2 a b ho;cases hv:tkC ws k q k2 q2 a b b (vJJ .i64 ((-1) - a)) with
 | false=>rw [hv] at h0; exact qZZ (Same.t (xs:=[_,_]) ⟨Same.a (xs:=[_]) ⟨Same.lf rfl,trivial⟩,fun _ _ _ h=>h,trivial⟩) h0
 | true=>rw [hv] at h0; exact h0
def ctk:Wsp × Nat × (Nat→Int) × Nat × (Nat→Int) × Int × Int→Prop:=fun t=>match t with | (ws,_,_,_,_,_,_)=>okW ws
def etk:Wsp × Nat × (Nat→Int) × Nat × (Nat→Int) × Int × Int→List PV:=fun t=>match t with | (ws,k,q,k2,q2,a,b)=>[.a (wP ws),.a [.lf k (fQ q)],.lf k2 (fQ q2),.n .i64 a,.n .i64 b]
noncomputable def rtk:Wsp × Nat × (Nat→Int) × Nat × (Nat→Int) × Int × Int→Ret:=fun t=>match t with | (ws,k,q,k2,q2,a,b)=>.v (.t [.a [.lf (bif tkC ws k q k2 q2 a b b (vJJ .i64 ((-1) - a)) then k else 0) (fQ (mvQ q k b (vJJ .i64 ((-1) - a))))],.b (tkC ws k q k2 q2 a b b (vJJ .i64 ((-1) - a)))])
def dtk:List PV→Wsp × Nat × (Nat→Int) × Nat × (Nat→Int) × Int × Int:=fun ps=>match ps with
 | [.a r,.a [.lf k f],.lf k2 g,.n _ a,.n _ b]=>(unW r,k,unFQ f,k2,unFQ g,a,b)
 | _=>(unW [],0,fun _=>0,0,fun _=>0,0,0)
noncomputable def o_tk:List PV→Option (Bool × Ret):=o_fm dtk ctk etk rtk
theorem ok_tk:zJ Tryz.prog 44 o_tk:=qQV fun t h=>by
 obtain ⟨ws,k,q,k2,q2,a,b⟩:=t;exact snd_tk ws k q k2 q2 a b h
def crtk:Wsp × Nat × (Nat→Int) × Nat × (Nat→Int) × Int × Int→Prop:=fun t=>match t with | (ws,_,_,_,_,_,_)=>okW ws
def ertk:Wsp × Nat × (Nat→Int) × Nat × (Nat→Int) × Int × Int→List PV:=fun t=>match t with | (ws,k,q,k2,q2,a,b)=>[.a (wP ws),.a [.lf k (fQ q)],.lf k2 (fQ q2),.n .i64 a,.n .i64 b]
noncomputable def rrtk:Wsp × Nat × (Nat→Int) × Nat × (Nat→Int) × Int × Int→Ret:=fun t=>match t with | (ws,k,q,k2,q2,a,b)=>.v (.t [.a [.lf (bif tkC ws k q k2 q2 a b b (vJJ .i64 ((-1) - a)) then k else 0) (fQ (mvQ q k b (vJJ .i64 ((-1) - a))))],.b (tkC ws k q k2 q2 a b b (vJJ .i64 ((-1) - a)))])
def drtk:List PV→Wsp × Nat × (Nat→Int) × Nat × (Nat→Int) × Int × Int:=fun ps=>match ps with
 | [.a r,.a [.lf k f],.lf k2 g,.n _ a,.n _ b]=>(unW r,k,unFQ f,k2,unFQ g,a,b)
 | _=>(unW [],0,fun _=>0,0,fun _=>0,0,0)
noncomputable def kGQ:List PV→Option (Bool × Ret):=o_fm drtk crtk ertk rrtk
theorem ok_rtk:zJ Tryz.prog 75 kGQ:=qQV fun t h=>by
 obtain ⟨ws,k,q,k2,q2,a,b⟩:=t;exact snd_rtk ws k q k2 q2 a b h
noncomputable def orpt0 (_:Wsp) (k:Nat) (q:Nat→Int) (_:Nat) (_:Nat→Int) (a b:Int):OrS:=orS [(62,o_vl),(24,o_at),(92,o_mv)] []
noncomputable def kUZ (_:Wsp) (k:Nat) (q:Nat→Int) (_:Nat) (_:Nat→Int) (a b:Int):List (List Nat × jK):=[]
set_option maxRecDepth 100000 in
theorem pxpt0 (ws:Wsp) (k:Nat) (q:Nat→Int) (k2:Nat) (q2:Nat→Int) (a b:Int):qQU Tf (orpt0 ws k q k2 q2 a b) (qZ (kUZ ws k q k2 q2 a b)) 60 45 [.a (wP ws),.a [.lf k (fQ q)],.lf k2 (fQ q2),.n .i64 a,.n .i64 b] =
 (bif (gF1 cvl evl (ws,k,q)) then (bif (vlB ws k q) then (bif (gF1 cat eat (ws,a,b,k2,q2)) then (bif (atB ws a b k2 q2) then (bif (gF1 cmv emv (k,q,(vJJ .i64 ((-1) - a)),b)) then (bif (mvC q k (vJJ .i64 ((-1) - a)) b) then some (.v (.t [.a [.lf (bif mvC q k (vJJ .i64 ((-1) - a)) b then k else 0) (fun v=>[.n .i64 (mvQ q k (vJJ .i64 ((-1) - a)) b v)])],.b true]),[])
 else some (.v (.t [.a [.lf (bif mvC q k (vJJ .i64 ((-1) - a)) b then k else 0) (fun v=>[.n .i64 (mvQ q k (vJJ .i64 ((-1) - a)) b v)])],.b false]),[]))
 else none)
 else some (.v (.t [.a [.l []],.b false]),[]))
 else none)
 else some (.v (.t [.a [.l []],.b false]),[]))
 else none):=by kernel_rfl
theorem snd_pt0 (ws:Wsp) (k:Nat) (q:Nat→Int) (k2:Nat) (q2:Nat→Int) (a b:Int) (ho:okW ws):yK Tryz.prog 45 [.a (wP ws),.a [.lf k (fQ q)],.lf k2 (fQ q2),.n .i64 a,.n .i64 b] (.v (bif vlB ws k q && atB ws a b k2 q2 then .t [.a [.lf (bif mvC q k (vJJ .i64 ((-1) - a)) b then k else 0) (fQ (mvQ q k (vJJ .i64 ((-1) - a)) b))],.b (mvC q k (vJJ .i64 ((-1) - a)) b)] else .t [.a [.l []],.b false])):=by
 refine zW (N:=60) (LO:=qZ (kUZ ws k q k2 q2 a b)) jH zG (kY (l:=[(62,o_vl),(24,o_at),(92,o_mv)]) (m:=[]) ⟨ok_vl,ok_at,ok_mv,trivial⟩ trivial) (fun p S hp => ?_) ?_
 ·refine zU (L:=qQ Tf 45) (l:=(kUZ ws k q k2 q2 a b)) (show AllP _ (kUZ ws k q k2 q2 a b) from trivial) p S hp
 ·refine (pxpt0 ws k q k2 q2 a b).trans ?_;rw [jU (C:=cvl) (t:=(ws,k,q)) ho];cases hv:vlB ws k q with
  | false=>rfl
  | true =>
   rw [jU (C:=cat) (t:=(ws,a,b,k2,q2)) ho];cases ha:atB ws a b k2 q2 with
   | false=>rfl
   | true =>
    have:=jHK hv
    rw [jU (C:=cmv) (t:=(k,q,(vJJ .i64 ((-1) - a)),b)) (show k≤50 by omega)];cases mvC q k (vJJ .i64 ((-1) - a)) b <;> rfl
theorem snd_pt (ws:Wsp) (k:Nat) (q:Nat→Int) (k2:Nat) (q2:Nat→Int) (a b:Int) (ho:okW ws):yK Tryz.prog 45 [.a (wP ws),.a [.lf k (fQ q)],.lf k2 (fQ q2),.n .i64 a,.n .i64 b] (.v (.t [.a [.lf (bif tkC ws k q k2 q2 a b (vJJ .i64 ((-1) - a)) b then k else 0) (fQ (mvQ q k (vJJ .i64 ((-1) - a)) b))],.b (tkC ws k q k2 q2 a b (vJJ .i64 ((-1) - a)) b)])):=by
 have h0:=snd_pt0 ws k q k2 q2 a b ho;unfold tkC;cases hv:vlB ws k q with
 | false=>rw [hv] at h0; exact qZZ (Same.t (xs:=[_,_]) ⟨Same.a (xs:=[_]) ⟨Same.lf rfl,trivial⟩,fun _ _ _ h=>h,trivial⟩) h0
 | true =>
  cases ha:atB ws a b k2 q2 with
  | false=>rw [hv,ha] at h0; exact qZZ (Same.t (xs:=[_,_]) ⟨Same.a (xs:=[_]) ⟨Same.lf rfl,trivial⟩,fun _ _ _ h=>h,trivial⟩) h0
  | true=>rw [hv,ha] at h0; simpa using h0
noncomputable def orrpt0 (_:Wsp) (k:Nat) (q:Nat→Int) (_:Nat) (_:Nat→Int) (a b:Int):OrS:=orS [(63,o_rv),(25,o_ht),(124,o_oa),(125,o_rm)] []
noncomputable def zXK (_:Wsp) (k:Nat) (q:Nat→Int) (_:Nat) (_:Nat→Int) (a b:Int):List (List Nat × jK):=[]
set_option maxRecDepth 100000 in
theorem kQZ (ws:Wsp) (k:Nat) (q:Nat→Int) (k2:Nat) (q2:Nat→Int) (a b:Int):qQU Tf (orrpt0 ws k q k2 q2 a b) (qZ (zXK ws k q k2 q2 a b)) 60 76 [.a (wP ws),.a [.lf k (fQ q)],.lf k2 (fQ q2),.n .i64 a,.n .i64 b] =
 (bif (gF1 crv erv (ws,k,q)) then (bif (vlB ws k q) then (bif (gF1 cht eht (ws,a,b,k2,q2)) then (bif (atB ws a b k2 q2) then (bif (gF1 coa eoa (k,q,(vJJ .i64 ((-1) - a)))) then (bif (decide ((ixQ q k (vJJ .i64 ((-1) - a))) < 0)) then some (.v (.t [.a [.l []],.b false]),[])
 else (bif (gF1 coa eoa (k,q,b)) then (bif (decide (0≤(ixQ q k b))) then some (.v (.t [.a [.l []],.b false]),[])
 else (bif (gF1 coa eoa (k,q,(vJJ .i64 ((-1) - a)))) then (bif (gF1 crm erm (k,q,(ixQ q k (vJJ .i64 ((-1) - a))),b)) then some (.v (.t [.a [.lf k (fun v=>[.n .i64 (bif Nat.beq v (ixQ q k (vJJ .i64 ((-1) - a))).toNat then b else (q v))])],.b true]),[])
 else none)
 else none))
 else none))
 else none)
 else some (.v (.t [.a [.l []],.b false]),[]))
 else none)
 else some (.v (.t [.a [.l []],.b false]),[]))
 else none):=by kernel_rfl
theorem yWU (ws:Wsp) (k:Nat) (q:Nat→Int) (k2:Nat) (q2:Nat→Int) (a b:Int) (ho:okW ws):yK Tryz.prog 76 [.a (wP ws),.a [.lf k (fQ q)],.lf k2 (fQ q2),.n .i64 a,.n .i64 b] (.v (bif tkC ws k q k2 q2 a b (vJJ .i64 ((-1) - a)) b then .t [.a [.lf k (fQ (mvQ q k (vJJ .i64 ((-1) - a)) b))],.b true] else .t [.a [.l []],.b false])):=by
 refine zW (N:=60) (LO:=qZ (zXK ws k q k2 q2 a b)) jH zG (kY (l:=[(63,o_rv),(25,o_ht),(124,o_oa),(125,o_rm)]) (m:=[]) ⟨ok_rv,ok_ht,ok_oa,ok_rm,trivial⟩ trivial) (fun p S hp => ?_) ?_
 ·refine zU (L:=qQ Tf 76) (l:=(zXK ws k q k2 q2 a b)) (show AllP _ (zXK ws k q k2 q2 a b) from trivial) p S hp
 ·refine (kQZ ws k q k2 q2 a b).trans ?_;unfold tkC mvC;rw [jU (C:=crv) (t:=(ws,k,q)) ho];cases hv:vlB ws k q with
  | false=>rfl
  | true =>
   rw [jU (C:=cht) (t:=(ws,a,b,k2,q2)) ho];cases ha:atB ws a b k2 q2 with
   | false=>rfl
   | true =>
    have hk:=jHK hv;simp only [jU (C:=coa) (t:=(k,q,(vJJ .i64 ((-1) - a)))) (show k≤50 by omega),jU (C:=coa) (t:=(k,q,b)) (show k≤50 by omega),jUW,jUV,vYV];cases hx:hasQ q k (vJJ .i64 ((-1) - a)) with
    | false=>cases hy:hasQ q k b <;> rfl
    | true =>
     cases hy:hasQ q k b with
     | true=>rfl
     | false =>
      rw [jU (C:=crm) (t:=(k,q,ixQ q k (vJJ .i64 ((-1) - a)),b)) (show k≤50∧inB (ixQ q k (vJJ .i64 ((-1) - a))) k=true from ⟨by omega,ixB hx⟩)];rfl
theorem snd_rpt (ws:Wsp) (k:Nat) (q:Nat→Int) (k2:Nat) (q2:Nat→Int) (a b:Int) (ho:okW ws):yK Tryz.prog 76 [.a (wP ws),.a [.lf k (fQ q)],.lf k2 (fQ q2),.n .i64 a,.n .i64 b] (.v (.t [.a [.lf (bif tkC ws k q k2 q2 a b (vJJ .i64 ((-1) - a)) b then k else 0) (fQ (mvQ q k (vJJ .i64 ((-1) - a)) b))],.b (tkC ws k q k2 q2 a b (vJJ .i64 ((-1) - a)) b)])):=by
 have h0:=yWU ws k q k2 q2 a b ho;cases hv:tkC ws k q k2 q2 a b (vJJ .i64 ((-1) - a)) b with
 | false=>rw [hv] at h0; exact qZZ (Same.t (xs:=[_,_]) ⟨Same.a (xs:=[_]) ⟨Same.lf rfl,trivial⟩,fun _ _ _ h=>h,trivial⟩) h0
 | true=>rw [hv] at h0; exact h0
def cpt:Wsp × Nat × (Nat→Int) × Nat × (Nat→Int) × Int × Int→Prop:=fun t=>match t with | (ws,_,_,_,_,_,_)=>okW ws
def ept:Wsp × Nat × (Nat→Int) × Nat × (Nat→Int) × Int × Int→List PV:=fun t=>match t with | (ws,k,q,k2,q2,a,b)=>[.a (wP ws),.a [.lf k (fQ q)],.lf k2 (fQ q2),.n .i64 a,.n .i64 b]
noncomputable def rpt:Wsp × Nat × (Nat→Int) × Nat × (Nat→Int) × Int × Int→Ret:=fun t=>match t with | (ws,k,q,k2,q2,a,b)=>.v (.t [.a [.lf (bif tkC ws k q k2 q2 a b (vJJ .i64 ((-1) - a)) b then k else 0) (fQ (mvQ q k (vJJ .i64 ((-1) - a)) b))],.b (tkC ws k q k2 q2 a b (vJJ .i64 ((-1) - a)) b)])
def dpt:List PV→Wsp × Nat × (Nat→Int) × Nat × (Nat→Int) × Int × Int:=fun ps=>match ps with
 | [.a r,.a [.lf k f],.lf k2 g,.n _ a,.n _ b]=>(unW r,k,unFQ f,k2,unFQ g,a,b)
 | _=>(unW [],0,fun _=>0,0,fun _=>0,0,0)
noncomputable def o_pt:List PV→Option (Bool × Ret):=o_fm dpt cpt ept rpt
theorem ok_pt:zJ Tryz.prog 45 o_pt:=qQV fun t h=>by
 obtain ⟨ws,k,q,k2,q2,a,b⟩:=t;exact snd_pt ws k q k2 q2 a b h
def crpt:Wsp × Nat × (Nat→Int) × Nat × (Nat→Int) × Int × Int→Prop:=fun t=>match t with | (ws,_,_,_,_,_,_)=>okW ws
def erpt:Wsp × Nat × (Nat→Int) × Nat × (Nat→Int) × Int × Int→List PV:=fun t=>match t with | (ws,k,q,k2,q2,a,b)=>[.a (wP ws),.a [.lf k (fQ q)],.lf k2 (fQ q2),.n .i64 a,.n .i64 b]
noncomputable def rrpt:Wsp × Nat × (Nat→Int) × Nat × (Nat→Int) × Int × Int→Ret:=fun t=>match t with | (ws,k,q,k2,q2,a,b)=>.v (.t [.a [.lf (bif tkC ws k q k2 q2 a b (vJJ .i64 ((-1) - a)) b then k else 0) (fQ (mvQ q k (vJJ .i64 ((-1) - a)) b))],.b (tkC ws k q k2 q2 a b (vJJ .i64 ((-1) - a)) b)])
def drpt:List PV→Wsp × Nat × (Nat→Int) × Nat × (Nat→Int) × Int × Int:=fun ps=>match ps with
 | [.a r,.a [.lf k f],.lf k2 g,.n _ a,.n _ b]=>(unW r,k,unFQ f,k2,unFQ g,a,b)
 | _=>(unW [],0,fun _=>0,0,fun _=>0,0,0)
noncomputable def kGZ:List PV→Option (Bool × Ret):=o_fm drpt crpt erpt rrpt
theorem ok_rpt:zJ Tryz.prog 76 kGZ:=qQV fun t h=>by
 obtain ⟨ws,k,q,k2,q2,a,b⟩:=t;exact snd_rpt ws k q k2 q2 a b h
noncomputable def ormvs (_:Wsp) (k:Nat) (q:Nat→Int) (_:Nat) (_:Nat→Int) (a b:Int):OrS:=orS [(44,o_tk),(75,kGQ),(45,o_pt),(76,kGZ),(47,o_sm)] []
noncomputable def kUX (_:Wsp) (k:Nat) (q:Nat→Int) (_:Nat) (_:Nat→Int) (a b:Int):List (List Nat × jK):=[]
set_option maxRecDepth 100000 in
theorem pxmvs (ws:Wsp) (k:Nat) (q:Nat→Int) (k2:Nat) (q2:Nat→Int) (a b:Int):qQU Tf (ormvs ws k q k2 q2 a b) (qZ (kUX ws k q k2 q2 a b)) 60 27 [.a (wP ws),.a [.lf k (fQ q)],.lf k2 (fQ q2),.n .i64 a,.n .i64 b] =
 (bif (gF1 ctk etk (ws,k,q,k2,q2,a,b)) then (bif (tkC ws k q k2 q2 a b b (vJJ .i64 ((-1) - a))) then (bif (gF1 crtk ertk (ws,k,q,k2,q2,a,b)) then (bif (tkC ws k q k2 q2 a b b (vJJ .i64 ((-1) - a))) then (bif (gF1 cpt ept (ws,k,q,k2,q2,a,b)) then (bif (tkC ws k q k2 q2 a b (vJJ .i64 ((-1) - a)) b) then (bif (gF1 crpt erpt (ws,k,q,k2,q2,a,b)) then (bif (tkC ws k q k2 q2 a b (vJJ .i64 ((-1) - a)) b) then (bif (gF1 csm esm ((bif (tkC ws k q k2 q2 a b b (vJJ .i64 ((-1) - a))) then k else 0),(mvQ q k b (vJJ .i64 ((-1) - a))))) then (bif (gF1 csm esm ((bif (tkC ws k q k2 q2 a b (vJJ .i64 ((-1) - a)) b) then k else 0),(mvQ q k (vJJ .i64 ((-1) - a)) b))) then some (.v (.b true),[])
 else none)
 else none)
 else some (.v (.b false),[]))
 else none)
 else (bif (gF1 crpt erpt (ws,k,q,k2,q2,a,b)) then (bif (tkC ws k q k2 q2 a b (vJJ .i64 ((-1) - a)) b) then some (.v (.b false),[])
 else (bif (gF1 csm esm ((bif (tkC ws k q k2 q2 a b b (vJJ .i64 ((-1) - a))) then k else 0),(mvQ q k b (vJJ .i64 ((-1) - a))))) then (bif (gF1 csm esm ((bif (tkC ws k q k2 q2 a b (vJJ .i64 ((-1) - a)) b) then k else 0),(mvQ q k (vJJ .i64 ((-1) - a)) b))) then some (.v (.b true),[])
 else none)
 else none))
 else none))
 else none)
 else (bif (gF1 cpt ept (ws,k,q,k2,q2,a,b)) then (bif (tkC ws k q k2 q2 a b (vJJ .i64 ((-1) - a)) b) then (bif (gF1 crpt erpt (ws,k,q,k2,q2,a,b)) then (bif (tkC ws k q k2 q2 a b (vJJ .i64 ((-1) - a)) b) then some (.v (.b false),[])
 else some (.v (.b false),[]))
 else none)
 else (bif (gF1 crpt erpt (ws,k,q,k2,q2,a,b)) then (bif (tkC ws k q k2 q2 a b (vJJ .i64 ((-1) - a)) b) then some (.v (.b false),[])
 else some (.v (.b false),[]))
 else none))
 else none))
 else none)
 else (bif (gF1 crtk ertk (ws,k,q,k2,q2,a,b)) then (bif (tkC ws k q k2 q2 a b b (vJJ .i64 ((-1) - a))) then (bif (gF1 cpt ept (ws,k,q,k2,q2,a,b)) then (bif (tkC ws k q k2 q2 a b (vJJ .i64 ((-1) - a)) b) then (bif (gF1 crpt erpt (ws,k,q,k2,q2,a,b)) then (bif (tkC ws k q k2 q2 a b (vJJ .i64 ((-1) - a)) b) then some (.v (.b false),[])
 else some (.v (.b false),[]))
 else none)
 else (bif (gF1 crpt erpt (ws,k,q,k2,q2,a,b)) then (bif (tkC ws k q k2 q2 a b (vJJ .i64 ((-1) - a)) b) then some (.v (.b false),[])
 else some (.v (.b false),[]))
 else none))
 else none)
 else (bif (gF1 cpt ept (ws,k,q,k2,q2,a,b)) then (bif (tkC ws k q k2 q2 a b (vJJ .i64 ((-1) - a)) b) then (bif (gF1 crpt erpt (ws,k,q,k2,q2,a,b)) then (bif (tkC ws k q k2 q2 a b (vJJ .i64 ((-1) - a)) b) then (bif (gF1 csm esm ((bif (tkC ws k q k2 q2 a b b (vJJ .i64 ((-1) - a))) then k else 0),(mvQ q k b (vJJ .i64 ((-1) - a))))) then (bif (gF1 csm esm ((bif (tkC ws k q k2 q2 a b (vJJ .i64 ((-1) - a)) b) then k else 0),(mvQ q k (vJJ .i64 ((-1) - a)) b))) then some (.v (.b true),[])
 else none)
 else none)
 else some (.v (.b false),[]))
 else none)
 else (bif (gF1 crpt erpt (ws,k,q,k2,q2,a,b)) then (bif (tkC ws k q k2 q2 a b (vJJ .i64 ((-1) - a)) b) then some (.v (.b false),[])
 else (bif (gF1 csm esm ((bif (tkC ws k q k2 q2 a b b (vJJ .i64 ((-1) - a))) then k else 0),(mvQ q k b (vJJ .i64 ((-1) - a))))) then (bif (gF1 csm esm ((bif (tkC ws k q k2 q2 a b (vJJ .i64 ((-1) - a)) b) then k else 0),(mvQ q k (vJJ .i64 ((-1) - a)) b))) then some (.v (.b true),[])
 else none)
 else none))
 else none))
 else none))
 else none))
 else none):=by kernel_rfl
theorem snd_mvs (ws:Wsp) (k:Nat) (q:Nat→Int) (k2:Nat) (q2:Nat→Int) (a b:Int) (ho:okW ws):yK Tryz.prog 27 [.a (wP ws),.a [.lf k (fQ q)],.lf k2 (fQ q2),.n .i64 a,.n .i64 b] (.v (.b true)):=by
 refine zW (N:=60) (LO:=qZ (kUX ws k q k2 q2 a b)) jH zG (kY (l:=[(44,o_tk),(75,kGQ),(45,o_pt),(76,kGZ),(47,o_sm)]) (m:=[]) ⟨ok_tk,ok_rtk,ok_pt,ok_rpt,ok_sm,trivial⟩ trivial) (fun p S hp => ?_) ?_
 ·refine zU (L:=qQ Tf 27) (l:=(kUX ws k q k2 q2 a b)) (show AllP _ (kUX ws k q k2 q2 a b) from trivial) p S hp
 ·refine (pxmvs ws k q k2 q2 a b).trans ?_;have hs:∀ x y,(bif tkC ws k q k2 q2 a b x y then k else 0)≤50:=fun x y=>by
   cases h:tkC ws k q k2 q2 a b x y with
   | false=>exact Nat.zero_le _
   | true =>
    unfold tkC at h;simp only [vQJ] at h
    have:=jHK h.1
    rw [vYV]; omega
  simp only [jU (C:=ctk) (t:=(ws,k,q,k2,q2,a,b)) ho,jU (C:=crtk) (t:=(ws,k,q,k2,q2,a,b)) ho,jU (C:=cpt) (t:=(ws,k,q,k2,q2,a,b)) ho,jU (C:=crpt) (t:=(ws,k,q,k2,q2,a,b)) ho,vYV];have s1:gF1 csm esm ((bif tkC ws k q k2 q2 a b b (vJJ .i64 ((-1) - a)) then k else 0),(mvQ q k b (vJJ .i64 ((-1) - a))))=true:=jU (hs _ _);have s2:gF1 csm esm ((bif tkC ws k q k2 q2 a b (vJJ .i64 ((-1) - a)) b then k else 0),(mvQ q k (vJJ .i64 ((-1) - a)) b))=true:=jU (hs _ _);cases h1:tkC ws k q k2 q2 a b b (vJJ .i64 ((-1) - a)) <;> cases h2:tkC ws k q k2 q2 a b (vJJ .i64 ((-1) - a)) b <;> simp only [h1,h2,vYV,vYG] at s1 s2 ⊢ <;> simp [s1,s2]
end Go.Proofs.YtgmbkkkbfbocnaaGreat.Hg
namespace Go.Proofs.YtgmbkkkbfbocnaaGreat.Hh
end Go.Proofs.YtgmbkkkbfbocnaaGreat.Hh
namespace Go.Proofs.YtgmbkkkbfbocnaaGreat.Hi
open Go.Rx Rt Go.Sx Go.RowKit Od Na Nb Nc Nx Nf Nl Nm Ga Gb Gc Gd Ge Gf Gg Ha Hb Hc Hd He Hf Hg Hh
def sumN (f:Nat→Nat):Nat→Nat
 | 0=>0
 | i + 1=>sumN f i + f i
theorem jHW (f:Nat→Nat) (b:Nat):∀ n,(∀ i,i < n→f i≤b)→sumN f n≤n * b
 | 0,_=>Nat.zero_le _
 | n + 1,h=>by
  have h1:=jHW f b n fun i hi=>h i (by omega)
  have h2:=h n (by omega);unfold sumN;rw [Nat.add_mul]; omega
theorem cntF_eq {ws:Wsp} (ho:okW ws) (hc:ws.c≤24) (hn:ws.no≤6):∀ i,i≤ws.no→cntF ws i=((ws.c + sumN (fun j=>(ws.ob j).ns) i:Nat):Int)
 | 0,_=>rfl
 | i + 1,hi=>by
  have ih:=cntF_eq ho hc hn i (by omega);have hb:=jHW (fun j=>(ws.ob j).ns) 8796093021952 i fun j hj=>ho j (by omega)
  have h1:=ho i (by omega);have hi2:i * 8796093021952≤6 * 8796093021952:=Nat.mul_le_mul_right _ (by omega);show vJJ .i64 (cntF ws i + ((ws.ob i).ns:Int))=_;rw [ih];show _=((ws.c + (sumN (fun j=>(ws.ob j).ns) i + (ws.ob i).ns):Nat):Int);have hb':sumN (fun j=>(ws.ob j).ns) i≤i * 8796093021952:=hb;rw [zQ (by omega)];omega
end Go.Proofs.YtgmbkkkbfbocnaaGreat.Hi
namespace Go.Proofs.YtgmbkkkbfbocnaaGreat.Hj
end Go.Proofs.YtgmbkkkbfbocnaaGreat.Hj
namespace Go.Proofs.YtgmbkkkbfbocnaaGreat.Hk
open Go.Rx Rt Go.Sx Go.RowKit Od Na Nb Nc Nx Nf Nl Nm Ga Gb Gc Gd Ge Gf Gg Ha Hb Hc Hd He Hf Hg Hh Hi Hj
theorem isLk_of {n:Nat} {l:Int} (h : -1≤l∧l < (n:Int)):isLk n l=true:=by
 unfold isLk;rw [vJQ h.1,vJQ h.2]; rfl
theorem jZQ {k:Int} {p:Z3} (_:(-k≤p.x∧p.x≤k)∧(-k≤p.y∧p.y≤k)∧(-k≤p.z∧p.z≤k)):zOk k p=true:=by
 unfold zOk;rw [vYH (show ¬ p.x < -k by omega),vYH (show ¬ k < p.x by omega),vYH (show ¬ p.y < -k by omega),vYH (show ¬ k < p.y by omega),vYH (show ¬ p.z < -k by omega),vYH (show ¬ k < p.z by omega)]; rfl
end Go.Proofs.YtgmbkkkbfbocnaaGreat.Hk
namespace Go.Proofs.YtgmbkkkbfbocnaaGreat.Sn
open Go.Rx Rt Go.Sx Go.RowKit Od Nb
noncomputable def orrnd (x k:Int):OrS:=orS [] []
noncomputable def kKW (x k:Int):List (List Nat × jK):=[]
set_option maxRecDepth 100000 in
theorem pxrnd (x k:Int):qQU Tf (orrnd x k) (qZ (kKW x k)) 60 20 [.n .i64 x,.n .i64 k] =
 (bif (decide (k=0)) then none
 else (bif (decide ((x.tmod k) < 0)) then some (.v (.n .i64 (vJJ .i64 ((x.tmod k) + k))),[])
 else some (.v (.n .i64 (x.tmod k)),[]))):=by kernel_rfl
theorem snd_rnd (x k:Int) (hk:0 < k∧k≤9223372036854775807):yK Tryz.prog 20 [.n .i64 x,.n .i64 k] (.v (.n .i64 (x % k))):=by
 refine zW (N:=60) (LO:=qZ (kKW x k)) jH zG (kY (l:=[]) (m:=[]) trivial trivial) (fun p S hp => ?_) ?_
 ·refine zU (L:=qQ Tf 20) (l:=(kKW x k)) (show AllP _ (kKW x k) from trivial) p S hp
 ·refine (pxrnd x k).trans ?_;have hk0:k ≠ 0:=by omega
  have h1:=Int.emod_nonneg x hk0;have h2:=Int.emod_lt_of_pos x hk.1;rw [vYH (show ¬ k=0 by omega),Int.tmod_eq_emod];by_cases h:0≤x ∨ k ∣ x
  ·rw [if_pos h,show ((0:Nat):Int)=0 from rfl,Int.sub_zero,vYH (show ¬ x % k < 0 by omega)];rfl
  ·rw [if_neg h,show ((k.natAbs:Nat):Int)=k by omega,vJQ (show x % k - k < 0 by omega),show vJJ .i64 (x % k - k + k)=x % k from by rw [show x % k - k + k=x % k by omega]; exact zQ (by omega)];rfl
def crn:Int × Int→Prop:=fun t=>match t with | (_,k)=>0 < k∧k≤9223372036854775807
def ern:Int × Int→List PV:=fun t=>match t with | (x,k)=>[.n .i64 x,.n .i64 k]
noncomputable def rrn:Int × Int→Ret:=fun t=>match t with | (x,k)=>.v (.n .i64 (x % k))
def drn:List PV→Int × Int:=fun ps=>match ps with
 | [.n _ x,.n _ k]=>(x,k)
 | _=>(0,0)
noncomputable def o_rn:List PV→Option (Bool × Ret):=o_fm drn crn ern rrn
theorem ok_rn:zJ Tryz.prog 20 o_rn:=qQV fun t h=>by
 obtain ⟨x,k⟩:=t;exact snd_rnd x k h
noncomputable def ornx (w m:Nat) (e:Nat→Int) (k:Int):OrS:=orS [(20,o_rn)] []
noncomputable def lsnx (w m:Nat) (e:Nat→Int) (k:Int):List (List Nat × jK):=[]
set_option maxRecDepth 100000 in
theorem pxnx (w m:Nat) (e:Nat→Int) (k:Int):runBX Tf (ornx w m e k) (qZ (lsnx w m e k)) 60 30 [.p 1000000 0,.v (.n .i64 k)] [.lf w (fQ e),.n .i64 (m:Int)] =
 (bif (decide ((w:Int)≤(m:Int))) then some (.v (.t [.n .i64 0,.lf w (fQ e),.n .i64 (m:Int)]),[])
 else (bif (inB (vJJ .i64 ((vJJ .i64 ((m:Int) + 1)) - 1)) w) then (bif (gF1 crn ern ((e ((vJJ .i64 ((vJJ .i64 ((m:Int) + 1)) - 1))).toNat),k)) then some (.v (.t [.n .i64 ((e ((vJJ .i64 ((vJJ .i64 ((m:Int) + 1)) - 1))).toNat) % k),.lf w (fQ e),.n .i64 (vJJ .i64 ((m:Int) + 1))]),[])
 else none)
 else none)):=by kernel_rfl
theorem snd_nx (w m:Nat) (e:Nat→Int) (k:Int) (_:m≤w) (_:w≤9223372036854775807) (hk:0 < k∧k≤9223372036854775807):jYJ Tryz.prog 30 [.p 1000000 0,.v (.n .i64 k)] [.lf w (fQ e),.n .i64 (m:Int)] (.n .i64 (nxV e w m k)) ([.lf w (fQ e),.n .i64 ((min (m + 1) w:Nat):Int)]):=by
 refine runBX_sound (N:=60) (LO:=qZ (lsnx w m e k)) jH zG (kY (l:=[(20,o_rn)]) (m:=[]) ⟨ok_rn,trivial⟩ trivial) (fun p S hp => ?_) ?_
 ·refine zU (L:=qQ Tf 30) (l:=(lsnx w m e k)) (show AllP _ (lsnx w m e k) from trivial) p S hp
 ·refine (pxnx w m e k).trans ?_;unfold nxV eW;by_cases h:m < w
  ·have h1:vJJ .i64 ((m:Int) + 1)=(m:Int) + 1:=zQ (by omega);have h2:vJJ .i64 ((m:Int) + 1 - 1)=((m:Nat):Int):=by rw [zQ (by omega)]; omega
   rw [vYH (show ¬ (w:Int)≤(m:Int) by omega),h1,h2,yX h,toN,jU (C:=crn) (t:=(_,k)) hk,show Nat.blt m w=true from by rw [Nat.blt_eq]; exact h,show min (m + 1) w=m + 1 by omega];rfl
  ·rw [vJQ (show (w:Int)≤(m:Int) by omega),show Nat.blt m w=false from by rw [Bool.eq_false_iff,ne_eq,Nat.blt_eq]; exact h,show min (m + 1) w=m by omega]
   simp
def cnx:Nat × Nat × (Nat→Int) × Int→Prop:=fun t=>match t with | (w,m,_,k)=>m≤w∧w≤9223372036854775807∧0 < k∧k≤9223372036854775807
def hnx:Nat × Nat × (Nat→Int) × Int→List HV:=fun t=>match t with | (_,_,_,k)=>[.p pid 0,.v (.n .i64 k)]
def enx:Nat × Nat × (Nat→Int) × Int→List PV:=fun t=>match t with | (w,m,e,_)=>[.lf w (fQ e),.n .i64 (m:Int)]
noncomputable def xnx:Nat × Nat × (Nat→Int) × Int→PV:=fun t=>match t with | (w,m,e,k)=>.n .i64 (nxV e w m k)
noncomputable def qnx:Nat × Nat × (Nat→Int) × Int→List PV:=fun t=>match t with | (w,m,e,_)=>[.lf w (fQ e),.n .i64 ((min (m + 1) w:Nat):Int)]
def dnx:List HV→List PV→Nat × Nat × (Nat→Int) × Int:=fun hs ps=>match hs,ps with
 | [_,.v (.n _ k)],[.lf w f,.n _ c]=>(w,c.toNat,unFQ f,k)
 | _,_=>(0,0,fun _=>0,0)
noncomputable def o_nx:List HV→List PV→Option (Bool × (PV × List PV)):=o_fb dnx cnx hnx enx xnx qnx
theorem kVV:kYG Tryz.prog 30 o_nx:=ok_fb fun t h=>by
 obtain ⟨w,m,e,k⟩:=t;exact snd_nx w m e k h.1 h.2.1 h.2.2
def abcB:ByteArray:=ByteArray.mk #[97,98,99,100,101,102,103,104,105,106]
def ltrI (i:Int):ByteArray:=abcB.extract i.toNat (vJJ .i64 (i + 1)).toNat
end Go.Proofs.YtgmbkkkbfbocnaaGreat.Sn

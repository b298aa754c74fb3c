/- Part 30 of the texts behind the last one: rules and contracts. No condition. -/
import Derived.Test.YtklmegnpfhiibaaGreatBK29
open Bool renaming and_eq_true → vQJ, and_self → vZQ
open Go.IntKind renaming wrap → vYW
namespace Go.Proofs.YtklmegnpfhiibaaGreat.Sn
open Go.Rx Rt Go.Sx Go.RowKit Od Nb
noncomputable def orrnd (x k:Int):OrS:=orS [] []
noncomputable def yZE (x k:Int):List (List Nat × yV):=[]
set_option maxRecDepth 100000 in
theorem pxrnd (x k:Int):qQI Tf (orrnd x k) (qY (yZE x k)) 60 11 [.n .i64 x,.n .i64 k] =
 (bif (decide (k=0)) then none
 else (bif (decide ((x.tmod k) < 0)) then some (.v (.n .i64 (vYW .i64 ((x.tmod k) + k))),[])
 else some (.v (.n .i64 (x.tmod k)),[]))):=by kernel_rfl
theorem snd_rnd (x k:Int) (hk:0 < k∧k≤9223372036854775807):zY Tryz.prog 11 [.n .i64 x,.n .i64 k] (.v (.n .i64 (x % k))):=by
 refine qH (N:=60) (LO:=qY (yZE x k)) jY yH (jK (l:=[]) (m:=[]) trivial trivial) (fun p S hp => ?_) ?_
 ·refine qX (L:=qZ Tf 11) (l:=(yZE x k)) (show AllP _ (yZE x k) from trivial) p S hp
 ·refine (pxrnd x k).trans ?_;have hk0:k ≠ 0:=by omega
  have h1:=Int.emod_nonneg x hk0;have h2:=Int.emod_lt_of_pos x hk.1;rw [vYJ (show ¬ k=0 by omega),Int.tmod_eq_emod];by_cases h:0≤x ∨ k ∣ x
  ·rw [if_pos h,show ((0:Nat):Int)=0 from rfl,Int.sub_zero,vYJ (show ¬ x % k < 0 by omega)];rfl
  ·rw [if_neg h,show ((k.natAbs:Nat):Int)=k by omega,vYK (show x % k - k < 0 by omega),show vYW .i64 (x % k - k + k)=x % k from by rw [show x % k - k + k=x % k by omega]; exact zV (by omega)];rfl
def crn:Int × Int→Prop:=fun t=>match t with | (_,k)=>0 < k∧k≤9223372036854775807
def ern:Int × Int→List PV:=fun t=>match t with | (x,k)=>[.n .i64 x,.n .i64 k]
noncomputable def rrn:Int × Int→Ret:=fun t=>match t with | (x,k)=>.v (.n .i64 (x % k))
def drn:List PV→Int × Int:=fun ps=>match ps with
 | [.n _ x,.n _ k]=>(x,k)
 | _=>(0,0)
noncomputable def o_rn:List PV→Option (Bool × Ret):=o_fm drn crn ern rrn
theorem ok_rn:jH Tryz.prog 11 o_rn:=qQD fun t h=>by
 obtain ⟨x,k⟩:=t;exact snd_rnd x k h
noncomputable def ornx (w m:Nat) (e:Nat→Int) (k:Int):OrS:=orS [(11,o_rn)] []
noncomputable def lsnx (w m:Nat) (e:Nat→Int) (k:Int):List (List Nat × yV):=[]
set_option maxRecDepth 100000 in
theorem pxnx (w m:Nat) (e:Nat→Int) (k:Int):zGD Tf (ornx w m e k) (qY (lsnx w m e k)) 60 24 [.p 1000000 0,.v (.n .i64 k)] [.lf w (fQ e),.n .i64 (m:Int)] =
 (bif (decide ((w:Int)≤(m:Int))) then some (.v (.t [.n .i64 0,.lf w (fQ e),.n .i64 (m:Int)]),[])
 else (bif (inB (vYW .i64 ((vYW .i64 ((m:Int) + 1)) - 1)) w) then (bif (gF1 crn ern ((e ((vYW .i64 ((vYW .i64 ((m:Int) + 1)) - 1))).toNat),k)) then some (.v (.t [.n .i64 ((e ((vYW .i64 ((vYW .i64 ((m:Int) + 1)) - 1))).toNat) % k),.lf w (fQ e),.n .i64 (vYW .i64 ((m:Int) + 1))]),[])
 else none)
 else none)):=by kernel_rfl
theorem snd_nx (w m:Nat) (e:Nat→Int) (k:Int) (_:m≤w) (_:w≤9223372036854775807) (hk:0 < k∧k≤9223372036854775807):qVA Tryz.prog 24 [.p 1000000 0,.v (.n .i64 k)] [.lf w (fQ e),.n .i64 (m:Int)] (.n .i64 (nxV e w m k)) ([.lf w (fQ e),.n .i64 ((min (m + 1) w:Nat):Int)]):=by
 refine qVU (N:=60) (LO:=qY (lsnx w m e k)) jY yH (jK (l:=[(11,o_rn)]) (m:=[]) ⟨ok_rn,trivial⟩ trivial) (fun p S hp => ?_) ?_
 ·refine qX (L:=qZ Tf 24) (l:=(lsnx w m e k)) (show AllP _ (lsnx w m e k) from trivial) p S hp
 ·refine (pxnx w m e k).trans ?_;unfold nxV eW;by_cases h:m < w
  ·have h1:vYW .i64 ((m:Int) + 1)=(m:Int) + 1:=zV (by omega);have h2:vYW .i64 ((m:Int) + 1 - 1)=((m:Nat):Int):=by rw [zV (by omega)]; omega
   rw [vYJ (show ¬ (w:Int)≤(m:Int) by omega),h1,h2,zU h,toN,jV (C:=crn) (t:=(_,k)) hk,show Nat.blt m w=true from by rw [Nat.blt_eq]; exact h,show min (m + 1) w=m + 1 by omega];rfl
  ·rw [vYK (show (w:Int)≤(m:Int) by omega),show Nat.blt m w=false from by rw [Bool.eq_false_iff,ne_eq,Nat.blt_eq]; exact h,show min (m + 1) w=m by omega]
   simp
def cnx:Nat × Nat × (Nat→Int) × Int→Prop:=fun t=>match t with | (w,m,_,k)=>m≤w∧w≤9223372036854775807∧0 < k∧k≤9223372036854775807
def hnx:Nat × Nat × (Nat→Int) × Int→List HV:=fun t=>match t with | (_,_,_,k)=>[.p pid 0,.v (.n .i64 k)]
def enx:Nat × Nat × (Nat→Int) × Int→List PV:=fun t=>match t with | (w,m,e,_)=>[.lf w (fQ e),.n .i64 (m:Int)]
noncomputable def xnx:Nat × Nat × (Nat→Int) × Int→PV:=fun t=>match t with | (w,m,e,k)=>.n .i64 (nxV e w m k)
noncomputable def qnx:Nat × Nat × (Nat→Int) × Int→List PV:=fun t=>match t with | (w,m,e,_)=>[.lf w (fQ e),.n .i64 ((min (m + 1) w:Nat):Int)]
def dnx:List HV→List PV→Nat × Nat × (Nat→Int) × Int:=fun hs ps=>match hs,ps with
 | [_,.v (.n _ k)],[.lf w f,.n _ c]=>(w,c.toNat,unFQ f,k)
 | _,_=>(0,0,fun _=>0,0)
noncomputable def o_nx:List HV→List PV→Option (Bool × (PV × List PV)):=o_fb dnx cnx hnx enx xnx qnx
theorem yQK:zXE Tryz.prog 24 o_nx:=yJX fun t h=>by
 obtain ⟨w,m,e,k⟩:=t;exact snd_nx w m e k h.1 h.2.1 h.2.2
def kdF (x:Int):Int:=(bif (decide (x=0)) then 3 else (bif (decide ((x - 1)=0)) then 3 else (bif (decide (((x - 1) - 1)=0)) then 1 else (bif (decide ((((x - 1) - 1) - 1)=0)) then 2 else (bif (decide (((((x - 1) - 1) - 1) - 1)=0)) then 4 else (bif (decide ((((((x - 1) - 1) - 1) - 1) - 1)=0)) then 5 else (bif (decide (((((((x - 1) - 1) - 1) - 1) - 1) - 1)=0)) then 3 else 0)))))))
def abcB:ByteArray:=ByteArray.mk #[97,98,99,100,101,102,103,104,105,106]
def ltrI (i:Int):ByteArray:=abcB.extract i.toNat (vYW .i64 (i + 1)).toNat
theorem lY {x:Int} (_:0≤x∧x < 5) : -65536≤vYW .i64 (vYW .i64 (x - 2) * 32768)∧vYW .i64 (vYW .i64 (x - 2) * 32768)≤65536:=by
 rw [show vYW .i64 (x - 2)=x - 2 from zV (by omega),zV (by omega)]; omega
theorem lZ {x:Int} (_:0≤x∧x < 3) : -32768≤vYW .i64 (vYW .i64 (x - 1) * 32768)∧vYW .i64 (vYW .i64 (x - 1) * 32768)≤32768:=by
 rw [show vYW .i64 (x - 1)=x - 1 from zV (by omega),zV (by omega)]; omega
theorem lLo {x:Int} (_:0≤x∧x < 3) : -131072≤vYW .i64 (vYW .i64 (0 - x) * 65536)∧vYW .i64 (vYW .i64 (0 - x) * 65536)≤0:=by
 rw [show vYW .i64 (0 - x)=0 - x from zV (by omega),zV (by omega)]; omega
theorem lHi {x:Int} (_:0≤x∧x < 4):0≤vYW .i64 (x * 32768)∧vYW .i64 (x * 32768)≤98304:=by
 rw [zV (by omega)]; omega
theorem lLt {x:Int} (_:0≤x∧x < 5) : -32768≤vYW .i64 ((vYW .i64 (vYW .i64 (0 - x) * 65536)).tdiv 8)∧vYW .i64 ((vYW .i64 (vYW .i64 (0 - x) * 65536)).tdiv 8)≤0:=by
 have e:((0 - x) * 65536).tdiv 8 = -(x * 8192):=by
  rw [show (0 - x) * 65536 = -(x * 8192) * 8 by omega];exact Int.mul_tdiv_cancel _ (by decide)
 rw [show vYW .i64 (0 - x)=0 - x from zV (by omega),show vYW .i64 ((0 - x) * 65536)=(0 - x) * 65536 from zV (by omega),e,zV (by omega)]; omega
theorem lHt {x y:Int} (_:0≤x∧x < 4) (g:0≤y∧y < 3):0≤vYW .i64 (vYW .i64 ((vYW .i64 (vYW .i64 (1 + x) * 65536)).tdiv 8) + y)∧vYW .i64 (vYW .i64 ((vYW .i64 (vYW .i64 (1 + x) * 65536)).tdiv 8) + y)≤40000:=by
 have e:((1 + x) * 65536).tdiv 8=(1 + x) * 8192:=by
  rw [show (1 + x) * 65536=((1 + x) * 8192) * 8 by omega];exact Int.mul_tdiv_cancel _ (by decide)
 rw [show vYW .i64 (1 + x)=1 + x from zV (by omega),show vYW .i64 ((1 + x) * 65536)=(1 + x) * 65536 from zV (by omega),e,show vYW .i64 ((1 + x) * 8192)=(1 + x) * 8192 from zV (by omega),zV (by omega)]; omega
theorem lW {x:Int} (_:0≤x∧x < 4):1≤vYW .i64 (1 + x)∧vYW .i64 (1 + x)≤4:=by rw [zV (by omega)]; omega
theorem lA {x:Int} (_:0≤x∧x < 3):65536≤vYW .i64 (65536 + x)∧vYW .i64 (65536 + x)≤65538:=by rw [zV (by omega)]; omega
theorem kdF_b (x:Int):0≤kdF x∧kdF x≤6:=by
 unfold kdF;simp only [Bool.cond_eq_ite]
 repeat' split
 all_goals omega
theorem qZC {k lo hi:Int} (_:0≤k∧k≤6) (h1:k=0→lo=0∧hi=0) (_: -524288≤lo∧hi≤524288) : -limK k≤lo∧hi≤limK k:=by
 unfold limK;split
 ·omega
 ·split
  ·omega
  ·have:=h1 (by omega)
   omega
def JM (i:Nat) (j:J):Prop:=j.name=ltrI i∧JF i j∧(-1000000≤j.lo∧j.hi≤1000000)
noncomputable def orjt:OrS:=orS [] [(24,o_nx)]
set_option maxRecDepth 100000 in
theorem pxjt (w m:Nat) (e:Nat→Int) (i:Int):zGD Tf orjt (qY []) 60 51 [.p 1000000 0,.v (.n .i64 i)] [.lf w (fQ e),.n .i64 (m:Int)] =
 (bif (inS (some i) (some (vYW .i64 (i + 1))) 10) then (bif (gB1 cnx hnx enx (w,m,e,4)) then (bif (gB1 cnx hnx enx (w,(mA w m 1),e,3)) then (bif (gB1 cnx hnx enx (w,(mA w m 2),e,8)) then (bif (inB (nxV e w (mA w m 2) 8) 8 && true) then (bif (gB1 cnx hnx enx (w,(mA w m 3),e,4)) then (bif (decide ((nxV e w (mA w m 3) 4)=1)) then (bif (decide (0 < i)) then (bif (gB1 cnx hnx enx (w,(mA w m 4),e,5)) then (bif (gB1 cnx hnx enx (w,(mA w m 5),e,3)) then (bif (decide ((kdF (nxV e w (mA w m 2) 8))=0)) then some (.v (.t [.a [.s (ltrI i),.n .i64 (kdF (nxV e w (mA w m 2) 8)),.n .i64 (-1),.n .i64 131072,.n .i64 (vYW .i64 ((vYW .i64 ((nxV e w (mA w m 4) 5) - 2)) * 32768)),.n .i64 (vYW .i64 ((vYW .i64 ((nxV e w (mA w m 5) 3) - 1)) * 32768)),.n .i64 0,.n .i64 0,.n .i64 (vYW .i64 (1 + (nxV e w m 4))),.n .i64 65536,.n .i64 (vYW .i64 (65536 + (nxV e w (mA w m 1) 3))),.n .i64 327680],.lf w (fQ e),.n .i64 ((mA w m 6:Nat):Int)]),[])
 else (bif (decide ((kdF (nxV e w (mA w m 2) 8))=4)) then (bif (gB1 cnx hnx enx (w,(mA w m 6),e,3)) then (bif (gB1 cnx hnx enx (w,(mA w m 7),e,4)) then some (.v (.t [.a [.s (ltrI i),.n .i64 (kdF (nxV e w (mA w m 2) 8)),.n .i64 (-1),.n .i64 131072,.n .i64 (vYW .i64 ((vYW .i64 ((nxV e w (mA w m 4) 5) - 2)) * 32768)),.n .i64 (vYW .i64 ((vYW .i64 ((nxV e w (mA w m 5) 3) - 1)) * 32768)),.n .i64 (vYW .i64 ((vYW .i64 (0 - (nxV e w (mA w m 6) 3))) * 65536)),.n .i64 (vYW .i64 ((nxV e w (mA w m 7) 4) * 32768)),.n .i64 (vYW .i64 (1 + (nxV e w m 4))),.n .i64 65536,.n .i64 (vYW .i64 (65536 + (nxV e w (mA w m 1) 3))),.n .i64 327680],.lf w (fQ e),.n .i64 ((mA w m 8:Nat):Int)]),[])
 else none)
 else none)
 else (bif (decide ((kdF (nxV e w (mA w m 2) 8))=5)) then (bif (gB1 cnx hnx enx (w,(mA w m 6),e,3)) then (bif (gB1 cnx hnx enx (w,(mA w m 7),e,4)) then some (.v (.t [.a [.s (ltrI i),.n .i64 (kdF (nxV e w (mA w m 2) 8)),.n .i64 (-1),.n .i64 131072,.n .i64 (vYW .i64 ((vYW .i64 ((nxV e w (mA w m 4) 5) - 2)) * 32768)),.n .i64 (vYW .i64 ((vYW .i64 ((nxV e w (mA w m 5) 3) - 1)) * 32768)),.n .i64 (vYW .i64 ((vYW .i64 (0 - (nxV e w (mA w m 6) 3))) * 65536)),.n .i64 (vYW .i64 ((nxV e w (mA w m 7) 4) * 32768)),.n .i64 (vYW .i64 (1 + (nxV e w m 4))),.n .i64 65536,.n .i64 (vYW .i64 (65536 + (nxV e w (mA w m 1) 3))),.n .i64 327680],.lf w (fQ e),.n .i64 ((mA w m 8:Nat):Int)]),[])
 else none)
 else none)
 else (bif (gB1 cnx hnx enx (w,(mA w m 6),e,5)) then (bif (gB1 cnx hnx enx (w,(mA w m 7),e,4)) then (bif (gB1 cnx hnx enx (w,(mA w m 8),e,3)) then some (.v (.t [.a [.s (ltrI i),.n .i64 (kdF (nxV e w (mA w m 2) 8)),.n .i64 (-1),.n .i64 131072,.n .i64 (vYW .i64 ((vYW .i64 ((nxV e w (mA w m 4) 5) - 2)) * 32768)),.n .i64 (vYW .i64 ((vYW .i64 ((nxV e w (mA w m 5) 3) - 1)) * 32768)),.n .i64 (vYW .i64 ((vYW .i64 ((vYW .i64 (0 - (nxV e w (mA w m 6) 5))) * 65536)).tdiv 8)),.n .i64 (vYW .i64 ((vYW .i64 ((vYW .i64 ((vYW .i64 (1 + (nxV e w (mA w m 7) 4))) * 65536)).tdiv 8)) + (nxV e w (mA w m 8) 3))),.n .i64 (vYW .i64 (1 + (nxV e w m 4))),.n .i64 65536,.n .i64 (vYW .i64 (65536 + (nxV e w (mA w m 1) 3))),.n .i64 327680],.lf w (fQ e),.n .i64 ((mA w m 9:Nat):Int)]),[])
 else none)
 else none)
 else none))))
 else none)
 else none)
 else (bif (decide ((kdF (nxV e w (mA w m 2) 8))=0)) then some (.v (.t [.a [.s (ltrI i),.n .i64 (kdF (nxV e w (mA w m 2) 8)),.n .i64 (-1),.n .i64 0,.n .i64 0,.n .i64 0,.n .i64 0,.n .i64 0,.n .i64 (vYW .i64 (1 + (nxV e w m 4))),.n .i64 65536,.n .i64 (vYW .i64 (65536 + (nxV e w (mA w m 1) 3))),.n .i64 327680],.lf w (fQ e),.n .i64 ((mA w m 4:Nat):Int)]),[])
 else (bif (decide ((kdF (nxV e w (mA w m 2) 8))=4)) then (bif (gB1 cnx hnx enx (w,(mA w m 4),e,3)) then (bif (gB1 cnx hnx enx (w,(mA w m 5),e,4)) then some (.v (.t [.a [.s (ltrI i),.n .i64 (kdF (nxV e w (mA w m 2) 8)),.n .i64 (-1),.n .i64 0,.n .i64 0,.n .i64 0,.n .i64 (vYW .i64 ((vYW .i64 (0 - (nxV e w (mA w m 4) 3))) * 65536)),.n .i64 (vYW .i64 ((nxV e w (mA w m 5) 4) * 32768)),.n .i64 (vYW .i64 (1 + (nxV e w m 4))),.n .i64 65536,.n .i64 (vYW .i64 (65536 + (nxV e w (mA w m 1) 3))),.n .i64 327680],.lf w (fQ e),.n .i64 ((mA w m 6:Nat):Int)]),[])
 else none)
 else none)
 else (bif (decide ((kdF (nxV e w (mA w m 2) 8))=5)) then (bif (gB1 cnx hnx enx (w,(mA w m 4),e,3)) then (bif (gB1 cnx hnx enx (w,(mA w m 5),e,4)) then some (.v (.t [.a [.s (ltrI i),.n .i64 (kdF (nxV e w (mA w m 2) 8)),.n .i64 (-1),.n .i64 0,.n .i64 0,.n .i64 0,.n .i64 (vYW .i64 ((vYW .i64 (0 - (nxV e w (mA w m 4) 3))) * 65536)),.n .i64 (vYW .i64 ((nxV e w (mA w m 5) 4) * 32768)),.n .i64 (vYW .i64 (1 + (nxV e w m 4))),.n .i64 65536,.n .i64 (vYW .i64 (65536 + (nxV e w (mA w m 1) 3))),.n .i64 327680],.lf w (fQ e),.n .i64 ((mA w m 6:Nat):Int)]),[])
 else none)
 else none)
 else (bif (gB1 cnx hnx enx (w,(mA w m 4),e,5)) then (bif (gB1 cnx hnx enx (w,(mA w m 5),e,4)) then (bif (gB1 cnx hnx enx (w,(mA w m 6),e,3)) then some (.v (.t [.a [.s (ltrI i),.n .i64 (kdF (nxV e w (mA w m 2) 8)),.n .i64 (-1),.n .i64 0,.n .i64 0,.n .i64 0,.n .i64 (vYW .i64 ((vYW .i64 ((vYW .i64 (0 - (nxV e w (mA w m 4) 5))) * 65536)).tdiv 8)),.n .i64 (vYW .i64 ((vYW .i64 ((vYW .i64 ((vYW .i64 (1 + (nxV e w (mA w m 5) 4))) * 65536)).tdiv 8)) + (nxV e w (mA w m 6) 3))),.n .i64 (vYW .i64 (1 + (nxV e w m 4))),.n .i64 65536,.n .i64 (vYW .i64 (65536 + (nxV e w (mA w m 1) 3))),.n .i64 327680],.lf w (fQ e),.n .i64 ((mA w m 7:Nat):Int)]),[])
 else none)
 else none)
 else none)))))
 else (bif (decide (0 < i)) then (bif (gB1 cnx hnx enx (w,(mA w m 4),e,5)) then (bif (gB1 cnx hnx enx (w,(mA w m 5),e,3)) then (bif (decide ((kdF (nxV e w (mA w m 2) 8))=0)) then some (.v (.t [.a [.s (ltrI i),.n .i64 (kdF (nxV e w (mA w m 2) 8)),.n .i64 (vYW .i64 (i - 1)),.n .i64 131072,.n .i64 (vYW .i64 ((vYW .i64 ((nxV e w (mA w m 4) 5) - 2)) * 32768)),.n .i64 (vYW .i64 ((vYW .i64 ((nxV e w (mA w m 5) 3) - 1)) * 32768)),.n .i64 0,.n .i64 0,.n .i64 (vYW .i64 (1 + (nxV e w m 4))),.n .i64 65536,.n .i64 (vYW .i64 (65536 + (nxV e w (mA w m 1) 3))),.n .i64 327680],.lf w (fQ e),.n .i64 ((mA w m 6:Nat):Int)]),[])
 else (bif (decide ((kdF (nxV e w (mA w m 2) 8))=4)) then (bif (gB1 cnx hnx enx (w,(mA w m 6),e,3)) then (bif (gB1 cnx hnx enx (w,(mA w m 7),e,4)) then some (.v (.t [.a [.s (ltrI i),.n .i64 (kdF (nxV e w (mA w m 2) 8)),.n .i64 (vYW .i64 (i - 1)),.n .i64 131072,.n .i64 (vYW .i64 ((vYW .i64 ((nxV e w (mA w m 4) 5) - 2)) * 32768)),.n .i64 (vYW .i64 ((vYW .i64 ((nxV e w (mA w m 5) 3) - 1)) * 32768)),.n .i64 (vYW .i64 ((vYW .i64 (0 - (nxV e w (mA w m 6) 3))) * 65536)),.n .i64 (vYW .i64 ((nxV e w (mA w m 7) 4) * 32768)),.n .i64 (vYW .i64 (1 + (nxV e w m 4))),.n .i64 65536,.n .i64 (vYW .i64 (65536 + (nxV e w (mA w m 1) 3))),.n .i64 327680],.lf w (fQ e),.n .i64 ((mA w m 8:Nat):Int)]),[])
 else none)
 else none)
 else (bif (decide ((kdF (nxV e w (mA w m 2) 8))=5)) then (bif (gB1 cnx hnx enx (w,(mA w m 6),e,3)) then (bif (gB1 cnx hnx enx (w,(mA w m 7),e,4)) then some (.v (.t [.a [.s (ltrI i),.n .i64 (kdF (nxV e w (mA w m 2) 8)),.n .i64 (vYW .i64 (i - 1)),.n .i64 131072,.n .i64 (vYW .i64 ((vYW .i64 ((nxV e w (mA w m 4) 5) - 2)) * 32768)),.n .i64 (vYW .i64 ((vYW .i64 ((nxV e w (mA w m 5) 3) - 1)) * 32768)),.n .i64 (vYW .i64 ((vYW .i64 (0 - (nxV e w (mA w m 6) 3))) * 65536)),.n .i64 (vYW .i64 ((nxV e w (mA w m 7) 4) * 32768)),.n .i64 (vYW .i64 (1 + (nxV e w m 4))),.n .i64 65536,.n .i64 (vYW .i64 (65536 + (nxV e w (mA w m 1) 3))),.n .i64 327680],.lf w (fQ e),.n .i64 ((mA w m 8:Nat):Int)]),[])
 else none)
 else none)
 else (bif (gB1 cnx hnx enx (w,(mA w m 6),e,5)) then (bif (gB1 cnx hnx enx (w,(mA w m 7),e,4)) then (bif (gB1 cnx hnx enx (w,(mA w m 8),e,3)) then some (.v (.t [.a [.s (ltrI i),.n .i64 (kdF (nxV e w (mA w m 2) 8)),.n .i64 (vYW .i64 (i - 1)),.n .i64 131072,.n .i64 (vYW .i64 ((vYW .i64 ((nxV e w (mA w m 4) 5) - 2)) * 32768)),.n .i64 (vYW .i64 ((vYW .i64 ((nxV e w (mA w m 5) 3) - 1)) * 32768)),.n .i64 (vYW .i64 ((vYW .i64 ((vYW .i64 (0 - (nxV e w (mA w m 6) 5))) * 65536)).tdiv 8)),.n .i64 (vYW .i64 ((vYW .i64 ((vYW .i64 ((vYW .i64 (1 + (nxV e w (mA w m 7) 4))) * 65536)).tdiv 8)) + (nxV e w (mA w m 8) 3))),.n .i64 (vYW .i64 (1 + (nxV e w m 4))),.n .i64 65536,.n .i64 (vYW .i64 (65536 + (nxV e w (mA w m 1) 3))),.n .i64 327680],.lf w (fQ e),.n .i64 ((mA w m 9:Nat):Int)]),[])
 else none)
 else none)
 else none))))
 else none)
 else none)
 else (bif (decide ((kdF (nxV e w (mA w m 2) 8))=0)) then some (.v (.t [.a [.s (ltrI i),.n .i64 (kdF (nxV e w (mA w m 2) 8)),.n .i64 (vYW .i64 (i - 1)),.n .i64 0,.n .i64 0,.n .i64 0,.n .i64 0,.n .i64 0,.n .i64 (vYW .i64 (1 + (nxV e w m 4))),.n .i64 65536,.n .i64 (vYW .i64 (65536 + (nxV e w (mA w m 1) 3))),.n .i64 327680],.lf w (fQ e),.n .i64 ((mA w m 4:Nat):Int)]),[])
 else (bif (decide ((kdF (nxV e w (mA w m 2) 8))=4)) then (bif (gB1 cnx hnx enx (w,(mA w m 4),e,3)) then (bif (gB1 cnx hnx enx (w,(mA w m 5),e,4)) then some (.v (.t [.a [.s (ltrI i),.n .i64 (kdF (nxV e w (mA w m 2) 8)),.n .i64 (vYW .i64 (i - 1)),.n .i64 0,.n .i64 0,.n .i64 0,.n .i64 (vYW .i64 ((vYW .i64 (0 - (nxV e w (mA w m 4) 3))) * 65536)),.n .i64 (vYW .i64 ((nxV e w (mA w m 5) 4) * 32768)),.n .i64 (vYW .i64 (1 + (nxV e w m 4))),.n .i64 65536,.n .i64 (vYW .i64 (65536 + (nxV e w (mA w m 1) 3))),.n .i64 327680],.lf w (fQ e),.n .i64 ((mA w m 6:Nat):Int)]),[])
 else none)
 else none)
 else (bif (decide ((kdF (nxV e w (mA w m 2) 8))=5)) then (bif (gB1 cnx hnx enx (w,(mA w m 4),e,3)) then (bif (gB1 cnx hnx enx (w,(mA w m 5),e,4)) then some (.v (.t [.a [.s (ltrI i),.n .i64 (kdF (nxV e w (mA w m 2) 8)),.n .i64 (vYW .i64 (i - 1)),.n .i64 0,.n .i64 0,.n .i64 0,.n .i64 (vYW .i64 ((vYW .i64 (0 - (nxV e w (mA w m 4) 3))) * 65536)),.n .i64 (vYW .i64 ((nxV e w (mA w m 5) 4) * 32768)),.n .i64 (vYW .i64 (1 + (nxV e w m 4))),.n .i64 65536,.n .i64 (vYW .i64 (65536 + (nxV e w (mA w m 1) 3))),.n .i64 327680],.lf w (fQ e),.n .i64 ((mA w m 6:Nat):Int)]),[])
 else none)
 else none)
 else (bif (gB1 cnx hnx enx (w,(mA w m 4),e,5)) then (bif (gB1 cnx hnx enx (w,(mA w m 5),e,4)) then (bif (gB1 cnx hnx enx (w,(mA w m 6),e,3)) then some (.v (.t [.a [.s (ltrI i),.n .i64 (kdF (nxV e w (mA w m 2) 8)),.n .i64 (vYW .i64 (i - 1)),.n .i64 0,.n .i64 0,.n .i64 0,.n .i64 (vYW .i64 ((vYW .i64 ((vYW .i64 (0 - (nxV e w (mA w m 4) 5))) * 65536)).tdiv 8)),.n .i64 (vYW .i64 ((vYW .i64 ((vYW .i64 ((vYW .i64 (1 + (nxV e w (mA w m 5) 4))) * 65536)).tdiv 8)) + (nxV e w (mA w m 6) 3))),.n .i64 (vYW .i64 (1 + (nxV e w m 4))),.n .i64 65536,.n .i64 (vYW .i64 (65536 + (nxV e w (mA w m 1) 3))),.n .i64 327680],.lf w (fQ e),.n .i64 ((mA w m 7:Nat):Int)]),[])
 else none)
 else none)
 else none))))))
 else none)
 else none)
 else none)
 else none)
 else none)
 else none):=by kernel_rfl
theorem joint_ex (w m:Nat) (e:Nat→Int) (i:Nat) (hm:m≤w) (hw:w≤9223372036854775807) (_:i < 10):∃ (j:J) (m':Nat),(m'≤w∧JM i j)∧qVA Tryz.prog 51 [.p pid 0,.v (.n .i64 (i:Int))] [.lf w (fQ e),.n .i64 (m:Int)] (.a (jp j)) [.lf w (fQ e),.n .i64 (m':Int)]:=by
 have key:∃ (j:J) (m':Nat),(m'≤w∧JM i j)∧zGD Tf orjt (qY []) 60 51 [.p 1000000 0,.v (.n .i64 (i:Int))] [.lf w (fQ e),.n .i64 (m:Int)]=some (.v (.t [.a (jp j),.lf w (fQ e),.n .i64 (m':Int)]),[]):=by
  rw [pxjt w m e i];have hs:inS (some (i:Int)) (some (vYW .i64 ((i:Int) + 1))) 10=true:=by
   rw [zV (by omega)];unfold inS loOf hiOf;simp only [vQJ,decide_eq_true_eq];omega
  have kb:=kdF_b (nxV e w (mA w m 2) 8);have k8:inB (nxV e w (mA w m 2) 8) 8=true:=by
   have:=qJX (e:=e) (w:=w) (m:=mA w m 2) (k:=8) (by decide)
   unfold inB;rw [vYK this.1,vYK (by omega)]; rfl
  simp only [hs,k8,vZQ,vYZ,qYW (C:=cnx) (t:=(w,m,e,4)) ⟨hm,hw,by decide,by decide⟩,qYW (C:=cnx) (t:=(w,(mA w m 1),e,3)) ⟨kG hm 1,hw,by decide,by decide⟩,qYW (C:=cnx) (t:=(w,(mA w m 2),e,8)) ⟨kG hm 2,hw,by decide,by decide⟩,qYW (C:=cnx) (t:=(w,(mA w m 3),e,4)) ⟨kG hm 3,hw,by decide,by decide⟩,qYW (C:=cnx) (t:=(w,(mA w m 4),e,5)) ⟨kG hm 4,hw,by decide,by decide⟩,qYW (C:=cnx) (t:=(w,(mA w m 5),e,3)) ⟨kG hm 5,hw,by decide,by decide⟩,qYW (C:=cnx) (t:=(w,(mA w m 6),e,3)) ⟨kG hm 6,hw,by decide,by decide⟩,qYW (C:=cnx) (t:=(w,(mA w m 7),e,4)) ⟨kG hm 7,hw,by decide,by decide⟩,qYW (C:=cnx) (t:=(w,(mA w m 6),e,5)) ⟨kG hm 6,hw,by decide,by decide⟩,qYW (C:=cnx) (t:=(w,(mA w m 8),e,3)) ⟨kG hm 8,hw,by decide,by decide⟩,qYW (C:=cnx) (t:=(w,(mA w m 4),e,3)) ⟨kG hm 4,hw,by decide,by decide⟩,qYW (C:=cnx) (t:=(w,(mA w m 5),e,4)) ⟨kG hm 5,hw,by decide,by decide⟩];have b0:=qJX (e:=e) (w:=w) (m:=m) (k:=4) (by decide);have b1:=qJX (e:=e) (w:=w) (m:=mA w m 1) (k:=3) (by decide);have f0:=lW b0;have f1:=lA b1;have y4:=lY (qJX (e:=e) (w:=w) (m:=mA w m 4) (k:=5) (by decide));have z5:=lZ (qJX (e:=e) (w:=w) (m:=mA w m 5) (k:=3) (by decide));have lo6:=lLo (qJX (e:=e) (w:=w) (m:=mA w m 6) (k:=3) (by decide));have hi7:=lHi (qJX (e:=e) (w:=w) (m:=mA w m 7) (k:=4) (by decide));have lt6:=lLt (qJX (e:=e) (w:=w) (m:=mA w m 6) (k:=5) (by decide));have ht7:=lHt (qJX (e:=e) (w:=w) (m:=mA w m 7) (k:=4) (by decide)) (qJX (e:=e) (w:=w) (m:=mA w m 8) (k:=3) (by decide));have lo4:=lLo (qJX (e:=e) (w:=w) (m:=mA w m 4) (k:=3) (by decide));have hi5:=lHi (qJX (e:=e) (w:=w) (m:=mA w m 5) (k:=4) (by decide));have lt4:=lLt (qJX (e:=e) (w:=w) (m:=mA w m 4) (k:=5) (by decide));have ht5:=lHt (qJX (e:=e) (w:=w) (m:=mA w m 5) (k:=4) (by decide)) (qJX (e:=e) (w:=w) (m:=mA w m 6) (k:=3) (by decide));have hp:vYW .i64 ((i:Int) - 1)=(i:Int) - 1:=zV (by omega);rw [hp];generalize kdF (nxV e w (mA w m 2) 8)=kd at kb ⊢;by_cases c1:(nxV e w (mA w m 3) 4)=1
  ·simp only [c1,decide_true,vYZ];by_cases c2:(0:Int) < (i:Int)
   ·simp only [c2,decide_true,vYZ];by_cases c3:kd=0
    ·simp only [c3,decide_true,vYZ];exact ⟨⟨ltrI i,0,(-1),⟨131072,(vYW .i64 ((vYW .i64 ((nxV e w (mA w m 4) 5) - 2)) * 32768)),(vYW .i64 ((vYW .i64 ((nxV e w (mA w m 5) 3) - 1)) * 32768))⟩,0,0,(vYW .i64 (1 + (nxV e w m 4))),65536,(vYW .i64 (65536 + (nxV e w (mA w m 1) 3))),327680⟩,mA w m 6,⟨kG hm 6,rfl,⟨by dsimp only; omega,by dsimp only; omega,by dsimp only; omega,by dsimp only; omega,by dsimp only; omega,⟨by dsimp only; omega,qZC (by dsimp only; omega) (fun _=>⟨rfl,rfl⟩) (by dsimp only; omega)⟩,by dsimp only; omega,by dsimp only; omega,by dsimp only; omega,by dsimp only; omega⟩,by dsimp only; omega⟩,rfl⟩
    ·simp only [c3,decide_false,vYY];by_cases c4:kd=4
     ·simp only [c4,decide_true,vYZ];exact ⟨⟨ltrI i,4,(-1),⟨131072,(vYW .i64 ((vYW .i64 ((nxV e w (mA w m 4) 5) - 2)) * 32768)),(vYW .i64 ((vYW .i64 ((nxV e w (mA w m 5) 3) - 1)) * 32768))⟩,(vYW .i64 ((vYW .i64 (0 - (nxV e w (mA w m 6) 3))) * 65536)),(vYW .i64 ((nxV e w (mA w m 7) 4) * 32768)),(vYW .i64 (1 + (nxV e w m 4))),65536,(vYW .i64 (65536 + (nxV e w (mA w m 1) 3))),327680⟩,mA w m 8,⟨kG hm 8,rfl,⟨by dsimp only; omega,by dsimp only; omega,by dsimp only; omega,by dsimp only; omega,by dsimp only; omega,⟨by dsimp only; omega,qZC (by dsimp only; omega) (fun h=>absurd (show (4:Int)=0 from h) (by decide)) (by dsimp only; omega)⟩,by dsimp only; omega,by dsimp only; omega,by dsimp only; omega,by dsimp only; omega⟩,by dsimp only; omega⟩,rfl⟩
     ·simp only [c4,decide_false,vYY];by_cases c5:kd=5
      ·simp only [c5,decide_true,vYZ];exact ⟨⟨ltrI i,5,(-1),⟨131072,(vYW .i64 ((vYW .i64 ((nxV e w (mA w m 4) 5) - 2)) * 32768)),(vYW .i64 ((vYW .i64 ((nxV e w (mA w m 5) 3) - 1)) * 32768))⟩,(vYW .i64 ((vYW .i64 (0 - (nxV e w (mA w m 6) 3))) * 65536)),(vYW .i64 ((nxV e w (mA w m 7) 4) * 32768)),(vYW .i64 (1 + (nxV e w m 4))),65536,(vYW .i64 (65536 + (nxV e w (mA w m 1) 3))),327680⟩,mA w m 8,⟨kG hm 8,rfl,⟨by dsimp only; omega,by dsimp only; omega,by dsimp only; omega,by dsimp only; omega,by dsimp only; omega,⟨by dsimp only; omega,qZC (by dsimp only; omega) (fun h=>absurd (show (5:Int)=0 from h) (by decide)) (by dsimp only; omega)⟩,by dsimp only; omega,by dsimp only; omega,by dsimp only; omega,by dsimp only; omega⟩,by dsimp only; omega⟩,rfl⟩
      ·simp only [c5,decide_false,vYY];exact ⟨⟨ltrI i,kd,(-1),⟨131072,(vYW .i64 ((vYW .i64 ((nxV e w (mA w m 4) 5) - 2)) * 32768)),(vYW .i64 ((vYW .i64 ((nxV e w (mA w m 5) 3) - 1)) * 32768))⟩,(vYW .i64 ((vYW .i64 ((vYW .i64 (0 - (nxV e w (mA w m 6) 5))) * 65536)).tdiv 8)),(vYW .i64 ((vYW .i64 ((vYW .i64 ((vYW .i64 (1 + (nxV e w (mA w m 7) 4))) * 65536)).tdiv 8)) + (nxV e w (mA w m 8) 3))),(vYW .i64 (1 + (nxV e w m 4))),65536,(vYW .i64 (65536 + (nxV e w (mA w m 1) 3))),327680⟩,mA w m 9,⟨kG hm 9,rfl,⟨by dsimp only; omega,by dsimp only; omega,by dsimp only; omega,by dsimp only; omega,by dsimp only; omega,⟨by dsimp only; omega,qZC (by dsimp only; omega) (fun h=>absurd h c3) (by dsimp only; omega)⟩,by dsimp only; omega,by dsimp only; omega,by dsimp only; omega,by dsimp only; omega⟩,by dsimp only; omega⟩,rfl⟩
   ·simp only [c2,decide_false,vYY];by_cases c6:kd=0
    ·simp only [c6,decide_true,vYZ];exact ⟨⟨ltrI i,0,(-1),⟨0,0,0⟩,0,0,(vYW .i64 (1 + (nxV e w m 4))),65536,(vYW .i64 (65536 + (nxV e w (mA w m 1) 3))),327680⟩,mA w m 4,⟨kG hm 4,rfl,⟨by dsimp only; omega,by dsimp only; omega,by dsimp only; omega,by dsimp only; omega,by dsimp only; omega,⟨by dsimp only; omega,qZC (by dsimp only; omega) (fun _=>⟨rfl,rfl⟩) (by dsimp only; omega)⟩,by dsimp only; omega,by dsimp only; omega,by dsimp only; omega,by dsimp only; omega⟩,by dsimp only; omega⟩,rfl⟩
    ·simp only [c6,decide_false,vYY];by_cases c7:kd=4
     ·simp only [c7,decide_true,vYZ];exact ⟨⟨ltrI i,4,(-1),⟨0,0,0⟩,(vYW .i64 ((vYW .i64 (0 - (nxV e w (mA w m 4) 3))) * 65536)),(vYW .i64 ((nxV e w (mA w m 5) 4) * 32768)),(vYW .i64 (1 + (nxV e w m 4))),65536,(vYW .i64 (65536 + (nxV e w (mA w m 1) 3))),327680⟩,mA w m 6,⟨kG hm 6,rfl,⟨by dsimp only; omega,by dsimp only; omega,by dsimp only; omega,by dsimp only; omega,by dsimp only; omega,⟨by dsimp only; omega,qZC (by dsimp only; omega) (fun h=>absurd (show (4:Int)=0 from h) (by decide)) (by dsimp only; omega)⟩,by dsimp only; omega,by dsimp only; omega,by dsimp only; omega,by dsimp only; omega⟩,by dsimp only; omega⟩,rfl⟩
     ·simp only [c7,decide_false,vYY];by_cases c8:kd=5
      ·simp only [c8,decide_true,vYZ];exact ⟨⟨ltrI i,5,(-1),⟨0,0,0⟩,(vYW .i64 ((vYW .i64 (0 - (nxV e w (mA w m 4) 3))) * 65536)),(vYW .i64 ((nxV e w (mA w m 5) 4) * 32768)),(vYW .i64 (1 + (nxV e w m 4))),65536,(vYW .i64 (65536 + (nxV e w (mA w m 1) 3))),327680⟩,mA w m 6,⟨kG hm 6,rfl,⟨by dsimp only; omega,by dsimp only; omega,by dsimp only; omega,by dsimp only; omega,by dsimp only; omega,⟨by dsimp only; omega,qZC (by dsimp only; omega) (fun h=>absurd (show (5:Int)=0 from h) (by decide)) (by dsimp only; omega)⟩,by dsimp only; omega,by dsimp only; omega,by dsimp only; omega,by dsimp only; omega⟩,by dsimp only; omega⟩,rfl⟩
      ·simp only [c8,decide_false,vYY];exact ⟨⟨ltrI i,kd,(-1),⟨0,0,0⟩,(vYW .i64 ((vYW .i64 ((vYW .i64 (0 - (nxV e w (mA w m 4) 5))) * 65536)).tdiv 8)),(vYW .i64 ((vYW .i64 ((vYW .i64 ((vYW .i64 (1 + (nxV e w (mA w m 5) 4))) * 65536)).tdiv 8)) + (nxV e w (mA w m 6) 3))),(vYW .i64 (1 + (nxV e w m 4))),65536,(vYW .i64 (65536 + (nxV e w (mA w m 1) 3))),327680⟩,mA w m 7,⟨kG hm 7,rfl,⟨by dsimp only; omega,by dsimp only; omega,by dsimp only; omega,by dsimp only; omega,by dsimp only; omega,⟨by dsimp only; omega,qZC (by dsimp only; omega) (fun h=>absurd h c6) (by dsimp only; omega)⟩,by dsimp only; omega,by dsimp only; omega,by dsimp only; omega,by dsimp only; omega⟩,by dsimp only; omega⟩,rfl⟩
  ·simp only [c1,decide_false,vYY];by_cases c9:(0:Int) < (i:Int)
   ·simp only [c9,decide_true,vYZ];by_cases c10:kd=0
    ·simp only [c10,decide_true,vYZ];exact ⟨⟨ltrI i,0,((i:Int) - 1),⟨131072,(vYW .i64 ((vYW .i64 ((nxV e w (mA w m 4) 5) - 2)) * 32768)),(vYW .i64 ((vYW .i64 ((nxV e w (mA w m 5) 3) - 1)) * 32768))⟩,0,0,(vYW .i64 (1 + (nxV e w m 4))),65536,(vYW .i64 (65536 + (nxV e w (mA w m 1) 3))),327680⟩,mA w m 6,⟨kG hm 6,rfl,⟨by dsimp only; omega,by dsimp only; omega,by dsimp only; omega,by dsimp only; omega,by dsimp only; omega,⟨by dsimp only; omega,qZC (by dsimp only; omega) (fun _=>⟨rfl,rfl⟩) (by dsimp only; omega)⟩,by dsimp only; omega,by dsimp only; omega,by dsimp only; omega,by dsimp only; omega⟩,by dsimp only; omega⟩,rfl⟩
    ·simp only [c10,decide_false,vYY];by_cases c11:kd=4
     ·simp only [c11,decide_true,vYZ];exact ⟨⟨ltrI i,4,((i:Int) - 1),⟨131072,(vYW .i64 ((vYW .i64 ((nxV e w (mA w m 4) 5) - 2)) * 32768)),(vYW .i64 ((vYW .i64 ((nxV e w (mA w m 5) 3) - 1)) * 32768))⟩,(vYW .i64 ((vYW .i64 (0 - (nxV e w (mA w m 6) 3))) * 65536)),(vYW .i64 ((nxV e w (mA w m 7) 4) * 32768)),(vYW .i64 (1 + (nxV e w m 4))),65536,(vYW .i64 (65536 + (nxV e w (mA w m 1) 3))),327680⟩,mA w m 8,⟨kG hm 8,rfl,⟨by dsimp only; omega,by dsimp only; omega,by dsimp only; omega,by dsimp only; omega,by dsimp only; omega,⟨by dsimp only; omega,qZC (by dsimp only; omega) (fun h=>absurd (show (4:Int)=0 from h) (by decide)) (by dsimp only; omega)⟩,by dsimp only; omega,by dsimp only; omega,by dsimp only; omega,by dsimp only; omega⟩,by dsimp only; omega⟩,rfl⟩
     ·simp only [c11,decide_false,vYY];by_cases c12:kd=5
      ·simp only [c12,decide_true,vYZ];exact ⟨⟨ltrI i,5,((i:Int) - 1),⟨131072,(vYW .i64 ((vYW .i64 ((nxV e w (mA w m 4) 5) - 2)) * 32768)),(vYW .i64 ((vYW .i64 ((nxV e w (mA w m 5) 3) - 1)) * 32768))⟩,(vYW .i64 ((vYW .i64 (0 - (nxV e w (mA w m 6) 3))) * 65536)),(vYW .i64 ((nxV e w (mA w m 7) 4) * 32768)),(vYW .i64 (1 + (nxV e w m 4))),65536,(vYW .i64 (65536 + (nxV e w (mA w m 1) 3))),327680⟩,mA w m 8,⟨kG hm 8,rfl,⟨by dsimp only; omega,by dsimp only; omega,by dsimp only; omega,by dsimp only; omega,by dsimp only; omega,⟨by dsimp only; omega,qZC (by dsimp only; omega) (fun h=>absurd (show (5:Int)=0 from h) (by decide)) (by dsimp only; omega)⟩,by dsimp only; omega,by dsimp only; omega,by dsimp only; omega,by dsimp only; omega⟩,by dsimp only; omega⟩,rfl⟩
      ·simp only [c12,decide_false,vYY];exact ⟨⟨ltrI i,kd,((i:Int) - 1),⟨131072,(vYW .i64 ((vYW .i64 ((nxV e w (mA w m 4) 5) - 2)) * 32768)),(vYW .i64 ((vYW .i64 ((nxV e w (mA w m 5) 3) - 1)) * 32768))⟩,(vYW .i64 ((vYW .i64 ((vYW .i64 (0 - (nxV e w (mA w m 6) 5))) * 65536)).tdiv 8)),(vYW .i64 ((vYW .i64 ((vYW .i64 ((vYW .i64 (1 + (nxV e w (mA w m 7) 4))) * 65536)).tdiv 8)) + (nxV e w (mA w m 8) 3))),(vYW .i64 (1 + (nxV e w m 4))),65536,(vYW .i64 (65536 + (nxV e w (mA w m 1) 3))),327680⟩,mA w m 9,⟨kG hm 9,rfl,⟨by dsimp only; omega,by dsimp only; omega,by dsimp only; omega,by dsimp only; omega,by dsimp only; omega,⟨by dsimp only; omega,qZC (by dsimp only; omega) (fun h=>absurd h c10) (by dsimp only; omega)⟩,by dsimp only; omega,by dsimp only; omega,by dsimp only; omega,by dsimp only; omega⟩,by dsimp only; omega⟩,rfl⟩
   ·simp only [c9,decide_false,vYY];by_cases c13:kd=0
    ·simp only [c13,decide_true,vYZ];exact ⟨⟨ltrI i,0,((i:Int) - 1),⟨0,0,0⟩,0,0,(vYW .i64 (1 + (nxV e w m 4))),65536,(vYW .i64 (65536 + (nxV e w (mA w m 1) 3))),327680⟩,mA w m 4,⟨kG hm 4,rfl,⟨by dsimp only; omega,by dsimp only; omega,by dsimp only; omega,by dsimp only; omega,by dsimp only; omega,⟨by dsimp only; omega,qZC (by dsimp only; omega) (fun _=>⟨rfl,rfl⟩) (by dsimp only; omega)⟩,by dsimp only; omega,by dsimp only; omega,by dsimp only; omega,by dsimp only; omega⟩,by dsimp only; omega⟩,rfl⟩
    ·simp only [c13,decide_false,vYY];by_cases c14:kd=4
     ·simp only [c14,decide_true,vYZ];exact ⟨⟨ltrI i,4,((i:Int) - 1),⟨0,0,0⟩,(vYW .i64 ((vYW .i64 (0 - (nxV e w (mA w m 4) 3))) * 65536)),(vYW .i64 ((nxV e w (mA w m 5) 4) * 32768)),(vYW .i64 (1 + (nxV e w m 4))),65536,(vYW .i64 (65536 + (nxV e w (mA w m 1) 3))),327680⟩,mA w m 6,⟨kG hm 6,rfl,⟨by dsimp only; omega,by dsimp only; omega,by dsimp only; omega,by dsimp only; omega,by dsimp only; omega,⟨by dsimp only; omega,qZC (by dsimp only; omega) (fun h=>absurd (show (4:Int)=0 from h) (by decide)) (by dsimp only; omega)⟩,by dsimp only; omega,by dsimp only; omega,by dsimp only; omega,by dsimp only; omega⟩,by dsimp only; omega⟩,rfl⟩
     ·simp only [c14,decide_false,vYY];by_cases c15:kd=5
      ·simp only [c15,decide_true,vYZ];exact ⟨⟨ltrI i,5,((i:Int) - 1),⟨0,0,0⟩,(vYW .i64 ((vYW .i64 (0 - (nxV e w (mA w m 4) 3))) * 65536)),(vYW .i64 ((nxV e w (mA w m 5) 4) * 32768)),(vYW .i64 (1 + (nxV e w m 4))),65536,(vYW .i64 (65536 + (nxV e w (mA w m 1) 3))),327680⟩,mA w m 6,⟨kG hm 6,rfl,⟨by dsimp only; omega,by dsimp only; omega,by dsimp only; omega,by dsimp only; omega,by dsimp only; omega,⟨by dsimp only; omega,qZC (by dsimp only; omega) (fun h=>absurd (show (5:Int)=0 from h) (by decide)) (by dsimp only; omega)⟩,by dsimp only; omega,by dsimp only; omega,by dsimp only; omega,by dsimp only; omega⟩,by dsimp only; omega⟩,rfl⟩
      ·simp only [c15,decide_false,vYY];exact ⟨⟨ltrI i,kd,((i:Int) - 1),⟨0,0,0⟩,(vYW .i64 ((vYW .i64 ((vYW .i64 (0 - (nxV e w (mA w m 4) 5))) * 65536)).tdiv 8)),(vYW .i64 ((vYW .i64 ((vYW .i64 ((vYW .i64 (1 + (nxV e w (mA w m 5) 4))) * 65536)).tdiv 8)) + (nxV e w (mA w m 6) 3))),(vYW .i64 (1 + (nxV e w m 4))),65536,(vYW .i64 (65536 + (nxV e w (mA w m 1) 3))),327680⟩,mA w m 7,⟨kG hm 7,rfl,⟨by dsimp only; omega,by dsimp only; omega,by dsimp only; omega,by dsimp only; omega,by dsimp only; omega,⟨by dsimp only; omega,qZC (by dsimp only; omega) (fun h=>absurd h c13) (by dsimp only; omega)⟩,by dsimp only; omega,by dsimp only; omega,by dsimp only; omega,by dsimp only; omega⟩,by dsimp only; omega⟩,rfl⟩
 obtain ⟨j,m',h,hk⟩:=key;exact ⟨j,m',h,qVU jY yH (jK (l:=[]) (m:=[(24,o_nx)]) trivial ⟨yQK,trivial⟩) (fun p S hp=>by cases hp) hk⟩
end Go.Proofs.YtklmegnpfhiibaaGreat.Sn

/- Part 35 of the texts behind the last one: rules and contracts. No condition. -/
import Derived.Test.YtgmbkkkbfbocnaaGreatKL34
open Bool renaming and_eq_true → vQJ, and_self → vZJ
open Go.IntKind renaming wrap → vJJ
namespace Go.Proofs.YtgmbkkkbfbocnaaGreat.Sn
open Go.Rx Rt Go.Sx Go.RowKit Od Nb
noncomputable def orrnd (x k:Int):OrS:=orS [] []
noncomputable def kZZ (x k:Int):List (List Nat × kV):=[]
set_option maxRecDepth 100000 in
theorem pxrnd (x k:Int):qWH Tf (orrnd x k) (qX (kZZ x k)) 60 20 [.n .i64 x,.n .i64 k] =
 (bif (decide (k=0)) then none
 else (bif (decide ((x.tmod k) < 0)) then some (.v (.n .i64 (vJJ .i64 ((x.tmod k) + k))),[])
 else some (.v (.n .i64 (x.tmod k)),[]))):=by kernel_rfl
theorem snd_rnd (x k:Int) (hk:0 < k∧k≤9223372036854775807):yH Tryz.prog 20 [.n .i64 x,.n .i64 k] (.v (.n .i64 (x % k))):=by
 refine yU (N:=60) (LO:=qX (kZZ x k)) qQV yJ (qQH (l:=[]) (m:=[]) trivial trivial) (fun p S hp => ?_) ?_
 ·refine yY (L:=qQ Tf 20) (l:=(kZZ x k)) (show AllP _ (kZZ x k) from trivial) p S hp
 ·refine (pxrnd x k).trans ?_;have hk0:k ≠ 0:=by omega
  have h1:=Int.emod_nonneg x hk0;have h2:=Int.emod_lt_of_pos x hk.1;rw [vYH (show ¬ k=0 by omega),Int.tmod_eq_emod];by_cases h:0≤x ∨ k ∣ x
  ·rw [if_pos h,show ((0:Nat):Int)=0 from rfl,Int.sub_zero,vYH (show ¬ x % k < 0 by omega)];rfl
  ·rw [if_neg h,show ((k.natAbs:Nat):Int)=k by omega,vJQ (show x % k - k < 0 by omega),show vJJ .i64 (x % k - k + k)=x % k from by rw [show x % k - k + k=x % k by omega]; exact zZ (by omega)];rfl
def crn:Int × Int→Prop:=fun t=>match t with | (x,k)=>0 < k∧k≤9223372036854775807
def ern:Int × Int→List PV:=fun t=>match t with | (x,k)=>[.n .i64 x,.n .i64 k]
noncomputable def rrn:Int × Int→Ret:=fun t=>match t with | (x,k)=>.v (.n .i64 (x % k))
def drn:List PV→Int × Int:=fun ps=>match ps with
 | [.n _ x,.n _ k]=>(x,k)
 | _=>(0,0)
noncomputable def o_rn:List PV→Option (Bool × Ret):=o_fm drn crn ern rrn
theorem kJG:zX Tryz.prog 20 o_rn:=zGW fun t h=>by
 obtain ⟨x,k⟩:=t;exact snd_rnd x k h
noncomputable def ornx (w m:Nat) (e:Nat→Int) (k:Int):OrS:=orS [(20,o_rn)] []
noncomputable def lsnx (w m:Nat) (e:Nat→Int) (k:Int):List (List Nat × kV):=[]
set_option maxRecDepth 100000 in
theorem pxnx (w m:Nat) (e:Nat→Int) (k:Int):jXJ Tf (ornx w m e k) (qX (lsnx w m e k)) 60 30 [.p 1000000 0,.v (.n .i64 k)] [.lf w (fQ e),.n .i64 (m:Int)] =
 (bif (decide ((w:Int)≤(m:Int))) then some (.v (.t [.n .i64 0,.lf w (fQ e),.n .i64 (m:Int)]),[])
 else (bif (inB (vJJ .i64 ((vJJ .i64 ((m:Int) + 1)) - 1)) w) then (bif (gF1 crn ern ((e ((vJJ .i64 ((vJJ .i64 ((m:Int) + 1)) - 1))).toNat),k)) then some (.v (.t [.n .i64 ((e ((vJJ .i64 ((vJJ .i64 ((m:Int) + 1)) - 1))).toNat) % k),.lf w (fQ e),.n .i64 (vJJ .i64 ((m:Int) + 1))]),[])
 else none)
 else none)):=by kernel_rfl
theorem snd_nx (w m:Nat) (e:Nat→Int) (k:Int) (hm:m≤w) (hw:w≤9223372036854775807) (hk:0 < k∧k≤9223372036854775807):zZJ Tryz.prog 30 [.p 1000000 0,.v (.n .i64 k)] [.lf w (fQ e),.n .i64 (m:Int)] (.n .i64 (nxV e w m k)) ([.lf w (fQ e),.n .i64 ((min (m + 1) w:Nat):Int)]):=by
 refine qHJ (N:=60) (LO:=qX (lsnx w m e k)) qQV yJ (qQH (l:=[(20,o_rn)]) (m:=[]) ⟨kJG,trivial⟩ trivial) (fun p S hp => ?_) ?_
 ·refine yY (L:=qQ Tf 30) (l:=(lsnx w m e k)) (show AllP _ (lsnx w m e k) from trivial) p S hp
 ·refine (pxnx w m e k).trans ?_;unfold nxV eW;by_cases h:m < w
  ·have h1:vJJ .i64 ((m:Int) + 1)=(m:Int) + 1:=zZ (by omega);have h2:vJJ .i64 ((m:Int) + 1 - 1)=((m:Nat):Int):=by rw [zZ (by omega)]; omega
   rw [vYH (show ¬ (w:Int)≤(m:Int) by omega),h1,h2,kX h,toN,qGQ (C:=crn) (t:=(_,k)) hk,show Nat.blt m w=true from by rw [Nat.blt_eq]; exact h,show min (m + 1) w=m + 1 by omega];rfl
  ·rw [vJQ (show (w:Int)≤(m:Int) by omega),show Nat.blt m w=false from by rw [Bool.eq_false_iff,ne_eq,Nat.blt_eq]; exact h,show min (m + 1) w=m by omega]
   simp
def cnx:Nat × Nat × (Nat→Int) × Int→Prop:=fun t=>match t with | (w,m,e,k)=>m≤w∧w≤9223372036854775807∧0 < k∧k≤9223372036854775807
def hnx:Nat × Nat × (Nat→Int) × Int→List HV:=fun t=>match t with | (w,m,e,k)=>[.p pid 0,.v (.n .i64 k)]
def enx:Nat × Nat × (Nat→Int) × Int→List PV:=fun t=>match t with | (w,m,e,k)=>[.lf w (fQ e),.n .i64 (m:Int)]
noncomputable def xnx:Nat × Nat × (Nat→Int) × Int→PV:=fun t=>match t with | (w,m,e,k)=>.n .i64 (nxV e w m k)
noncomputable def qnx:Nat × Nat × (Nat→Int) × Int→List PV:=fun t=>match t with | (w,m,e,k)=>[.lf w (fQ e),.n .i64 ((min (m + 1) w:Nat):Int)]
def dnx:List HV→List PV→Nat × Nat × (Nat→Int) × Int:=fun hs ps=>match hs,ps with
 | [_,.v (.n _ k)],[.lf w f,.n _ c]=>(w,c.toNat,unFQ f,k)
 | _,_=>(0,0,fun _=>0,0)
noncomputable def o_nx:List HV→List PV→Option (Bool × (PV × List PV)):=o_fb dnx cnx hnx enx xnx qnx
theorem jWH:yKW Tryz.prog 30 o_nx:=kQW fun t h=>by
 obtain ⟨w,m,e,k⟩:=t;exact snd_nx w m e k h.1 h.2.1 h.2.2
def kdF (x:Int):Int:=(bif (decide (x=0)) then 3 else (bif (decide ((x - 1)=0)) then 3 else (bif (decide (((x - 1) - 1)=0)) then 1 else (bif (decide ((((x - 1) - 1) - 1)=0)) then 2 else (bif (decide (((((x - 1) - 1) - 1) - 1)=0)) then 4 else (bif (decide ((((((x - 1) - 1) - 1) - 1) - 1)=0)) then 5 else (bif (decide (((((((x - 1) - 1) - 1) - 1) - 1) - 1)=0)) then 3 else 0)))))))
def abcB:ByteArray:=ByteArray.mk #[97,98,99,100,101,102,103,104,105,106]
def ltrI (i:Int):ByteArray:=abcB.extract i.toNat (vJJ .i64 (i + 1)).toNat
theorem lY {x:Int} (h:0≤x∧x < 5) : -65536≤vJJ .i64 (vJJ .i64 (x - 2) * 32768)∧vJJ .i64 (vJJ .i64 (x - 2) * 32768)≤65536:=by
 rw [show vJJ .i64 (x - 2)=x - 2 from zZ (by omega),zZ (by omega)]; omega
theorem lZ {x:Int} (h:0≤x∧x < 3) : -32768≤vJJ .i64 (vJJ .i64 (x - 1) * 32768)∧vJJ .i64 (vJJ .i64 (x - 1) * 32768)≤32768:=by
 rw [show vJJ .i64 (x - 1)=x - 1 from zZ (by omega),zZ (by omega)]; omega
theorem lLo {x:Int} (h:0≤x∧x < 3) : -131072≤vJJ .i64 (vJJ .i64 (0 - x) * 65536)∧vJJ .i64 (vJJ .i64 (0 - x) * 65536)≤0:=by
 rw [show vJJ .i64 (0 - x)=0 - x from zZ (by omega),zZ (by omega)]; omega
theorem lHi {x:Int} (h:0≤x∧x < 4):0≤vJJ .i64 (x * 32768)∧vJJ .i64 (x * 32768)≤98304:=by
 rw [zZ (by omega)]; omega
theorem lLt {x:Int} (h:0≤x∧x < 5) : -32768≤vJJ .i64 ((vJJ .i64 (vJJ .i64 (0 - x) * 65536)).tdiv 8)∧vJJ .i64 ((vJJ .i64 (vJJ .i64 (0 - x) * 65536)).tdiv 8)≤0:=by
 have e:((0 - x) * 65536).tdiv 8 = -(x * 8192):=by
  rw [show (0 - x) * 65536 = -(x * 8192) * 8 by omega];exact Int.mul_tdiv_cancel _ (by decide)
 rw [show vJJ .i64 (0 - x)=0 - x from zZ (by omega),show vJJ .i64 ((0 - x) * 65536)=(0 - x) * 65536 from zZ (by omega),e,zZ (by omega)]; omega
theorem lHt {x y:Int} (h:0≤x∧x < 4) (g:0≤y∧y < 3):0≤vJJ .i64 (vJJ .i64 ((vJJ .i64 (vJJ .i64 (1 + x) * 65536)).tdiv 8) + y)∧vJJ .i64 (vJJ .i64 ((vJJ .i64 (vJJ .i64 (1 + x) * 65536)).tdiv 8) + y)≤40000:=by
 have e:((1 + x) * 65536).tdiv 8=(1 + x) * 8192:=by
  rw [show (1 + x) * 65536=((1 + x) * 8192) * 8 by omega];exact Int.mul_tdiv_cancel _ (by decide)
 rw [show vJJ .i64 (1 + x)=1 + x from zZ (by omega),show vJJ .i64 ((1 + x) * 65536)=(1 + x) * 65536 from zZ (by omega),e,show vJJ .i64 ((1 + x) * 8192)=(1 + x) * 8192 from zZ (by omega),zZ (by omega)]; omega
theorem lW {x:Int} (h:0≤x∧x < 4):1≤vJJ .i64 (1 + x)∧vJJ .i64 (1 + x)≤4:=by rw [zZ (by omega)]; omega
theorem lA {x:Int} (h:0≤x∧x < 3):65536≤vJJ .i64 (65536 + x)∧vJJ .i64 (65536 + x)≤65538:=by rw [zZ (by omega)]; omega
theorem kdF_b (x:Int):0≤kdF x∧kdF x≤6:=by
 unfold kdF;simp only [Bool.cond_eq_ite]
 repeat' split
 all_goals omega
theorem qJH {k lo hi:Int} (h0:0≤k∧k≤6) (h1:k=0→lo=0∧hi=0) (h2 : -524288≤lo∧hi≤524288) : -limK k≤lo∧hi≤limK k:=by
 unfold limK;split
 ·omega
 ·split
  ·omega
  ·have:=h1 (by omega)
   omega
def JM (i:Nat) (j:J):Prop:=j.name=ltrI i∧JF i j∧(-1000000≤j.lo∧j.hi≤1000000)
noncomputable def orjt:OrS:=orS [] [(30,o_nx)]
set_option maxRecDepth 100000 in
theorem pxjt (w m:Nat) (e:Nat→Int) (i:Int):jXJ Tf orjt (qX []) 60 77 [.p 1000000 0,.v (.n .i64 i)] [.lf w (fQ e),.n .i64 (m:Int)] =
 (bif (inS (some i) (some (vJJ .i64 (i + 1))) 10) then (bif (gB1 cnx hnx enx (w,m,e,4)) then (bif (gB1 cnx hnx enx (w,(mA w m 1),e,3)) then (bif (gB1 cnx hnx enx (w,(mA w m 2),e,8)) then (bif (inB (nxV e w (mA w m 2) 8) 8 && true) then (bif (gB1 cnx hnx enx (w,(mA w m 3),e,4)) then (bif (decide ((nxV e w (mA w m 3) 4)=1)) then (bif (decide (0 < i)) then (bif (gB1 cnx hnx enx (w,(mA w m 4),e,5)) then (bif (gB1 cnx hnx enx (w,(mA w m 5),e,3)) then (bif (decide ((kdF (nxV e w (mA w m 2) 8))=0)) then some (.v (.t [.a [.s (ltrI i),.n .i64 (kdF (nxV e w (mA w m 2) 8)),.n .i64 (-1),.n .i64 131072,.n .i64 (vJJ .i64 ((vJJ .i64 ((nxV e w (mA w m 4) 5) - 2)) * 32768)),.n .i64 (vJJ .i64 ((vJJ .i64 ((nxV e w (mA w m 5) 3) - 1)) * 32768)),.n .i64 0,.n .i64 0,.n .i64 (vJJ .i64 (1 + (nxV e w m 4))),.n .i64 65536,.n .i64 (vJJ .i64 (65536 + (nxV e w (mA w m 1) 3))),.n .i64 327680],.lf w (fQ e),.n .i64 ((mA w m 6:Nat):Int)]),[])
 else (bif (decide ((kdF (nxV e w (mA w m 2) 8))=4)) then (bif (gB1 cnx hnx enx (w,(mA w m 6),e,3)) then (bif (gB1 cnx hnx enx (w,(mA w m 7),e,4)) then some (.v (.t [.a [.s (ltrI i),.n .i64 (kdF (nxV e w (mA w m 2) 8)),.n .i64 (-1),.n .i64 131072,.n .i64 (vJJ .i64 ((vJJ .i64 ((nxV e w (mA w m 4) 5) - 2)) * 32768)),.n .i64 (vJJ .i64 ((vJJ .i64 ((nxV e w (mA w m 5) 3) - 1)) * 32768)),.n .i64 (vJJ .i64 ((vJJ .i64 (0 - (nxV e w (mA w m 6) 3))) * 65536)),.n .i64 (vJJ .i64 ((nxV e w (mA w m 7) 4) * 32768)),.n .i64 (vJJ .i64 (1 + (nxV e w m 4))),.n .i64 65536,.n .i64 (vJJ .i64 (65536 + (nxV e w (mA w m 1) 3))),.n .i64 327680],.lf w (fQ e),.n .i64 ((mA w m 8:Nat):Int)]),[])
 else none)
 else none)
 else (bif (decide ((kdF (nxV e w (mA w m 2) 8))=5)) then (bif (gB1 cnx hnx enx (w,(mA w m 6),e,3)) then (bif (gB1 cnx hnx enx (w,(mA w m 7),e,4)) then some (.v (.t [.a [.s (ltrI i),.n .i64 (kdF (nxV e w (mA w m 2) 8)),.n .i64 (-1),.n .i64 131072,.n .i64 (vJJ .i64 ((vJJ .i64 ((nxV e w (mA w m 4) 5) - 2)) * 32768)),.n .i64 (vJJ .i64 ((vJJ .i64 ((nxV e w (mA w m 5) 3) - 1)) * 32768)),.n .i64 (vJJ .i64 ((vJJ .i64 (0 - (nxV e w (mA w m 6) 3))) * 65536)),.n .i64 (vJJ .i64 ((nxV e w (mA w m 7) 4) * 32768)),.n .i64 (vJJ .i64 (1 + (nxV e w m 4))),.n .i64 65536,.n .i64 (vJJ .i64 (65536 + (nxV e w (mA w m 1) 3))),.n .i64 327680],.lf w (fQ e),.n .i64 ((mA w m 8:Nat):Int)]),[])
 else none)
 else none)
 else (bif (gB1 cnx hnx enx (w,(mA w m 6),e,5)) then (bif (gB1 cnx hnx enx (w,(mA w m 7),e,4)) then (bif (gB1 cnx hnx enx (w,(mA w m 8),e,3)) then some (.v (.t [.a [.s (ltrI i),.n .i64 (kdF (nxV e w (mA w m 2) 8)),.n .i64 (-1),.n .i64 131072,.n .i64 (vJJ .i64 ((vJJ .i64 ((nxV e w (mA w m 4) 5) - 2)) * 32768)),.n .i64 (vJJ .i64 ((vJJ .i64 ((nxV e w (mA w m 5) 3) - 1)) * 32768)),.n .i64 (vJJ .i64 ((vJJ .i64 ((vJJ .i64 (0 - (nxV e w (mA w m 6) 5))) * 65536)).tdiv 8)),.n .i64 (vJJ .i64 ((vJJ .i64 ((vJJ .i64 ((vJJ .i64 (1 + (nxV e w (mA w m 7) 4))) * 65536)).tdiv 8)) + (nxV e w (mA w m 8) 3))),.n .i64 (vJJ .i64 (1 + (nxV e w m 4))),.n .i64 65536,.n .i64 (vJJ .i64 (65536 + (nxV e w (mA w m 1) 3))),.n .i64 327680],.lf w (fQ e),.n .i64 ((mA w m 9:Nat):Int)]),[])
 else none)
 else none)
 else none))))
 else none)
 else none)
 else (bif (decide ((kdF (nxV e w (mA w m 2) 8))=0)) then some (.v (.t [.a [.s (ltrI i),.n .i64 (kdF (nxV e w (mA w m 2) 8)),.n .i64 (-1),.n .i64 0,.n .i64 0,.n .i64 0,.n .i64 0,.n .i64 0,.n .i64 (vJJ .i64 (1 + (nxV e w m 4))),.n .i64 65536,.n .i64 (vJJ .i64 (65536 + (nxV e w (mA w m 1) 3))),.n .i64 327680],.lf w (fQ e),.n .i64 ((mA w m 4:Nat):Int)]),[])
 else (bif (decide ((kdF (nxV e w (mA w m 2) 8))=4)) then (bif (gB1 cnx hnx enx (w,(mA w m 4),e,3)) then (bif (gB1 cnx hnx enx (w,(mA w m 5),e,4)) then some (.v (.t [.a [.s (ltrI i),.n .i64 (kdF (nxV e w (mA w m 2) 8)),.n .i64 (-1),.n .i64 0,.n .i64 0,.n .i64 0,.n .i64 (vJJ .i64 ((vJJ .i64 (0 - (nxV e w (mA w m 4) 3))) * 65536)),.n .i64 (vJJ .i64 ((nxV e w (mA w m 5) 4) * 32768)),.n .i64 (vJJ .i64 (1 + (nxV e w m 4))),.n .i64 65536,.n .i64 (vJJ .i64 (65536 + (nxV e w (mA w m 1) 3))),.n .i64 327680],.lf w (fQ e),.n .i64 ((mA w m 6:Nat):Int)]),[])
 else none)
 else none)
 else (bif (decide ((kdF (nxV e w (mA w m 2) 8))=5)) then (bif (gB1 cnx hnx enx (w,(mA w m 4),e,3)) then (bif (gB1 cnx hnx enx (w,(mA w m 5),e,4)) then some (.v (.t [.a [.s (ltrI i),.n .i64 (kdF (nxV e w (mA w m 2) 8)),.n .i64 (-1),.n .i64 0,.n .i64 0,.n .i64 0,.n .i64 (vJJ .i64 ((vJJ .i64 (0 - (nxV e w (mA w m 4) 3))) * 65536)),.n .i64 (vJJ .i64 ((nxV e w (mA w m 5) 4) * 32768)),.n .i64 (vJJ .i64 (1 + (nxV e w m 4))),.n .i64 65536,.n .i64 (vJJ .i64 (65536 + (nxV e w (mA w m 1) 3))),.n .i64 327680],.lf w (fQ e),.n .i64 ((mA w m 6:Nat):Int)]),[])
 else none)
 else none)
 else (bif (gB1 cnx hnx enx (w,(mA w m 4),e,5)) then (bif (gB1 cnx hnx enx (w,(mA w m 5),e,4)) then (bif (gB1 cnx hnx enx (w,(mA w m 6),e,3)) then some (.v (.t [.a [.s (ltrI i),.n .i64 (kdF (nxV e w (mA w m 2) 8)),.n .i64 (-1),.n .i64 0,.n .i64 0,.n .i64 0,.n .i64 (vJJ .i64 ((vJJ .i64 ((vJJ .i64 (0 - (nxV e w (mA w m 4) 5))) * 65536)).tdiv 8)),.n .i64 (vJJ .i64 ((vJJ .i64 ((vJJ .i64 ((vJJ .i64 (1 + (nxV e w (mA w m 5) 4))) * 65536)).tdiv 8)) + (nxV e w (mA w m 6) 3))),.n .i64 (vJJ .i64 (1 + (nxV e w m 4))),.n .i64 65536,.n .i64 (vJJ .i64 (65536 + (nxV e w (mA w m 1) 3))),.n .i64 327680],.lf w (fQ e),.n .i64 ((mA w m 7:Nat):Int)]),[])
 else none)
 else none)
 else none)))))
 else (bif (decide (0 < i)) then (bif (gB1 cnx hnx enx (w,(mA w m 4),e,5)) then (bif (gB1 cnx hnx enx (w,(mA w m 5),e,3)) then (bif (decide ((kdF (nxV e w (mA w m 2) 8))=0)) then some (.v (.t [.a [.s (ltrI i),.n .i64 (kdF (nxV e w (mA w m 2) 8)),.n .i64 (vJJ .i64 (i - 1)),.n .i64 131072,.n .i64 (vJJ .i64 ((vJJ .i64 ((nxV e w (mA w m 4) 5) - 2)) * 32768)),.n .i64 (vJJ .i64 ((vJJ .i64 ((nxV e w (mA w m 5) 3) - 1)) * 32768)),.n .i64 0,.n .i64 0,.n .i64 (vJJ .i64 (1 + (nxV e w m 4))),.n .i64 65536,.n .i64 (vJJ .i64 (65536 + (nxV e w (mA w m 1) 3))),.n .i64 327680],.lf w (fQ e),.n .i64 ((mA w m 6:Nat):Int)]),[])
 else (bif (decide ((kdF (nxV e w (mA w m 2) 8))=4)) then (bif (gB1 cnx hnx enx (w,(mA w m 6),e,3)) then (bif (gB1 cnx hnx enx (w,(mA w m 7),e,4)) then some (.v (.t [.a [.s (ltrI i),.n .i64 (kdF (nxV e w (mA w m 2) 8)),.n .i64 (vJJ .i64 (i - 1)),.n .i64 131072,.n .i64 (vJJ .i64 ((vJJ .i64 ((nxV e w (mA w m 4) 5) - 2)) * 32768)),.n .i64 (vJJ .i64 ((vJJ .i64 ((nxV e w (mA w m 5) 3) - 1)) * 32768)),.n .i64 (vJJ .i64 ((vJJ .i64 (0 - (nxV e w (mA w m 6) 3))) * 65536)),.n .i64 (vJJ .i64 ((nxV e w (mA w m 7) 4) * 32768)),.n .i64 (vJJ .i64 (1 + (nxV e w m 4))),.n .i64 65536,.n .i64 (vJJ .i64 (65536 + (nxV e w (mA w m 1) 3))),.n .i64 327680],.lf w (fQ e),.n .i64 ((mA w m 8:Nat):Int)]),[])
 else none)
 else none)
 else (bif (decide ((kdF (nxV e w (mA w m 2) 8))=5)) then (bif (gB1 cnx hnx enx (w,(mA w m 6),e,3)) then (bif (gB1 cnx hnx enx (w,(mA w m 7),e,4)) then some (.v (.t [.a [.s (ltrI i),.n .i64 (kdF (nxV e w (mA w m 2) 8)),.n .i64 (vJJ .i64 (i - 1)),.n .i64 131072,.n .i64 (vJJ .i64 ((vJJ .i64 ((nxV e w (mA w m 4) 5) - 2)) * 32768)),.n .i64 (vJJ .i64 ((vJJ .i64 ((nxV e w (mA w m 5) 3) - 1)) * 32768)),.n .i64 (vJJ .i64 ((vJJ .i64 (0 - (nxV e w (mA w m 6) 3))) * 65536)),.n .i64 (vJJ .i64 ((nxV e w (mA w m 7) 4) * 32768)),.n .i64 (vJJ .i64 (1 + (nxV e w m 4))),.n .i64 65536,.n .i64 (vJJ .i64 (65536 + (nxV e w (mA w m 1) 3))),.n .i64 327680],.lf w (fQ e),.n .i64 ((mA w m 8:Nat):Int)]),[])
 else none)
 else none)
 else (bif (gB1 cnx hnx enx (w,(mA w m 6),e,5)) then (bif (gB1 cnx hnx enx (w,(mA w m 7),e,4)) then (bif (gB1 cnx hnx enx (w,(mA w m 8),e,3)) then some (.v (.t [.a [.s (ltrI i),.n .i64 (kdF (nxV e w (mA w m 2) 8)),.n .i64 (vJJ .i64 (i - 1)),.n .i64 131072,.n .i64 (vJJ .i64 ((vJJ .i64 ((nxV e w (mA w m 4) 5) - 2)) * 32768)),.n .i64 (vJJ .i64 ((vJJ .i64 ((nxV e w (mA w m 5) 3) - 1)) * 32768)),.n .i64 (vJJ .i64 ((vJJ .i64 ((vJJ .i64 (0 - (nxV e w (mA w m 6) 5))) * 65536)).tdiv 8)),.n .i64 (vJJ .i64 ((vJJ .i64 ((vJJ .i64 ((vJJ .i64 (1 + (nxV e w (mA w m 7) 4))) * 65536)).tdiv 8)) + (nxV e w (mA w m 8) 3))),.n .i64 (vJJ .i64 (1 + (nxV e w m 4))),.n .i64 65536,.n .i64 (vJJ .i64 (65536 + (nxV e w (mA w m 1) 3))),.n .i64 327680],.lf w (fQ e),.n .i64 ((mA w m 9:Nat):Int)]),[])
 else none)
 else none)
 else none))))
 else none)
 else none)
 else (bif (decide ((kdF (nxV e w (mA w m 2) 8))=0)) then some (.v (.t [.a [.s (ltrI i),.n .i64 (kdF (nxV e w (mA w m 2) 8)),.n .i64 (vJJ .i64 (i - 1)),.n .i64 0,.n .i64 0,.n .i64 0,.n .i64 0,.n .i64 0,.n .i64 (vJJ .i64 (1 + (nxV e w m 4))),.n .i64 65536,.n .i64 (vJJ .i64 (65536 + (nxV e w (mA w m 1) 3))),.n .i64 327680],.lf w (fQ e),.n .i64 ((mA w m 4:Nat):Int)]),[])
 else (bif (decide ((kdF (nxV e w (mA w m 2) 8))=4)) then (bif (gB1 cnx hnx enx (w,(mA w m 4),e,3)) then (bif (gB1 cnx hnx enx (w,(mA w m 5),e,4)) then some (.v (.t [.a [.s (ltrI i),.n .i64 (kdF (nxV e w (mA w m 2) 8)),.n .i64 (vJJ .i64 (i - 1)),.n .i64 0,.n .i64 0,.n .i64 0,.n .i64 (vJJ .i64 ((vJJ .i64 (0 - (nxV e w (mA w m 4) 3))) * 65536)),.n .i64 (vJJ .i64 ((nxV e w (mA w m 5) 4) * 32768)),.n .i64 (vJJ .i64 (1 + (nxV e w m 4))),.n .i64 65536,.n .i64 (vJJ .i64 (65536 + (nxV e w (mA w m 1) 3))),.n .i64 327680],.lf w (fQ e),.n .i64 ((mA w m 6:Nat):Int)]),[])
 else none)
 else none)
 else (bif (decide ((kdF (nxV e w (mA w m 2) 8))=5)) then (bif (gB1 cnx hnx enx (w,(mA w m 4),e,3)) then (bif (gB1 cnx hnx enx (w,(mA w m 5),e,4)) then some (.v (.t [.a [.s (ltrI i),.n .i64 (kdF (nxV e w (mA w m 2) 8)),.n .i64 (vJJ .i64 (i - 1)),.n .i64 0,.n .i64 0,.n .i64 0,.n .i64 (vJJ .i64 ((vJJ .i64 (0 - (nxV e w (mA w m 4) 3))) * 65536)),.n .i64 (vJJ .i64 ((nxV e w (mA w m 5) 4) * 32768)),.n .i64 (vJJ .i64 (1 + (nxV e w m 4))),.n .i64 65536,.n .i64 (vJJ .i64 (65536 + (nxV e w (mA w m 1) 3))),.n .i64 327680],.lf w (fQ e),.n .i64 ((mA w m 6:Nat):Int)]),[])
 else none)
 else none)
 else (bif (gB1 cnx hnx enx (w,(mA w m 4),e,5)) then (bif (gB1 cnx hnx enx (w,(mA w m 5),e,4)) then (bif (gB1 cnx hnx enx (w,(mA w m 6),e,3)) then some (.v (.t [.a [.s (ltrI i),.n .i64 (kdF (nxV e w (mA w m 2) 8)),.n .i64 (vJJ .i64 (i - 1)),.n .i64 0,.n .i64 0,.n .i64 0,.n .i64 (vJJ .i64 ((vJJ .i64 ((vJJ .i64 (0 - (nxV e w (mA w m 4) 5))) * 65536)).tdiv 8)),.n .i64 (vJJ .i64 ((vJJ .i64 ((vJJ .i64 ((vJJ .i64 (1 + (nxV e w (mA w m 5) 4))) * 65536)).tdiv 8)) + (nxV e w (mA w m 6) 3))),.n .i64 (vJJ .i64 (1 + (nxV e w m 4))),.n .i64 65536,.n .i64 (vJJ .i64 (65536 + (nxV e w (mA w m 1) 3))),.n .i64 327680],.lf w (fQ e),.n .i64 ((mA w m 7:Nat):Int)]),[])
 else none)
 else none)
 else none))))))
 else none)
 else none)
 else none)
 else none)
 else none)
 else none):=by kernel_rfl
theorem joint_ex (w m:Nat) (e:Nat→Int) (i:Nat) (hm:m≤w) (hw:w≤9223372036854775807) (hi:i < 10):∃ (j:J) (m':Nat),(m'≤w∧JM i j)∧zZJ Tryz.prog 77 [.p pid 0,.v (.n .i64 (i:Int))] [.lf w (fQ e),.n .i64 (m:Int)] (.a (jp j)) [.lf w (fQ e),.n .i64 (m':Int)]:=by
 have key:∃ (j:J) (m':Nat),(m'≤w∧JM i j)∧jXJ Tf orjt (qX []) 60 77 [.p 1000000 0,.v (.n .i64 (i:Int))] [.lf w (fQ e),.n .i64 (m:Int)]=some (.v (.t [.a (jp j),.lf w (fQ e),.n .i64 (m':Int)]),[]):=by
  rw [pxjt w m e i];have hs:inS (some (i:Int)) (some (vJJ .i64 ((i:Int) + 1))) 10=true:=by
   rw [zZ (by omega)];unfold inS loOf hiOf;simp only [vQJ,decide_eq_true_eq];omega
  have kb:=kdF_b (nxV e w (mA w m 2) 8);have k8:inB (nxV e w (mA w m 2) 8) 8=true:=by
   have:=qWQ (e:=e) (w:=w) (m:=mA w m 2) (k:=8) (by decide)
   unfold inB;rw [vJQ this.1,vJQ (by omega)]; rfl
  simp only [hs,k8,vZJ,vYV,qQQ (C:=cnx) (t:=(w,m,e,4)) ⟨hm,hw,by decide,by decide⟩,qQQ (C:=cnx) (t:=(w,(mA w m 1),e,3)) ⟨kQ hm 1,hw,by decide,by decide⟩,qQQ (C:=cnx) (t:=(w,(mA w m 2),e,8)) ⟨kQ hm 2,hw,by decide,by decide⟩,qQQ (C:=cnx) (t:=(w,(mA w m 3),e,4)) ⟨kQ hm 3,hw,by decide,by decide⟩,qQQ (C:=cnx) (t:=(w,(mA w m 4),e,5)) ⟨kQ hm 4,hw,by decide,by decide⟩,qQQ (C:=cnx) (t:=(w,(mA w m 5),e,3)) ⟨kQ hm 5,hw,by decide,by decide⟩,qQQ (C:=cnx) (t:=(w,(mA w m 6),e,3)) ⟨kQ hm 6,hw,by decide,by decide⟩,qQQ (C:=cnx) (t:=(w,(mA w m 7),e,4)) ⟨kQ hm 7,hw,by decide,by decide⟩,qQQ (C:=cnx) (t:=(w,(mA w m 6),e,5)) ⟨kQ hm 6,hw,by decide,by decide⟩,qQQ (C:=cnx) (t:=(w,(mA w m 8),e,3)) ⟨kQ hm 8,hw,by decide,by decide⟩,qQQ (C:=cnx) (t:=(w,(mA w m 4),e,3)) ⟨kQ hm 4,hw,by decide,by decide⟩,qQQ (C:=cnx) (t:=(w,(mA w m 5),e,4)) ⟨kQ hm 5,hw,by decide,by decide⟩];have b0:=qWQ (e:=e) (w:=w) (m:=m) (k:=4) (by decide);have b1:=qWQ (e:=e) (w:=w) (m:=mA w m 1) (k:=3) (by decide);have f0:=lW b0;have f1:=lA b1;have y4:=lY (qWQ (e:=e) (w:=w) (m:=mA w m 4) (k:=5) (by decide));have z5:=lZ (qWQ (e:=e) (w:=w) (m:=mA w m 5) (k:=3) (by decide));have lo6:=lLo (qWQ (e:=e) (w:=w) (m:=mA w m 6) (k:=3) (by decide));have hi7:=lHi (qWQ (e:=e) (w:=w) (m:=mA w m 7) (k:=4) (by decide));have lt6:=lLt (qWQ (e:=e) (w:=w) (m:=mA w m 6) (k:=5) (by decide));have ht7:=lHt (qWQ (e:=e) (w:=w) (m:=mA w m 7) (k:=4) (by decide)) (qWQ (e:=e) (w:=w) (m:=mA w m 8) (k:=3) (by decide));have lo4:=lLo (qWQ (e:=e) (w:=w) (m:=mA w m 4) (k:=3) (by decide));have hi5:=lHi (qWQ (e:=e) (w:=w) (m:=mA w m 5) (k:=4) (by decide));have lt4:=lLt (qWQ (e:=e) (w:=w) (m:=mA w m 4) (k:=5) (by decide));have ht5:=lHt (qWQ (e:=e) (w:=w) (m:=mA w m 5) (k:=4) (by decide)) (qWQ (e:=e) (w:=w) (m:=mA w m 6) (k:=3) (by decide));have hp:vJJ .i64 ((i:Int) - 1)=(i:Int) - 1:=zZ (by omega);rw [hp];generalize kdF (nxV e w (mA w m 2) 8)=kd at kb ⊢;by_cases c1:(nxV e w (mA w m 3) 4)=1
  ·simp only [c1,decide_true,decide_false,vYV,vYG];by_cases c2:(0:Int) < (i:Int)
   ·simp only [c2,decide_true,decide_false,vYV,vYG];by_cases c3:kd=0
    ·simp only [c3,decide_true,decide_false,vYV,vYG];exact ⟨⟨ltrI i,0,(-1),⟨131072,(vJJ .i64 ((vJJ .i64 ((nxV e w (mA w m 4) 5) - 2)) * 32768)),(vJJ .i64 ((vJJ .i64 ((nxV e w (mA w m 5) 3) - 1)) * 32768))⟩,0,0,(vJJ .i64 (1 + (nxV e w m 4))),65536,(vJJ .i64 (65536 + (nxV e w (mA w m 1) 3))),327680⟩,mA w m 6,⟨kQ hm 6,rfl,⟨by dsimp only; omega,by dsimp only; omega,by dsimp only; omega,by dsimp only; omega,by dsimp only; omega,⟨by dsimp only; omega,qJH (by dsimp only; omega) (fun _=>⟨rfl,rfl⟩) (by dsimp only; omega)⟩,by dsimp only; omega,by dsimp only; omega,by dsimp only; omega,by dsimp only; omega⟩,by dsimp only; omega⟩,rfl⟩
    ·simp only [c3,decide_true,decide_false,vYV,vYG];by_cases c4:kd=4
     ·simp only [c4,decide_true,decide_false,vYV,vYG];exact ⟨⟨ltrI i,4,(-1),⟨131072,(vJJ .i64 ((vJJ .i64 ((nxV e w (mA w m 4) 5) - 2)) * 32768)),(vJJ .i64 ((vJJ .i64 ((nxV e w (mA w m 5) 3) - 1)) * 32768))⟩,(vJJ .i64 ((vJJ .i64 (0 - (nxV e w (mA w m 6) 3))) * 65536)),(vJJ .i64 ((nxV e w (mA w m 7) 4) * 32768)),(vJJ .i64 (1 + (nxV e w m 4))),65536,(vJJ .i64 (65536 + (nxV e w (mA w m 1) 3))),327680⟩,mA w m 8,⟨kQ hm 8,rfl,⟨by dsimp only; omega,by dsimp only; omega,by dsimp only; omega,by dsimp only; omega,by dsimp only; omega,⟨by dsimp only; omega,qJH (by dsimp only; omega) (fun h=>absurd (show (4:Int)=0 from h) (by decide)) (by dsimp only; omega)⟩,by dsimp only; omega,by dsimp only; omega,by dsimp only; omega,by dsimp only; omega⟩,by dsimp only; omega⟩,rfl⟩
     ·simp only [c4,decide_true,decide_false,vYV,vYG];by_cases c5:kd=5
      ·simp only [c5,decide_true,decide_false,vYV,vYG];exact ⟨⟨ltrI i,5,(-1),⟨131072,(vJJ .i64 ((vJJ .i64 ((nxV e w (mA w m 4) 5) - 2)) * 32768)),(vJJ .i64 ((vJJ .i64 ((nxV e w (mA w m 5) 3) - 1)) * 32768))⟩,(vJJ .i64 ((vJJ .i64 (0 - (nxV e w (mA w m 6) 3))) * 65536)),(vJJ .i64 ((nxV e w (mA w m 7) 4) * 32768)),(vJJ .i64 (1 + (nxV e w m 4))),65536,(vJJ .i64 (65536 + (nxV e w (mA w m 1) 3))),327680⟩,mA w m 8,⟨kQ hm 8,rfl,⟨by dsimp only; omega,by dsimp only; omega,by dsimp only; omega,by dsimp only; omega,by dsimp only; omega,⟨by dsimp only; omega,qJH (by dsimp only; omega) (fun h=>absurd (show (5:Int)=0 from h) (by decide)) (by dsimp only; omega)⟩,by dsimp only; omega,by dsimp only; omega,by dsimp only; omega,by dsimp only; omega⟩,by dsimp only; omega⟩,rfl⟩
      ·simp only [c5,decide_true,decide_false,vYV,vYG];exact ⟨⟨ltrI i,kd,(-1),⟨131072,(vJJ .i64 ((vJJ .i64 ((nxV e w (mA w m 4) 5) - 2)) * 32768)),(vJJ .i64 ((vJJ .i64 ((nxV e w (mA w m 5) 3) - 1)) * 32768))⟩,(vJJ .i64 ((vJJ .i64 ((vJJ .i64 (0 - (nxV e w (mA w m 6) 5))) * 65536)).tdiv 8)),(vJJ .i64 ((vJJ .i64 ((vJJ .i64 ((vJJ .i64 (1 + (nxV e w (mA w m 7) 4))) * 65536)).tdiv 8)) + (nxV e w (mA w m 8) 3))),(vJJ .i64 (1 + (nxV e w m 4))),65536,(vJJ .i64 (65536 + (nxV e w (mA w m 1) 3))),327680⟩,mA w m 9,⟨kQ hm 9,rfl,⟨by dsimp only; omega,by dsimp only; omega,by dsimp only; omega,by dsimp only; omega,by dsimp only; omega,⟨by dsimp only; omega,qJH (by dsimp only; omega) (fun h=>absurd h c3) (by dsimp only; omega)⟩,by dsimp only; omega,by dsimp only; omega,by dsimp only; omega,by dsimp only; omega⟩,by dsimp only; omega⟩,rfl⟩
   ·simp only [c2,decide_true,decide_false,vYV,vYG];by_cases c6:kd=0
    ·simp only [c6,decide_true,decide_false,vYV,vYG];exact ⟨⟨ltrI i,0,(-1),⟨0,0,0⟩,0,0,(vJJ .i64 (1 + (nxV e w m 4))),65536,(vJJ .i64 (65536 + (nxV e w (mA w m 1) 3))),327680⟩,mA w m 4,⟨kQ hm 4,rfl,⟨by dsimp only; omega,by dsimp only; omega,by dsimp only; omega,by dsimp only; omega,by dsimp only; omega,⟨by dsimp only; omega,qJH (by dsimp only; omega) (fun _=>⟨rfl,rfl⟩) (by dsimp only; omega)⟩,by dsimp only; omega,by dsimp only; omega,by dsimp only; omega,by dsimp only; omega⟩,by dsimp only; omega⟩,rfl⟩
    ·simp only [c6,decide_true,decide_false,vYV,vYG];by_cases c7:kd=4
     ·simp only [c7,decide_true,decide_false,vYV,vYG];exact ⟨⟨ltrI i,4,(-1),⟨0,0,0⟩,(vJJ .i64 ((vJJ .i64 (0 - (nxV e w (mA w m 4) 3))) * 65536)),(vJJ .i64 ((nxV e w (mA w m 5) 4) * 32768)),(vJJ .i64 (1 + (nxV e w m 4))),65536,(vJJ .i64 (65536 + (nxV e w (mA w m 1) 3))),327680⟩,mA w m 6,⟨kQ hm 6,rfl,⟨by dsimp only; omega,by dsimp only; omega,by dsimp only; omega,by dsimp only; omega,by dsimp only; omega,⟨by dsimp only; omega,qJH (by dsimp only; omega) (fun h=>absurd (show (4:Int)=0 from h) (by decide)) (by dsimp only; omega)⟩,by dsimp only; omega,by dsimp only; omega,by dsimp only; omega,by dsimp only; omega⟩,by dsimp only; omega⟩,rfl⟩
     ·simp only [c7,decide_true,decide_false,vYV,vYG];by_cases c8:kd=5
      ·simp only [c8,decide_true,decide_false,vYV,vYG];exact ⟨⟨ltrI i,5,(-1),⟨0,0,0⟩,(vJJ .i64 ((vJJ .i64 (0 - (nxV e w (mA w m 4) 3))) * 65536)),(vJJ .i64 ((nxV e w (mA w m 5) 4) * 32768)),(vJJ .i64 (1 + (nxV e w m 4))),65536,(vJJ .i64 (65536 + (nxV e w (mA w m 1) 3))),327680⟩,mA w m 6,⟨kQ hm 6,rfl,⟨by dsimp only; omega,by dsimp only; omega,by dsimp only; omega,by dsimp only; omega,by dsimp only; omega,⟨by dsimp only; omega,qJH (by dsimp only; omega) (fun h=>absurd (show (5:Int)=0 from h) (by decide)) (by dsimp only; omega)⟩,by dsimp only; omega,by dsimp only; omega,by dsimp only; omega,by dsimp only; omega⟩,by dsimp only; omega⟩,rfl⟩
      ·simp only [c8,decide_true,decide_false,vYV,vYG];exact ⟨⟨ltrI i,kd,(-1),⟨0,0,0⟩,(vJJ .i64 ((vJJ .i64 ((vJJ .i64 (0 - (nxV e w (mA w m 4) 5))) * 65536)).tdiv 8)),(vJJ .i64 ((vJJ .i64 ((vJJ .i64 ((vJJ .i64 (1 + (nxV e w (mA w m 5) 4))) * 65536)).tdiv 8)) + (nxV e w (mA w m 6) 3))),(vJJ .i64 (1 + (nxV e w m 4))),65536,(vJJ .i64 (65536 + (nxV e w (mA w m 1) 3))),327680⟩,mA w m 7,⟨kQ hm 7,rfl,⟨by dsimp only; omega,by dsimp only; omega,by dsimp only; omega,by dsimp only; omega,by dsimp only; omega,⟨by dsimp only; omega,qJH (by dsimp only; omega) (fun h=>absurd h c6) (by dsimp only; omega)⟩,by dsimp only; omega,by dsimp only; omega,by dsimp only; omega,by dsimp only; omega⟩,by dsimp only; omega⟩,rfl⟩
  ·simp only [c1,decide_true,decide_false,vYV,vYG];by_cases c9:(0:Int) < (i:Int)
   ·simp only [c9,decide_true,decide_false,vYV,vYG];by_cases c10:kd=0
    ·simp only [c10,decide_true,decide_false,vYV,vYG];exact ⟨⟨ltrI i,0,((i:Int) - 1),⟨131072,(vJJ .i64 ((vJJ .i64 ((nxV e w (mA w m 4) 5) - 2)) * 32768)),(vJJ .i64 ((vJJ .i64 ((nxV e w (mA w m 5) 3) - 1)) * 32768))⟩,0,0,(vJJ .i64 (1 + (nxV e w m 4))),65536,(vJJ .i64 (65536 + (nxV e w (mA w m 1) 3))),327680⟩,mA w m 6,⟨kQ hm 6,rfl,⟨by dsimp only; omega,by dsimp only; omega,by dsimp only; omega,by dsimp only; omega,by dsimp only; omega,⟨by dsimp only; omega,qJH (by dsimp only; omega) (fun _=>⟨rfl,rfl⟩) (by dsimp only; omega)⟩,by dsimp only; omega,by dsimp only; omega,by dsimp only; omega,by dsimp only; omega⟩,by dsimp only; omega⟩,rfl⟩
    ·simp only [c10,decide_true,decide_false,vYV,vYG];by_cases c11:kd=4
     ·simp only [c11,decide_true,decide_false,vYV,vYG];exact ⟨⟨ltrI i,4,((i:Int) - 1),⟨131072,(vJJ .i64 ((vJJ .i64 ((nxV e w (mA w m 4) 5) - 2)) * 32768)),(vJJ .i64 ((vJJ .i64 ((nxV e w (mA w m 5) 3) - 1)) * 32768))⟩,(vJJ .i64 ((vJJ .i64 (0 - (nxV e w (mA w m 6) 3))) * 65536)),(vJJ .i64 ((nxV e w (mA w m 7) 4) * 32768)),(vJJ .i64 (1 + (nxV e w m 4))),65536,(vJJ .i64 (65536 + (nxV e w (mA w m 1) 3))),327680⟩,mA w m 8,⟨kQ hm 8,rfl,⟨by dsimp only; omega,by dsimp only; omega,by dsimp only; omega,by dsimp only; omega,by dsimp only; omega,⟨by dsimp only; omega,qJH (by dsimp only; omega) (fun h=>absurd (show (4:Int)=0 from h) (by decide)) (by dsimp only; omega)⟩,by dsimp only; omega,by dsimp only; omega,by dsimp only; omega,by dsimp only; omega⟩,by dsimp only; omega⟩,rfl⟩
     ·simp only [c11,decide_true,decide_false,vYV,vYG];by_cases c12:kd=5
      ·simp only [c12,decide_true,decide_false,vYV,vYG];exact ⟨⟨ltrI i,5,((i:Int) - 1),⟨131072,(vJJ .i64 ((vJJ .i64 ((nxV e w (mA w m 4) 5) - 2)) * 32768)),(vJJ .i64 ((vJJ .i64 ((nxV e w (mA w m 5) 3) - 1)) * 32768))⟩,(vJJ .i64 ((vJJ .i64 (0 - (nxV e w (mA w m 6) 3))) * 65536)),(vJJ .i64 ((nxV e w (mA w m 7) 4) * 32768)),(vJJ .i64 (1 + (nxV e w m 4))),65536,(vJJ .i64 (65536 + (nxV e w (mA w m 1) 3))),327680⟩,mA w m 8,⟨kQ hm 8,rfl,⟨by dsimp only; omega,by dsimp only; omega,by dsimp only; omega,by dsimp only; omega,by dsimp only; omega,⟨by dsimp only; omega,qJH (by dsimp only; omega) (fun h=>absurd (show (5:Int)=0 from h) (by decide)) (by dsimp only; omega)⟩,by dsimp only; omega,by dsimp only; omega,by dsimp only; omega,by dsimp only; omega⟩,by dsimp only; omega⟩,rfl⟩
      ·simp only [c12,decide_true,decide_false,vYV,vYG];exact ⟨⟨ltrI i,kd,((i:Int) - 1),⟨131072,(vJJ .i64 ((vJJ .i64 ((nxV e w (mA w m 4) 5) - 2)) * 32768)),(vJJ .i64 ((vJJ .i64 ((nxV e w (mA w m 5) 3) - 1)) * 32768))⟩,(vJJ .i64 ((vJJ .i64 ((vJJ .i64 (0 - (nxV e w (mA w m 6) 5))) * 65536)).tdiv 8)),(vJJ .i64 ((vJJ .i64 ((vJJ .i64 ((vJJ .i64 (1 + (nxV e w (mA w m 7) 4))) * 65536)).tdiv 8)) + (nxV e w (mA w m 8) 3))),(vJJ .i64 (1 + (nxV e w m 4))),65536,(vJJ .i64 (65536 + (nxV e w (mA w m 1) 3))),327680⟩,mA w m 9,⟨kQ hm 9,rfl,⟨by dsimp only; omega,by dsimp only; omega,by dsimp only; omega,by dsimp only; omega,by dsimp only; omega,⟨by dsimp only; omega,qJH (by dsimp only; omega) (fun h=>absurd h c10) (by dsimp only; omega)⟩,by dsimp only; omega,by dsimp only; omega,by dsimp only; omega,by dsimp only; omega⟩,by dsimp only; omega⟩,rfl⟩
   ·simp only [c9,decide_true,decide_false,vYV,vYG];by_cases c13:kd=0
    ·simp only [c13,decide_true,decide_false,vYV,vYG];exact ⟨⟨ltrI i,0,((i:Int) - 1),⟨0,0,0⟩,0,0,(vJJ .i64 (1 + (nxV e w m 4))),65536,(vJJ .i64 (65536 + (nxV e w (mA w m 1) 3))),327680⟩,mA w m 4,⟨kQ hm 4,rfl,⟨by dsimp only; omega,by dsimp only; omega,by dsimp only; omega,by dsimp only; omega,by dsimp only; omega,⟨by dsimp only; omega,qJH (by dsimp only; omega) (fun _=>⟨rfl,rfl⟩) (by dsimp only; omega)⟩,by dsimp only; omega,by dsimp only; omega,by dsimp only; omega,by dsimp only; omega⟩,by dsimp only; omega⟩,rfl⟩
    ·simp only [c13,decide_true,decide_false,vYV,vYG];by_cases c14:kd=4
     ·simp only [c14,decide_true,decide_false,vYV,vYG];exact ⟨⟨ltrI i,4,((i:Int) - 1),⟨0,0,0⟩,(vJJ .i64 ((vJJ .i64 (0 - (nxV e w (mA w m 4) 3))) * 65536)),(vJJ .i64 ((nxV e w (mA w m 5) 4) * 32768)),(vJJ .i64 (1 + (nxV e w m 4))),65536,(vJJ .i64 (65536 + (nxV e w (mA w m 1) 3))),327680⟩,mA w m 6,⟨kQ hm 6,rfl,⟨by dsimp only; omega,by dsimp only; omega,by dsimp only; omega,by dsimp only; omega,by dsimp only; omega,⟨by dsimp only; omega,qJH (by dsimp only; omega) (fun h=>absurd (show (4:Int)=0 from h) (by decide)) (by dsimp only; omega)⟩,by dsimp only; omega,by dsimp only; omega,by dsimp only; omega,by dsimp only; omega⟩,by dsimp only; omega⟩,rfl⟩
     ·simp only [c14,decide_true,decide_false,vYV,vYG];by_cases c15:kd=5
      ·simp only [c15,decide_true,decide_false,vYV,vYG];exact ⟨⟨ltrI i,5,((i:Int) - 1),⟨0,0,0⟩,(vJJ .i64 ((vJJ .i64 (0 - (nxV e w (mA w m 4) 3))) * 65536)),(vJJ .i64 ((nxV e w (mA w m 5) 4) * 32768)),(vJJ .i64 (1 + (nxV e w m 4))),65536,(vJJ .i64 (65536 + (nxV e w (mA w m 1) 3))),327680⟩,mA w m 6,⟨kQ hm 6,rfl,⟨by dsimp only; omega,by dsimp only; omega,by dsimp only; omega,by dsimp only; omega,by dsimp only; omega,⟨by dsimp only; omega,qJH (by dsimp only; omega) (fun h=>absurd (show (5:Int)=0 from h) (by decide)) (by dsimp only; omega)⟩,by dsimp only; omega,by dsimp only; omega,by dsimp only; omega,by dsimp only; omega⟩,by dsimp only; omega⟩,rfl⟩
      ·simp only [c15,decide_true,decide_false,vYV,vYG];exact ⟨⟨ltrI i,kd,((i:Int) - 1),⟨0,0,0⟩,(vJJ .i64 ((vJJ .i64 ((vJJ .i64 (0 - (nxV e w (mA w m 4) 5))) * 65536)).tdiv 8)),(vJJ .i64 ((vJJ .i64 ((vJJ .i64 ((vJJ .i64 (1 + (nxV e w (mA w m 5) 4))) * 65536)).tdiv 8)) + (nxV e w (mA w m 6) 3))),(vJJ .i64 (1 + (nxV e w m 4))),65536,(vJJ .i64 (65536 + (nxV e w (mA w m 1) 3))),327680⟩,mA w m 7,⟨kQ hm 7,rfl,⟨by dsimp only; omega,by dsimp only; omega,by dsimp only; omega,by dsimp only; omega,by dsimp only; omega,⟨by dsimp only; omega,qJH (by dsimp only; omega) (fun h=>absurd h c13) (by dsimp only; omega)⟩,by dsimp only; omega,by dsimp only; omega,by dsimp only; omega,by dsimp only; omega⟩,by dsimp only; omega⟩,rfl⟩
 obtain ⟨j,m',h,hk⟩:=key;exact ⟨j,m',h,qHJ qQV yJ (qQH (l:=[]) (m:=[(30,o_nx)]) trivial ⟨jWH,trivial⟩) (fun p S hp=>by cases hp) hk⟩
end Go.Proofs.YtgmbkkkbfbocnaaGreat.Sn

/- Part 23 of the texts behind the last one: rules and contracts. No condition. -/
import Derived.Test.YtklmegnpfhiibaaGreatBK22
open Bool renaming and_eq_true → vQJ, true_and → vZW
open List renaming mem_of_getElem? → vQW, getElem?_map → vQH
open Nat renaming lt_of_lt_of_le → vZZ, le_of_ble_eq_true → vZJ
open Go.IntKind renaming wrap → vYW
namespace Go.Proofs.YtklmegnpfhiibaaGreat.Xa
open Go.Rx Go.Sx Go.RowKit Go.Maps
def keyL (n:Nat) (q:Nat→Int):List Int:=(List.range 10).map fun t=>if t < n then q t else 0
def keyV (n:Nat) (q:Nat→Int):Value:=.agg ((keyL n q).map (Value.int .i64)).toArray
theorem keyV_inj {n m:Nat} {q p:Nat→Int} (h:keyV n q=keyV m p):keyL n q=keyL m p:=by
 unfold keyV at h;simp only [Value.agg.injEq] at h;have h2:=congrArg Array.toList h;simp only [List.toList_toArray] at h2;exact List.map_inj_right (fun a b e=>by simpa using e) |>.1 h2
section
variable (ins:Nat→Bool) (pn:Nat→Nat) (pv:Nat→Nat→Int)
def sawB (k:Nat):Bool:=(List.range k).any fun i=>ins i && decide (keyL (pn i) (pv i)=keyL (pn k) (pv k))
def cntD:Nat→Nat
 | 0=>0
 | k + 1=>cntD k + (bif ins k && !sawB ins pn pv k then 1 else 0)
theorem cntD_le:∀ k,cntD ins pn pv k≤k
 | 0=>Nat.le_refl _
 | k + 1=>by
  have:=cntD_le k
  unfold cntD;cases ins k && !sawB ins pn pv k <;> simp only [vYZ,vYY] <;> omega
end
theorem saw_iff {ins:Nat→Bool} {pn:Nat→Nat} {pv:Nat→Nat→Int} {k:Nat}:sawB ins pn pv k=true ↔ ∃ i,i < k∧ins i=true∧keyV (pn k) (pv k)=keyV (pn i) (pv i):=by
 unfold sawB;rw [List.any_eq_true];refine ⟨fun ⟨i,h1,h2⟩ => ?_,fun ⟨i,h1,h2,h3⟩ => ?_⟩
 ·simp only [vQJ,decide_eq_true_eq] at h2;exact ⟨i,List.mem_range.1 h1,h2.1,by unfold keyV; rw [h2.2]⟩
 ·exact ⟨i,List.mem_range.2 h1,by simp only [vQJ,decide_eq_true_eq]; exact ⟨h2,(keyV_inj h3).symm⟩⟩
theorem lf_ints {F:Nat→Prop} {w:World} {n:Nat} {q:Nat→Int} {v:Value} (hF:∀ k,F k→k < w.heap.size) (h:RP F w (.lf n (fun t=>[.n .i64 (q t)])) v):∃ a c,v=.slice a n c∧qJA 1 a ((List.range n).map fun t=>[Value.int .i64 (q t)]) w:=by
 cases h with
 | lf _ _ _ h =>
  obtain ⟨a,c,rfl,_,h2,_⟩:=slc_of_rp (sz:=1) (by simp [qWD,PV.flat1]) hF h;refine ⟨a,c,by simp,?_⟩;have e:qUG ((List.range n).map fun t=>[PV.n .i64 (q t)])=(List.range n).map fun t=>[Value.int .i64 (q t)]:=by unfold qUG; rw [List.map_map]; rfl
  rw [e] at h2;exact h2
theorem lf_hand {F:Nat→Prop} {w:World} {n:Nat} {p:Nat→PV} {v:Value} (hF:∀ k,F k→k < w.heap.size) (h:RP F w (.lf n (fun j=>[p j])) v):∃ (a:Option Addr) (c:Nat) (u:Nat→Value),v=.slice a n c∧qJA 1 a ((List.range n).map fun j=>[u j]) w∧∀ j,j < n→RP F w (p j) (u j):=by
 cases h with
 | lf _ _ _ h =>
  generalize hrows:(List.range n).map (fun j=>[p j])=rows at h;have hlen:rows.length=n:=by rw [← hrows]; simp
  cases h with
  | l0 ad c =>
   have:n=0:=by simpa using hlen.symm
   subst this;exact ⟨ad,c,fun _=>default,rfl,fun j r hj=>by simp at hj,fun j hj=>by omega⟩
  | l _ b off m c sz g hn hcap hs hf hc hh =>
   have hat:∀ j,j < n→rows[j]? = some [p j]:=fun j hj=>by rw [← hrows]; simp [hj]
   have e:n=m:=by omega
   subst e;refine ⟨some ⟨b,off,none⟩,c,fun j=>g j 0,rfl,fun j r hj => ?_,fun j hj=>hh j _ 0 _ (hat j hj) rfl⟩;rw [vQH] at hj;obtain ⟨i,hi,rfl⟩:=Option.map_eq_some_iff.1 hj;have hlt:=(List.getElem?_eq_some_iff.1 hi).1;simp only [List.length_range] at hlt;have hi2:i=j:=by
    have:=(List.getElem?_eq_some_iff.1 hi).2
    simpa using this.symm
   subst hi2;have hsz:sz=1:=by
    have:=hs _ (vQW (hat i hlt))
    simpa using this.symm
   subst hsz;refine ⟨rfl,b,off,rfl,hF b hf,fun k hk => ?_⟩;have hk0:k=0:=by omega
   subst hk0
   have:=(hc i 0 hlt (by omega)).1
   simpa using this
theorem en32:kJ Tryz.prog 32:=kQ Tryz.func32 (by kernel_rfl) (by kernel_rfl)
theorem en102:kJ Tryz.prog 102:=kQ Tryz.func102 (by kernel_rfl) (by kernel_rfl)
theorem en72:kJ Tryz.prog 72:=kQ Tryz.func72 (by kernel_rfl) (by kernel_rfl)
theorem ty25:tyB Tryz.prog 25 true 2=true:=by kernel_rfl
theorem ty30:tyB Tryz.prog 30 false 1=true:=by kernel_rfl
theorem ty142:tyB Tryz.prog 142 true 10=true:=by kernel_rfl
theorem sl26:slcB Tryz.prog 26 30 1=true:=by kernel_rfl
theorem app26:appB Tryz.prog 26 30 1 24=true:=by kernel_rfl
theorem ze30:qQW Tryz.prog 30 (.slice none 0 0):=by unfold qQW; kernel_rfl
theorem ze4:qQW Tryz.prog 4 (.bool false):=by unfold qQW; kernel_rfl
theorem ze142:qQW Tryz.prog 142 (.agg #[.int .i64 0,.int .i64 0,.int .i64 0,.int .i64 0,.int .i64 0,.int .i64 0,.int .i64 0,.int .i64 0,.int .i64 0,.int .i64 0]):=by unfold qQW; kernel_rfl
theorem yYL:Tryz.prog.underlying 142=some (.array 10 2):=by kernel_rfl
theorem un141:Tryz.prog.underlying 141=some (.map 142 4):=by kernel_rfl
theorem un4:Tryz.prog.underlying 4=some .bool:=by kernel_rfl
theorem un2:Tryz.prog.underlying 2=some (.int .i64):=by kernel_rfl
theorem un30:Tryz.prog.underlying 30=some (.slice 2):=by kernel_rfl
theorem sz2:(Tryz.prog.info? 2).map (·.size)=some 1:=by kernel_rfl
theorem co2:Tryz.prog.cellsOf 2=1:=by kernel_rfl
theorem co142:Tryz.prog.cellsOf 142=10:=by kernel_rfl
theorem kt142:Tryz.prog.keyType 142=true:=by kernel_rfl
theorem tsz:1≤Tryz.prog.types.size:=vZJ (by kernel_rfl)
theorem K142:Keyed Tryz.prog 142:=Keyed.of_law (Go.WideMaps.ArrKey.law (k:=142) (e:=2) (n:=10) ⟨yYL,by kernel_rfl,co2,co142⟩)
theorem key_ok {n:Nat} {q:Nat→Int} (hq:∀ t,t < n → -9223372036854775808≤q t∧q t≤9223372036854775807):∃ l,keyOf Tryz.prog 142 (keyV n q)=some l:=by
 refine key_ten yYL un2 co2 co142 kt142 tsz (keyL n q) (by simp [keyL]) fun z hz => ?_
 unfold keyL at hz;obtain ⟨t,_,rfl⟩:=List.mem_map.1 hz;by_cases h:t < n
 ·rw [if_pos h]
  have:=hq t h
  have e1:IntKind.i64.min = -9223372036854775808:=rfl;have e2:IntKind.i64.max=9223372036854775807:=rfl;simp only [Lit.wf,vQJ,decide_eq_true_eq,e1,e2];exact this
 ·rw [if_neg h]; rfl
structure DS where
 k:Nat
 ys:List Value
 ad:Option Addr
 cap:Nat
 M:Value→Prop
theorem key_copy {n:Nat} {q:Nat→Int} (_:n≤10):(keyL n q).map (Value.int .i64)=((List.range n).map fun t=>[Value.int .i64 (q t)]).flatten ++ List.drop n (List.replicate 10 (Value.int .i64 0)):=by
 rcases (by omega:n=0 ∨ n=1 ∨ n=2 ∨ n=3 ∨ n=4 ∨ n=5 ∨ n=6 ∨ n=7 ∨ n=8 ∨ n=9 ∨ n=10) with rfl | rfl | rfl | rfl | rfl | rfl | rfl | rfl | rfl | rfl | rfl <;> rfl
def dsI (ins:Nat→Bool) (pn:Nat→Nat) (pv:Nat→Nat→Int) (np:Nat) (x:DS):Prop:=x.k≤np∧x.ys.length=cntD ins pn pv x.k∧∀ v,x.M v ↔ ∃ i,i < x.k∧ins i=true∧v=keyV (pn i) (pv i)
theorem dsI_out {ins:Nat→Bool} {pn:Nat→Nat} {pv:Nat→Nat→Int} {np:Nat} {x:DS} (h:dsI ins pn pv np x) (hk:x.k < np) (hi:ins x.k=false):dsI ins pn pv np { x with k:=x.k + 1 }:=by
 obtain ⟨h1,h2,h3⟩:=h;refine ⟨hk,?_,fun v=>(h3 v).trans ⟨fun ⟨i,a,b⟩=>⟨i,by show i < x.k + 1; omega,b⟩,fun ⟨i,a,b,c⟩=>⟨i,?_,b,c⟩⟩⟩
 ·show x.ys.length=cntD ins pn pv x.k + _;rw [hi,h2]; rfl
 ·have a':i < x.k + 1:=a
  have:i ≠ x.k:=fun e=>by subst e; rw [hi] at b; cases b
  omega
theorem dsI_old {ins:Nat→Bool} {pn:Nat→Nat} {pv:Nat→Nat→Int} {np:Nat} {x:DS} (h:dsI ins pn pv np x) (hk:x.k < np) (hi:ins x.k=true) (hs:sawB ins pn pv x.k=true):dsI ins pn pv np { x with k:=x.k + 1 }:=by
 obtain ⟨h1,h2,h3⟩:=h;refine ⟨hk,?_,fun v=>(h3 v).trans ⟨fun ⟨i,a,b⟩=>⟨i,by show i < x.k + 1; omega,b⟩,fun ⟨i,a,b,c⟩ => ?_⟩⟩
 ·show x.ys.length=cntD ins pn pv x.k + _;rw [hi,hs,h2]; rfl
 ·have a':i < x.k + 1:=a;by_cases e:i=x.k
  ·subst e;obtain ⟨j,a1,a2,a3⟩:=saw_iff.1 hs;exact ⟨j,a1,a2,c.trans a3⟩
  ·exact ⟨i,by omega,b,c⟩
theorem dsI_new {ins:Nat→Bool} {pn:Nat→Nat} {pv:Nat→Nat→Int} {np:Nat} {x:DS} (h:dsI ins pn pv np x) (hk:x.k < np) (hi:ins x.k=true) (hs:sawB ins pn pv x.k=false) (v:Value) (ad:Option Addr) (cap:Nat) :
  dsI ins pn pv np ⟨x.k + 1,x.ys ++ [v],ad,cap,fun u=>u=keyV (pn x.k) (pv x.k) ∨ x.M u⟩:=by
 obtain ⟨h1,h2,h3⟩:=h;refine ⟨hk,?_,fun u=>⟨fun hu => ?_,fun ⟨i,a,b,c⟩ => ?_⟩⟩
 ·show (x.ys ++ [v]).length=cntD ins pn pv x.k + _;rw [hi,hs,List.length_append,h2]; rfl
 ·rcases hu with hu | hu
  ·exact ⟨x.k,by show x.k < x.k + 1; omega,hi,hu⟩
  ·obtain ⟨i,a,b,c⟩:=(h3 u).1 hu;exact ⟨i,by show i < x.k + 1; omega,b,c⟩
 ·have a':i < x.k + 1:=a;by_cases e:i=x.k
  ·subst e; exact .inl c
  ·exact .inr ((h3 u).2 ⟨i,by omega,b,c⟩)
theorem zVZ {k:Nat} (_:k≤1000000):vYW .i64 ((k:Int) + 1)=((k + 1:Nat):Int):=by
 refine (zV ?_).trans ?_ <;> omega
theorem rp_one {F:Nat→Prop} {w:World} {n:Nat} {f:Nat→List PV} {v:Value} (h:RP F w (.lf n f) v):∃ (a:Option Addr) (m c:Nat),v=.slice a m c:=by
 cases h with
 | lf _ _ _ h =>
  generalize (List.range n).map f=rows at h;cases h
  ·exact ⟨_,_,_,rfl⟩
  ·exact ⟨_,_,_,rfl⟩
section
variable {R:PV} {r1 r2:PV} {ins:Nat→Bool} {pn:Nat→Nat} {pv:Nat→Nat→Int} {np:Nat}
set_option maxRecDepth 100000 in
theorem dist_walk (hI:∀ j,j < np→zY Tryz.prog 32 [.a [r1,r2],.lf (pn j) (fun t=>[.n .i64 (pv j t)])] (.v (.b (ins j)))) (hC:∀ j,j < np→ins j=true→zY Tryz.prog 102 [.lf (pn j) (fun t=>[.n .i64 (pv j t)])] (.v (.lf (pn j) (fun t=>[.n .i64 (pv j t)]))))
  (hnp:np≤1000) (hq:∀ j,j < np→ins j=true→0 < pn j∧pn j≤10∧∀ t,t < pn j → -9223372036854775808≤pv j t∧pv j t≤9223372036854775807)
  (w:World) (vr va:Value) (hr:RP (fun k=>k < w.heap.size) w (.a [r1,r2]) vr) (hp:RP (fun k=>k < w.heap.size) w (.lf np (fun j=>[.lf (pn j) (fun t=>[.n .i64 (pv j t)])])) va) :
  Calls Tryz.prog 72 #[vr,va] w (fun e w'=>∃ (ad:Option Addr) (cap:Nat) (ys:List Value),e=.returned (.slice ad ys.length cap)∧ys.length=cntD ins pn pv np∧Grow w w'∧Go.Sx.Told w.heap.size (OwnF 0 30 1 ad cap ys.length ys) w'):=by
 obtain ⟨vs,rfl,hal⟩:=rp_parts hr;obtain ⟨u1,vs,rfl,hr1,hal⟩:=uJ hal;obtain ⟨u2,vs,rfl,hr2,hal⟩:=uJ hal;obtain rfl:=qYJ hal;obtain ⟨a,c,u,rfl,hS,hu⟩:=lf_hand (fun k hk=>hk) hp;refine kY (args:=[.agg [u1,u2].toArray,.slice a np c]) (n:=40) Tryz.func72 rfl rfl rfl ?_;refine zJ ?_;refine qK ?_;refine doL_box 2 rfl rfl rfl rfl ?_; intro b2;refine zH (zK rfl) rfl rfl rfl ?_;refine zX ?_;refine qJ ?_;refine zJ ?_;refine qK ?_;refine zH (zK rfl) rfl rfl rfl ?_;refine zX ?_;refine qJ ?_;refine zJ ?_;refine qK ?_;refine doL_makeSet (k:=142) (e:=4) 50 rfl rfl ?_; intro bm;refine zH (zK rfl) rfl rfl rfl ?_;refine zX ?_;refine qJ ?_;refine doC_own 51 30 1 ?_;refine zJ ?_;refine zJ ?_;refine qK ?_;refine zH (yX rfl) rfl rfl rfl ?_;refine zH (opV_len_slice sl26 rfl) rfl rfl rfl ?_;refine zH (yX rfl) rfl rfl rfl ?_;refine zX ?_;refine qJ ?_;refine doC_block ?_;refine doC_loopK [2,6,11,12] [2] (α:=DS) (fun x=>np - x.k) (dsI ins pn pv np) (fun x=>⟨w,[(51,ownD x.ad,OwnF 0 30 1 x.ad x.cap x.ys.length x.ys),(50,(· = bm),SetF Tryz.prog 142 4 bm x.ys.length x.M)]⟩) (fun x=>[(5,.slice x.ad x.ys.length x.cap),(13,.int .i64 (x.k:Int))]) (fun _=>[]) ⟨0,[],none,0,fun _=>False⟩ rfl rfl ?_ rfl ?_ ?_ rfl ?_
 ·exact ⟨Nat.zero_le _,rfl,fun v=>⟨fun h=>h.elim,fun ⟨i,h,_⟩=>absurd h (Nat.not_lt_zero i)⟩⟩
 ·repeat' first | exact trivial | exact True.intro | refine ⟨rfl,?_⟩
 ·repeat' first | exact trivial | exact True.intro | refine ⟨rfl,?_⟩
 rintro x hx
 have hle:=cntD_le ins pn pv x.k;have hxl:=hx.2.1;have hxk:=hx.1;refine zJ ?_;refine qK ?_;refine zH (opV_lss rfl rfl) rfl rfl rfl ?_;refine zX ?_;refine qJ ?_;refine zJ ?_;refine qKQ rfl (fun hc14 => ?_) (fun hc14 => ?_)
 ·have h2:x.k < np:=by have:=vYU hc14; omega
  have hj:((List.range np).map fun j=>[u j])[x.k]? = some [u x.k]:=by simp [h2]
  refine qQF ?_;refine qJ ?_;refine zJ ?_;refine doC_block ?_;refine zJ ?_;refine qK ?_;refine zH (opV_indexS (e:=30) (qYH hS) sl26 rfl rfl rfl hj h2) rfl rfl rfl ?_;refine zH (opV_loadS1 x.k 0 (qYH hS) hj ty30 rfl rfl) rfl rfl rfl ?_;refine zH (zK rfl) rfl rfl rfl ?_;refine zX ?_;refine qJ ?_;refine zJ ?_;refine zJ ?_;refine qK ?_;refine zH (yX rfl) rfl rfl rfl ?_;refine zH (opV_len_slice sl26 rfl) rfl rfl rfl ?_;refine zH (opV_eql rfl rfl) rfl rfl rfl ?_;refine zX ?_;refine qJ ?_;refine qKU rfl (vYJ (by omega)) ?_;refine qQF ?_;refine qJ ?_;refine zJ ?_;refine zJ ?_;refine qK ?_;refine zH (zZF 2 ty25 rfl rfl rfl) rfl rfl rfl ?_;refine zH (yX rfl) rfl rfl rfl ?_;have hcall:∀ w',Grow w w'→Calls Tryz.prog 32 #[.agg [u1,u2].toArray,u x.k] w' (Rets (.bool (ins x.k)) w'):=fun w' hg=>by
   have hm:∀ k,k < w.heap.size→k < w'.heap.size∧w'.heap[k]? = w.heap[k]?:=fun k hk=>⟨vZZ hk hg.size,hg.block k hk⟩
   exact rets_of_sndR (hI x.k h2) rfl (qUF (hr.mono hm) (qUF ((hu x.k h2).mono hm) zXD))
  refine zH (opV_call en32 rfl (fun w' k'=>hcall w' k'.grow)) rfl rfl rfl ?_;refine zH (zWG rfl) rfl rfl rfl ?_;refine zX ?_;refine qJ ?_;refine qKQ rfl (fun hc23 => ?_) (fun hc23 => ?_)
  ·have hin:ins x.k=false:=by simpa using hc23
   refine doC_exit ?_;refine qUB ?_;refine post_block_exit ?_;refine qJ ?_;refine qK ?_;refine zH (zKU rfl rfl (zVZ (by omega))) rfl rfl rfl ?_;refine zH (yX rfl) rfl rfl rfl ?_;refine zX ?_;refine qHV { x with k:=x.k + 1 } (dsI_out hx h2 hin) (by show np - (x.k + 1) < np - x.k; omega) rfl ?_ ?_ rfl
   repeat' first | exact trivial | exact True.intro | refine ⟨rfl,?_⟩
  ·have hin:ins x.k=true:=by simpa using hc23
   obtain ⟨q0,q10,qb⟩:=hq x.k h2 hin;obtain ⟨ai,ci,hui,hSi⟩:=lf_ints (fun k hk=>hk) (hu x.k h2);obtain ⟨kl,hkl⟩:=key_ok qb;refine qQF ?_;refine qJ ?_;refine zJ ?_;refine qK ?_;refine doL_alloc 9 ze142 rfl rfl rfl ?_; intro b9;refine zX ?_;refine qJ ?_;refine zJ ?_;refine qK ?_;refine zH (opV_sliceArr yYL sz2 rfl) rfl rfl rfl ?_;refine zH (yX rfl) rfl rfl rfl ?_;refine doL_copyTo (a:=ai) (c:=ci) (m:=pn x.k) (rows:=(List.range (pn x.k)).map fun t=>[Value.int .i64 (pv x.k t)]) (cs':=(keyL (pn x.k) (pv x.k)).map (Value.int .i64)) 9 un30 sz2 (qYH hSi) (fun v hv=>by obtain ⟨r,hr,hv⟩:=List.mem_flatten.1 hv; obtain ⟨t,_,rfl⟩:=List.mem_map.1 hr; cases List.mem_singleton.1 hv; rfl) rfl (by rw [← hui]; rfl) (by simp) q0 q10 (by simp) rfl rfl rfl ?_ rfl ?_
   ·exact key_copy q10
   refine zX ?_;refine qJ ?_;refine zJ ?_;refine qK ?_;refine zH (yX rfl) rfl rfl rfl ?_;refine zH (zZF 9 ty142 rfl rfl rfl) rfl rfl rfl ?_;refine zH (opV_lookupS (c:=sawB ins pn pv x.k) 50 rfl K142 un141 un4 ze4 rfl rfl hkl (saw_iff.trans (hx.2.2 _).symm)) rfl rfl rfl ?_;refine zH (zWG rfl) rfl rfl rfl ?_;refine zX ?_;refine qJ ?_;refine qKQ rfl (fun hc30 => ?_) (fun hc30 => ?_)
   ·have hsaw:sawB ins pn pv x.k=false:=by simpa using hc30
    refine zJ ?_;refine qK ?_;refine zH (yX rfl) rfl rfl rfl ?_;refine zH (zZF 9 ty142 rfl rfl rfl) rfl rfl rfl ?_;refine doL_putSet (key:=keyV (pn x.k) (pv x.k)) 50 rfl K142 un141 un4 (by unfold maxLen; omega) rfl rfl rfl hkl rfl rfl ?_; intro R1 hR1;obtain rfl:=Option.some.inj hR1;refine zX ?_;refine qJ ?_;refine qK ?_;refine zH (yX rfl) rfl rfl rfl ?_;refine zH (yX rfl) rfl rfl rfl ?_;have hcl:∀ w',Grow w w'→Calls Tryz.prog 102 #[u x.k] w' (RetsT (fun v _=>∃ (a:Option Addr) (m c:Nat),v=.slice a m c) w'):=fun w' hg=>by
     have hm:∀ k,k < w.heap.size→k < w'.heap.size∧w'.heap[k]? = w.heap[k]?:=fun k hk=>⟨vZZ hk hg.size,hg.block k hk⟩
     exact ((hC x.k h2 hin).2 w' _ [u x.k] (fun k hk=>hk) (qUF ((hu x.k h2).mono hm) zXD)).mono fun e w2 ⟨v,F',he,hg2,_,_,hrr⟩=>⟨v,he,hg2,rp_one hrr⟩
    refine doL_t (opT_call en102 rfl (fun w' k'=>hcl w' k'.grow)) rfl rfl rfl fun v35 act w5 f5 k5 h35 => ?_
    obtain ⟨a35,n35,c35,rfl⟩:=h35;refine (?_:DoL _ _ _ _ _ _ _ _) act w5 f5 k5;refine doL_bslice 60 sl26 ze30 rfl rfl rfl rfl rfl rfl rfl rfl ?_; intro b36;refine doL_append 51 app26 rfl rfl rfl (id2:=60) rfl rfl rfl rfl (by omega) (by omega) rfl rfl ?_; intro a' cap' R2 hR2;obtain rfl:=Option.some.inj hR2;refine zH (zK rfl) rfl rfl rfl ?_;refine zX ?_;refine post_block_normal ?_;refine qJ ?_;refine qK ?_;refine zH (zKU rfl rfl (zVZ (by omega))) rfl rfl rfl ?_;refine zH (yX rfl) rfl rfl rfl ?_;refine zX ?_;refine qHV ⟨x.k + 1,x.ys ++ [.slice a35 n35 c35],a',cap',fun z=>z=keyV (pn x.k) (pv x.k) ∨ x.M z⟩ (dsI_new hx h2 hin hsaw (.slice a35 n35 c35) a' cap') (by show np - (x.k + 1) < np - x.k; omega) ?_ ?_ ?_ rfl
    ·dsimp only;rw [List.length_append]; rfl
    all_goals (dsimp only; try rw [List.length_append])
    all_goals (repeat' first | exact trivial | exact True.intro | refine ⟨rfl,?_⟩)
   ·have hsaw:sawB ins pn pv x.k=true:=by simpa using hc30
    refine qQF ?_;refine post_block_normal ?_;refine qJ ?_;refine qK ?_;refine zH (zKU rfl rfl (zVZ (by omega))) rfl rfl rfl ?_;refine zH (yX rfl) rfl rfl rfl ?_;refine zX ?_;refine qHV { x with k:=x.k + 1 } (dsI_old hx h2 hin hsaw) (by show np - (x.k + 1) < np - x.k; omega) rfl ?_ ?_ rfl
    repeat' first | exact trivial | exact True.intro | refine ⟨rfl,?_⟩
 ·have h2:x.k=np:=by have:=vYX hc14; omega
  refine doC_exit ?_;refine qUB ?_;refine qUB ?_;refine post_block_exit ?_;refine qJ ?_;refine zJ ?_;refine qK ?_;refine zH (yX rfl) rfl rfl rfl ?_;refine zH (zK rfl) rfl rfl rfl ?_;refine zX ?_;refine qJ ?_;refine qZD ?_;refine uH (rs:=[.tmp 4]) rfl (resC (kV rfl) (resN)) rfl ?_;intro w2 k2;exact ⟨x.ad,x.cap,x.ys,rfl,by rw [hxl,h2],k2.grow,qZZ k2 (id:=51) rfl⟩
end
theorem own_len {F:Nat→Prop} {w w':World} {e cap k:Nat} {ad:Option Addr} {ys:List Value} (h:Go.Sx.Told w.heap.size (OwnF 0 e 1 ad cap k ys) w') (hF:∀ b,w.heap.size≤b→b < w'.heap.size→F b):RP F w' (.lf k (fun _=>[])) (.slice ad k cap):=by
 obtain ⟨D,hd,hb,hG⟩:=h;have hm:=qKE hd hG (fun _ h=>h);refine .lf _ _ _ ?_;obtain ⟨h1,h2⟩:=hG;rcases h2 with ⟨h2,h3⟩ | ⟨g,cp,cur,hv,h3,h4,h5,h6,h7⟩
 ·simp only [Value.slice.injEq] at h2;obtain ⟨rfl,rfl,rfl⟩:=h2;exact .l0 none 0
 ·simp only [Value.slice.injEq] at hv;obtain ⟨rfl,_,rfl⟩:=hv
  have:=hb _ (hm _ rfl)
  exact .l _ g 0 k cap 0 (fun _ _=>default) (by simp) h5 (fun r hr=>by obtain ⟨_,_,rfl⟩:=List.mem_map.1 hr; rfl) (hF g this.1 this.2) (fun j t _ ht=>absurd ht (Nat.not_lt_zero t)) (fun j r t p hr hp=>by
   obtain ⟨_,_,rfl⟩:=List.mem_map.1 (vQW hr);simp at hp)
section
variable {r1 r2:PV} {ins:Nat→Bool} {pn:Nat→Nat} {pv:Nat→Nat→Int} {np:Nat}
theorem snd_dst (hI:∀ j,j < np→zY Tryz.prog 32 [.a [r1,r2],.lf (pn j) (fun t=>[.n .i64 (pv j t)])] (.v (.b (ins j)))) (hC:∀ j,j < np→ins j=true→zY Tryz.prog 102 [.lf (pn j) (fun t=>[.n .i64 (pv j t)])] (.v (.lf (pn j) (fun t=>[.n .i64 (pv j t)]))))
  (hnp:np≤1000) (hq:∀ j,j < np→ins j=true→0 < pn j∧pn j≤10∧∀ t,t < pn j → -9223372036854775808≤pv j t∧pv j t≤9223372036854775807) :
  zY Tryz.prog 72 [.a [r1,r2],.lf np (fun j=>[.lf (pn j) (fun t=>[.n .i64 (pv j t)])])] (.v (.lf (cntD ins pn pv np) (fun _=>[]))):=by
 refine ⟨en72,fun w F vals hF hal => ?_⟩;obtain ⟨vr,vs,rfl,h1,hal⟩:=uJ hal;obtain ⟨va,vs,rfl,h2,hal⟩:=uJ hal;obtain rfl:=qYJ hal;have hm:∀ k,F k→k < w.heap.size∧w.heap[k]? = w.heap[k]?:=fun k hk=>⟨hF k hk,rfl⟩
 refine (dist_walk hI hC hnp hq w vr va (h1.mono hm) (h2.mono hm)).mono ?_
 rintro e w' ⟨ad,cap,ys,rfl,hl,hg,ht⟩
 refine ⟨_,fun k=>F k ∨ (w.heap.size≤k∧k < w'.heap.size),rfl,hg,fun k hk=>.inl hk,fun k hk=>hk,?_⟩;rw [← hl];exact own_len ht fun b h1 h2=>.inr ⟨h1,h2⟩
end
end Go.Proofs.YtklmegnpfhiibaaGreat.Xa
namespace Go.Proofs.YtklmegnpfhiibaaGreat.Xl
open Go.Rx Rt Go.Sx Go.RowKit Od Na Nb Nc Xb Xc
theorem jerr_cj {js:Nat→J} {n i:Nat} (h:jErr js n i=0):cjT (fun e=>e) i (js i)=0:=by
 unfold jErr at h;cases h1:nmB (js i).name with
 | false=>rw [h1] at h; exact absurd (show (802:Int)=0 from h) (by decide)
 | true =>
  cases h2:dup js (js i).name i 0 with
  | true=>rw [h1,h2] at h; exact absurd (show (802:Int)=0 from h) (by decide)
  | false=>rw [h1,h2] at h; exact h
theorem je_all {js:Nat→J} {n:Nat}:∀ {k p:Nat},jE js n k p=0→∀ i,p≤i→i < p + k→jErr js n i=0
 | 0,p,_,i,h1,h2=>by omega
 | k + 1,p,h,i,h1,h2=>by
  unfold jE at h;by_cases hp:jErr js n p=0
  ·rw [vYK hp,vYZ] at h;rcases Nat.eq_or_lt_of_le h1 with e | e
   ·exact e ▸ hp
   ·exact je_all h i e (by omega)
  ·rw [vYJ hp,vYY] at h;exact absurd h hp
theorem rerr_je {js:Nat→J} {ms:Nat→Ms} {n m:Nat} (h:rErr js ms n m=0):jE js n n 0=0:=by
 have hn:=zYL h;unfold rErr at h;rw [vYJ (show ¬ (n:Int)=0 by omega),vYJ (show ¬ 10 < (n:Int) by omega),vYY,vYY] at h;by_cases hj:jE js n n 0=0
 ·exact hj
 ·rw [vYJ hj,vYY] at h; exact h
theorem bz {c:Bool} {x y:Int} (h:(bif c then x else y)=0) (hx:x ≠ 0):c=false∧y=0:=by
 cases c with
 | true=>exact absurd h hx
 | false=>exact ⟨rfl,h⟩
theorem bw {c:Bool} {x y:Int} (h:(bif c then x else y)=0) (hx:y ≠ 0):c=true∧x=0:=by
 cases c with
 | true=>exact ⟨rfl,h⟩
 | false=>exact absurd h hx
theorem cj_lim {i:Int} {j:J} (h:cjT (fun e=>e) i j=0) : -4194304≤j.lo∧j.lo≤j.hi∧j.hi≤4194304∧1≤j.weight∧j.weight≤1024:=by
 unfold cjT at h
 iterate 10 obtain ⟨_,h⟩:=bz h (by decide)
 by_cases k0:j.kind=0
 ·rw [vYK k0,vYZ] at h;obtain ⟨a,h⟩:=bz h (by decide);obtain ⟨b,h⟩:=bz h (by decide);obtain ⟨c,h⟩:=bz h (by decide);obtain ⟨d,h⟩:=bw h (by decide);obtain ⟨e,h⟩:=bw h (by decide);have a:=vYX a;have b:=vYX b;have c:=vYX c;have d:=vYU d;have e:=vYU e;omega
 rw [vYJ k0,vYY] at h;by_cases k1:j.kind=1
 ·rw [vYK k1,vYZ] at h;obtain ⟨a,h⟩:=bz h (by decide);obtain ⟨b,h⟩:=bz h (by decide);obtain ⟨c,h⟩:=bz h (by decide);obtain ⟨d,h⟩:=bw h (by decide);obtain ⟨e,h⟩:=bw h (by decide);have a:=vYX a;have b:=vYX b;have c:=vYX c;have d:=vYU d;have e:=vYU e;omega
 rw [vYJ k1,vYY] at h;by_cases k2:j.kind=2
 ·rw [vYK k2,vYZ] at h;obtain ⟨a,h⟩:=bz h (by decide);obtain ⟨b,h⟩:=bz h (by decide);obtain ⟨c,h⟩:=bz h (by decide);obtain ⟨d,h⟩:=bw h (by decide);obtain ⟨e,h⟩:=bw h (by decide);have a:=vYX a;have b:=vYX b;have c:=vYX c;have d:=vYU d;have e:=vYU e;omega
 rw [vYJ k2,vYY] at h;by_cases k3:j.kind=3
 ·rw [vYK k3,vYZ] at h;obtain ⟨a,h⟩:=bz h (by decide);obtain ⟨b,h⟩:=bz h (by decide);obtain ⟨c,h⟩:=bz h (by decide);obtain ⟨d,h⟩:=bw h (by decide);obtain ⟨e,h⟩:=bw h (by decide);have a:=vYX a;have b:=vYX b;have c:=vYX c;have d:=vYU d;have e:=vYU e;omega
 rw [vYJ k3,vYY] at h;obtain ⟨a,h⟩:=bz h (by decide);obtain ⟨b,h⟩:=bz h (by decide);obtain ⟨c,h⟩:=bz h (by decide);obtain ⟨d,h⟩:=bw h (by decide);obtain ⟨e,h⟩:=bw h (by decide);have a:=vYX a;have b:=vYX b;have c:=vYX c;have d:=vYU d;have e:=vYU e;omega
theorem rerr_lim {js:Nat→J} {ms:Nat→Ms} {n m:Nat} (h:rErr js ms n m=0):∀ i,i < n → -4194304≤(js i).lo∧(js i).lo≤(js i).hi∧(js i).hi≤4194304∧1≤(js i).weight∧(js i).weight≤1024:=fun i hi =>
 cj_lim (jerr_cj (je_all (rerr_je h) i (Nat.zero_le _) (by omega)))
theorem qIn_v {js:Nat→J} {ms:Nat→Ms} {q:Nat→Int} {n m k:Nat} (h:qIn js ms q n m k=true):∀ i,i < k→(js i).lo≤q i∧q i≤(js i).hi:=by
 obtain ⟨h1,h2,h3,h4⟩:=qUI h;subst h2;unfold qIn insQ at h;simp only [vQJ,decide_eq_true_eq] at h;intro i hi
 have:=allN_iff.1 h.2.2 i (Nat.zero_le _) (by omega)
 simpa [vQJ,decide_eq_true_eq] using this
theorem qIn_b {js:Nat→J} {ms:Nat→Ms} {q:Nat→Int} {n m k:Nat} (h:qIn js ms q n m k=true):∀ i,i < k → -4194304≤q i∧q i≤4194304:=fun i hi=>by
 obtain ⟨h1,h2,h3,h4⟩:=qUI h;have a:=qIn_v h i hi;have b:=rerr_lim h1 i (by omega);omega
end Go.Proofs.YtklmegnpfhiibaaGreat.Xl
namespace Go.Proofs.YtklmegnpfhiibaaGreat.Xf
open Go.Rx Rt Go.Sx Go.RowKit Od Nb Nc Xb Xc Bb Xe
theorem cl_1 (x0:Int):zY Tryz.prog 102 [.l [[.n .i64 x0]]] (.ow 2 1 (.l [[.n .i64 x0]])):=jJ (N:=60) qZF yH (OrL.ok (l:=[]) trivial) (by kernel_rfl)
theorem cl_2 (x0 x1:Int):zY Tryz.prog 102 [.l [[.n .i64 x0],[.n .i64 x1]]] (.ow 2 1 (.l [[.n .i64 x0],[.n .i64 x1]])):=jJ (N:=60) qZF yH (OrL.ok (l:=[]) trivial) (by kernel_rfl)
theorem cl_3 (x0 x1 x2:Int):zY Tryz.prog 102 [.l [[.n .i64 x0],[.n .i64 x1],[.n .i64 x2]]] (.ow 2 1 (.l [[.n .i64 x0],[.n .i64 x1],[.n .i64 x2]])):=jJ (N:=60) qZF yH (OrL.ok (l:=[]) trivial) (by kernel_rfl)
theorem cl_4 (x0 x1 x2 x3:Int):zY Tryz.prog 102 [.l [[.n .i64 x0],[.n .i64 x1],[.n .i64 x2],[.n .i64 x3]]] (.ow 2 1 (.l [[.n .i64 x0],[.n .i64 x1],[.n .i64 x2],[.n .i64 x3]])):=jJ (N:=60) qZF yH (OrL.ok (l:=[]) trivial) (by kernel_rfl)
theorem cl_5 (x0 x1 x2 x3 x4:Int):zY Tryz.prog 102 [.l [[.n .i64 x0],[.n .i64 x1],[.n .i64 x2],[.n .i64 x3],[.n .i64 x4]]] (.ow 2 1 (.l [[.n .i64 x0],[.n .i64 x1],[.n .i64 x2],[.n .i64 x3],[.n .i64 x4]])):=jJ (N:=60) qZF yH (OrL.ok (l:=[]) trivial) (by kernel_rfl)
theorem cl_6 (x0 x1 x2 x3 x4 x5:Int):zY Tryz.prog 102 [.l [[.n .i64 x0],[.n .i64 x1],[.n .i64 x2],[.n .i64 x3],[.n .i64 x4],[.n .i64 x5]]] (.ow 2 1 (.l [[.n .i64 x0],[.n .i64 x1],[.n .i64 x2],[.n .i64 x3],[.n .i64 x4],[.n .i64 x5]])):=jJ (N:=60) qZF yH (OrL.ok (l:=[]) trivial) (by kernel_rfl)
theorem cl_7 (x0 x1 x2 x3 x4 x5 x6:Int):zY Tryz.prog 102 [.l [[.n .i64 x0],[.n .i64 x1],[.n .i64 x2],[.n .i64 x3],[.n .i64 x4],[.n .i64 x5],[.n .i64 x6]]] (.ow 2 1 (.l [[.n .i64 x0],[.n .i64 x1],[.n .i64 x2],[.n .i64 x3],[.n .i64 x4],[.n .i64 x5],[.n .i64 x6]])):=jJ (N:=60) qZF yH (OrL.ok (l:=[]) trivial) (by kernel_rfl)
theorem cl_8 (x0 x1 x2 x3 x4 x5 x6 x7:Int):zY Tryz.prog 102 [.l [[.n .i64 x0],[.n .i64 x1],[.n .i64 x2],[.n .i64 x3],[.n .i64 x4],[.n .i64 x5],[.n .i64 x6],[.n .i64 x7]]] (.ow 2 1 (.l [[.n .i64 x0],[.n .i64 x1],[.n .i64 x2],[.n .i64 x3],[.n .i64 x4],[.n .i64 x5],[.n .i64 x6],[.n .i64 x7]])):=jJ (N:=60) qZF yH (OrL.ok (l:=[]) trivial) (by kernel_rfl)
theorem cl_9 (x0 x1 x2 x3 x4 x5 x6 x7 x8:Int):zY Tryz.prog 102 [.l [[.n .i64 x0],[.n .i64 x1],[.n .i64 x2],[.n .i64 x3],[.n .i64 x4],[.n .i64 x5],[.n .i64 x6],[.n .i64 x7],[.n .i64 x8]]] (.ow 2 1 (.l [[.n .i64 x0],[.n .i64 x1],[.n .i64 x2],[.n .i64 x3],[.n .i64 x4],[.n .i64 x5],[.n .i64 x6],[.n .i64 x7],[.n .i64 x8]])):=jJ (N:=60) qZF yH (OrL.ok (l:=[]) trivial) (by kernel_rfl)
theorem cl_10 (x0 x1 x2 x3 x4 x5 x6 x7 x8 x9:Int):zY Tryz.prog 102 [.l [[.n .i64 x0],[.n .i64 x1],[.n .i64 x2],[.n .i64 x3],[.n .i64 x4],[.n .i64 x5],[.n .i64 x6],[.n .i64 x7],[.n .i64 x8],[.n .i64 x9]]] (.ow 2 1 (.l [[.n .i64 x0],[.n .i64 x1],[.n .i64 x2],[.n .i64 x3],[.n .i64 x4],[.n .i64 x5],[.n .i64 x6],[.n .i64 x7],[.n .i64 x8],[.n .i64 x9]])):=jJ (N:=60) qZF yH (OrL.ok (l:=[]) trivial) (by kernel_rfl)
theorem qJY {f e sz:Nat} {ps:List PV} {rows rows':Go.Rx.Rows} (h:rows.L=rows'.L) (hs:zY Tryz.prog f ps (.ow e sz rows)):zY Tryz.prog f ps (.ow e sz rows'):=by
 refine ⟨hs.1,fun w F vals hF hal=>(hs.2 w F vals hF hal).mono fun _ w' ⟨v,F',he,hg,f1,f2,hr⟩=>⟨v,F',he,hg,f1,f2,?_⟩⟩;have e:rows.len=rows'.len:=by rw [← Rows.len_L,h,Rows.len_L]
 simp only [RRet,e,h] at hr ⊢;exact hr
theorem snd_clone (q:Nat→Int) (k:Nat) (_:1≤k∧k≤10):zY Tryz.prog 102 [.lf k (fQ q)] (.ow 2 1 (.fo k (fQ q))):=by
 have:k=1 ∨ k=2 ∨ k=3 ∨ k=4 ∨ k=5 ∨ k=6 ∨ k=7 ∨ k=8 ∨ k=9 ∨ k=10:=by omega
 rcases this with rfl | rfl | rfl | rfl | rfl | rfl | rfl | rfl | rfl | rfl
 ·exact qJY rfl (qYY (fun _ _ _=>Sames.al (ys:=[_]) ⟨Same.l rfl,trivial⟩) (cl_1 (q 0)))
 ·exact qJY rfl (qYY (fun _ _ _=>Sames.al (ys:=[_]) ⟨Same.l rfl,trivial⟩) (cl_2 (q 0) (q 1)))
 ·exact qJY rfl (qYY (fun _ _ _=>Sames.al (ys:=[_]) ⟨Same.l rfl,trivial⟩) (cl_3 (q 0) (q 1) (q 2)))
 ·exact qJY rfl (qYY (fun _ _ _=>Sames.al (ys:=[_]) ⟨Same.l rfl,trivial⟩) (cl_4 (q 0) (q 1) (q 2) (q 3)))
 ·exact qJY rfl (qYY (fun _ _ _=>Sames.al (ys:=[_]) ⟨Same.l rfl,trivial⟩) (cl_5 (q 0) (q 1) (q 2) (q 3) (q 4)))
 ·exact qJY rfl (qYY (fun _ _ _=>Sames.al (ys:=[_]) ⟨Same.l rfl,trivial⟩) (cl_6 (q 0) (q 1) (q 2) (q 3) (q 4) (q 5)))
 ·exact qJY rfl (qYY (fun _ _ _=>Sames.al (ys:=[_]) ⟨Same.l rfl,trivial⟩) (cl_7 (q 0) (q 1) (q 2) (q 3) (q 4) (q 5) (q 6)))
 ·exact qJY rfl (qYY (fun _ _ _=>Sames.al (ys:=[_]) ⟨Same.l rfl,trivial⟩) (cl_8 (q 0) (q 1) (q 2) (q 3) (q 4) (q 5) (q 6) (q 7)))
 ·exact qJY rfl (qYY (fun _ _ _=>Sames.al (ys:=[_]) ⟨Same.l rfl,trivial⟩) (cl_9 (q 0) (q 1) (q 2) (q 3) (q 4) (q 5) (q 6) (q 7) (q 8)))
 ·exact qJY rfl (qYY (fun _ _ _=>Sames.al (ys:=[_]) ⟨Same.l rfl,trivial⟩) (cl_10 (q 0) (q 1) (q 2) (q 3) (q 4) (q 5) (q 6) (q 7) (q 8) (q 9)))
theorem snd_cl2 (q:Nat→Int) (k:Nat) (h:1≤k∧k≤10):zY Tryz.prog 102 [.lf k (fQ q)] (.v (.lf k (fQ q))):=qVE (snd_clone q k h)
def inP (js:Nat→J) (ms:Nat→Ms) (n m:Nat) (pn:Nat→Nat) (pv:Nat→Nat→Int):Nat→Bool:=fun j=>qIn js ms (pv j) n m (pn j)
theorem qIn_w {js:Nat→J} {ms:Nat→Ms} {q:Nat→Int} {n m k:Nat} (h:qIn js ms q n m k=true):0 < k∧k≤10∧∀ t,t < k → -9223372036854775808≤q t∧q t≤9223372036854775807:=by
 obtain ⟨h1,h2,h3,h4⟩:=qUI h;refine ⟨by omega,h4,fun t ht => ?_⟩
 have:=Xl.qIn_b h t ht
 omega
theorem snd_dsc (js:Nat→J) (ms:Nat→Ms) (n m np:Nat) (pn:Nat→Nat) (pv:Nat→Nat→Int) (hnp:np≤1000):zY Tryz.prog 72 [.a [.lf n (fJ js),.lf m (fM ms)],.lf np (fP pn pv)] (.v (.lf (Xa.cntD (inP js ms n m pn pv) pn pv np) (fun _=>[]))) :=
 Xa.snd_dst (ins:=inP js ms n m pn pv) (fun j _=>snd_qIn js ms (pv j) n m (pn j)) (fun j _ hi=>snd_cl2 (pv j) (pn j) (by have:=qIn_w hi; omega)) hnp (fun j _ hi=>qIn_w hi)
def cve (js:Nat→J) (ms:Nat→Ms) (n m:Nat) (np:Nat) (pn:Nat→Nat) (pv:Nat→Nat→Int) (ne:Nat) (ed:Nat→Ed):Ed→Prop:=fun t=>match t with | _=>∀ j,j < np→pn j≤50
def eve (js:Nat→J) (ms:Nat→Ms) (n m:Nat) (np:Nat) (pn:Nat→Nat) (pv:Nat→Nat→Int) (ne:Nat) (ed:Nat→Ed):Ed→List PV:=fun t=>match t with | e=>[.a [.lf n (fJ js),.lf m (fM ms)],.a [.lf np (fP pn pv),.lf ne (fE ed)],.a (edP e)]
noncomputable def rve (js:Nat→J) (ms:Nat→Ms) (n m:Nat) (np:Nat) (pn:Nat→Nat) (pv:Nat→Nat→Int) (ne:Nat) (ed:Nat→Ed):Ed→Ret:=fun t=>match t with | e=>.v (.b (veB js ms n m np pn pv e))
def dve:List PV→Ed:=fun ps=>match ps with
 | [_,_,.a r]=>unE r
 | _=>unE []
noncomputable def o_ve (js:Nat→J) (ms:Nat→Ms) (n m:Nat) (np:Nat) (pn:Nat→Nat) (pv:Nat→Nat→Int) (ne:Nat) (ed:Nat→Ed):List PV→Option (Bool × Ret):=o_fm dve (cve js ms n m np pn pv ne ed) (eve js ms n m np pn pv ne ed) (rve js ms n m np pn pv ne ed)
theorem ok_ve (js:Nat→J) (ms:Nat→Ms) (n m:Nat) (np:Nat) (pn:Nat→Nat) (pv:Nat→Nat→Int) (ne:Nat) (ed:Nat→Ed):jH Tryz.prog 73 (o_ve js ms n m np pn pv ne ed):=qQD fun t h=>by
 revert h; revert t; intro e h
 exact snd_ve0 js ms n m np pn pv ne ed e h
theorem cntD_full {ins:Nat→Bool} {pn:Nat→Nat} {pv:Nat→Nat→Int}:∀ {k:Nat},Xa.cntD ins pn pv k=k ↔ ∀ j,j < k→ins j=true∧Xa.sawB ins pn pv j=false
 | 0=>⟨fun _ j h=>absurd h (Nat.not_lt_zero j),fun _=>rfl⟩
 | k + 1=>by
  have hl:=Xa.cntD_le ins pn pv k;show Xa.cntD ins pn pv k + (bif ins k && !Xa.sawB ins pn pv k then 1 else 0)=k + 1 ↔ _;constructor
  ·intro h j hj;have h1:(ins k && !Xa.sawB ins pn pv k)=true:=by
    cases e:ins k && !Xa.sawB ins pn pv k with
    | true=>rfl
    | false=>rw [e] at h; simp only [vYY] at h; omega
   rw [h1] at h;simp only [vYZ] at h;by_cases e:j=k
   ·subst e
    simpa [vQJ,Bool.not_eq_true'] using h1
   ·exact (cntD_full (ins:=ins) (pn:=pn) (pv:=pv) (k:=k)).1 (by omega) j (by omega)
  ·intro h;have h2:=h k (by omega);rw [(cntD_full (ins:=ins) (pn:=pn) (pv:=pv) (k:=k)).2 fun j hj=>h j (by omega),h2.1,h2.2]; rfl
def pnB (np:Nat) (pn:Nat→Nat):Bool:=allN (fun j:Nat=>decide (pn j≤50)) np 0
theorem pnB_iff {np:Nat} {pn:Nat→Nat}:pnB np pn=true ↔ ∀ j,j < np→pn j≤50:=by
 unfold pnB;refine allN_iff.trans ⟨fun h j hj=>vYU (h j (Nat.zero_le _) (by omega)),fun h j _ hj=>vYK (h j (by omega))⟩
def okV (js:Nat→J) (ms:Nat→Ms) (n m np:Nat) (pn:Nat→Nat) (pv:Nat→Nat→Int) (ed:Nat→Ed) (i:Nat):Bool:=veB js ms n m np pn pv (ed i) && (decide (i=0) || !decide (0≤cpI (ed (i - 1)).u (ed (i - 1)).v (ed i).u (ed i).v))
def vmB (js:Nat→J) (ms:Nat→Ms) (n m np:Nat) (pn:Nat→Nat) (pv:Nat→Nat→Int) (ne:Nat) (ed:Nat→Ed):Bool:=decide (rErr js ms n m=0) && (decide (np≤1024) && (decide (ne≤8192) && (decide (Xa.cntD (inP js ms n m pn pv) pn pv np=np) && allN (fun i:Nat=>okV js ms n m np pn pv ed i) ne 0)))
noncomputable def orva (js:Nat→J) (ms:Nat→Ms) (n m:Nat) (np:Nat) (pn:Nat→Nat) (pv:Nat→Nat→Int) (ne:Nat) (ed:Nat→Ed):OrS:=orS [(31,o_cr [.a [.lf n (fJ js),.lf m (fM ms)]] (.v (.n .i64 (rErr js ms n m)))),(72,o_lk [.a [.lf n (fJ js),.lf m (fM ms)],.lf np (fP pn pv)] (decide (np≤1000)) (.v (.lf (Xa.cntD (inP js ms n m pn pv) pn pv np) (fun _=>[])))),(73,o_ve js ms n m np pn pv ne ed),(74,o_cm)] []
noncomputable def hva (js:Nat→J) (ms:Nat→Ms) (n m:Nat) (np:Nat) (pn:Nat→Nat) (pv:Nat→Nat→Int) (ne:Nat) (ed:Nat→Ed) (i:Int):St:=⟨[(2,.p 2 0),(3,.p 3 0),(4,.p 4 0),(33,.v (.lf ne (fE ed))),(34,.v (.n .i64 (ne:Int))),(35,.v (.n .i64 i))],[(2,.blk [.v (.lf n (fJ js)),.v (.lf m (fM ms))]),(3,.blk [.v (.lf np (fP pn pv)),.v (.lf ne (fE ed))]),(4,.blk [.v (.b false)])]⟩
set_option maxRecDepth 100000 in
theorem rdva (G:St→Option (Ret × Mem)) (K:Cont) (js:Nat→J) (ms:Nat→Ms) (n m:Nat) (np:Nat) (pn:Nat→Nat) (pv:Nat→Nat→Int) (ne:Nat) (ed:Nat→Ed) (i:Int):stpT Tf 42 (orva js ms n m np pn pv ne ed) (ne + 10) [] [0,1,0,1,1,1,1] K G (hva js ms n m np pn pv ne ed i) =
 (bif (decide (i < (ne:Int))) then (bif (inB i ne) then (bif (gF1 (cve js ms n m np pn pv ne ed) (eve js ms n m np pn pv ne ed) (ed (i).toNat)) then (bif (veB js ms n m np pn pv (ed (i).toNat)) then (bif (decide (0 < i)) then (bif (inB (vYW .i64 (i - 1)) ne) then (bif (gF1 ccm ecm ((ed ((vYW .i64 (i - 1))).toNat),(ed (i).toNat))) then (bif (decide (0≤(cpI (ed ((vYW .i64 (i - 1))).toNat).u (ed ((vYW .i64 (i - 1))).toNat).v (ed (i).toNat).u (ed (i).toNat).v))) then (K .ret ⟨[(4,.p 4 0)],[(4,.blk [.v (.b false)])]⟩)
 else (G (hva js ms n m np pn pv ne ed (vYW .i64 (i + 1)))))
 else none)
 else none)
 else (G (hva js ms n m np pn pv ne ed (vYW .i64 (i + 1)))))
 else (K .ret ⟨[(4,.p 4 0)],[(4,.blk [.v (.b false)])]⟩))
 else none)
 else none)
 else (K (.exit 0) ⟨[(4,.p 4 0)],[(4,.blk [.v (.b false)])]⟩)):=by kernel_rfl
theorem lpva (K:Cont) (js:Nat→J) (ms:Nat→Ms) (n m:Nat) (np:Nat) (pn:Nat→Nat) (pv:Nat→Nat→Int) (ne:Nat) (ed:Nat→Ed) (_:ne≤8192) (hpn:∀ j,j < np→pn j≤50):LFT Tf 42 (orva js ms n m np pn pv ne ed) (ne + 10) [] [0,1,0,1,1,1,1] K (ne + 10) (hva js ms n m np pn pv ne ed 0)=bif (allN (fun i:Nat=>okV js ms n m np pn pv ed i) ne 0) then (K (.exit 0) ⟨[(4,.p 4 0)],[(4,.blk [.v (.b false)])]⟩) else (K .ret ⟨[(4,.p 4 0)],[(4,.blk [.v (.b false)])]⟩):=by
 refine (qKL (L:=LFT Tf 42 (orva js ms n m np pn pv ne ed) (ne + 10) [] [0,1,0,1,1,1,1] K) (stp:=stpT Tf 42 (orva js ms n m np pn pv ne ed) (ne + 10) [] [0,1,0,1,1,1,1] K) (fun _ _=>rfl) (fun (i:Nat) (_:Unit)=>hva js ms n m np pn pv ne ed (i:Int)) (fun _ _=>True) (fun (i:Nat) _=>okV js ms n m np pn pv ed i) (fun _ _=>()) (c:=ne) (fun _=>(K (.exit 0) ⟨[(4,.p 4 0)],[(4,.blk [.v (.b false)])]⟩)) (fun i _=>(K .ret ⟨[(4,.p 4 0)],[(4,.blk [.v (.b false)])]⟩)) (fun G i f hi _ => ?_) (fun _ _ _ _ _=>trivial) (fun G f _ => ?_) ne 0 (ne + 10) () (by omega) (by omega) trivial).trans ((qKC _ _ _ _ _).trans (qQA _ _ _ _ _))
 ·refine (rdva G K js ms n m np pn pv ne ed i).trans ?_;rw [vYK (show (i:Int) < (ne:Int) by omega),jG (by omega),zU (show i < ne by omega)];simp only [toN,jV (C:=cve js ms n m np pn pv ne ed) (t:=_) hpn,vYZ];by_cases h0:i=0
  ·have e0:decide (0 < (i:Int))=false:=vYJ (by omega);simp only [okV,e0,vYK h0,Bool.true_or,vYY,Bool.and_true]
   all_goals (cases veB js ms n m np pn pv (ed i) <;> rfl)
  ·have e0:decide (0 < (i:Int))=true:=vYK (by omega);have e1:vYW .i64 ((i:Int) - 1)=((i - 1:Nat):Int):=by rw [zV (by omega)]; omega
   simp only [okV,e0,e1,toN,zU (show i - 1 < ne by omega),jV (C:=ccm) (t:=_) trivial,vYJ h0,Bool.false_or,vYZ];cases veB js ms n m np pn pv (ed i) <;> cases decide (0≤cpI (ed (i - 1)).u (ed (i - 1)).v (ed i).u (ed i).v) <;> rfl
 ·refine (rdva G K js ms n m np pn pv ne ed ne).trans ?_;rw [vYJ (show ¬ (ne:Int) < (ne:Int) by omega)];rfl
noncomputable def yZV (js:Nat→J) (ms:Nat→Ms) (n m:Nat) (np:Nat) (pn:Nat→Nat) (pv:Nat→Nat→Int) (ne:Nat) (ed:Nat→Ed):List (List Nat × yV):=[([0,1,0,1,1,1,1],sumF (fun _:Unit=>(hva js ms n m np pn pv ne ed 0)) (fun _=>()) (fun _ K=>(bif (decide (ne≤8192) && pnB np pn) then (bif (allN (fun i:Nat=>okV js ms n m np pn pv ed i) ne 0) then (K (.exit 0) ⟨[(4,.p 4 0)],[(4,.blk [.v (.b false)])]⟩) else (K .ret ⟨[(4,.p 4 0)],[(4,.blk [.v (.b false)])]⟩)) else none)))]
set_option maxRecDepth 100000 in
theorem pxval (js:Nat→J) (ms:Nat→Ms) (n m:Nat) (np:Nat) (pn:Nat→Nat) (pv:Nat→Nat→Int) (ne:Nat) (ed:Nat→Ed):qQI Tf (orva js ms n m np pn pv ne ed) (qY (yZV js ms n m np pn pv ne ed)) (ne + 10) 42 [.a [.lf n (fJ js),.lf m (fM ms)],.a [.lf np (fP pn pv),.lf ne (fE ed)]] =
 (bif (g1 [.a [.lf n (fJ js),.lf m (fM ms)]]) then (bif (!decide ((rErr js ms n m)=0)) then some (.v (.b false),[])
 else (bif (decide (1024 < (np:Int))) then some (.v (.b false),[])
 else (bif (decide (8192 < (ne:Int))) then some (.v (.b false),[])
 else (bif (g1 [.a [.lf n (fJ js),.lf m (fM ms)],.lf np (fP pn pv)] && decide (np≤1000)) then (bif (!decide (((Xa.cntD (inP js ms n m pn pv) pn pv np):Int)=(np:Int))) then some (.v (.b false),[])
 else (bif (gSt (hva js ms n m np pn pv ne ed 0) (hva js ms n m np pn pv ne ed 0)) then (bif (decide (ne≤8192) && pnB np pn) then (bif (allN (fun i:Nat=>okV js ms n m np pn pv ed i) ne 0) then some (.v (.b true),[])
 else some (.v (.b false),[]))
 else none)
 else none))
 else none))))
 else none):=by kernel_rfl
theorem snd_val (js:Nat→J) (ms:Nat→Ms) (n m:Nat) (np:Nat) (pn:Nat→Nat) (pv:Nat→Nat→Int) (ne:Nat) (ed:Nat→Ed) (_:np≤1000):zY Tryz.prog 42 [.a [.lf n (fJ js),.lf m (fM ms)],.a [.lf np (fP pn pv),.lf ne (fE ed)]] (.v (.b (vmB js ms n m np pn pv ne ed))):=by
 refine qH (N:=(ne + 10)) (LO:=qY (yZV js ms n m np pn pv ne ed)) jY yH (jK (l:=[(31,o_cr [.a [.lf n (fJ js),.lf m (fM ms)]] (.v (.n .i64 (rErr js ms n m)))),(72,o_lk [.a [.lf n (fJ js),.lf m (fM ms)],.lf np (fP pn pv)] (decide (np≤1000)) (.v (.lf (Xa.cntD (inP js ms n m pn pv) pn pv np) (fun _=>[])))),(73,o_ve js ms n m np pn pv ne ed),(74,o_cm)]) (m:=[]) ⟨qWW (zJE js ms n m),zHH (fun h=>snd_dsc js ms n m np pn pv (vYU h)),ok_ve js ms n m np pn pv ne ed,ok_cm,trivial⟩ trivial) (fun p S hp => ?_) ?_
 ·refine qX (L:=qZ Tf 42) (l:=(yZV js ms n m np pn pv ne ed)) (show AllP _ (yZV js ms n m np pn pv ne ed) from ⟨?_,trivial⟩) p S hp
  ·dsimp only;refine jQ (T:=Tf) (o:=(orva js ms n m np pn pv ne ed)) (f:=42) (LO:=qY []) (p:=[0,1,0,1,1,1,1]) jU ?_;intro t K r hr;obtain ⟨hg,hr⟩:=qQ hr;rw [vQJ] at hg;have hn:=vYU hg.1;have hpn:=pnB_iff.1 hg.2;exact (lpva K js ms n m np pn pv ne ed hn hpn).trans hr
 ·refine (pxval js ms n m np pn pv ne ed).trans ?_;unfold vmB;rw [g1_t,g1_t];by_cases h0:rErr js ms n m=0
  ·by_cases h2:ne≤8192
   ·by_cases h3:Xa.cntD (inP js ms n m pn pv) pn pv np=np
    ·have hin:=cntD_full.1 h3;have hpn:∀ j,j < np→pn j≤50:=fun j hj=>by
      have:=qUI (hin j hj).1
      omega
     rw [h3,vYK h0,vYK (show np≤1024 by omega),vYK h2,vYK (show np≤1000 by omega),vYJ (show ¬ (1024:Int) < (np:Int) by omega),vYJ (show ¬ (8192:Int) < (ne:Int) by omega),pnB_iff.2 hpn,zW];simp only [decide_true,Bool.not_true,vYZ,vYY,vZW,Bool.and_true];cases allN (fun i:Nat=>okV js ms n m np pn pv ed i) ne 0 <;> rfl
    ·rw [vYK h0,vYK (show np≤1024 by omega),vYK h2,vYK (show np≤1000 by omega),vYJ (show ¬ (1024:Int) < (np:Int) by omega),vYJ (show ¬ (8192:Int) < (ne:Int) by omega),vYJ h3,vYJ (show ¬ ((Xa.cntD (inP js ms n m pn pv) pn pv np:Nat):Int)=(np:Int) by omega)];rfl
   ·rw [vYK h0,vYK (show np≤1024 by omega),vYJ h2,vYJ (show ¬ (1024:Int) < (np:Int) by omega),vYK (show (8192:Int) < (ne:Int) by omega)];rfl
  ·rw [vYJ h0]; rfl
end Go.Proofs.YtklmegnpfhiibaaGreat.Xf

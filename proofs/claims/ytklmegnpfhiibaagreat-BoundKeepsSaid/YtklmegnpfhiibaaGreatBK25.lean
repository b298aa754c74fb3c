/- Part 25 of the texts behind the last one: rules and contracts. No condition. -/
import Derived.Test.YtklmegnpfhiibaaGreatBK24
open List renaming getElem?_eq_getElem → vQK, mem_of_getElem? → vQW
namespace Go.Proofs.YtklmegnpfhiibaaGreat.Xj
open Go.Rx Go.Sx Go.RowKit Go.Maps
section
variable {P:Program} {n:Nat} {w0:Base} {ops:Array Oper} {Q:Exit→Act→World→Prop} {S:yY} {H:Heap}
variable {d:Nat} {ty:TypeId} {pos:String} {af:Array Edge} {g:Option (Nat × Bool)} {rest:List Oper}
theorem uV {t e:TypeId} (id:Nat) (hs:P.underlying t=some (.slice e)) (hi:(P.info? e).isSome=true) (hw:qZH ops S ⟨some d,.buildSlice t 0 #[],ty,pos,af,g⟩=some true) (hn:Nat.blt d n=true)
  (next:∀ b,DoL P n w0 ops Q rest ((d,.slice (some ⟨b,0,none⟩) 0 0) :: S) ((id,b,[],e) :: H)):DoL P n w0 ops Q (⟨some d,.buildSlice t 0 #[],ty,pos,af,g⟩ :: rest) S H:=by
 intro a w f k;unfold wpList;rw [qZQ f hw,if_pos rfl];refine .inl ?_;unfold Oper.wp;obtain ⟨i,hi⟩:=Option.isSome_iff_exists.1 hi;have hrun:(execOp (evD S) ⟨some d,.buildSlice t 0 #[],ty,pos,af,g⟩).run P w=.ok (.value (.slice (some ⟨w.heap.size,0,none⟩) 0 0)) (w.alloc (.cells ([]:List Value).toArray e)):=by
  simp [execOp,Instr.buildSlice,run_underlying hs,sizeOf,typeInfo,hi,Instr.fill,newRow]
  congr 2
  apply Array.eq_empty_of_size_eq_zero
  simp
 rw [qXJ f (by simp [yQ,Op.operands]) rfl,hrun];simp only [Oper.upon];exact next _ _ _ (f.put hn _) (k.alloc id [] e)
theorem qKF {dd:Option Tmp} {t e b0 c:Nat} {a:Option Addr} {x y:Operand} (ht:P.underlying t=some (.slice e)) (hi:(P.info? e).isSome=true) (hx:ev S x=some (.slice (some ⟨b0,0,none⟩) 0 0)) (hy:ev S y=some (.slice a 0 c)) :
  OpV P w0 S H ⟨dd,.call ⟨.builtin .append,#[x,y],#[t,t]⟩,ty,pos,af,g⟩ (.slice (some ⟨b0,0,none⟩) 0 0) :=
 yG (by simp [yQ,Op.operands,Call.operands,hx,hy]) rfl fun w _=>by
  obtain ⟨i,hi⟩:=Option.isSome_iff_exists.1 hi;cases a with
  | none=>simp [execOp,resolve,invoke,builtin,zQ hx,zQ hy,Builtin.append_,run_underlying ht,sizeOf,typeInfo,hi,Builtin.lenOf,Builtin.firstCells,storeCells]
  | some a =>
   have hl:=run_loadCells_list (P:=P) w a [] (fun j v h=>by simp at h);simp at hl;simp [execOp,resolve,invoke,builtin,zQ hx,zQ hy,Builtin.append_,run_underlying ht,sizeOf,typeInfo,hi,Builtin.lenOf,Builtin.firstCells,storeCells,hl]
end
theorem unI:Tryz.prog.underlying 30=some (.slice 2):=by kernel_rfl
theorem inI:(Tryz.prog.info? 2).isSome=true:=by kernel_rfl
theorem enI:kJ Tryz.prog 102:=kQ Tryz.func102 (by kernel_rfl) (by kernel_rfl)
set_option maxRecDepth 100000 in
theorem clnI {zs:List Value} {bytes:Nat} (hB:qUU Tryz.prog 30 2 1 bytes zs) (w:World) (a:Option Addr) (m c:Nat) (rows:List (List Value)) (hS:qJA 1 a rows w) (hr:rows.length=m) (h0:0 < m) (hm:m * bytes≤281474976710656) (h63:m≤maxLen) :
  Calls Tryz.prog 102 #[.slice a m c] w (fun e w'=>∃ (b c':Nat),e=.returned (.slice (some ⟨b,0,none⟩) m c')∧Grow w w'∧Go.Sx.Told w.heap.size (OwnF 0 2 1 (some ⟨b,0,none⟩) c' m rows.flatten) w'):=by
 obtain ⟨r0,hr0⟩:∃ r0,rows[0]? = some r0:=⟨_,vQK (by omega)⟩
 obtain ⟨_,b1,off,ha,_,_⟩:=hS 0 r0 hr0;refine kY (args:=[.slice a m c]) (n:=8) Tryz.func102 rfl rfl rfl ?_;refine zJ ?_;refine qK ?_;refine zH (zK rfl) rfl rfl rfl ?_;refine zX ?_;refine qJ ?_;refine zJ ?_;refine zJ ?_;refine qK ?_;refine zH (yX rfl) rfl rfl rfl ?_;refine zH (qQB unI rfl) rfl rfl rfl ?_;refine zX ?_;refine qJ ?_;refine qKU rfl (by rw [ha]; rfl) ?_;refine qQF ?_;refine qJ ?_;refine zJ ?_;refine qK ?_;refine uV 60 unI inI rfl rfl ?_; intro b5;refine zH (yX rfl) rfl rfl rfl ?_;refine qYF 51 hB (qYH hS) rfl rfl hr h0 hm h63 rfl rfl ?_; intro b c';refine zH (zK rfl) rfl rfl rfl ?_;refine zX ?_;refine qJ ?_;refine qZD ?_;refine uH (rs:=[.tmp 2]) rfl (resC (kV rfl) (resN)) rfl ?_;intro w2 k2;exact ⟨b,c',rfl,k2.grow,qZZ k2 (id:=51) rfl⟩
theorem unP:Tryz.prog.underlying 26=some (.slice 30):=by kernel_rfl
theorem inP:(Tryz.prog.info? 30).isSome=true:=by kernel_rfl
theorem enP:kJ Tryz.prog 107:=kQ Tryz.func107 (by kernel_rfl) (by kernel_rfl)
set_option maxRecDepth 100000 in
theorem clnP {zs:List Value} {bytes:Nat} (hB:qUU Tryz.prog 26 30 1 bytes zs) (w:World) (a:Option Addr) (m c:Nat) (rows:List (List Value)) (hS:qJA 1 a rows w) (hr:rows.length=m) (h0:0 < m) (hm:m * bytes≤281474976710656) (h63:m≤maxLen) :
  Calls Tryz.prog 107 #[.slice a m c] w (fun e w'=>∃ (b c':Nat),e=.returned (.slice (some ⟨b,0,none⟩) m c')∧Grow w w'∧Go.Sx.Told w.heap.size (OwnF 0 30 1 (some ⟨b,0,none⟩) c' m rows.flatten) w'):=by
 obtain ⟨r0,hr0⟩:∃ r0,rows[0]? = some r0:=⟨_,vQK (by omega)⟩
 obtain ⟨_,b1,off,ha,_,_⟩:=hS 0 r0 hr0;refine kY (args:=[.slice a m c]) (n:=8) Tryz.func107 rfl rfl rfl ?_;refine zJ ?_;refine qK ?_;refine zH (zK rfl) rfl rfl rfl ?_;refine zX ?_;refine qJ ?_;refine zJ ?_;refine zJ ?_;refine qK ?_;refine zH (yX rfl) rfl rfl rfl ?_;refine zH (qQB unP rfl) rfl rfl rfl ?_;refine zX ?_;refine qJ ?_;refine qKU rfl (by rw [ha]; rfl) ?_;refine qQF ?_;refine qJ ?_;refine zJ ?_;refine qK ?_;refine uV 60 unP inP rfl rfl ?_; intro b5;refine zH (yX rfl) rfl rfl rfl ?_;refine qYF 51 hB (qYH hS) rfl rfl hr h0 hm h63 rfl rfl ?_; intro b c';refine zH (zK rfl) rfl rfl rfl ?_;refine zX ?_;refine qJ ?_;refine qZD ?_;refine uH (rs:=[.tmp 2]) rfl (resC (kV rfl) (resN)) rfl ?_;intro w2 k2;exact ⟨b,c',rfl,k2.grow,qZZ k2 (id:=51) rfl⟩
theorem unE:Tryz.prog.underlying 27=some (.slice 61):=by kernel_rfl
theorem inE:(Tryz.prog.info? 61).isSome=true:=by kernel_rfl
theorem enE:kJ Tryz.prog 108:=kQ Tryz.func108 (by kernel_rfl) (by kernel_rfl)
set_option maxRecDepth 100000 in
theorem clnE {zs:List Value} {bytes:Nat} (hB:qUU Tryz.prog 27 61 12 bytes zs) (w:World) (a:Option Addr) (m c:Nat) (rows:List (List Value)) (hS:qJA 12 a rows w) (hr:rows.length=m) (h0:0 < m) (hm:m * bytes≤281474976710656) (h63:m≤maxLen) :
  Calls Tryz.prog 108 #[.slice a m c] w (fun e w'=>∃ (b c':Nat),e=.returned (.slice (some ⟨b,0,none⟩) m c')∧Grow w w'∧Go.Sx.Told w.heap.size (OwnF 0 61 12 (some ⟨b,0,none⟩) c' m rows.flatten) w'):=by
 obtain ⟨r0,hr0⟩:∃ r0,rows[0]? = some r0:=⟨_,vQK (by omega)⟩
 obtain ⟨_,b1,off,ha,_,_⟩:=hS 0 r0 hr0;refine kY (args:=[.slice a m c]) (n:=8) Tryz.func108 rfl rfl rfl ?_;refine zJ ?_;refine qK ?_;refine zH (zK rfl) rfl rfl rfl ?_;refine zX ?_;refine qJ ?_;refine zJ ?_;refine zJ ?_;refine qK ?_;refine zH (yX rfl) rfl rfl rfl ?_;refine zH (qQB unE rfl) rfl rfl rfl ?_;refine zX ?_;refine qJ ?_;refine qKU rfl (by rw [ha]; rfl) ?_;refine qQF ?_;refine qJ ?_;refine zJ ?_;refine qK ?_;refine uV 60 unE inE rfl rfl ?_; intro b5;refine zH (yX rfl) rfl rfl rfl ?_;refine qYF 51 hB (qYH hS) rfl rfl hr h0 hm h63 rfl rfl ?_; intro b c';refine zH (zK rfl) rfl rfl rfl ?_;refine zX ?_;refine qJ ?_;refine qZD ?_;refine uH (rs:=[.tmp 2]) rfl (resC (kV rfl) (resN)) rfl ?_;intro w2 k2;exact ⟨b,c',rfl,k2.grow,qZZ k2 (id:=51) rfl⟩
theorem unC:Tryz.prog.underlying 52=some (.slice 55):=by kernel_rfl
theorem inC:(Tryz.prog.info? 55).isSome=true:=by kernel_rfl
theorem enC:kJ Tryz.prog 109:=kQ Tryz.func109 (by kernel_rfl) (by kernel_rfl)
set_option maxRecDepth 100000 in
theorem clnC {zs:List Value} {bytes:Nat} (hB:qUU Tryz.prog 52 55 3 bytes zs) (w:World) (a:Option Addr) (m c:Nat) (rows:List (List Value)) (hS:qJA 3 a rows w) (hr:rows.length=m) (h0:0 < m) (hm:m * bytes≤281474976710656) (h63:m≤maxLen) :
  Calls Tryz.prog 109 #[.slice a m c] w (fun e w'=>∃ (b c':Nat),e=.returned (.slice (some ⟨b,0,none⟩) m c')∧Grow w w'∧Go.Sx.Told w.heap.size (OwnF 0 55 3 (some ⟨b,0,none⟩) c' m rows.flatten) w'):=by
 obtain ⟨r0,hr0⟩:∃ r0,rows[0]? = some r0:=⟨_,vQK (by omega)⟩
 obtain ⟨_,b1,off,ha,_,_⟩:=hS 0 r0 hr0;refine kY (args:=[.slice a m c]) (n:=8) Tryz.func109 rfl rfl rfl ?_;refine zJ ?_;refine qK ?_;refine zH (zK rfl) rfl rfl rfl ?_;refine zX ?_;refine qJ ?_;refine zJ ?_;refine zJ ?_;refine qK ?_;refine zH (yX rfl) rfl rfl rfl ?_;refine zH (qQB unC rfl) rfl rfl rfl ?_;refine zX ?_;refine qJ ?_;refine qKU rfl (by rw [ha]; rfl) ?_;refine qQF ?_;refine qJ ?_;refine zJ ?_;refine qK ?_;refine uV 60 unC inC rfl rfl ?_; intro b5;refine zH (yX rfl) rfl rfl rfl ?_;refine qYF 51 hB (qYH hS) rfl rfl hr h0 hm h63 rfl rfl ?_; intro b c';refine zH (zK rfl) rfl rfl rfl ?_;refine zX ?_;refine qJ ?_;refine qZD ?_;refine uH (rs:=[.tmp 2]) rfl (resC (kV rfl) (resN)) rfl ?_;intro w2 k2;exact ⟨b,c',rfl,k2.grow,qZZ k2 (id:=51) rfl⟩
theorem unV:Tryz.prog.underlying 53=some (.slice 78):=by kernel_rfl
theorem inV:(Tryz.prog.info? 78).isSome=true:=by kernel_rfl
theorem enV:kJ Tryz.prog 110:=kQ Tryz.func110 (by kernel_rfl) (by kernel_rfl)
set_option maxRecDepth 100000 in
theorem clnV {zs:List Value} {bytes:Nat} (hB:qUU Tryz.prog 53 78 3 bytes zs) (w:World) (a:Option Addr) (m c:Nat) (rows:List (List Value)) (hS:qJA 3 a rows w) (hr:rows.length=m) (h0:0 < m) (hm:m * bytes≤281474976710656) (h63:m≤maxLen) :
  Calls Tryz.prog 110 #[.slice a m c] w (fun e w'=>∃ (b c':Nat),e=.returned (.slice (some ⟨b,0,none⟩) m c')∧Grow w w'∧Go.Sx.Told w.heap.size (OwnF 0 78 3 (some ⟨b,0,none⟩) c' m rows.flatten) w'):=by
 obtain ⟨r0,hr0⟩:∃ r0,rows[0]? = some r0:=⟨_,vQK (by omega)⟩
 obtain ⟨_,b1,off,ha,_,_⟩:=hS 0 r0 hr0;refine kY (args:=[.slice a m c]) (n:=8) Tryz.func110 rfl rfl rfl ?_;refine zJ ?_;refine qK ?_;refine zH (zK rfl) rfl rfl rfl ?_;refine zX ?_;refine qJ ?_;refine zJ ?_;refine zJ ?_;refine qK ?_;refine zH (yX rfl) rfl rfl rfl ?_;refine zH (qQB unV rfl) rfl rfl rfl ?_;refine zX ?_;refine qJ ?_;refine qKU rfl (by rw [ha]; rfl) ?_;refine qQF ?_;refine qJ ?_;refine zJ ?_;refine qK ?_;refine uV 60 unV inV rfl rfl ?_; intro b5;refine zH (yX rfl) rfl rfl rfl ?_;refine qYF 51 hB (qYH hS) rfl rfl hr h0 hm h63 rfl rfl ?_; intro b c';refine zH (zK rfl) rfl rfl rfl ?_;refine zX ?_;refine qJ ?_;refine qZD ?_;refine uH (rs:=[.tmp 2]) rfl (resC (kV rfl) (resN)) rfl ?_;intro w2 k2;exact ⟨b,c',rfl,k2.grow,qZZ k2 (id:=51) rfl⟩
theorem qGH {F:Nat→Prop} {w:World} {m sz:Nat} {f:Nat→List PV} {v:Value} (hF:∀ k,F k→k < w.heap.size) (hs:∀ j,j < m→(f j).length=sz) (h0:0 < m) (h:RP F w (.lf m f) v):∃ a c rows,v=.slice a m c∧qJA sz a rows w∧rows.length=m∧Al (Al (RP F w)) ((List.range m).map f) rows∧(∀ r ∈ rows,r.length=sz)∧∀ r ∈ rows,∀ u ∈ r,u.oneCell'=true:=by
 cases h with
 | lf _ _ _ h =>
  generalize hrows:(List.range m).map f=L at h;have hlen:L.length=m:=by rw [← hrows]; simp
  have hat:∀ j,j < m→L[j]? = some (f j):=fun j hj=>by rw [← hrows]; simp [hj]
  cases h with
  | l0 ad c=>simp at hlen; omega
  | l _ b off m2 c sz2 g hn hcap hs2 hf hc hh =>
   have e:m=m2:=by omega
   subst e;have e2:sz2=sz:=by
    rw [← hs2 _ (vQW (hat 0 h0))]; exact hs 0 h0
   subst e2;have hv:∀ j,j < m→((List.range m).map fun j=>(List.range sz2).map fun t=>g j t)[j]? = some ((List.range sz2).map fun t=>g j t):=fun j hj=>by simp [hj]
   refine ⟨some ⟨b,off,none⟩,c,(List.range m).map fun j=>(List.range sz2).map fun t=>g j t,rfl,fun j r hj => ?_,by simp,⟨by simp [hlen],fun j r v hr hv' => ?_⟩,fun r hr => ?_,fun r hr u hu => ?_⟩
   ·have hlt:j < m:=by
     have:=(List.getElem?_eq_some_iff.1 hj).1
     simpa using this
    rw [hv j hlt] at hj;cases hj;refine ⟨by simp,b,off,rfl,hF b hf,fun k hk => ?_⟩
    have:=(hc j k hlt hk).1
    rw [← Nat.add_assoc] at this;simp [this,hk]
   ·have hlt:j < m:=by
     have:=(List.getElem?_eq_some_iff.1 hr).1
     omega
    rw [hv j hlt] at hv';cases hv';refine ⟨by simp [hs2 r (vQW hr)],fun t p u hp hu => ?_⟩;have ht:t < sz2:=by
     have:=(List.getElem?_eq_some_iff.1 hp).1
     rw [hs2 r (vQW hr)] at this;exact this
    have:u=g j t:=by
     simp [ht] at hu;exact hu.symm
    subst this;exact hh j r t p hr hp
   ·obtain ⟨j,_,rfl⟩:=List.mem_map.1 hr
    simp
   ·obtain ⟨j,hj,rfl⟩:=List.mem_map.1 hr;obtain ⟨t,ht,rfl⟩:=List.mem_map.1 hu;exact (hc j t (List.mem_range.1 hj) (List.mem_range.1 ht)).2
theorem snd_clI {zs:List Value} {bytes m:Nat} {f:Nat→List PV} (hB:qUU Tryz.prog 30 2 1 bytes zs) (hs:∀ j,j < m→(f j).length=1) (h0:0 < m) (hm:m * bytes≤281474976710656) (h63:m≤maxLen):zY Tryz.prog 102 [.lf m f] (.ow 2 1 (.fo m f)):=by
 refine ⟨enI,fun w F vals hF hal => ?_⟩;obtain ⟨v,vs,rfl,h1,hal⟩:=uJ hal;obtain rfl:=qYJ hal;obtain ⟨a,c,rows,rfl,hS,hr,hA,hl,ho⟩:=qGH hF hs h0 h1;refine (clnI hB w a m c rows hS hr h0 hm h63).mono ?_
 rintro en w' ⟨b,c',rfl,hg,D,d1,d2,d3⟩
 have hb:=d2 _ (qKE d1 d3 (fun _ h=>h) _ rfl);refine ⟨_,F,rfl,hg,fun k hk=>hk,fun k hk=>.inl hk,some ⟨b,0,none⟩,c',rows,by simp [Go.Rx.Rows.len],by decide,?_,fun r hr=>by obtain ⟨j,hj,rfl⟩:=List.mem_map.1 hr; exact hs j (List.mem_range.1 hj),ho,?_,fun b' hb' => ?_⟩
 ·have hm:∀ k,F k→F k∧w'.heap[k]? = w.heap[k]?:=fun k hk=>⟨hk,hg.block k (hF k hk)⟩
  exact ⟨hA.1,fun i r v hr hv=>⟨(hA.2 i r v hr hv).1,fun j p u hp hu=>((hA.2 i r v hr hv).2 j p u hp hu).mono hm⟩⟩
 ·exact d3
 ·cases hb';exact ⟨fun hk=>by have h1:b < w.heap.size:=hF b hk; have h2:w.heap.size≤b:=hb.1; omega,hb.1,hb.2⟩
theorem snd_clP {zs:List Value} {bytes m:Nat} {f:Nat→List PV} (hB:qUU Tryz.prog 26 30 1 bytes zs) (hs:∀ j,j < m→(f j).length=1) (h0:0 < m) (hm:m * bytes≤281474976710656) (h63:m≤maxLen):zY Tryz.prog 107 [.lf m f] (.ow 30 1 (.fo m f)):=by
 refine ⟨enP,fun w F vals hF hal => ?_⟩;obtain ⟨v,vs,rfl,h1,hal⟩:=uJ hal;obtain rfl:=qYJ hal;obtain ⟨a,c,rows,rfl,hS,hr,hA,hl,ho⟩:=qGH hF hs h0 h1;refine (clnP hB w a m c rows hS hr h0 hm h63).mono ?_
 rintro en w' ⟨b,c',rfl,hg,D,d1,d2,d3⟩
 have hb:=d2 _ (qKE d1 d3 (fun _ h=>h) _ rfl);refine ⟨_,F,rfl,hg,fun k hk=>hk,fun k hk=>.inl hk,some ⟨b,0,none⟩,c',rows,by simp [Go.Rx.Rows.len],by decide,?_,fun r hr=>by obtain ⟨j,hj,rfl⟩:=List.mem_map.1 hr; exact hs j (List.mem_range.1 hj),ho,?_,fun b' hb' => ?_⟩
 ·have hm:∀ k,F k→F k∧w'.heap[k]? = w.heap[k]?:=fun k hk=>⟨hk,hg.block k (hF k hk)⟩
  exact ⟨hA.1,fun i r v hr hv=>⟨(hA.2 i r v hr hv).1,fun j p u hp hu=>((hA.2 i r v hr hv).2 j p u hp hu).mono hm⟩⟩
 ·exact d3
 ·cases hb';exact ⟨fun hk=>by have h1:b < w.heap.size:=hF b hk; have h2:w.heap.size≤b:=hb.1; omega,hb.1,hb.2⟩
theorem snd_clE {zs:List Value} {bytes m:Nat} {f:Nat→List PV} (hB:qUU Tryz.prog 27 61 12 bytes zs) (hs:∀ j,j < m→(f j).length=12) (h0:0 < m) (hm:m * bytes≤281474976710656) (h63:m≤maxLen):zY Tryz.prog 108 [.lf m f] (.ow 61 12 (.fo m f)):=by
 refine ⟨enE,fun w F vals hF hal => ?_⟩;obtain ⟨v,vs,rfl,h1,hal⟩:=uJ hal;obtain rfl:=qYJ hal;obtain ⟨a,c,rows,rfl,hS,hr,hA,hl,ho⟩:=qGH hF hs h0 h1;refine (clnE hB w a m c rows hS hr h0 hm h63).mono ?_
 rintro en w' ⟨b,c',rfl,hg,D,d1,d2,d3⟩
 have hb:=d2 _ (qKE d1 d3 (fun _ h=>h) _ rfl);refine ⟨_,F,rfl,hg,fun k hk=>hk,fun k hk=>.inl hk,some ⟨b,0,none⟩,c',rows,by simp [Go.Rx.Rows.len],by decide,?_,fun r hr=>by obtain ⟨j,hj,rfl⟩:=List.mem_map.1 hr; exact hs j (List.mem_range.1 hj),ho,?_,fun b' hb' => ?_⟩
 ·have hm:∀ k,F k→F k∧w'.heap[k]? = w.heap[k]?:=fun k hk=>⟨hk,hg.block k (hF k hk)⟩
  exact ⟨hA.1,fun i r v hr hv=>⟨(hA.2 i r v hr hv).1,fun j p u hp hu=>((hA.2 i r v hr hv).2 j p u hp hu).mono hm⟩⟩
 ·exact d3
 ·cases hb';exact ⟨fun hk=>by have h1:b < w.heap.size:=hF b hk; have h2:w.heap.size≤b:=hb.1; omega,hb.1,hb.2⟩
theorem snd_clC {zs:List Value} {bytes m:Nat} {f:Nat→List PV} (hB:qUU Tryz.prog 52 55 3 bytes zs) (hs:∀ j,j < m→(f j).length=3) (h0:0 < m) (hm:m * bytes≤281474976710656) (h63:m≤maxLen):zY Tryz.prog 109 [.lf m f] (.ow 55 3 (.fo m f)):=by
 refine ⟨enC,fun w F vals hF hal => ?_⟩;obtain ⟨v,vs,rfl,h1,hal⟩:=uJ hal;obtain rfl:=qYJ hal;obtain ⟨a,c,rows,rfl,hS,hr,hA,hl,ho⟩:=qGH hF hs h0 h1;refine (clnC hB w a m c rows hS hr h0 hm h63).mono ?_
 rintro en w' ⟨b,c',rfl,hg,D,d1,d2,d3⟩
 have hb:=d2 _ (qKE d1 d3 (fun _ h=>h) _ rfl);refine ⟨_,F,rfl,hg,fun k hk=>hk,fun k hk=>.inl hk,some ⟨b,0,none⟩,c',rows,by simp [Go.Rx.Rows.len],by decide,?_,fun r hr=>by obtain ⟨j,hj,rfl⟩:=List.mem_map.1 hr; exact hs j (List.mem_range.1 hj),ho,?_,fun b' hb' => ?_⟩
 ·have hm:∀ k,F k→F k∧w'.heap[k]? = w.heap[k]?:=fun k hk=>⟨hk,hg.block k (hF k hk)⟩
  exact ⟨hA.1,fun i r v hr hv=>⟨(hA.2 i r v hr hv).1,fun j p u hp hu=>((hA.2 i r v hr hv).2 j p u hp hu).mono hm⟩⟩
 ·exact d3
 ·cases hb';exact ⟨fun hk=>by have h1:b < w.heap.size:=hF b hk; have h2:w.heap.size≤b:=hb.1; omega,hb.1,hb.2⟩
theorem snd_clV {zs:List Value} {bytes m:Nat} {f:Nat→List PV} (hB:qUU Tryz.prog 53 78 3 bytes zs) (hs:∀ j,j < m→(f j).length=3) (h0:0 < m) (hm:m * bytes≤281474976710656) (h63:m≤maxLen):zY Tryz.prog 110 [.lf m f] (.ow 78 3 (.fo m f)):=by
 refine ⟨enV,fun w F vals hF hal => ?_⟩;obtain ⟨v,vs,rfl,h1,hal⟩:=uJ hal;obtain rfl:=qYJ hal;obtain ⟨a,c,rows,rfl,hS,hr,hA,hl,ho⟩:=qGH hF hs h0 h1;refine (clnV hB w a m c rows hS hr h0 hm h63).mono ?_
 rintro en w' ⟨b,c',rfl,hg,D,d1,d2,d3⟩
 have hb:=d2 _ (qKE d1 d3 (fun _ h=>h) _ rfl);refine ⟨_,F,rfl,hg,fun k hk=>hk,fun k hk=>.inl hk,some ⟨b,0,none⟩,c',rows,by simp [Go.Rx.Rows.len],by decide,?_,fun r hr=>by obtain ⟨j,hj,rfl⟩:=List.mem_map.1 hr; exact hs j (List.mem_range.1 hj),ho,?_,fun b' hb' => ?_⟩
 ·have hm:∀ k,F k→F k∧w'.heap[k]? = w.heap[k]?:=fun k hk=>⟨hk,hg.block k (hF k hk)⟩
  exact ⟨hA.1,fun i r v hr hv=>⟨(hA.2 i r v hr hv).1,fun j p u hp hu=>((hA.2 i r v hr hv).2 j p u hp hu).mono hm⟩⟩
 ·exact d3
 ·cases hb';exact ⟨fun hk=>by have h1:b < w.heap.size:=hF b hk; have h2:w.heap.size≤b:=hb.1; omega,hb.1,hb.2⟩
set_option maxRecDepth 100000 in
theorem cl0I (w:World) (a:Option Addr) (c:Nat):Calls Tryz.prog 102 #[.slice a 0 c] w (fun e w'=>∃ (ad:Option Addr),e=.returned (.slice ad 0 0)∧Grow w w'∧Go.Sx.Told w.heap.size (OwnF 0 2 1 ad 0 0 []) w'):=by
 refine kY (args:=[.slice a 0 c]) (n:=8) Tryz.func102 rfl rfl rfl ?_;refine zJ ?_;refine qK ?_;refine zH (zK rfl) rfl rfl rfl ?_;refine zX ?_;refine qJ ?_;refine zJ ?_;refine zJ ?_;refine qK ?_;refine zH (yX rfl) rfl rfl rfl ?_;refine zH (qQB unI rfl) rfl rfl rfl ?_;refine zX ?_;refine qJ ?_;refine qKQ rfl (fun _ => ?_) (fun _ => ?_)
 ·refine zJ ?_;refine qK ?_;refine zH (zK rfl) rfl rfl rfl ?_;refine zX ?_;refine qJ ?_;refine qZD ?_;refine qYC ?_;refine uH (rs:=[.tmp 2]) rfl (resC (kV rfl) (resN)) rfl ?_;intro w2 k2;exact ⟨none,rfl,k2.grow,fun _=>False,fun _ _ _ h=>⟨h.1,.inl ⟨rfl,rfl⟩⟩,fun _ h=>h.elim,World.ownsRow_nil _ _ _ _⟩
 ·refine qQF ?_;refine qJ ?_;refine zJ ?_;refine qK ?_;refine uV 60 unI inI rfl rfl ?_; intro b5;refine zH (yX rfl) rfl rfl rfl ?_;refine zH (qKF unI inI rfl rfl) rfl rfl rfl ?_;refine zH (zK rfl) rfl rfl rfl ?_;refine zX ?_;refine qJ ?_;refine qWG 60 0 1 rfl rfl rfl rfl ?_;refine qZD ?_;refine uH (rs:=[.tmp 2]) rfl (resC (kV rfl) (resN)) rfl ?_;intro w2 k2;exact ⟨some ⟨b5,0,none⟩,rfl,k2.grow,qZZ k2 (id:=60) rfl⟩
theorem snd_c0I {f:Nat→List PV}:zY Tryz.prog 102 [.lf 0 f] (.ow 2 1 (.fo 0 f)):=by
 refine ⟨enI,fun w F vals hF hal => ?_⟩;obtain ⟨v,vs,rfl,h1,hal⟩:=uJ hal;obtain rfl:=qYJ hal;obtain ⟨a,c,rfl⟩:∃ (a:Option Addr) (c:Nat),v=.slice a 0 c:=by
  cases h1 with
  | lf _ _ _ h =>
   generalize hL:(List.range 0).map f=L at h;have hlen:L.length=0:=by rw [← hL]; simp
   cases h with
   | l0 ad c=>exact ⟨ad,c,rfl⟩
   | l _ b off m2 c sz2 g hn => 
    have:m2=0:=by omega
    subst this;exact ⟨_,c,rfl⟩
 refine (cl0I w a c).mono ?_
 rintro en w' ⟨ad,rfl,hg,D,d1,d2,d3⟩
 refine ⟨_,F,rfl,hg,fun k hk=>hk,fun k hk=>.inl hk,ad,0,[],by simp [Go.Rx.Rows.len],by decide,⟨by simp [Go.Rx.Rows.L],fun i r v hr hv=>by simp at hv⟩,fun r hr=>by simp [Go.Rx.Rows.L] at hr,fun r hr=>by simp at hr,d3,fun b' hb' => ?_⟩;obtain ⟨x,hx,rfl⟩:=Option.map_eq_some_iff.1 hb';have hb:=d2 _ (qKE d1 d3 (fun _ h=>h) _ hx);exact ⟨fun hk=>by have h1:=hF _ hk; have h2:=hb.1; omega,hb.1,hb.2⟩
theorem snd_clnI {zs:List Value} {bytes m:Nat} {f:Nat→List PV} (hB:qUU Tryz.prog 30 2 1 bytes zs) (hs:∀ j,j < m→(f j).length=1) (hm:m * bytes≤281474976710656) (h63:m≤maxLen):zY Tryz.prog 102 [.lf m f] (.ow 2 1 (.fo m f)):=by
 rcases Nat.eq_zero_or_pos m with rfl | h0
 ·exact snd_c0I
 ·exact snd_clI hB hs h0 hm h63
set_option maxRecDepth 100000 in
theorem cl0P (w:World) (a:Option Addr) (c:Nat):Calls Tryz.prog 107 #[.slice a 0 c] w (fun e w'=>∃ (ad:Option Addr),e=.returned (.slice ad 0 0)∧Grow w w'∧Go.Sx.Told w.heap.size (OwnF 0 30 1 ad 0 0 []) w'):=by
 refine kY (args:=[.slice a 0 c]) (n:=8) Tryz.func107 rfl rfl rfl ?_;refine zJ ?_;refine qK ?_;refine zH (zK rfl) rfl rfl rfl ?_;refine zX ?_;refine qJ ?_;refine zJ ?_;refine zJ ?_;refine qK ?_;refine zH (yX rfl) rfl rfl rfl ?_;refine zH (qQB unP rfl) rfl rfl rfl ?_;refine zX ?_;refine qJ ?_;refine qKQ rfl (fun _ => ?_) (fun _ => ?_)
 ·refine zJ ?_;refine qK ?_;refine zH (zK rfl) rfl rfl rfl ?_;refine zX ?_;refine qJ ?_;refine qZD ?_;refine qYC ?_;refine uH (rs:=[.tmp 2]) rfl (resC (kV rfl) (resN)) rfl ?_;intro w2 k2;exact ⟨none,rfl,k2.grow,fun _=>False,fun _ _ _ h=>⟨h.1,.inl ⟨rfl,rfl⟩⟩,fun _ h=>h.elim,World.ownsRow_nil _ _ _ _⟩
 ·refine qQF ?_;refine qJ ?_;refine zJ ?_;refine qK ?_;refine uV 60 unP inP rfl rfl ?_; intro b5;refine zH (yX rfl) rfl rfl rfl ?_;refine zH (qKF unP inP rfl rfl) rfl rfl rfl ?_;refine zH (zK rfl) rfl rfl rfl ?_;refine zX ?_;refine qJ ?_;refine qWG 60 0 1 rfl rfl rfl rfl ?_;refine qZD ?_;refine uH (rs:=[.tmp 2]) rfl (resC (kV rfl) (resN)) rfl ?_;intro w2 k2;exact ⟨some ⟨b5,0,none⟩,rfl,k2.grow,qZZ k2 (id:=60) rfl⟩
theorem snd_c0P {f:Nat→List PV}:zY Tryz.prog 107 [.lf 0 f] (.ow 30 1 (.fo 0 f)):=by
 refine ⟨enP,fun w F vals hF hal => ?_⟩;obtain ⟨v,vs,rfl,h1,hal⟩:=uJ hal;obtain rfl:=qYJ hal;obtain ⟨a,c,rfl⟩:∃ (a:Option Addr) (c:Nat),v=.slice a 0 c:=by
  cases h1 with
  | lf _ _ _ h =>
   generalize hL:(List.range 0).map f=L at h;have hlen:L.length=0:=by rw [← hL]; simp
   cases h with
   | l0 ad c=>exact ⟨ad,c,rfl⟩
   | l _ b off m2 c sz2 g hn => 
    have:m2=0:=by omega
    subst this;exact ⟨_,c,rfl⟩
 refine (cl0P w a c).mono ?_
 rintro en w' ⟨ad,rfl,hg,D,d1,d2,d3⟩
 refine ⟨_,F,rfl,hg,fun k hk=>hk,fun k hk=>.inl hk,ad,0,[],by simp [Go.Rx.Rows.len],by decide,⟨by simp [Go.Rx.Rows.L],fun i r v hr hv=>by simp at hv⟩,fun r hr=>by simp [Go.Rx.Rows.L] at hr,fun r hr=>by simp at hr,d3,fun b' hb' => ?_⟩;obtain ⟨x,hx,rfl⟩:=Option.map_eq_some_iff.1 hb';have hb:=d2 _ (qKE d1 d3 (fun _ h=>h) _ hx);exact ⟨fun hk=>by have h1:=hF _ hk; have h2:=hb.1; omega,hb.1,hb.2⟩
theorem snd_clnP {zs:List Value} {bytes m:Nat} {f:Nat→List PV} (hB:qUU Tryz.prog 26 30 1 bytes zs) (hs:∀ j,j < m→(f j).length=1) (hm:m * bytes≤281474976710656) (h63:m≤maxLen):zY Tryz.prog 107 [.lf m f] (.ow 30 1 (.fo m f)):=by
 rcases Nat.eq_zero_or_pos m with rfl | h0
 ·exact snd_c0P
 ·exact snd_clP hB hs h0 hm h63
set_option maxRecDepth 100000 in
theorem cl0E (w:World) (a:Option Addr) (c:Nat):Calls Tryz.prog 108 #[.slice a 0 c] w (fun e w'=>∃ (ad:Option Addr),e=.returned (.slice ad 0 0)∧Grow w w'∧Go.Sx.Told w.heap.size (OwnF 0 61 12 ad 0 0 []) w'):=by
 refine kY (args:=[.slice a 0 c]) (n:=8) Tryz.func108 rfl rfl rfl ?_;refine zJ ?_;refine qK ?_;refine zH (zK rfl) rfl rfl rfl ?_;refine zX ?_;refine qJ ?_;refine zJ ?_;refine zJ ?_;refine qK ?_;refine zH (yX rfl) rfl rfl rfl ?_;refine zH (qQB unE rfl) rfl rfl rfl ?_;refine zX ?_;refine qJ ?_;refine qKQ rfl (fun _ => ?_) (fun _ => ?_)
 ·refine zJ ?_;refine qK ?_;refine zH (zK rfl) rfl rfl rfl ?_;refine zX ?_;refine qJ ?_;refine qZD ?_;refine qYC ?_;refine uH (rs:=[.tmp 2]) rfl (resC (kV rfl) (resN)) rfl ?_;intro w2 k2;exact ⟨none,rfl,k2.grow,fun _=>False,fun _ _ _ h=>⟨h.1,.inl ⟨rfl,rfl⟩⟩,fun _ h=>h.elim,World.ownsRow_nil _ _ _ _⟩
 ·refine qQF ?_;refine qJ ?_;refine zJ ?_;refine qK ?_;refine uV 60 unE inE rfl rfl ?_; intro b5;refine zH (yX rfl) rfl rfl rfl ?_;refine zH (qKF unE inE rfl rfl) rfl rfl rfl ?_;refine zH (zK rfl) rfl rfl rfl ?_;refine zX ?_;refine qJ ?_;refine qWG 60 0 12 rfl rfl rfl rfl ?_;refine qZD ?_;refine uH (rs:=[.tmp 2]) rfl (resC (kV rfl) (resN)) rfl ?_;intro w2 k2;exact ⟨some ⟨b5,0,none⟩,rfl,k2.grow,qZZ k2 (id:=60) rfl⟩
theorem snd_c0E {f:Nat→List PV}:zY Tryz.prog 108 [.lf 0 f] (.ow 61 12 (.fo 0 f)):=by
 refine ⟨enE,fun w F vals hF hal => ?_⟩;obtain ⟨v,vs,rfl,h1,hal⟩:=uJ hal;obtain rfl:=qYJ hal;obtain ⟨a,c,rfl⟩:∃ (a:Option Addr) (c:Nat),v=.slice a 0 c:=by
  cases h1 with
  | lf _ _ _ h =>
   generalize hL:(List.range 0).map f=L at h;have hlen:L.length=0:=by rw [← hL]; simp
   cases h with
   | l0 ad c=>exact ⟨ad,c,rfl⟩
   | l _ b off m2 c sz2 g hn => 
    have:m2=0:=by omega
    subst this;exact ⟨_,c,rfl⟩
 refine (cl0E w a c).mono ?_
 rintro en w' ⟨ad,rfl,hg,D,d1,d2,d3⟩
 refine ⟨_,F,rfl,hg,fun k hk=>hk,fun k hk=>.inl hk,ad,0,[],by simp [Go.Rx.Rows.len],by decide,⟨by simp [Go.Rx.Rows.L],fun i r v hr hv=>by simp at hv⟩,fun r hr=>by simp [Go.Rx.Rows.L] at hr,fun r hr=>by simp at hr,d3,fun b' hb' => ?_⟩;obtain ⟨x,hx,rfl⟩:=Option.map_eq_some_iff.1 hb';have hb:=d2 _ (qKE d1 d3 (fun _ h=>h) _ hx);exact ⟨fun hk=>by have h1:=hF _ hk; have h2:=hb.1; omega,hb.1,hb.2⟩
theorem snd_clnE {zs:List Value} {bytes m:Nat} {f:Nat→List PV} (hB:qUU Tryz.prog 27 61 12 bytes zs) (hs:∀ j,j < m→(f j).length=12) (hm:m * bytes≤281474976710656) (h63:m≤maxLen):zY Tryz.prog 108 [.lf m f] (.ow 61 12 (.fo m f)):=by
 rcases Nat.eq_zero_or_pos m with rfl | h0
 ·exact snd_c0E
 ·exact snd_clE hB hs h0 hm h63
set_option maxRecDepth 100000 in
theorem cl0C (w:World) (a:Option Addr) (c:Nat):Calls Tryz.prog 109 #[.slice a 0 c] w (fun e w'=>∃ (ad:Option Addr),e=.returned (.slice ad 0 0)∧Grow w w'∧Go.Sx.Told w.heap.size (OwnF 0 55 3 ad 0 0 []) w'):=by
 refine kY (args:=[.slice a 0 c]) (n:=8) Tryz.func109 rfl rfl rfl ?_;refine zJ ?_;refine qK ?_;refine zH (zK rfl) rfl rfl rfl ?_;refine zX ?_;refine qJ ?_;refine zJ ?_;refine zJ ?_;refine qK ?_;refine zH (yX rfl) rfl rfl rfl ?_;refine zH (qQB unC rfl) rfl rfl rfl ?_;refine zX ?_;refine qJ ?_;refine qKQ rfl (fun _ => ?_) (fun _ => ?_)
 ·refine zJ ?_;refine qK ?_;refine zH (zK rfl) rfl rfl rfl ?_;refine zX ?_;refine qJ ?_;refine qZD ?_;refine qYC ?_;refine uH (rs:=[.tmp 2]) rfl (resC (kV rfl) (resN)) rfl ?_;intro w2 k2;exact ⟨none,rfl,k2.grow,fun _=>False,fun _ _ _ h=>⟨h.1,.inl ⟨rfl,rfl⟩⟩,fun _ h=>h.elim,World.ownsRow_nil _ _ _ _⟩
 ·refine qQF ?_;refine qJ ?_;refine zJ ?_;refine qK ?_;refine uV 60 unC inC rfl rfl ?_; intro b5;refine zH (yX rfl) rfl rfl rfl ?_;refine zH (qKF unC inC rfl rfl) rfl rfl rfl ?_;refine zH (zK rfl) rfl rfl rfl ?_;refine zX ?_;refine qJ ?_;refine qWG 60 0 3 rfl rfl rfl rfl ?_;refine qZD ?_;refine uH (rs:=[.tmp 2]) rfl (resC (kV rfl) (resN)) rfl ?_;intro w2 k2;exact ⟨some ⟨b5,0,none⟩,rfl,k2.grow,qZZ k2 (id:=60) rfl⟩
theorem snd_c0C {f:Nat→List PV}:zY Tryz.prog 109 [.lf 0 f] (.ow 55 3 (.fo 0 f)):=by
 refine ⟨enC,fun w F vals hF hal => ?_⟩;obtain ⟨v,vs,rfl,h1,hal⟩:=uJ hal;obtain rfl:=qYJ hal;obtain ⟨a,c,rfl⟩:∃ (a:Option Addr) (c:Nat),v=.slice a 0 c:=by
  cases h1 with
  | lf _ _ _ h =>
   generalize hL:(List.range 0).map f=L at h;have hlen:L.length=0:=by rw [← hL]; simp
   cases h with
   | l0 ad c=>exact ⟨ad,c,rfl⟩
   | l _ b off m2 c sz2 g hn => 
    have:m2=0:=by omega
    subst this;exact ⟨_,c,rfl⟩
 refine (cl0C w a c).mono ?_
 rintro en w' ⟨ad,rfl,hg,D,d1,d2,d3⟩
 refine ⟨_,F,rfl,hg,fun k hk=>hk,fun k hk=>.inl hk,ad,0,[],by simp [Go.Rx.Rows.len],by decide,⟨by simp [Go.Rx.Rows.L],fun i r v hr hv=>by simp at hv⟩,fun r hr=>by simp [Go.Rx.Rows.L] at hr,fun r hr=>by simp at hr,d3,fun b' hb' => ?_⟩;obtain ⟨x,hx,rfl⟩:=Option.map_eq_some_iff.1 hb';have hb:=d2 _ (qKE d1 d3 (fun _ h=>h) _ hx);exact ⟨fun hk=>by have h1:=hF _ hk; have h2:=hb.1; omega,hb.1,hb.2⟩
theorem snd_clnC {zs:List Value} {bytes m:Nat} {f:Nat→List PV} (hB:qUU Tryz.prog 52 55 3 bytes zs) (hs:∀ j,j < m→(f j).length=3) (hm:m * bytes≤281474976710656) (h63:m≤maxLen):zY Tryz.prog 109 [.lf m f] (.ow 55 3 (.fo m f)):=by
 rcases Nat.eq_zero_or_pos m with rfl | h0
 ·exact snd_c0C
 ·exact snd_clC hB hs h0 hm h63
set_option maxRecDepth 100000 in
theorem cl0V (w:World) (a:Option Addr) (c:Nat):Calls Tryz.prog 110 #[.slice a 0 c] w (fun e w'=>∃ (ad:Option Addr),e=.returned (.slice ad 0 0)∧Grow w w'∧Go.Sx.Told w.heap.size (OwnF 0 78 3 ad 0 0 []) w'):=by
 refine kY (args:=[.slice a 0 c]) (n:=8) Tryz.func110 rfl rfl rfl ?_;refine zJ ?_;refine qK ?_;refine zH (zK rfl) rfl rfl rfl ?_;refine zX ?_;refine qJ ?_;refine zJ ?_;refine zJ ?_;refine qK ?_;refine zH (yX rfl) rfl rfl rfl ?_;refine zH (qQB unV rfl) rfl rfl rfl ?_;refine zX ?_;refine qJ ?_;refine qKQ rfl (fun _ => ?_) (fun _ => ?_)
 ·refine zJ ?_;refine qK ?_;refine zH (zK rfl) rfl rfl rfl ?_;refine zX ?_;refine qJ ?_;refine qZD ?_;refine qYC ?_;refine uH (rs:=[.tmp 2]) rfl (resC (kV rfl) (resN)) rfl ?_;intro w2 k2;exact ⟨none,rfl,k2.grow,fun _=>False,fun _ _ _ h=>⟨h.1,.inl ⟨rfl,rfl⟩⟩,fun _ h=>h.elim,World.ownsRow_nil _ _ _ _⟩
 ·refine qQF ?_;refine qJ ?_;refine zJ ?_;refine qK ?_;refine uV 60 unV inV rfl rfl ?_; intro b5;refine zH (yX rfl) rfl rfl rfl ?_;refine zH (qKF unV inV rfl rfl) rfl rfl rfl ?_;refine zH (zK rfl) rfl rfl rfl ?_;refine zX ?_;refine qJ ?_;refine qWG 60 0 3 rfl rfl rfl rfl ?_;refine qZD ?_;refine uH (rs:=[.tmp 2]) rfl (resC (kV rfl) (resN)) rfl ?_;intro w2 k2;exact ⟨some ⟨b5,0,none⟩,rfl,k2.grow,qZZ k2 (id:=60) rfl⟩
theorem snd_c0V {f:Nat→List PV}:zY Tryz.prog 110 [.lf 0 f] (.ow 78 3 (.fo 0 f)):=by
 refine ⟨enV,fun w F vals hF hal => ?_⟩;obtain ⟨v,vs,rfl,h1,hal⟩:=uJ hal;obtain rfl:=qYJ hal;obtain ⟨a,c,rfl⟩:∃ (a:Option Addr) (c:Nat),v=.slice a 0 c:=by
  cases h1 with
  | lf _ _ _ h =>
   generalize hL:(List.range 0).map f=L at h;have hlen:L.length=0:=by rw [← hL]; simp
   cases h with
   | l0 ad c=>exact ⟨ad,c,rfl⟩
   | l _ b off m2 c sz2 g hn => 
    have:m2=0:=by omega
    subst this;exact ⟨_,c,rfl⟩
 refine (cl0V w a c).mono ?_
 rintro en w' ⟨ad,rfl,hg,D,d1,d2,d3⟩
 refine ⟨_,F,rfl,hg,fun k hk=>hk,fun k hk=>.inl hk,ad,0,[],by simp [Go.Rx.Rows.len],by decide,⟨by simp [Go.Rx.Rows.L],fun i r v hr hv=>by simp at hv⟩,fun r hr=>by simp [Go.Rx.Rows.L] at hr,fun r hr=>by simp at hr,d3,fun b' hb' => ?_⟩;obtain ⟨x,hx,rfl⟩:=Option.map_eq_some_iff.1 hb';have hb:=d2 _ (qKE d1 d3 (fun _ h=>h) _ hx);exact ⟨fun hk=>by have h1:=hF _ hk; have h2:=hb.1; omega,hb.1,hb.2⟩
theorem snd_clnV {zs:List Value} {bytes m:Nat} {f:Nat→List PV} (hB:qUU Tryz.prog 53 78 3 bytes zs) (hs:∀ j,j < m→(f j).length=3) (hm:m * bytes≤281474976710656) (h63:m≤maxLen):zY Tryz.prog 110 [.lf m f] (.ow 78 3 (.fo m f)):=by
 rcases Nat.eq_zero_or_pos m with rfl | h0
 ·exact snd_c0V
 ·exact snd_clV hB hs h0 hm h63
end Go.Proofs.YtklmegnpfhiibaaGreat.Xj

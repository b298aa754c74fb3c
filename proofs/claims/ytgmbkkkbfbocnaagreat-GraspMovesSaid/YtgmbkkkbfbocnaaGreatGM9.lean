/- Part 9 of the texts behind the last one: rules and contracts. No condition. -/
import Derived.Test.YtgmbkkkbfbocnaaGreatGM8
open Option renaming bind_eq_some_iff → vQQ, bind_some → vYQ
open Option.some renaming injEq → vQZ
open Bool renaming and_eq_true → vQJ, and_self → vZJ
open List renaming getElem?_eq_getElem → vQK, length_cons → vQW, mem_of_getElem? → vQG, mem_cons_of_mem → vQH, mem_cons_self → vZQ, all_eq_true → vZZ, getElem?_map → vZY, getD_eq_getElem?_getD → vZG, drop_zero → vYW
open Nat renaming eq_of_beq_eq_true → vQX
open Classical renaming propDecidable → vYJ
namespace Go.Rx
open Go.RowKit Go.Sx
section
abbrev α:=Ret × Mem
abbrev qUZ:=Nat→List PV→(Ret→Option α)→Option α
def jZZ (e:Eff) (K:Eff→Option α):Option α:=match e with
 | ⟨[],[],.v (.b c),[]⟩=>bif c then K (.val (.v (.b true))) else K (.val (.v (.b false)))
 | e=>K e
theorem yYK (e:Eff) (K:Eff→Option α):jZZ e K=K e:=by
 unfold jZZ;split
 ·rename_i c; cases c <;> rfl
 ·rfl
def callEffK (C:Cx) (cK:qUZ) (dst f:Nat) (args:List RV) (K:Eff→Option α):Option α :=
 (mapO RV.fz args).bind fun ps=>cK f ps fun r =>
  (bif args.all RV.still then jZK C.T C.me dst (catR RV.regs args) r
  else match r with
   | .v x=>bif x.flat then some (.val (.v x)) else none
   | .ow _ _ (.l rows)=>bif rows.all (fun r=>r.all PV.flat1) then some (.val (.v (.l rows))) else none
   | _=>none).bind fun e=>jZZ e K
def zWJ (s:ByteArray) (i:Nat):Int:=(((s[i]?).getD 0).toNat:Int)
def jHQ (C:Cx) (cK:qUZ) (dst:Nat) (op:Op) (vs:List RV) (K:Eff→Option α):Option α :=
 match op,vs with
 | .binOp .quo _ _ _ _,[.v (.n k x),.v (.n k' y)]=>bif decide (k=k') then (bif decide (y=0) then none else K (.val (.v (.n k (k.wrap (x.tdiv y)))))) else none
 | .binOp .rem _ _ _ _,[.v (.n k x),.v (.n k' y)]=>bif decide (k=k') then (bif decide (y=0) then none else K (.val (.v (.n k (x.tmod y))))) else none
 | .call ⟨.builtin .append,axs,ats⟩,[.o id e' sz rows,y]=>(match ats.toList with
   | [t,t']=>bif Nat.beq t t' then (C.T.sl t).bind fun e=>(jWU y).bind fun news=>bif news.ok e.2 then (bif Nat.beq e' e.1 && Nat.beq sz e.2 && !(y.ids.any (Nat.beq id)) then
     (bif decide (rows.len + news.len≤C.T.bd e.1) then K (.app id (.reg e' sz (rows.app news)) (.o id)) else none) else none) else none else none
   | _=>none)
 | .call ⟨.builtin .append,axs,ats⟩,[.nl,y]=>(match ats.toList with
   | [t,t']=>bif Nat.beq t t' then (C.T.sl t).bind fun e=>(jWU y).bind fun news=>bif news.ok e.2 then
     (bif decide (news.len≤C.T.bd e.1) then K (.new dst (.reg e.1 e.2 news) (.o dst)) else none) else none else none
   | _=>none)
 | .binOp .shl _ _ _ _,[.v (.n k x),.v (.n _ y)]=>bif decide (0≤y) then K (.val (.v (.n k (k.wrap (x * 2 ^ (min y.toNat k.bits)))))) else none
 | .binOp .shr _ _ _ _,[.v (.n k x),.v (.n _ y)]=>bif decide (0≤y) then K (.val (.v (.n k (x.fdiv (2 ^ (min y.toNat k.bits)))))) else none
 | .indexAddr t _ _,[.o id _ sz rows,.v (.n _ i)]=>(C.T.sl t).bind fun e=>bif inB i rows.len then (bif Nat.beq sz e.2 then K (.val (.q id i.toNat 0)) else none) else none
 | .makeSlice t _ _,[.v (.n _ n),.v (.n _ c)]=>(C.T.sl t).bind fun e=>(C.T.zr e.1).bind fun zs=>bif C.T.zf C.me then none else
   bif decide (0≤n) then bif decide (n≤c) then bif decide (c≤1000000) then K (.new dst (.reg e.1 e.2 (bif C.T.ff C.me then .fo n.toNat (fun _=>zs) else .l (zZY zs n.toNat))) (.o dst)) else none else none else none
 | .slice t _ lo hi none,.v (.lf n f) :: vs=>(yXW lo hi vs).bind fun b=>(C.T.sl t).bind fun e=>bif inS b.1 b.2 n then (bif Nat.beq (f (loOf b.1)).length e.2 then K (.val (.v (.lf (hiOf b.2 n - loOf b.1) fun v=>f (v + loOf b.1)))) else none) else none
 | .slice t _ lo hi none,.o id e' sz rows :: vs=>(yXW lo hi vs).bind fun b=>(match b with
   | (none,some j)=>(C.T.sl t).bind fun e=>bif Nat.beq sz e.2 then (bif decide (0≤j) then (bif decide (j.toNat≤rows.len) then K (.app id (.reg e' sz (rows.take j.toNat)) (.o id)) else none) else none) else none
   | _=>none)
 | .index t _ _,[.v (.s s),.v (.n _ i)]=>bif C.T.str t then (bif inB i s.size then K (.val (.v (.n .u8 (zWJ s i.toNat)))) else none) else none
 | .next _ true,[.i id 0 s pos]=>bif decide (pos < s.size) then K (.set id (.itr s (pos + (Utf8.decode s pos).2)) (.v (.t [.b true,.n .i64 (pos:Int),.n .i32 ((Utf8.decode s pos).1:Int)]))) else K (.val (.v (.t [.b false])))
 | .indexAddr t _ _,[.v (.lf n f),.v (.n _ i)]=>(C.T.sl t).bind fun e=>bif inB i n then (bif Nat.beq (f i.toNat).length e.2 then K (.val (.v (.zf n f i.toNat 0))) else none) else none
 | .call ⟨.value fx,axs,ats⟩,.v (.f f first cap) :: vs=>bif C.T.rw f then (yQ C.T C.cA C.cB C.me dst (.call ⟨.value fx,axs,ats⟩) (.v (.f f first cap) :: vs)).bind fun e=>jZZ e K
   else callEffK C cK dst f (first.map .v ++ vs ++ cap.map .v) K
 | op,vs=>(yQ C.T C.cA C.cB C.me dst op vs).bind fun e=>jZZ e K
def goK (C:Cx) (cK:qUZ) (o:Oper) (σ:St) (K:Eff × List RV→Option α):Option α :=
 bif dstB C.n o.dst then
  (mapO (opv (mode o.op) σ) o.op.operands.toList).bind fun vs=>jHQ C cK (o.dst.getD 0) o.op vs fun e =>
   bif e.nw.all (fun id=>(yY σ.M id).isNone) then K (e,vs) else none
 else none
def jZY (C:Cx) (o:Oper) (K:Eff × List RV→Option α):Option α:=bif dstB C.n o.dst then K (.val (.v (.t [])),[]) else none
def kJX (C:Cx) (cK:qUZ) (ops:Array Oper) (o:Oper) (σ:St) (K:Eff × List RV→Option α):Option α :=
 match o.guard with
 | none=>goK C cK o σ K
 | some (j,b)=>match (ops[j]?).bind (·.dst) with
  | some d=>match qQG σ.S d with
   | some (.v (.b c))=>(match b with
    | true=>bif c then goK C cK o σ K else jZY C o K
    | false=>bif c then jZY C o K else goK C cK o σ K)
   | some (.v (.t []))=>jZY C o K
   | _=>none
  | none=>none
end
def yYG (C:Cx) (cK:qUZ) (ops:Array Oper):List Oper→(St→Option (Ret × Mem))→St→Option (Ret × Mem)
 | [],K,σ=>K σ
 | o :: l,K,σ=>kJX C cK ops o σ fun r=>yYG C cK ops l K (σ.apply r.1 o.dst)
def zYV (C:Cx) (cK:qUZ) (ops:Array Oper):Nat→List Oper→List Done→(St→Option (Ret × Mem))→St→Option (Ret × Mem)
 | _,[],acc,K,σ=>bif zHW ops acc.reverse && Sx.backB ops then K σ else none
 | i,o :: l,acc,K,σ=>kJX C cK ops o σ fun r=>zYV C cK ops (i + 1) l ((i,r) :: acc) K (σ.apply r.1 o.dst)
def qVQ (N:Nat) (C:Cx) (cK:qUZ):Code→(Ex→St→Option (Ret × Mem))→St→Option (Ret × Mem)
 | .skip,K,σ=>K .normal σ
 | .label _,K,σ=>K .normal σ
 | .scope x,K,σ=>qVQ N C cK x K σ
 | .ret,K,σ=>K .ret σ
 | .exit id,K,σ=>K (.exit id) σ
 | .region _ ops d,K,σ=>bif d then zYV C cK ops 0 ops.toList [] (K .normal) σ else yYG C cK ops ops.toList (K .normal) σ
 | .seq x y,K,σ=>qVQ N C cK x (fun e σ=>match e with
   | .normal=>qVQ N C cK y K σ
   | e=>K e σ) σ
 | .cond c x y,K,σ=>(opv 1 σ c).bind fun v=>match v with
   | .v (.b t)=>bif t then qVQ N C cK x K σ else qVQ N C cK y K σ
   | _=>none
 | .block id x,K,σ=>qVQ N C cK x (fun e σ=>match e with
   | .exit id'=>bif Nat.beq id' id then K .normal σ else K (.exit id') σ
   | e=>K e σ) σ
 | .loop x,K,σ=>zJV (fun again σ=>qVQ N C cK x (fun e σ=>match e with
   | .normal=>again σ
   | e=>K e (qKZ (C.T.hint C.me (qJ x)) σ)) (qUX (C.T.hint C.me (qJ x)) σ)) N σ
 | _,_,_=>none
abbrev OrK:=Nat→Option (List PV→Option (Bool × Ret))
def OrK.orc (o:OrK):Orc:=⟨fun g=>(o g).bind fun f=>some fun ps=>(f ps).bind fun x=>bif x.1 then some x.2 else none,fun _=>none⟩
def yQQ (ok:OrK) (rK:qUZ):qUZ:=fun g ps K=>match ok g with
 | some o=>(o ps).bind fun x=>bif x.1 then K x.2 else none
 | none=>rK g ps K
def jGK (T:Tab) (ok:OrK):Nat→qUZ
 | 0,_,_,_=>none
 | N + 1,f,ps,K=>match T.fn f with
  | none=>none
  | some fi=>bif Nat.ble (ps.map HV.v).length fi.ntmps then qVQ N ⟨T,qGZ ok.orc (runF T ok.orc N),zZU ok.orc (runF T ok.orc N),f,fi.ntmps⟩ (yQQ ok (jGK T ok N)) fi.body (fun e σ=>(endK T [] fi.results e σ).bind fun r=>K r.1) ⟨initS 0 (ps.map .v),[]⟩ else none
def runK (T:Tab) (ok:OrK) (N f:Nat) (ps:List PV):Option (Ret × Mem):=jGK T ok N f ps fun r=>some (r,[])
section
variable {C:Cx} {cK:qUZ} {ops:Array Oper} {r:α}
def SndK (C:Cx) (cK:qUZ):Prop:=∀ f ps K r,cK f ps K=some r→∃ x,C.cA f ps=some x∧K x=some r
theorem zJK {dst:Nat} {op:Op} {vs:List RV} {K:Eff→Option α} (hc:SndK C cK) (h:jHQ C cK dst op vs K=some r):∃ e,yQ C.T C.cA C.cB C.me dst op vs=some e∧K e=some r:=by
 unfold jHQ at h;split at h
 ·rename_i k x k' y;obtain ⟨h1,h⟩:=qY h;cases hy:decide (y=0) with
  | true=>rw [hy] at h; cases h
  | false =>
   rw [hy] at h;refine ⟨_,?_,h⟩;simp [yQ,binP,binI,h1,hy]
 ·rename_i k x k' y;obtain ⟨h1,h⟩:=qY h;cases hy:decide (y=0) with
  | true=>rw [hy] at h; cases h
  | false =>
   rw [hy] at h;refine ⟨_,?_,h⟩;simp [yQ,binP,binI,h1,hy]
 ·rename_i axs ats id e' sz rows y;split at h
  ·rename_i t t' hts;obtain ⟨h1,h⟩:=qY h;simp only [vQQ] at h;obtain ⟨el,hel,news,hnews,h⟩:=h;obtain ⟨h2,h⟩:=qY h;obtain ⟨h3,h⟩:=qY h;obtain ⟨h4,h⟩:=qY h;refine ⟨_,?_,h⟩;rw [vQJ,vQJ] at h3;simp only [yQ,hts,h1,vYV,hel,hnews,vYQ,h2,h3.1.1,h3.1.2,h3.2,h4,vZJ]
  ·cases h
 ·rename_i axs ats y;split at h
  ·rename_i t t' hts;obtain ⟨h1,h⟩:=qY h;simp only [vQQ] at h;obtain ⟨el,hel,news,hnews,h⟩:=h;obtain ⟨h2,h⟩:=qY h;obtain ⟨h4,h⟩:=qY h;refine ⟨_,?_,h⟩;simp only [yQ,hts,h1,vYV,hel,hnews,vYQ,h2,h4]
  ·cases h
 ·rename_i k x _ y;obtain ⟨h1,h⟩:=qY h;refine ⟨_,?_,h⟩;simp [yQ,binP,h1]
 ·rename_i k x _ y;obtain ⟨h1,h⟩:=qY h;refine ⟨_,?_,h⟩;simp [yQ,binP,h1]
 ·rename_i t _ _ id _ sz rows _ i;simp only [vQQ] at h;obtain ⟨el,hel,h⟩:=h;obtain ⟨h1,h⟩:=qY h;obtain ⟨h2,h⟩:=qY h;exact ⟨_,by simp only [yQ,hel,vYQ,h1,h2,vZJ,vYV],h⟩
 ·rename_i t _ _ _ n _ c;simp only [vQQ] at h;obtain ⟨el,hel,zs,hzs,h⟩:=h;cases hzf:C.T.zf C.me with
  | true=>rw [hzf] at h; cases h
  | false =>
  rw [hzf,vYG] at h;obtain ⟨h1,h⟩:=qY h;obtain ⟨h2,h⟩:=qY h;obtain ⟨h3,h⟩:=qY h;exact ⟨_,by simp only [yQ,hel,hzs,hzf,vYQ,h1,h2,h3,Bool.false_and,vYG,vZJ,vYV],h⟩
 ·rename_i t _ lo hi n f vs;simp only [vQQ] at h;obtain ⟨b,hb,el,hel,h⟩:=h;obtain ⟨h1,h⟩:=qY h;obtain ⟨h2,h⟩:=qY h;exact ⟨_,by simp only [yQ,hb,hel,vYQ,h1,h2,vYV],h⟩
 ·rename_i t _ lo hi id e' sz rows vs;simp only [vQQ] at h;obtain ⟨b,hb,h⟩:=h;split at h
  ·rename_i j;simp only [vQQ] at h;obtain ⟨el,hel,h⟩:=h;obtain ⟨h1,h⟩:=qY h;obtain ⟨h2,h⟩:=qY h;obtain ⟨h3,h⟩:=qY h;exact ⟨_,by simp only [yQ,hb,hel,vYQ,h1,h2,h3,vZJ,vYV],h⟩
  ·cases h
 ·rename_i t _ _ s _ i;obtain ⟨h1,h⟩:=qY h;obtain ⟨h2,h⟩:=qY h;obtain ⟨i0,i1⟩:=qGV h2;refine ⟨_,?_,h⟩;have hb:s[i.toNat]? = some (s[i.toNat]'(by omega)):=getElem?_pos s i.toNat (by omega);simp only [yQ,h1,vJQ i0,vZJ,vYV,zWJ,hb,vYQ,Option.getD_some]
 ·rename_i id s pos;cases hp:decide (pos < s.size) with
  | true =>
   rw [hp] at h;exact ⟨_,by simp only [yQ,hp,vYV],h⟩
  | false =>
   rw [hp] at h;exact ⟨_,by simp only [yQ,hp,vYG],h⟩
 ·rename_i t _ _ n f _ i;simp only [vQQ] at h;obtain ⟨el,hel,h⟩:=h;obtain ⟨h1,h⟩:=qY h;obtain ⟨h2,h⟩:=qY h;exact ⟨_,by simp only [yQ,hel,vYQ,h1,h2,vZJ,vYV],h⟩
 ·rename_i fx axs ats f first cap vs
  cases hrw:C.T.rw f with
  | true =>
   rw [hrw] at h;simp only [vYV,vQQ] at h;obtain ⟨e,he,h⟩:=h;rw [yYK] at h;exact ⟨e,he,h⟩
  | false =>
   rw [hrw] at h;simp only [vYG,callEffK,vQQ] at h;obtain ⟨ps,hps,h⟩:=h;obtain ⟨x,hx,h⟩:=hc _ _ _ _ h;rw [vQQ] at h;obtain ⟨e,he,h⟩:=h;rw [yYK] at h;refine ⟨e,?_,h⟩;simp only [yQ,hrw,vYG,yUJ,hps,hx,vYQ];exact he
 ·rw [vQQ] at h;obtain ⟨e,he,h⟩:=h;rw [yYK] at h;exact ⟨e,he,h⟩
theorem yHZ {o:Oper} {σ:St} {K:Eff × List RV→Option α} (hc:SndK C cK) (hg:qZJ ops σ o=some true) (h:goK C cK o σ K=some r):∃ x,qXV C ops o σ=some x∧K x=some r:=by
 unfold goK at h;obtain ⟨hd,h⟩:=qY h;rw [vQQ] at h;obtain ⟨vs,hvs,h⟩:=h;obtain ⟨e,he,h⟩:=zJK hc h;obtain ⟨hn,h⟩:=qY h;exact ⟨(e,vs),zUZ hd (.inr ⟨hg,hvs,he,fun i hi=>by simpa using List.all_eq_true.1 hn i hi⟩),h⟩
theorem qVK {o:Oper} {σ:St} {K:Eff × List RV→Option α} (hg:qZJ ops σ o=some false) (h:jZY C o K=some r):∃ x,qXV C ops o σ=some x∧K x=some r:=by
 unfold jZY at h;obtain ⟨hd,h⟩:=qY h;exact ⟨_,zUZ hd (.inl ⟨hg,rfl⟩),h⟩
theorem stepK_some {o:Oper} {σ:St} {K:Eff × List RV→Option α} (hc:SndK C cK) (h:kJX C cK ops o σ K=some r):∃ x,qXV C ops o σ=some x∧K x=some r:=by
 unfold kJX at h;cases hg:o.guard with
 | none=>rw [hg] at h; exact yHZ hc (by unfold qZJ; rw [hg]) h
 | some gb =>
  obtain ⟨j,b⟩:=gb;rw [hg] at h;simp only at h;split at h
  ·rename_i d hd;split at h
   ·rename_i c hlc;have gd:qZJ ops σ o=some (c == b):=by
     unfold qZJ;rw [hg];simp only [hd,hlc]
    cases b <;> cases c <;> simp only [vYV,vYG] at h
    ·exact yHZ hc gd h
    ·exact qVK gd h
    ·exact qVK gd h
    ·exact yHZ hc gd h
   ·rename_i hlc;exact qVK (by unfold qZJ; rw [hg]; simp only [hd,hlc]) h
   ·cases h
  ·cases h
end
section
variable {C:Cx} {ops:Array Oper} {r:Ret × Mem}
def Gets (K0:Ret × Mem→Option (Ret × Mem)) (r:Ret × Mem) (x:Option (Ret × Mem)):Prop:=∃ q,x=some q∧K0 q=some r
variable {K0:Ret × Mem→Option (Ret × Mem)} {cK:qUZ}
theorem qGW (hc:SndK C cK) {K K':St→Option (Ret × Mem)} (hK:∀ σ,K σ=some r→Gets K0 r (K' σ)):∀ (l:List Oper) (σ:St),yYG C cK ops l K σ=some r→Gets K0 r (zHK C ops l K' σ)
 | [],σ,h=>hK σ h
 | o :: l,σ,h=>by
  simp only [yYG] at h;obtain ⟨x,hx,h⟩:=stepK_some hc h;simp only [zHK,hx,vYQ];exact qGW hc hK l _ h
theorem qWH (hc:SndK C cK) {K K':St→Option (Ret × Mem)} (hK:∀ σ,K σ=some r→Gets K0 r (K' σ)):∀ (l:List Oper) (i:Nat) (acc:List Done) (σ:St),zYV C cK ops i l acc K σ=some r→Gets K0 r (qWU C ops i l acc K' σ)
 | [],i,acc,σ,h=>by
  simp only [zYV] at h;obtain ⟨hp,h⟩:=qY h;simp only [qWU,hp,vYV];exact hK σ h
 | o :: l,i,acc,σ,h=>by
  simp only [zYV] at h;obtain ⟨x,hx,h⟩:=stepK_some hc h;simp only [qWU,hx,vYQ];exact qWH hc hK l _ _ _ h
theorem qHJ {s s':(St→Option (Ret × Mem))→St→Option (Ret × Mem)} (h:∀ a a':St→Option (Ret × Mem),(∀ σ,a σ=some r→Gets K0 r (a' σ))→∀ σ,s a σ=some r→Gets K0 r (s' a' σ)):∀ (n:Nat) (σ:St),zJV s n σ=some r→Gets K0 r (zJV s' n σ)
 | 0,σ,hs=>by cases hs
 | n + 1,σ,hs=>h _ _ (qHJ h n) σ hs
theorem qJU {N:Nat} (hc:SndK C cK):∀ (c:Code) {K K':Ex→St→Option (Ret × Mem)} (hK:∀ e σ,K e σ=some r→Gets K0 r (K' e σ)) (σ:St),qVQ N C cK c K σ=some r→Gets K0 r (runC N C c K' σ)
 | .skip,K,K',hK,σ,h=>hK _ _ h
 | .label _,K,K',hK,σ,h=>hK _ _ h
 | .scope x,K,K',hK,σ,h=>qJU hc x hK σ h
 | .ret,K,K',hK,σ,h=>hK _ _ h
 | .exit id,K,K',hK,σ,h=>hK _ _ h
 | .region id ops d,K,K',hK,σ,h=>by
  cases d with
  | true=>exact qWH hc (hK .normal) _ _ _ _ h
  | false=>exact qGW hc (hK .normal) _ _ h
 | .seq x y,K,K',hK,σ,h=>by
  refine qJU hc x (fun e τ hk => ?_) σ h;cases e with
  | normal=>exact qJU hc y hK τ hk
  | _=>exact hK _ _ hk
 | .cond c x y,K,K',hK,σ,h=>by
  simp only [qVQ,vQQ] at h;obtain ⟨v,hv,h⟩:=h;simp only [runC,hv,vYQ];split at h
  ·rename_i t;cases t with
   | true=>exact qJU hc x hK σ h
   | false=>exact qJU hc y hK σ h
  ·cases h
 | .block id x,K,K',hK,σ,h=>by
  refine qJU hc x (fun e τ hk => ?_) σ h;cases e with
  | exit id' =>
   simp only at hk ⊢;cases hb:Nat.beq id' id with
   | true=>rw [hb] at hk; exact hK _ _ hk
   | false=>rw [hb] at hk; exact hK _ _ hk
  | _=>exact hK _ _ hk
 | .loop x,K,K',hK,σ,h=>by
  simp only [qVQ] at h;simp only [runC];refine qHJ (fun a a' ha τ hs => ?_) N σ h;refine qJU hc x (fun e υ hk => ?_) _ hs;cases e with
  | normal=>exact ha _ hk
  | _=>exact hK _ _ hk
 | .rangeFunc ..,K,K',hK,σ,h=>by cases h
 | .goto _,K,K',hK,σ,h=>by cases h
 | .refuse _,K,K',hK,σ,h=>by cases h
end
theorem zVQ {T:Tab} {ok:OrK}:∀ (N f:Nat) (ps:List PV) (K:Ret→Option (Ret × Mem)) (r:Ret × Mem),jGK T ok N f ps K=some r→∃ x M,runF T ok.orc N f (ps.map .v) []=some (x,M)∧K x=some r
 | 0,f,ps,K,r,h=>by cases h
 | N + 1,f,ps,K,r,h=>by
  simp only [jGK] at h;split at h
  ·cases h
  ·rename_i fi hfi;obtain ⟨hb,h⟩:=qY h;have hc:SndK ⟨T,qGZ ok.orc (runF T ok.orc N),zZU ok.orc (runF T ok.orc N),f,fi.ntmps⟩ (yQQ ok (jGK T ok N)):=fun g qs K' r' hk=>by
    unfold yQQ at hk;show ∃ x,qGZ ok.orc (runF T ok.orc N) g qs=some x∧K' x=some r';unfold qGZ;cases ho:ok g with
    | some o =>
     rw [ho] at hk;simp only [vQQ] at hk;obtain ⟨x,hx,hk⟩:=hk;obtain ⟨h1,hk⟩:=qY hk;exact ⟨x.2,by simp only [OrK.orc,ho,hx,vYQ,h1,vYV],hk⟩
    | none =>
     rw [ho] at hk;obtain ⟨x,M,hx,hk⟩:=zVQ N g qs K' r' hk;have e:ok.orc.a g=none:=by simp only [OrK.orc,ho,Option.bind_none]
     exact ⟨x,by simp only [e,hx,vYQ],hk⟩
   obtain ⟨q,h1,h2⟩:=qJU (K0:=fun q=>K q.1) (K':=endK T [] fi.results) hc fi.body (fun e σ hk=>by
    simp only [vQQ] at hk;exact hk) _ h
   refine ⟨q.1,q.2,?_,h2⟩;simp only [runF,hfi,hb,vYV];exact h1
theorem runK_some {T:Tab} {ok:OrK} {N f:Nat} {ps:List PV} {r:Ret} (h:runK T ok N f ps=some (r,[])):run T ok.orc N f ps=some r:=by
 obtain ⟨x,M,h1,h2⟩:=zVQ N f ps _ _ h;cases h2;unfold run;rw [h1];rfl
def OrK.Ok (P:Program) (ok:OrK):Prop:=∀ g o,ok g=some o→∀ ps r,o ps=some (true,r)→yK P g ps r
theorem OrK.Ok.orc {P:Program} {ok:OrK} (h:ok.Ok P):OrcOk P ok.orc:=by
 refine ⟨fun g o ho ps r hr => ?_,fun g o ho=>by simp [OrK.orc] at ho⟩;simp only [OrK.orc,vQQ,vQZ] at ho;obtain ⟨f,hf,rfl⟩:=ho;simp only [vQQ] at hr;obtain ⟨x,hx,hr⟩:=hr;obtain ⟨h1,hr⟩:=qY hr;cases hr;exact h g f hf ps x.2 (by rw [hx,← h1])
theorem qH {P:Program} {T:Tab} {ok:OrK} {N f:Nat} {ps:List PV} {r:Ret} (hT:TabOk P T) (hm:P.follows .mixedOrders=true) (hO:ok.Ok P) (h:runK T ok N f ps=some (r,[])):yK P f ps r:=qKJ hT hm hO.orc (runK_some h)
abbrev OrL:=List (Nat × (List PV→Option (Bool × Ret)))
def OrL.k (l:OrL):OrK:=asc l
def zJ (P:Program) (f:Nat) (o:List PV→Option (Bool × Ret)):Prop:=∀ ps r,o ps=some (true,r)→yK P f ps r
theorem OrL.ok {P:Program} {l:OrL} (h:AllP (fun x:Nat × (List PV→Option (Bool × Ret))=>zJ P x.1 x.2) l):(OrL.k l).Ok P:=fun g o ho ps r hr=>h.of (qKH ho) ps r hr
def listed (l:List (List PV × Ret)):List PV→Option (Bool × Ret):=fun ps=>(kYK l ps).bind fun r=>some (true,r)
def PV.val1:PV→Value
 | .n k x=>.int k x
 | .b x=>.bool x
 | .s x=>.string x
 | _=>.nilIface
def PV.val:PV→Value
 | .a cs=>.agg (cs.map PV.val1).toArray
 | x=>x.val1
theorem jJQ {F:Nat→Prop} {w:World} {p:PV} {v:Value} (hp:p.flat1=true) (h:RP F w p v):v=p.val1:=by
 cases h <;> first | rfl | (simp [PV.flat1] at hp; done)
theorem zKK {F:Nat→Prop} {w:World} {p:PV} (hp:p.flat1=true):RP F w p p.val1∧p.val1.oneCell'=true:=by
 cases p <;> first | (simp [PV.flat1] at hp; done) | exact ⟨by constructor,rfl⟩
theorem jHX {F:Nat→Prop} {w:World} {p:PV} {v:Value} (hp:p.flat2=true) (h:RP F w p v):v=p.val:=by
 cases p with
 | a cs =>
  cases h with
  | a _ vs hl h1 h =>
   have e:vs=cs.map PV.val1:=List.ext_getElem? fun i=>by
    rw [vZY];cases hc:cs[i]? with
    | none=>rw [Option.map_none,List.getElem?_eq_none (by have:=List.getElem?_eq_none_iff.1 hc; omega)]
    | some c =>
     have hi:=(List.getElem?_eq_some_iff.1 hc).1;have hv:vs[i]? = some (vs[i]'(by omega)):=vQK (by omega);rw [hv,Option.map_some,jJQ (List.all_eq_true.1 hp c (vQG hc)) (h i c _ hc hv)]
   rw [e]; rfl
 | _=>exact jJQ (by first | exact hp | (simp [PV.flat2,PV.flat1] at hp)) h
theorem val_rp {F:Nat→Prop} {w:World} {p:PV} (hp:p.flat2=true):RP F w p p.val:=by
 cases p with
 | a cs =>
  refine .a cs (cs.map PV.val1) (by simp) (fun v hv => ?_) fun i p v hi hv => ?_
  ·obtain ⟨c,hc,rfl⟩:=List.mem_map.1 hv;exact (zKK (F:=F) (w:=w) (List.all_eq_true.1 hp c hc)).2
  ·rw [vZY,hi] at hv;cases hv;exact (zKK (List.all_eq_true.1 hp p (vQG hi))).1
 | _=>exact (zKK (by first | exact hp | (simp [PV.flat2,PV.flat1] at hp))).1
theorem qX {P:Program} {f:Nat} {ps:List PV} {x:PV} (hent:uW P f) (hp:ps.all PV.flat2=true) (hx:x.flat2=true) (h:∀ w,Calls P f (ps.map PV.val).toArray w (Rets x.val w)):yK P f ps (.v x):=by
 refine ⟨hent,fun w F vals hF hal => ?_⟩;have e:vals=ps.map PV.val:=List.ext_getElem? fun i=>by
  rw [vZY];have hl:=hal.1;cases hc:ps[i]? with
  | none=>rw [Option.map_none,List.getElem?_eq_none (by have:=List.getElem?_eq_none_iff.1 hc; omega)]
  | some c =>
   have hi:=(List.getElem?_eq_some_iff.1 hc).1;have hv:vals[i]? = some (vals[i]'(by omega)):=vQK (by omega);rw [hv,Option.map_some,jHX (List.all_eq_true.1 hp c (vQG hc)) (hal.2 i c _ hc hv)]
 rw [e];exact (h w).mono fun e w' ⟨he,hg⟩=>⟨x.val,F,he,hg,fun k hk=>hk,fun k hk=>.inl hk,val_rp hx⟩
theorem zZ {P:Program} {f:Nat} {ps:List PV} {x:PV} (h:yK P f ps (.v x)) (hp:ps.all PV.flat2=true) (hx:x.flat2=true) (w:World):Calls P f (ps.map PV.val).toArray w (Rets x.val w):=by
 refine Calls.mono (h.2 w (fun _=>False) (ps.map PV.val) (fun k hk=>hk.elim) ⟨by simp,fun i p v hi hv => ?_⟩) fun e w' ⟨v,F',he,hg,_,_,hr⟩=>⟨by rw [he,jHX hx hr],hg⟩
 rw [vZY,hi] at hv;cases hv;exact val_rp (List.all_eq_true.1 hp p (vQG hi))
end Go.Rx
namespace Go.Rx
open Go.RowKit Go.Sx
def qVJ (sz:Nat) (rows:List (List PV)):Bool:=rows.all fun r=>Nat.beq r.length sz && r.all PV.flat1
def qUU (rows:List (List PV)):List (List Value):=rows.map fun r=>r.map PV.val1
theorem qUV {sz:Nat} {rows:List (List PV)} (h:qVJ sz rows=true) {r:List PV} (hr:r ∈ rows):r.length=sz∧∀ p ∈ r,p.flat1=true:=by
 have:=List.all_eq_true.1 h r hr
 rw [vQJ] at this;exact ⟨vQX this.1,List.all_eq_true.1 this.2⟩
theorem rp_of_slc {F:Nat→Prop} {w:World} {sz c:Nat} {a:Option Addr} {rows:List (List PV)} (hs:qVJ sz rows=true) (hcap:rows.length≤c) (hS:qUH sz a (qUU rows) w)
  (hF:∀ b off,a=some ⟨b,off,none⟩→rows ≠ []→F b):RP F w (.l rows) (.slice a rows.length c):=by
 cases rows with
 | nil=>exact .l0 a c
 | cons r0 rs =>
  obtain ⟨_,b,off,ha,hb,_⟩:=hS 0 _ (by simp [qUU]; rfl);subst ha;refine .l (r0 :: rs) b off _ c sz (fun j t=>(((r0 :: rs).getD j []).getD t .ni).val1) rfl hcap (fun r hr=>(qUV hs hr).1) (hF b off rfl (by simp)) (fun j t hj ht => ?_) (fun j r t p hj ht => ?_)
  ·have hr:(r0 :: rs)[j]? = some ((r0 :: rs)[j]'hj):=vQK hj;generalize (r0 :: rs)[j]'hj=r at hr;have hm:=qUV hs (vQG hr);have htl:t < r.length:=by omega
   have hp:r[t]? = some (r[t]'htl):=vQK htl;obtain ⟨_,b',off',ha',_,hc⟩:=hS j (r.map PV.val1) (by unfold qUU; rw [vZY,hr]; rfl);cases ha';have hc:=hc t ht;rw [vZY,hp,Option.map_some] at hc;have e:(((r0 :: rs).getD j []).getD t .ni)=r[t]'htl:=by
    rw [vZG,vZG,hr];simp only [Option.getD_some];rw [hp]; rfl
   simp only [e];exact ⟨by rw [← hc,Nat.add_assoc],(zKK (F:=F) (w:=w) (hm.2 _ (List.getElem_mem htl))).2⟩
  ·have hm:=qUV hs (vQG hj);have e:(((r0 :: rs).getD j []).getD t .ni)=p:=by
    rw [vZG,vZG,hj];simp only [Option.getD_some];rw [ht]; rfl
   simp only [e];exact (zKK (hm.2 p (vQG ht))).1
theorem slc_of_rp {F:Nat→Prop} {w:World} {sz:Nat} {rows:List (List PV)} {v:Value} (hs:qVJ sz rows=true) (hF:∀ k,F k→k < w.heap.size) (h:RP F w (.l rows) v) :
  ∃ a c,v=.slice a rows.length c∧rows.length≤c∧qUH sz a (qUU rows) w∧∀ b off,a=some ⟨b,off,none⟩→rows ≠ []→F b:=by
 cases h with
 | l0 ad c=>exact ⟨ad,c,rfl,Nat.zero_le _,fun j r hj=>by simp [qUU] at hj,fun _ _ _ h=>absurd rfl h⟩
 | l _ b off n c sz' g hn hcap hl hf hc hh =>
  subst hn;refine ⟨_,c,rfl,hcap,fun j r hj => ?_,fun b' off' e _=>by cases e; exact hf⟩;unfold qUU at hj;rw [vZY] at hj;cases hr:rows[j]? with
  | none=>rw [hr] at hj; cases hj
  | some q =>
   rw [hr] at hj;cases hj;have hm:=qUV hs (vQG hr);have hjl:=(List.getElem?_eq_some_iff.1 hr).1;have e:sz'=sz:=by rw [← hl q (vQG hr),hm.1]
   subst e;refine ⟨by rw [List.length_map,hm.1],b,off,rfl,hF b hf,fun k hk => ?_⟩;have h1:=hc j k hjl hk;have hkl:k < q.length:=by omega
   have hp:q[k]? = some (q[k]'hkl):=vQK hkl;rw [Nat.add_assoc,h1.1,vZY,hp,Option.map_some]
   congr 1
   exact jJQ (hm.2 _ (List.getElem_mem hkl)) (hh j q k _ hr hp)
theorem dep_mem {D:Nat→Prop} {G:World→Prop} {sz:Nat} {a:Option Addr} {rows:List (List Value)} {w:World} (hd:qWV D G) (hG:G w) (hi:∀ w,G w→qUH sz a rows w) (h0:0 < sz) (hne:rows ≠ []) :
  ∀ b off,a=some ⟨b,off,none⟩→D b:=by
 intro b off ha;subst ha;apply Classical.byContradiction;intro hn;obtain ⟨r0,rs,rfl⟩:∃ r0 rs,rows=r0 :: rs:=by cases rows with | nil=>exact absurd rfl hne | cons x xs=>exact ⟨x,xs,rfl⟩
 have hG':G { w with heap:=w.heap.setIfInBounds b (.cells #[] 0) }:=hd w _ (fun k hk=>by
  have e:b ≠ k:=fun e=>hn (e ▸ hk)
  show (w.heap.setIfInBounds b _)[k]? = _;exact Array.getElem?_setIfInBounds_ne e) hG
 obtain ⟨hl,b',off',e,hb,hc⟩:=hi _ hG' 0 r0 rfl;cases e;have hc:=hc 0 h0;have hb':b < w.heap.size:=by simpa using hb
 rw [vQK (by omega)] at hc;simp [World.cell?,hb'] at hc
theorem snd_told {P:Program} {f:Nat} {ps:List PV} {p:PV} {X:Type} {Φ:X→Prop} {V:X→Value} {G:X→World→Prop} (hent:uW P f)
  (h:∀ (w:World) (F:Nat→Prop) (vals:List Value),(∀ k,F k→k < w.heap.size)→Al (RP F w) ps vals→Calls P f vals.toArray w (kWW Φ V G w))
  (hp:∀ x (w:World) (D:Nat→Prop) (F:Nat→Prop),Φ x→G x w→qWV D (G x)→(∀ k,D k→F k)→RP F w p (V x)):yK P f ps (.v p):=by
 refine ⟨hent,fun w F vals hF hal=>(h w F vals hF hal).mono ?_⟩
 rintro e w' ⟨x,hx,rfl,hg,D,h1,h2,h3⟩
 exact ⟨V x,fun k=>F k ∨ D k,rfl,hg,fun k hk=>.inl hk,fun k hk=>hk.imp id (h2 k),hp x w' D _ hx h3 h1 fun k hk=>.inr hk⟩
end Go.Rx
namespace Go.Rx
open Go.RowKit Go.Sx
def yGG (L:List Int):PV:=.l (L.map fun x=>[.n .i64 x])
theorem intsP_flat (L:List Int):qVJ 1 (L.map fun x=>[PV.n .i64 x])=true:=by
 unfold qVJ;rw [List.all_map,vZZ];intro x _;rfl
theorem rp_of_ints {F:Nat→Prop} {w:World} {L:List Int} {a:Option Addr} {c:Nat} (h:IntsAt w w.heap.size (.slice a L.length c) L) (hc:L.length≤c) (hF:∀ k,k < w.heap.size→F k):RP F w (yGG L) (.slice a L.length c):=by
 have e:(L.map fun x=>[PV.n .i64 x]).length=L.length:=by simp
 have key:qUH 1 a (qUU (L.map fun x=>[PV.n .i64 x])) w:=fun j r hj=>by
  obtain ⟨a',c',e',hh⟩:=h.slice;cases e';unfold qUU at hj;rw [vZY,vZY] at hj;cases hr:L[j]? with
  | none=>rw [hr] at hj; cases hj
  | some x =>
   rw [hr] at hj;cases hj;have hjl:=(List.getElem?_eq_some_iff.1 hr).1;obtain ⟨b,off,ha,hb,hq⟩:=hh j hjl;refine ⟨rfl,b,off,ha,hb,fun k hk => ?_⟩;have hk0:k=0:=by omega
   subst hk0;rw [Nat.mul_one,Nat.add_zero,hq,vZG,hr];rfl
 have:=rp_of_slc (F:=F) (c:=c) (intsP_flat L) (by rw [e]; exact hc) key (fun b off ha hne=>by
  obtain ⟨a',c',e',hh⟩:=h.slice;cases e';have h0:0 < L.length:=by
   cases L with
   | nil=>exact absurd rfl hne
   | cons x xs=>simp
  obtain ⟨b',off',ha',hb,_⟩:=hh 0 h0;rw [ha] at ha';cases ha';exact hF b hb)
 rw [e] at this;exact this
theorem zZG {P:Program} {f:Nat} {ps:List PV} {x:PV} {w:World} {vals:List Value} (h:yK P f ps (.v x)) (hx:x.flat2=true) (ha:Al (RP (fun k=>k < w.heap.size) w) ps vals):Calls P f vals.toArray w (Rets x.val w) :=
 Calls.mono (h.2 w _ vals (fun k hk=>hk) ha) fun e w' ⟨v,F',he,hg,_,_,hr⟩=>⟨by rw [he,jHX hx hr],hg⟩
theorem zKY {F:Nat→Prop} {w:World}:Al (RP F w) [] []:=⟨rfl,fun i p v h=>by simp at h⟩
theorem qJZ {F:Nat→Prop} {w:World} {p:PV} {v:Value} {ps:List PV} {vs:List Value} (h:RP F w p v) (t:Al (RP F w) ps vs):Al (RP F w) (p :: ps) (v :: vs) :=
 ⟨by rw [vQW,vQW,t.1],fun i q u hq hu=>by
  cases i with
  | zero=>cases hq; cases hu; exact h
  | succ i=>exact t.2 i q u hq hu⟩
theorem qWY {F:Nat→Prop} {w:World} {p:PV} {ps:List PV} {vals:List Value} (h:Al (RP F w) (p :: ps) vals):∃ v vs,vals=v :: vs∧RP F w p v∧Al (RP F w) ps vs:=by
 cases vals with
 | nil=>have:=h.1; simp at this
 | cons v vs=>exact ⟨v,vs,rfl,h.2 0 p v rfl rfl,by have:=h.1; simpa using this,fun i q u hq hu=>h.2 (i + 1) q u hq hu⟩
theorem yZH {F:Nat→Prop} {w:World} {vals:List Value} (h:Al (RP F w) [] vals):vals=[]:=by
 cases vals with
 | nil=>rfl
 | cons v vs=>have:=h.1; simp at this
theorem rp_parts {F:Nat→Prop} {w:World} {cs:List PV} {v:Value} (h:RP F w (.a cs) v):∃ vs:List Value,v=.agg vs.toArray∧Al (RP F w) cs vs:=by
 cases h with
 | a _ vs hl _ hh=>exact ⟨vs,rfl,hl,hh⟩
end Go.Rx
namespace Go.Rx
open Go.RowKit Go.Sx Go.ChangeShapes Go.WideShapes
inductive Sh where
 | i (k:IntKind)
 | b
 | s
 | l (row:List Sh)
inductive Fit:Sh→PV→Prop
 | i (k:IntKind) (x:Int) (h:(Lit.int k x).wf=true):Fit (.i k) (.n k x)
 | b (x:Bool):Fit .b (.b x)
 | s (x:ByteArray) (h:x.size≤maxLen):Fit .s (.s x)
 | l (row:List Sh) (n:Nat) (f:Nat→List PV) (hn:n≤maxLen) (hl:∀ j,j < n→(f j).length=row.length) (h:∀ j,j < n→∀ (i:Nat) sh p,row[i]? = some sh→(f j)[i]? = some p→Fit sh p):Fit (.l row) (.lf n f)
def yUZ:List (Nat × List Sh)→Nat→Bool
 | [],_=>true
 | x :: l,a=>Nat.beq x.1 a && yUZ l (a + x.2.length)
def sumL:List (List Sh)→Nat
 | []=>0
 | r :: l=>r.length + sumL l
def shT (P:Program):Nat→TypeId→Option (List Sh)
 | 0,_=>none
 | g + 1,t=>match P.underlying t with
  | some (.int k)=>some [.i k]
  | some .bool=>some [.b]
  | some .string=>some [.s]
  | some (.slice e)=>(shT P g e).bind fun r=>bif Nat.beq (P.cellsOf e) r.length && Nat.blt 0 r.length then some [.l r] else none
  | some (.array n e)=>(shT P g e).bind fun r=>bif Nat.beq (P.cellsOf e) r.length && Nat.beq (P.cellsOf t) (sumL (List.replicate n r)) then some (List.replicate n r).flatten else none
  | some (.struct fs)=>(mapO (fun f:Field=>(shT P g f.type).bind fun r=>bif Nat.beq (P.cellsOf f.type) r.length then some (f.offset,r) else none) fs.toList).bind fun l =>
    bif yUZ l 0 && Nat.beq (P.cellsOf t) (sumL (l.map (·.2))) then some (l.map (·.2)).flatten else none
  | _=>none
section
variable {P:Program} {w:World} {H:Type} {enc:TypeId × Value→H}
def Good (w:World) (shs:List Sh) (cs:List Value):Prop:=∃ ps:List PV,ps.length=shs.length∧(∀ (i:Nat) sh p,shs[i]? = some sh→ps[i]? = some p→Fit sh p)∧Al (RP (fun k=>k < w.heap.size) w) ps cs∧∀ v ∈ cs,v.oneCell'=true
theorem Good.one {sh:Sh} {p:PV} {v:Value} (h1:Fit sh p) (h2:RP (fun k=>k < w.heap.size) w p v) (h3:v.oneCell'=true):Good w [sh] [v] :=
 ⟨[p],rfl,(fun i s0 q hs hq=>by
  match i with
  | 0=>cases hs; cases hq; exact h1
  | i + 1=>cases hs),qJZ h2 zKY,(fun u hu=>by obtain rfl:=List.mem_singleton.1 hu; exact h3)⟩
theorem Good.cat {r s:List Sh} {cs ds:List Value} (h1:Good w r cs) (h2:Good w s ds):Good w (r ++ s) (cs ++ ds):=by
 obtain ⟨p,a1,a2,a3,a4⟩:=h1;obtain ⟨q,b1,b2,b3,b4⟩:=h2;refine ⟨p ++ q,by simp [a1,b1],fun i sh x hs hx => ?_,a3.append b3,fun v hv => ?_⟩
 ·rcases Nat.lt_or_ge i r.length with hi | hi
  ·rw [List.getElem?_append_left hi] at hs;rw [List.getElem?_append_left (by omega)] at hx;exact a2 i sh x hs hx
  ·rw [List.getElem?_append_right hi] at hs;rw [List.getElem?_append_right (by omega),a1] at hx;exact b2 _ sh x hs hx
 ·rcases List.mem_append.1 hv with h | h
  ·exact a4 v h
  ·exact b4 v h
def Pieces (w:World):List (List Sh)→List Value→Prop
 | [],cs=>cs=[]
 | r :: l,cs=>Good w r (cs.take r.length)∧Pieces w l (cs.drop r.length)
theorem Pieces.good:∀ {l:List (List Sh)} {cs:List Value},Pieces w l cs→Good w l.flatten cs
 | [],cs,h=>by
  have:cs=[]:=h
  subst this;exact ⟨[],rfl,fun i sh p hs=>by simp at hs,zKY,fun v hv=>by cases hv⟩
 | r :: l,cs,h=>by
  have:=Good.cat h.1 h.2.good
  rw [List.take_append_drop] at this;exact this
theorem pieces_arr {r:List Sh}:∀ (n:Nat) (cs:List Value),cs.length=sumL (List.replicate n r)→(∀ i,i < n→Good w r ((cs.drop (i * r.length)).take r.length))→Pieces w (List.replicate n r) cs
 | 0,cs,hl,_=>by
  have:cs.length=0:=hl
  exact List.length_eq_zero_iff.1 this
 | n + 1,cs,hl,h=>by
  have hl':cs.length=r.length + sumL (List.replicate n r):=hl;refine ⟨by have:=h 0 (by omega); simpa using this,pieces_arr n _ (by rw [List.length_drop]; omega) fun i hi => ?_⟩
  have:=h (i + 1) (by omega)
  rw [List.drop_drop];rw [show r.length + i * r.length=(i + 1) * r.length by rw [Nat.add_mul]; omega];exact this
theorem pieces_str:∀ (l:List (Nat × List Sh)) (a:Nat) (cs:List Value),yUZ l a=true→(cs.drop a).length=sumL (l.map (·.2))→(∀ x ∈ l,Good w x.2 ((cs.drop x.1).take x.2.length))→Pieces w (l.map (·.2)) (cs.drop a)
 | [],a,cs,_,hl,_=>List.length_eq_zero_iff.1 hl
 | x :: l,a,cs,hc,hl,h=>by
  simp only [yUZ,vQJ] at hc;have e:=vQX hc.1;have hl':(cs.drop a).length=x.2.length + sumL (l.map (·.2)):=hl;rw [List.length_drop] at hl';have h0:=h x vZQ;rw [e] at h0;refine ⟨h0,?_⟩;show Pieces w (l.map (·.2)) ((cs.drop a).drop x.2.length);rw [List.drop_drop];exact pieces_str l (a + x.2.length) cs hc.2 (by rw [List.length_drop]; omega) fun y hy=>h y (vQH _ hy)
theorem yWY {sp:Nat→Bool} {held:Bool}:∀ (fuel:Nat) (t:TypeId) (cs:List Value) (x:DataW H × List MemPlace) (g:Nat) (shs:List Sh),DataW.trod enc P w 0 sp held fuel t cs=some x→shT P g t=some shs→Good w shs cs
 | 0,t,cs,x,g,shs,h,_=>by simp [DataW.trod] at h
 | fuel + 1,t,cs,x,0,shs,h,hs=>by cases hs
 | fuel + 1,t,cs,x,g + 1,shs,h,hs=>by
  unfold shT at hs;split at hs
  ·rename_i k hu;cases hs;obtain ⟨n,rfl,_,hwf⟩:=DataW.trod_int hu h;exact Good.one (.i _ _ hwf) (.n _ _) rfl
  ·rename_i hu;cases hs;obtain ⟨b,rfl,_⟩:=DataW.trod_bool hu h;exact Good.one (.b _) (.b _) rfl
  ·rename_i hu;cases hs;obtain ⟨s,rfl,_,hs⟩:=DataW.trod_string hu h;exact Good.one (.s _ hs) (.s _) rfl
  ·rename_i e hu;simp only [vQQ] at hs;obtain ⟨r,hr,hs⟩:=hs;obtain ⟨hb,hs⟩:=qY hs;cases hs;simp only [vQJ,Nat.blt_eq] at hb;have hk:=vQX hb.1;have hr0:=hb.2;rcases DataW.trod_slice hu h with ⟨rfl,_⟩ | ⟨a,len,cap,elems,rest,n,hf,rfl,_,_,hl,hm,hel,hcell,_,_⟩
   ·exact Good.one (.l r 0 (fun _=>[]) (Nat.zero_le _) (fun j hj=>by omega) (fun j hj=>by omega)) (.lf 0 _ _ (.l0 _ _)) rfl
   ·obtain rfl:n=fuel:=by omega
    have each:∀ i,∃ y:List PV × List Value,i < len→w.cells? 0 (a.add (i * r.length)) r.length=some y.2∧y.1.length=r.length∧(∀ (j:Nat) sh p,r[j]? = some sh→y.1[j]? = some p→Fit sh p)∧Al (RP (fun k=>k < w.heap.size) w) y.1 y.2∧∀ v ∈ y.2,v.oneCell'=true:=fun i=>by
     by_cases hi:i < len
     ·have hc:=hcell i hi;have he:elems[i]? = some (elems[i]'(by omega)):=vQK (by omega);rw [he,vQQ] at hc;obtain ⟨cs',h1,h2⟩:=hc;rw [hk] at h1;obtain ⟨ps,b1,b2,b3,b4⟩:=yWY n e cs' _ g r h2 hr;exact ⟨(ps,cs'),fun _=>⟨h1,b1,b2,b3,b4⟩⟩
     ·exact ⟨([],[]),fun h=>absurd h hi⟩
    obtain ⟨f,hf2⟩:=Classical.axiomOfChoice each;refine Good.one (.l r len (fun j=>(f j).1) (by omega) (fun j hj=>(hf2 j hj).2.1) (fun j hj=>(hf2 j hj).2.2.1)) (.lf len _ _ ?_) rfl;rcases Nat.eq_zero_or_pos len with h0 | hpos
    ·subst h0;exact .l0 _ _
    ·have hsome:∀ j t,j < len→t < r.length→w.cell? ((a.add (j * r.length)).add t)=(f j).2[t]?:=fun j t hj ht=>(World.cells?_some (hf2 j hj).1).2.2 t ht
     have hlen2:∀ j,j < len→(f j).2.length=r.length:=fun j hj=>(World.cells?_some (hf2 j hj).1).2.1
     have h00:=hsome 0 0 hpos hr0;have hg:(f 0).2[0]? = some ((f 0).2[0]'(by rw [hlen2 0 hpos]; exact hr0)):=vQK _;rw [hg] at h00;have hsp:a.spot=none:=by
      have e:(a.add (0 * r.length)).add 0=a:=by simp [Addr.add]
      rw [e] at h00;unfold World.cell? at h00;cases hb:w.heap[a.block]? with
      | none=>simp [hb] at h00
      | some o=>cases o <;> simp [hb] at h00; exact h00.1
     obtain ⟨bb,off,sp'⟩:=a;simp only at hsp;subst hsp;have hbb:bb < w.heap.size:=by
      rw [qZG,qZG] at h00;unfold World.cell? at h00;cases hb:w.heap[bb]? with
      | none=>simp [hb] at h00
      | some o=>exact qZY hb
     refine .l _ bb off len cap r.length (fun j t=>((f j).2[t]?).getD (.bool false)) (by simp) hl (fun q hq => ?_) hbb (fun j t hj ht => ?_) (fun j q t p hq hp => ?_)
     ·obtain ⟨j,hj,rfl⟩:=List.mem_map.1 hq;exact (hf2 j (List.mem_range.1 hj)).2.1
     ·have h1:=hsome j t hj ht;have hg2:(f j).2[t]? = some ((f j).2[t]'(by rw [hlen2 j hj]; exact ht)):=vQK _;rw [qZG,qZG,hg2,Nat.add_assoc] at h1;rw [hg2];exact ⟨h1,(hf2 j hj).2.2.2.2 _ (List.getElem_mem _)⟩
     ·have hj:j < len:=by have:=(List.getElem?_eq_some_iff.1 hq).1; simpa using this
      rw [vZY,List.getElem?_range hj] at hq;cases hq;have htl:=(List.getElem?_eq_some_iff.1 hp).1;have hg2:(f j).2[t]? = some ((f j).2[t]'(by rw [hlen2 j hj,← (hf2 j hj).2.1]; exact htl)):=vQK _
      have:=(hf2 j hj).2.2.2.1.2 t p _ hp hg2
      rw [hg2];exact this
  ·rename_i n e hu;simp only [vQQ] at hs;obtain ⟨r,hr,hs⟩:=hs;obtain ⟨hb,hs⟩:=qY hs;cases hs;simp only [vQJ] at hb;have hk:=vQX hb.1;have hk2:=vQX hb.2;obtain ⟨xs,m,hf,_,hl,hxl,hall⟩:=DataW.trod_array hu h;obtain rfl:m=fuel:=by omega
   refine (pieces_arr n cs (hl.trans hk2) fun i hi => ?_).good;have h1:=hall i hi;have he:xs[i]? = some (xs[i]'(by omega)):=vQK (by omega);rw [he,hk] at h1;exact yWY m e _ _ g r h1 hr
  ·rename_i fs hu;simp only [vQQ] at hs;obtain ⟨l,hlm,hs⟩:=hs;obtain ⟨hb,hs⟩:=qY hs;cases hs;simp only [vQJ] at hb;have hk2:=vQX hb.2;obtain ⟨xs,m,hf,_,hl,hxl,hall⟩:=DataW.trod_struct hu h;obtain rfl:m=fuel:=by omega
   have hm:=jW hlm
   have:=pieces_str (w:=w) l 0 cs hb.1 (by rw [vYW]; exact hl.trans hk2) fun y hy=>by
    obtain ⟨i,hi⟩:=List.mem_iff_getElem?.1 hy;have hil:=(List.getElem?_eq_some_iff.1 hi).1;have hl2:i < fs.toList.length:=by rw [hm.1]; exact hil
    have hfi:fs.toList[i]? = some (fs.toList[i]'hl2):=vQK hl2;have h1:=hm.2 i _ y hfi hi;generalize fs.toList[i]'hl2=fd at hfi h1;simp only [vQQ] at h1;obtain ⟨r,hr,h1⟩:=h1;obtain ⟨hb1,h1⟩:=qY h1;cases h1;have hk:=vQX hb1;have h2:=hall i fd (by simpa using hfi);have he:xs[i]? = some (xs[i]'(by simp at hxl hl2; omega)):=vQK _;rw [he,hk] at h2;exact yWY m fd.type _ _ g r h2 hr
   rw [vYW] at this;exact this.good
  ·cases hs
end
end Go.Rx
namespace Go.Rx
open Go.RowKit Go.Sx
abbrev Cont:=Ex→St→Option (Ret × Mem)
abbrev jK:=St→Cont→Option (Ret × Mem)
def qYZ:Nat→Code→Code
 | 0,.seq x _=>x
 | _ + 1,.seq _ y=>y
 | 0,.cond _ x _=>x
 | _ + 1,.cond _ _ y=>y
 | _,.block _ x=>x
 | _,.scope x=>x
 | _,.loop x=>x
 | _,c=>c
def uH (B:Code):List Nat→Code
 | []=>B
 | i :: p=>qYZ i (uH B p)
def yXJ:List Nat→List Nat→Bool
 | [],[]=>true
 | x :: xs,y :: ys=>Nat.beq x y && yXJ xs ys
 | _,_=>false
theorem yJQ:∀ {p q:List Nat},yXJ p q=true→p=q
 | [],[],_=>rfl
 | x :: xs,y :: ys,h=>by
  simp only [yXJ,vQJ] at h;rw [vQX h.1,yJQ h.2]
 | [],_ :: _,h=>by cases h
 | _ :: _,[],h=>by cases h
def LF (N:Nat) (C:Cx) (cK:qUZ) (x:Code) (h:Hint) (K:Cont):Nat→St→Option (Ret × Mem)
 | 0,_=>none
 | n + 1,σ=>qVQ N C cK x (fun e τ=>match e with
   | .normal=>LF N C cK x h K n (qUX h τ)
   | e=>K e (qKZ h τ)) σ
def jYK (N:Nat) (C:Cx) (cK:qUZ) (x:Code) (S:jK):Prop:=∀ K σ r,S σ K=some r→LF N C cK x (C.T.hint C.me (qJ x)) K N σ=some r
theorem loopN_LF {N:Nat} {C:Cx} {cK:qUZ} {x:Code} {h:Hint} {K:Cont}:∀ (n:Nat) (σ:St),zJV (fun again σ=>qVQ N C cK x (fun e σ=>match e with
   | .normal=>again σ
   | e=>K e (qKZ h σ)) (qUX h σ)) n σ=LF N C cK x h K n (qUX h σ)
 | 0,_=>rfl
 | n + 1,σ=>by
  simp only [zJV,LF]
  congr 1
  funext e τ;cases e with
  | normal=>exact loopN_LF n τ
  | _=>rfl
def zUK (N:Nat) (C:Cx) (cK:qUZ) (LO:List Nat→Option jK):Code→List Nat→Cont→St→Option (Ret × Mem)
 | .skip,_,K,σ=>K .normal σ
 | .label _,_,K,σ=>K .normal σ
 | .scope x,p,K,σ=>zUK N C cK LO x (0 :: p) K σ
 | .ret,_,K,σ=>K .ret σ
 | .exit id,_,K,σ=>K (.exit id) σ
 | .region _ ops d,_,K,σ=>bif d then zYV C cK ops 0 ops.toList [] (K .normal) σ else yYG C cK ops ops.toList (K .normal) σ
 | .seq x y,p,K,σ=>zUK N C cK LO x (0 :: p) (fun e σ=>match e with
   | .normal=>zUK N C cK LO y (1 :: p) K σ
   | e=>K e σ) σ
 | .cond c x y,p,K,σ=>(opv 1 σ c).bind fun v=>match v with
   | .v (.b t)=>bif t then zUK N C cK LO x (0 :: p) K σ else zUK N C cK LO y (1 :: p) K σ
   | _=>none
 | .block id x,p,K,σ=>zUK N C cK LO x (0 :: p) (fun e σ=>match e with
   | .exit id'=>bif Nat.beq id' id then K .normal σ else K (.exit id') σ
   | e=>K e σ) σ
 | .loop x,p,K,σ=>match LO p with
   | some S=>S (qUX (C.T.hint C.me (qJ x)) σ) K
   | none=>zJV (fun again σ=>qVQ N C cK x (fun e σ=>match e with
     | .normal=>again σ
     | e=>K e (qKZ (C.T.hint C.me (qJ x)) σ)) (qUX (C.T.hint C.me (qJ x)) σ)) N σ
 | _,_,_,_=>none
section
variable {C:Cx} {cK:qUZ} {r:Ret × Mem} {K0:Ret × Mem→Option (Ret × Mem)}
theorem qXU {N:Nat} {LO:List Nat→Option jK} {B:Code} (hc:SndK C cK) (hL:∀ p S,LO p=some S→jYK N C cK (qYZ 0 (uH B p)) S):∀ (c:Code) (p:List Nat) {K K':Cont} (hp:uH B p=c) (hK:∀ e σ,K e σ=some r→Gets K0 r (K' e σ)) (σ:St),zUK N C cK LO c p K σ=some r→Gets K0 r (runC N C c K' σ)
 | .skip,p,K,K',hp,hK,σ,h=>hK _ _ h
 | .label _,p,K,K',hp,hK,σ,h=>hK _ _ h
 | .scope x,p,K,K',hp,hK,σ,h=>qXU hc hL x (0 :: p) (by simp only [uH,hp,qYZ]) hK σ h
 | .ret,p,K,K',hp,hK,σ,h=>hK _ _ h
 | .exit id,p,K,K',hp,hK,σ,h=>hK _ _ h
 | .region id ops d,p,K,K',hp,hK,σ,h=>by
  cases d with
  | true=>exact qWH hc (hK .normal) _ _ _ _ h
  | false=>exact qGW hc (hK .normal) _ _ h
 | .seq x y,p,K,K',hp,hK,σ,h=>by
  refine qXU hc hL x (0 :: p) (by simp only [uH,hp,qYZ]) (fun e τ hk => ?_) σ h;cases e with
  | normal=>exact qXU hc hL y (1 :: p) (by simp only [uH,hp,qYZ]) hK τ hk
  | _=>exact hK _ _ hk
 | .cond c x y,p,K,K',hp,hK,σ,h=>by
  simp only [zUK,vQQ] at h;obtain ⟨v,hv,h⟩:=h;simp only [runC,hv,vYQ];split at h
  ·rename_i t;cases t with
   | true=>exact qXU hc hL x (0 :: p) (by simp only [uH,hp,qYZ]) hK σ h
   | false=>exact qXU hc hL y (1 :: p) (by simp only [uH,hp,qYZ]) hK σ h
  ·cases h
 | .block id x,p,K,K',hp,hK,σ,h=>by
  refine qXU hc hL x (0 :: p) (by simp only [uH,hp,qYZ]) (fun e τ hk => ?_) σ h;cases e with
  | exit id' =>
   simp only at hk ⊢;cases hb:Nat.beq id' id with
   | true=>rw [hb] at hk; exact hK _ _ hk
   | false=>rw [hb] at hk; exact hK _ _ hk
  | _=>exact hK _ _ hk
 | .loop x,p,K,K',hp,hK,σ,h=>by
  simp only [zUK] at h;simp only [runC];have h':zJV (fun again σ=>qVQ N C cK x (fun e σ=>match e with
     | .normal=>again σ
     | e=>K e (qKZ (C.T.hint C.me (qJ x)) σ)) (qUX (C.T.hint C.me (qJ x)) σ)) N σ=some r:=by
   cases hS:LO p with
   | none=>rw [hS] at h; exact h
   | some S =>
    rw [hS] at h
    have:=hL p S hS
    rw [hp] at this;rw [loopN_LF];exact this K _ r h
  refine qHJ (fun a a' ha τ hs => ?_) N σ h';refine qJU hc x (fun e υ hk => ?_) _ hs;cases e with
  | normal=>exact ha _ hk
  | _=>exact hK _ _ hk
 | .rangeFunc ..,p,K,K',hp,hK,σ,h=>by cases h
 | .goto _,p,K,K',hp,hK,σ,h=>by cases h
 | .refuse _,p,K,K',hp,hK,σ,h=>by cases h
end
def cxF (T:Tab) (ok:OrK) (N f n:Nat):Cx:=⟨T,qGZ ok.orc (runF T ok.orc N),zZU ok.orc (runF T ok.orc N),f,n⟩
def ckF (T:Tab) (ok:OrK) (N:Nat):qUZ:=yQQ ok (jGK T ok N)
def zYW (T:Tab) (f:Nat):Code:=match T.fn f with
 | some fi=>fi.body
 | none=>.skip
def ntmF (T:Tab) (f:Nat):Nat:=match T.fn f with
 | some fi=>fi.ntmps
 | none=>0
def qHV (T:Tab) (ok:OrK) (LO:List Nat→Option jK) (N f:Nat) (ps:List PV):Option (Ret × Mem):=match T.fn f with
 | none=>none
 | some fi=>bif Nat.ble (ps.map HV.v).length fi.ntmps then zUK N (cxF T ok N f (ntmF T f)) (ckF T ok N) LO (zYW T f) [] (fun e σ=>(endK T [] fi.results e σ).bind fun r=>some (r.1,[])) ⟨initS 0 (ps.map .v),[]⟩ else none
theorem jXK {T:Tab} {ok:OrK} {N f n:Nat}:SndK (cxF T ok N f n) (ckF T ok N):=fun g qs K' r' hk=>by
 unfold ckF yQQ at hk;show ∃ x,qGZ ok.orc (runF T ok.orc N) g qs=some x∧K' x=some r';unfold qGZ;cases ho:ok g with
 | some o =>
  rw [ho] at hk;simp only [vQQ] at hk;obtain ⟨x,hx,hk⟩:=hk;obtain ⟨h1,hk⟩:=qY hk;exact ⟨x.2,by simp only [OrK.orc,ho,hx,vYQ,h1,vYV],hk⟩
 | none =>
  rw [ho] at hk;obtain ⟨x,M,hx,hk⟩:=zVQ N g qs K' r' hk;have e:ok.orc.a g=none:=by simp only [OrK.orc,ho,Option.bind_none]
  exact ⟨x,by simp only [e,hx,vYQ],hk⟩
def qQ (T:Tab) (f:Nat) (p:List Nat):Code:=qYZ 0 (uH (zYW T f) p)
theorem uX {P:Program} {T:Tab} {ok:OrK} {LO:List Nat→Option jK} {N f:Nat} {ps:List PV} {r:Ret} (hT:TabOk P T) (hm:P.follows .mixedOrders=true) (hO:ok.Ok P)
  (hL:∀ p S,LO p=some S→jYK N (cxF T ok N f (ntmF T f)) (ckF T ok N) (qQ T f p) S) (h:qHV T ok LO N f ps=some (r,[])):yK P f ps r:=by
 refine qKJ (N:=N + 1) hT hm hO.orc ?_;unfold qHV at h;split at h
 ·cases h
 ·rename_i fi hfi;obtain ⟨hb,h⟩:=qY h;obtain ⟨q,h1,h2⟩:=qXU (K0:=fun q=>some (q.1,[])) (K':=endK T [] fi.results) (B:=zYW T f) jXK hL (zYW T f) [] rfl (fun e σ hk=>by
   simp only [vQQ] at hk;exact hk) _ h
  cases h2;have eb:zYW T f=fi.body:=by unfold zYW; rw [hfi]
  have en:ntmF T f=fi.ntmps:=by unfold ntmF; rw [hfi]
  rw [eb,en] at h1;unfold run;simp only [runF,hfi,hb,vYV];unfold cxF at h1;rw [h1];rfl
noncomputable def gSt (a b:St):Bool:=@decide (a=b) (vYJ _)
theorem yU (a:St):gSt a a=true:=@vJQ _ (vYJ _) rfl
theorem kYQ {a b:St} (h:gSt a b=true):a=b:=@vJZ _ (vYJ _) h
noncomputable def uU (s:St) (R:Cont→Option (Ret × Mem)):jK:=fun σ K=>bif gSt σ s then R K else none
theorem qJH {N:Nat} {C:Cx} {cK:qUZ} {x:Code} {s:St} {R:Cont→Option (Ret × Mem)} (h:∀ K r,R K=some r→LF N C cK x (C.T.hint C.me (qJ x)) K N s=some r):jYK N C cK x (uU s R):=fun K σ r hr=>by
 unfold uU at hr;obtain ⟨hg,hq⟩:=qY hr;have e:=kYQ hg;subst e;exact h K r hq
def qZ (l:List (List Nat × jK)) (p:List Nat):Option jK:=match l with
 | []=>none
 | x :: xs=>bif yXJ x.1 p then some x.2 else qZ xs p
theorem qZK {N:Nat} {C:Cx} {cK:qUZ} {L:List Nat→Code}:∀ {l:List (List Nat × jK)},AllP (fun x:List Nat × jK=>jYK N C cK (L x.1) x.2) l→∀ p S,qZ l p=some S→jYK N C cK (L p) S
 | [],_,p,S,h=>by cases h
 | x :: xs,hl,p,S,h=>by
  simp only [qZ] at h;cases hb:yXJ x.1 p with
  | true =>
   rw [hb] at h;simp only [vYV,vQZ] at h;subst h
   have:=yJQ hb
   subst this;exact hl.1
  | false =>
   rw [hb] at h;exact qZK hl.2 p S h
end Go.Rx
namespace Go.Rx
open Go.RowKit Go.Sx
theorem own_mem {D:Nat→Prop} {G:World→Prop} {e sz cap k:Nat} {a:Option Addr} {ys:List Value} {w:World} (hd:qWV D G) (hG:G w) (hi:∀ w,G w→OwnF 0 e sz a cap k ys w):∀ ad,a=some ad→D ad.block:=by
 rintro ad rfl
 apply Classical.byContradiction;intro hn;obtain ⟨_,h1⟩:=hi w hG;rcases h1 with ⟨h1,_⟩ | ⟨g,cp,cur,hv,_,hb,_,_,hs,_⟩
 ·cases h1
 ·simp only [Value.slice.injEq,vQZ] at hv;obtain ⟨rfl,_,rfl⟩:=hv;have hlt:g < w.heap.size:=qZY hb;have hG':G { w with heap:=w.heap.setIfInBounds g (.cells (cur.push (.bool true)) e (0,0)) }:=hd w _ (fun k hk=>by
   have e:g ≠ k:=fun e=>hn (e ▸ hk)
   show (w.heap.setIfInBounds g _)[k]? = _;exact Array.getElem?_setIfInBounds_ne e) hG
  obtain ⟨_,h2⟩:=hi _ hG';rcases h2 with ⟨h2,_⟩ | ⟨g',cp',cur',hv',_,hb',_,_,hs',_⟩
  ·cases h2
  ·simp only [Value.slice.injEq,vQZ,Addr.mk.injEq] at hv';obtain ⟨⟨rfl,_⟩,_,rfl⟩:=hv';have hb2:(w.heap.setIfInBounds g (.cells (cur.push (.bool true)) e (0,0)))[g]? = some (.cells cur' e (0,0)):=hb';rw [Array.getElem?_setIfInBounds_self_of_lt hlt] at hb2;simp only [vQZ,Obj.cells.injEq] at hb2;rw [← hb2.1,Array.size_push,hs] at hs';omega
theorem al_flat {F:Nat→Prop} {w:World} {sz:Nat} {rows:List (List PV)} (hs:qVJ sz rows=true):Al (Al (RP F w)) rows (qUU rows)∧(∀ v ∈ qUU rows,∀ u ∈ v,u.oneCell'=true):=by
 unfold qUU;refine ⟨⟨by simp,fun i r v hr hv => ?_⟩,fun v hv u hu => ?_⟩
 ·rw [vZY,hr] at hv;cases hv;refine ⟨by simp,fun j p u hp hu => ?_⟩;rw [vZY,hp] at hu;cases hu;exact (zKK ((qUV hs (vQG hr)).2 p (vQG hp))).1
 ·obtain ⟨r,hr,rfl⟩:=List.mem_map.1 hv;obtain ⟨p,hp,rfl⟩:=List.mem_map.1 hu;exact (zKK (F:=F) (w:=w) ((qUV hs hr).2 p hp)).2
theorem snd_toldOw {P:Program} {f:Nat} {ps:List PV} {e sz:Nat} {rows:List (List PV)} {Φ:Option Addr × Nat→Prop} (hent:uW P f) (hs:qVJ sz rows=true) (h0:0 < sz)
  (h:∀ (w:World) (F:Nat→Prop) (vals:List Value),(∀ k,F k→k < w.heap.size)→Al (RP F w) ps vals→Calls P f vals.toArray w (kWW Φ (fun x=>.slice x.1 rows.length x.2) (fun x=>OwnF 0 e sz x.1 x.2 rows.length (qUU rows).flatten) w)):yK P f ps (.ow e sz rows):=by
 refine ⟨hent,fun w F vals hF hal=>(h w F vals hF hal).mono ?_⟩
 rintro en w' ⟨x,hx,rfl,hg,D,h1,h2,h3⟩
 have hal:=al_flat (F:=F) (w:=w') hs;refine ⟨_,F,rfl,hg,fun k hk=>hk,fun k hk=>.inl hk,x.1,x.2,qUU rows,rfl,h0,hal.1,fun r hr=>(qUV hs hr).1,hal.2,h3,fun b hb => ?_⟩;obtain ⟨ad,ha,rfl⟩:=Option.map_eq_some_iff.1 hb;have hD:=h2 _ (own_mem h1 h3 (fun _ h=>h) ad ha);exact ⟨fun hk=>by have:=hF _ hk; omega,hD.1,hD.2⟩
end Go.Rx
namespace Go.Rx
open Go.RowKit Go.Sx
def zHU {β:Type} (good:Nat→Bool) (KX:β) (KR:Nat→β):Nat→Nat→β
 | 0,_=>KX
 | k + 1,p=>bif good p then zHU good KX KR k (p + 1) else KR p
def allN (good:Nat→Bool):Nat→Nat→Bool
 | 0,_=>true
 | k + 1,p=>good p && allN good k (p + 1)
theorem yH {β:Type} (good:Nat→Bool) (x y:β):∀ k p,zHU good x (fun _=>y) k p=bif allN good k p then x else y
 | 0,_=>rfl
 | k + 1,p=>by
  simp only [zHU,allN,yH good x y k (p + 1)];cases good p <;> rfl
theorem allN_iff {good:Nat→Bool}:∀ {k p:Nat},allN good k p=true ↔ ∀ j,p≤j→j < p + k→good j=true
 | 0,p=>⟨fun _ j h1 h2=>by omega,fun _=>rfl⟩
 | k + 1,p=>by
  simp only [allN,vQJ,allN_iff (k:=k)];exact ⟨fun h j h1 h2=>by
   rcases Nat.eq_or_lt_of_le h1 with e | e
   ·exact e ▸ h.1
   ·exact h.2 j e (by omega),fun h=>⟨h p (Nat.le_refl _) (by omega),fun j h1 h2=>h j (by omega) (by omega)⟩⟩
def firstK (good:Nat→Bool):Nat→Nat→Nat
 | 0,p=>p
 | k + 1,p=>bif good p then firstK good k (p + 1) else p
theorem uG {β:Type} (good:Nat→Bool) (x:β) (y:Nat→β):∀ k p,zHU good x y k p=bif allN good k p then x else y (firstK good k p)
 | 0,_=>rfl
 | k + 1,p=>by
  simp only [zHU,allN,firstK,uG good x y k (p + 1)];cases good p <;> rfl
def yWK (N:Nat) (C:Cx) (cK:qUZ) (x:Code) (h:Hint) (K:Cont) (G:St→Option (Ret × Mem)) (σ:St):Option (Ret × Mem):=qVQ N C cK x (fun e τ=>match e with
 | .normal=>G (qUX h τ)
 | e=>K e (qKZ h τ)) σ
theorem LF_succ {N:Nat} {C:Cx} {cK:qUZ} {x:Code} {h:Hint} {K:Cont} {n:Nat} {σ:St}:LF N C cK x h K (n + 1) σ=yWK N C cK x h K (fun σ=>LF N C cK x h K n σ) σ:=rfl
theorem yKY {N:Nat} {C:Cx} {cK:qUZ} {x:Code} {h:Hint} {K:Cont} (hd:Int→St) (good:Nat→Bool) {c:Nat} (KX:Option (Ret × Mem)) (KR:Nat→Option (Ret × Mem))
  (r1:∀ G (i:Nat),i < c→yWK N C cK x h K G (hd (i:Int))=bif good i then G (hd ((i + 1:Nat):Int)) else KR i)
  (r2:∀ G,yWK N C cK x h K G (hd (c:Int))=KX):∀ (k p q:Nat),p + k=c→k < q→LF N C cK x h K q (hd (p:Int))=zHU good KX KR k p
 | 0,p,q + 1,hp,_=>by
  rw [LF_succ,show p=c by omega];exact r2 _
 | k + 1,p,q + 1,hp,hq=>by
  rw [LF_succ,r1 _ p (by omega),yKY hd good KX KR r1 r2 k (p + 1) q (by omega) (by omega)];rfl
theorem rows_fn {α:Type} (d:α) (f:α→List PV) (l:List α):l.map f=(List.range l.length).map fun i=>f (l.getD i d):=by
 refine List.ext_getElem? fun i => ?_
 rw [vZY,vZY];by_cases h:i < l.length
 ·rw [List.getElem?_range h,vQK h];simp [vZG,h]
 ·rw [List.getElem?_eq_none (by omega),List.getElem?_eq_none (by simp; omega)];rfl
theorem snd_args {P:Program} {f:Nat} {ps ps':List PV} {r:Ret} (hs:∀ F w vals,Al (RP F w) ps' vals→Al (RP F w) ps vals) (h:yK P f ps r):yK P f ps' r :=
 ⟨h.1,fun w F vals hF hal=>h.2 w F vals hF (hs F w vals hal)⟩
theorem qZZ {P:Program} {f:Nat} {ps:List PV} {x y:PV} (hs:∀ F w v,RP F w x v→RP F w y v) (h:yK P f ps (.v x)):yK P f ps (.v y) :=
 ⟨h.1,fun w F vals hF hal=>(h.2 w F vals hF hal).mono fun _ w' ⟨v,F',he,hg,f1,f2,hr⟩=>⟨v,F',he,hg,f1,f2,hs F' w' v hr⟩⟩
theorem rp_lf_l {F:Nat→Prop} {w:World} {n:Nat} {f:Nat→List PV} {rows:List (List PV)} {v:Value} (e:rows=(List.range n).map f) (h:RP F w (.l rows) v):RP F w (.lf n f) v:=.lf n f v (e ▸ h)
theorem zVY {F:Nat→Prop} {w:World} {n:Nat} {f:Nat→List PV} {rows:List (List PV)} {v:Value} (e:rows=(List.range n).map f) (h:RP F w (.lf n f) v):RP F w (.l rows) v:=by
 cases h with
 | lf _ _ _ h=>exact e ▸ h
def Same (x y:PV):Prop:=∀ F w v,RP F w x v→RP F w y v
theorem Same.refl (x:PV):Same x x:=fun _ _ _ h=>h
theorem Same.lf {n:Nat} {f:Nat→List PV} {rows:List (List PV)} (e:rows=(List.range n).map f):Same (.l rows) (.lf n f):=fun _ _ _=>rp_lf_l e
theorem Same.l {n:Nat} {f:Nat→List PV} {rows:List (List PV)} (e:rows=(List.range n).map f):Same (.lf n f) (.l rows):=fun _ _ _=>zVY e
def Sames:List PV→List PV→Prop
 | [],[]=>True
 | x :: xs,y :: ys=>Same x y∧Sames xs ys
 | _,_=>False
theorem Sames.al {F:Nat→Prop} {w:World}:∀ {xs ys:List PV} {vs:List Value},Sames xs ys→Al (RP F w) xs vs→Al (RP F w) ys vs
 | [],[],_,_,h=>h
 | x :: xs,y :: ys,vs,hs,h=>by
  obtain ⟨v,vs,rfl,h1,h2⟩:=qWY h;exact qJZ (hs.1 F w v h1) (Sames.al hs.2 h2)
 | [],_ :: _,_,h,_=>h.elim
 | _ :: _,[],_,h,_=>h.elim
theorem Same.a {xs ys:List PV} (h:Sames xs ys):Same (.a xs) (.a ys):=fun F w v hv=>by
 cases hv with
 | a _ vs hl h1 hh =>
  have:=Sames.al h (show Al (RP F w) xs vs from ⟨hl,hh⟩)
  exact .a ys vs this.1 h1 this.2
theorem Same.t {xs ys:List PV} (h:Sames xs ys):Same (.t xs) (.t ys):=fun F w v hv=>by
 cases hv with
 | t _ vs hl hh =>
  have:=Sames.al h (show Al (RP F w) xs vs from ⟨hl,hh⟩)
  exact .t ys vs this.1 this.2
theorem jJY {P:Program} {f e sz:Nat} {ps:List PV} {rows:List (List PV)} (h:yK P f ps (.ow e sz rows)):yK P f ps (.v (.l rows)):=by
 refine ⟨h.1,fun w F vals hF hal=>(h.2 w F vals hF hal).mono ?_⟩
 rintro en w' ⟨v,F',he,hg,f1,f2,hr⟩
 obtain ⟨F2,f3,f4,hx⟩:=hr.pv (x:=.l rows) rfl;refine ⟨v,F2,he,hg,fun k hk=>f3 k (f1 k hk),fun k hk => ?_,hx⟩;rcases f4 k hk with h | h
 ·exact f2 k h
 ·exact .inr h
end Go.Rx
namespace Go.Rx
open Go.RowKit Go.Sx Go.ChangeShapes Go.WideShapes
section
variable {P:Program} {W:World} {H:Type} {enc:TypeId × Value→H}
def Fits (row:List Sh) (ps:List PV):Prop:=ps.length=row.length∧∀ (i:Nat) sh p,row[i]? = some sh→ps[i]? = some p→Fit sh p
theorem Fits.cons {s0:Sh} {row:List Sh} {ps:List PV} (h:Fits (s0 :: row) ps):∃ p qs,ps=p :: qs∧Fit s0 p∧Fits row qs:=by
 cases ps with
 | nil=>have:=h.1; simp at this
 | cons p qs=>exact ⟨p,qs,rfl,h.2 0 s0 p rfl rfl,by have:=h.1; simpa using this,fun i sh q h1 h2=>h.2 (i + 1) sh q h1 h2⟩
theorem Fits.nil {ps:List PV} (h:Fits [] ps):ps=[]:=List.eq_nil_of_length_eq_zero h.1
theorem Fit.int {k:IntKind} {p:PV} (h:Fit (.i k) p):∃ x,p=.n k x∧(Lit.int k x).wf=true:=by cases h with | i k x h=>exact ⟨x,rfl,h⟩
theorem Fit.str {p:PV} (h:Fit .s p):∃ x,p=.s x:=by cases h with | s x h=>exact ⟨x,rfl⟩
theorem Fit.bool {p:PV} (h:Fit .b p):∃ x,p=.b x:=by cases h with | b x=>exact ⟨x,rfl⟩
theorem Fit.slc {row:List Sh} {p:PV} (h:Fit (.l row) p):∃ n f,p=.lf n f∧∀ j,j < n→Fits row (f j):=by
 cases h with
 | l row n f hn hl h=>exact ⟨n,f,rfl,fun j hj=>⟨hl j hj,h j hj⟩⟩
theorem open_good {t:TypeId} {v:Value} {d:DataW H} {p:List MemPlace} {g:Nat} {shs:List Sh} (h:DataW.Trod enc P W 0 (fun _=>true) true t v d p) (hs:shT P g t=some shs):Good W shs v.cells.toList:=by
 obtain ⟨fuel,h⟩:=h;exact yWY fuel t _ _ g shs h hs
theorem open_str {t:TypeId} {fs:Array Field} {v:Value} {d:DataW H} {p:List MemPlace} {g:Nat} {row:List Sh} (ht:P.underlying t=some (.struct fs)) {r:Reach} {base:Nat} (hv:Value.okWide P W r base t v)
  (h:DataW.Trod enc P W 0 (fun _=>true) true t v d p) (hs:shT P g t=some row):∃ ps,RP (fun k=>k < W.heap.size) W (.a ps) v∧Fits row ps:=by
 have hcs:∃ cs,v=.agg cs:=by
  unfold Value.okWide at hv;cases v <;> simp [ht] at hv
  exact ⟨_,rfl⟩
 obtain ⟨cs,rfl⟩:=hcs;obtain ⟨ps,h1,h2,h3,h4⟩:=open_good h hs;exact ⟨ps,.a ps cs.toList h3.1 h4 h3.2,h1,h2⟩
theorem qWW {n:Nat} {f g:Nat→List PV} (h:∀ j,j < n→f j=g j):Same (.lf n f) (.lf n g):=fun F w v hv =>
 rp_lf_l (List.map_congr_left fun j hj=>h j (List.mem_range.1 hj)) (zVY rfl hv)
end
end Go.Rx
namespace Go.Rx
open Go.RowKit Go.Sx
def qQZ (N:Nat) (C:Cx) (x:Code) (S:jK):Prop:=∀ (K K':Cont) (K0:Ret × Mem→Option (Ret × Mem)) (σ:St) (r:Ret × Mem),(∀ e τ,K e τ=some r→Gets K0 r (K' e τ))→S (qUX (C.T.hint C.me (qJ x)) σ) K=some r →
 Gets K0 r (zJV (fun again σ=>runC N C x (fun e σ=>match e with
   | .normal=>again σ
   | e=>K' e (qKZ (C.T.hint C.me (qJ x)) σ)) (qUX (C.T.hint C.me (qJ x)) σ)) N σ)
section
variable {C:Cx} {cK:qUZ} {r:Ret × Mem} {K0:Ret × Mem→Option (Ret × Mem)}
theorem qKK {N:Nat} {LO:List Nat→Option jK} {B:Code} (hc:SndK C cK) (hL:∀ p S,LO p=some S→qQZ N C (qYZ 0 (uH B p)) S):∀ (c:Code) (p:List Nat) {K K':Cont} (hp:uH B p=c) (hK:∀ e σ,K e σ=some r→Gets K0 r (K' e σ)) (σ:St),zUK N C cK LO c p K σ=some r→Gets K0 r (runC N C c K' σ)
 | .skip,p,K,K',hp,hK,σ,h=>hK _ _ h
 | .label _,p,K,K',hp,hK,σ,h=>hK _ _ h
 | .scope x,p,K,K',hp,hK,σ,h=>qKK hc hL x (0 :: p) (by simp only [uH,hp,qYZ]) hK σ h
 | .ret,p,K,K',hp,hK,σ,h=>hK _ _ h
 | .exit id,p,K,K',hp,hK,σ,h=>hK _ _ h
 | .region id ops d,p,K,K',hp,hK,σ,h=>by
  cases d with
  | true=>exact qWH hc (hK .normal) _ _ _ _ h
  | false=>exact qGW hc (hK .normal) _ _ h
 | .seq x y,p,K,K',hp,hK,σ,h=>by
  refine qKK hc hL x (0 :: p) (by simp only [uH,hp,qYZ]) (fun e τ hk => ?_) σ h;cases e with
  | normal=>exact qKK hc hL y (1 :: p) (by simp only [uH,hp,qYZ]) hK τ hk
  | _=>exact hK _ _ hk
 | .cond c x y,p,K,K',hp,hK,σ,h=>by
  simp only [zUK,vQQ] at h;obtain ⟨v,hv,h⟩:=h;simp only [runC,hv,vYQ];split at h
  ·rename_i t;cases t with
   | true=>exact qKK hc hL x (0 :: p) (by simp only [uH,hp,qYZ]) hK σ h
   | false=>exact qKK hc hL y (1 :: p) (by simp only [uH,hp,qYZ]) hK σ h
  ·cases h
 | .block id x,p,K,K',hp,hK,σ,h=>by
  refine qKK hc hL x (0 :: p) (by simp only [uH,hp,qYZ]) (fun e τ hk => ?_) σ h;cases e with
  | exit id' =>
   simp only at hk ⊢;cases hb:Nat.beq id' id with
   | true=>rw [hb] at hk; exact hK _ _ hk
   | false=>rw [hb] at hk; exact hK _ _ hk
  | _=>exact hK _ _ hk
 | .loop x,p,K,K',hp,hK,σ,h=>by
  simp only [zUK] at h;simp only [runC];cases hS:LO p with
  | none =>
   rw [hS] at h;refine qHJ (fun a a' ha τ hs => ?_) N σ h;refine qJU hc x (fun e υ hk => ?_) _ hs;cases e with
   | normal=>exact ha _ hk
   | _=>exact hK _ _ hk
  | some S =>
   rw [hS] at h
   have:=hL p S hS
   rw [hp] at this;exact this K K' K0 σ r hK h
 | .rangeFunc ..,p,K,K',hp,hK,σ,h=>by cases h
 | .goto _,p,K,K',hp,hK,σ,h=>by cases h
 | .refuse _,p,K,K',hp,hK,σ,h=>by cases h
end
def jGY (N:Nat) (C:Cx) (cK:qUZ) (LO:List Nat→Option jK) (x:Code) (p:List Nat) (h:Hint) (K:Cont) (G:St→Option (Ret × Mem)) (σ:St):Option (Ret × Mem):=zUK N C cK LO x (0 :: p) (fun e τ=>match e with
 | .normal=>G (qUX h τ)
 | e=>K e (qKZ h τ)) σ
def LFL (N:Nat) (C:Cx) (cK:qUZ) (LO:List Nat→Option jK) (x:Code) (p:List Nat) (h:Hint) (K:Cont):Nat→St→Option (Ret × Mem)
 | 0,_=>none
 | n + 1,σ=>jGY N C cK LO x p h K (LFL N C cK LO x p h K n) σ
theorem LFL_get {N:Nat} {C:Cx} {cK:qUZ} {LO:List Nat→Option jK} {B x:Code} {p:List Nat} {K K':Cont} {K0:Ret × Mem→Option (Ret × Mem)} {r:Ret × Mem} (hc:SndK C cK) (hL:∀ p S,LO p=some S→qQZ N C (qYZ 0 (uH B p)) S) (hx:uH B (0 :: p)=x)
  (hK:∀ e τ,K e τ=some r→Gets K0 r (K' e τ)):∀ (n:Nat) (σ:St),LFL N C cK LO x p (C.T.hint C.me (qJ x)) K n (qUX (C.T.hint C.me (qJ x)) σ)=some r→Gets K0 r (zJV (fun again σ=>runC N C x (fun e σ=>match e with
   | .normal=>again σ
   | e=>K' e (qKZ (C.T.hint C.me (qJ x)) σ)) (qUX (C.T.hint C.me (qJ x)) σ)) n σ)
 | 0,σ,h=>by cases h
 | n + 1,σ,h=>by
  simp only [LFL,jGY] at h;simp only [zJV];refine qKK hc hL x (0 :: p) hx (fun e τ hk => ?_) _ h;cases e with
  | normal=>exact LFL_get hc hL hx hK n τ hk
  | _=>exact hK _ _ hk
theorem loopOk2_of {N:Nat} {C:Cx} {cK:qUZ} {LO:List Nat→Option jK} {B x:Code} {p:List Nat} {S:jK} (hc:SndK C cK) (hL:∀ p S,LO p=some S→qQZ N C (qYZ 0 (uH B p)) S) (hx:uH B (0 :: p)=x)
  (hS:∀ K σ r,S σ K=some r→LFL N C cK LO x p (C.T.hint C.me (qJ x)) K N σ=some r):qQZ N C x S:=fun K _ _ σ r hK h =>
 LFL_get hc hL hx hK N σ (hS K _ r h)
theorem zU {N:Nat} {C:Cx} {L:List Nat→Code}:∀ {l:List (List Nat × jK)},AllP (fun x:List Nat × jK=>qQZ N C (L x.1) x.2) l→∀ p S,qZ l p=some S→qQZ N C (L p) S
 | [],_,p,S,h=>by cases h
 | x :: xs,hl,p,S,h=>by
  simp only [qZ] at h;cases hb:yXJ x.1 p with
  | true =>
   rw [hb] at h;simp only [vYV,vQZ] at h;subst h
   have:=yJQ hb
   subst this;exact hl.1
  | false =>
   rw [hb] at h;exact zU hl.2 p S h
theorem runKL_sound2 {P:Program} {T:Tab} {ok:OrK} {LO:List Nat→Option jK} {N f:Nat} {ps:List PV} {r:Ret} (hT:TabOk P T) (hm:P.follows .mixedOrders=true) (hO:ok.Ok P)
  (hL:∀ p S,LO p=some S→qQZ N (cxF T ok N f (ntmF T f)) (qQ T f p) S) (h:qHV T ok LO N f ps=some (r,[])):yK P f ps r:=by
 refine qKJ (N:=N + 1) hT hm hO.orc ?_;unfold qHV at h;split at h
 ·cases h
 ·rename_i fi hfi;obtain ⟨hb,h⟩:=qY h;obtain ⟨q,h1,h2⟩:=qKK (K0:=fun q=>some (q.1,[])) (K':=endK T [] fi.results) (B:=zYW T f) jXK hL (zYW T f) [] rfl (fun e σ hk=>by
   simp only [vQQ] at hk;exact hk) _ h
  cases h2;have eb:zYW T f=fi.body:=by unfold zYW; rw [hfi]
  have en:ntmF T f=fi.ntmps:=by unfold ntmF; rw [hfi]
  rw [eb,en] at h1;unfold run;simp only [runF,hfi,hb,vYV];unfold cxF at h1;rw [h1];rfl
noncomputable def sumF {τ:Type} (hd:τ→St) (ex:St→τ) (R:τ→Cont→Option (Ret × Mem)):jK:=fun σ K=>bif gSt σ (hd (ex σ)) then R (ex σ) K else none
theorem sumF_ok {N:Nat} {T:Tab} {ok:OrK} {f:Nat} {LO:List Nat→Option jK} {p:List Nat} {τ:Type} {hd:τ→St} {ex:St→τ} {R:τ→Cont→Option (Ret × Mem)}
  (hL:∀ p S,LO p=some S→qQZ N (cxF T ok N f (ntmF T f)) (qQ T f p) S)
  (h:∀ s K r,R s K=some r→LFL N (cxF T ok N f (ntmF T f)) (ckF T ok N) LO (qQ T f p) p (T.hint f (qJ (qQ T f p))) K N (hd s)=some r):qQZ N (cxF T ok N f (ntmF T f)) (qQ T f p) (sumF hd ex R) :=
 loopOk2_of (B:=zYW T f) (cK:=ckF T ok N) jXK hL rfl fun K σ r hr=>by
  unfold sumF at hr;obtain ⟨hg,hq⟩:=qY hr;have e:=kYQ hg
  have:=h (ex σ) K r hq
  rw [← e] at this;exact this
theorem kJ {N:Nat} {C:Cx} {L:List Nat→Code}:∀ p S,qZ [] p=some S→qQZ N C (L p) S:=fun p S h=>by cases h
def runS {τ β:Type} (good:Nat→τ→Bool) (nx:Nat→τ→τ) (KX:τ→β) (KR:Nat→τ→β):Nat→Nat→τ→β
 | 0,_,s=>KX s
 | k + 1,p,s=>bif good p s then runS good nx KX KR k (p + 1) (nx p s) else KR p s
theorem uK {τ β:Type} {L:Nat→St→Option β} {stp:(St→Option β)→St→Option β} (hs:∀ n s,L (n + 1) s=stp (L n) s) (hd:Nat→τ→St) (Inv:Nat→τ→Prop) (good:Nat→τ→Bool) (nx:Nat→τ→τ) {c:Nat} (KX:τ→Option β) (KR:Nat→τ→Option β)
  (r1:∀ G i s,i < c→Inv i s→stp G (hd i s)=bif good i s then G (hd (i + 1) (nx i s)) else KR i s) (hi:∀ i s,i < c→Inv i s→good i s=true→Inv (i + 1) (nx i s))
  (r2:∀ G s,Inv c s→stp G (hd c s)=KX s):∀ k p q s,p + k=c→k < q→Inv p s→L q (hd p s)=runS good nx KX KR k p s
 | 0,p,q + 1,s,hp,_,hv=>by
  have e:p=c:=by omega
  subst e;rw [hs,r2 _ s hv]; rfl
 | k + 1,p,q + 1,s,hp,hq,hv=>by
  rw [hs,r1 _ p s (by omega) hv];simp only [runS];cases hg:good p s with
  | true=>exact uK hs hd Inv good nx KX KR r1 hi r2 k (p + 1) q (nx p s) (by omega) (by omega) (hi p s (by omega) hv hg)
  | false=>rfl
def yUH (g:Nat→List PV):Nat→Nat→(Nat→List PV)→Nat→List PV
 | 0,_,f=>f
 | k + 1,p,f=>yUH g k (p + 1) fun v=>qUY (Nat.beq v p) (g p) (f v)
theorem fillF_get (g:Nat→List PV):∀ (k p:Nat) (f:Nat→List PV) (v:Nat),yUH g k p f v=if p≤v∧v < p + k then g v else f v
 | 0,p,f,v=>by rw [yUH,if_neg (by omega)]
 | k + 1,p,f,v=>by
  rw [yUH,fillF_get g k (p + 1),qYQ,zUQ];by_cases h:v=p
  ·subst h;rw [if_neg (by omega),if_pos (by omega),vJQ rfl]; rfl
  ·rw [vYH h,vYG];by_cases h2:p + 1≤v∧v < p + 1 + k
   ·rw [if_pos h2,if_pos (by omega)]
   ·rw [if_neg h2,if_neg (by omega)]
theorem runS_fill {β:Type} {g:Nat→List PV} {KX:(Nat→List PV)→β} {KR:Nat→(Nat→List PV)→β}:∀ k p f,runS (fun _ _=>true) (fun i f v=>qUY (Nat.beq v i) (g i) (f v)) KX KR k p f=KX (yUH g k p f)
 | 0,_,_=>rfl
 | k + 1,p,f=>by
  simp only [runS,vYV];exact runS_fill k (p + 1) _
theorem same_fill {n:Nat} {g f:Nat→List PV}:Same (.lf n (yUH g n 0 f)) (.lf n g):=qWW fun j hj=>by rw [fillF_get,if_pos (by omega)]
end Go.Rx

/- Part 9 of the texts behind the last one: rules and contracts. No condition. -/
import Derived.Test.YtgmbkkkbfbocnaaGreatGC8
open Option renaming bind_eq_some_iff → vQQ, bind_some → vYQ
open Option.some renaming injEq → vQZ
open Prod.mk renaming injEq → vQY
open Bool renaming and_eq_true → vQJ, and_self → vZJ
open List renaming getElem?_eq_getElem → vQK, length_cons → vQW, mem_of_getElem? → vQG, all_eq_true → vZZ, getElem?_map → vZY, getD_eq_getElem?_getD → vZG
open Nat renaming eq_of_beq_eq_true → vQX, le_of_ble_eq_true → vZX
open Classical renaming propDecidable → vYJ
open Go.IntKind renaming wrap → vJJ
namespace Go.Rx
open Go.RowKit Go.Sx
section
abbrev α:=Ret × Mem
abbrev qUY:=Nat→List PV→(Ret→Option α)→Option α
def yGK (e:Eff) (K:Eff→Option α):Option α:=match e with
 | ⟨[],[],.v (.b c),[]⟩=>bif c then K (.val (.v (.b true))) else K (.val (.v (.b false)))
 | e=>K e
theorem yQJ (e:Eff) (K:Eff→Option α):yGK e K=K e:=by
 unfold yGK;split
 ·rename_i c; cases c <;> rfl
 ·rfl
def callEffK (C:Cx) (cK:qUY) (dst f:Nat) (args:List RV) (K:Eff→Option α):Option α :=
 (mapO RV.fz args).bind fun ps=>cK f ps fun r =>
  (bif args.all RV.still then yGW C.T C.me dst (catR RV.regs args) r
  else match r with
   | .v x=>bif x.flat then some (.val (.v x)) else none
   | .ow _ _ (.l rows)=>bif rows.all (fun r=>r.all PV.flat1) then some (.val (.v (.l rows))) else none
   | _=>none).bind fun e=>yGK e K
def zKG (s:ByteArray) (i:Nat):Int:=(((s[i]?).getD 0).toNat:Int)
def jXU (C:Cx) (cK:qUY) (dst:Nat) (op:Op) (vs:List RV) (K:Eff→Option α):Option α :=
 match op,vs with
 | .binOp .quo _ _ _ _,[.v (.n k x),.v (.n k' y)]=>bif decide (k=k') then (bif decide (y=0) then none else K (.val (.v (.n k (k.wrap (x.tdiv y)))))) else none
 | .binOp .rem _ _ _ _,[.v (.n k x),.v (.n k' y)]=>bif decide (k=k') then (bif decide (y=0) then none else K (.val (.v (.n k (x.tmod y))))) else none
 | .call ⟨.builtin .append,axs,ats⟩,[.o id e' sz rows,y]=>(match ats.toList with
   | [t,t']=>bif Nat.beq t t' then (C.T.sl t).bind fun e=>(jKG y).bind fun news=>bif news.ok e.2 then (bif Nat.beq e' e.1 && Nat.beq sz e.2 && !(y.ids.any (Nat.beq id)) then
     (bif decide (rows.len + news.len≤C.T.bd e.1) then K (.app id (.reg e' sz (rows.app news)) (.o id)) else none) else none) else none else none
   | _=>none)
 | .call ⟨.builtin .append,axs,ats⟩,[.nl,y]=>(match ats.toList with
   | [t,t']=>bif Nat.beq t t' then (C.T.sl t).bind fun e=>(jKG y).bind fun news=>bif news.ok e.2 then
     (bif decide (news.len≤C.T.bd e.1) then K (.new dst (.reg e.1 e.2 news) (.o dst)) else none) else none else none
   | _=>none)
 | .binOp .shl _ _ _ _,[.v (.n k x),.v (.n _ y)]=>bif decide (0≤y) then K (.val (.v (.n k (k.wrap (x * 2 ^ (min y.toNat k.bits)))))) else none
 | .binOp .shr _ _ _ _,[.v (.n k x),.v (.n _ y)]=>bif decide (0≤y) then K (.val (.v (.n k (x.fdiv (2 ^ (min y.toNat k.bits)))))) else none
 | .indexAddr t _ _,[.o id _ sz rows,.v (.n _ i)]=>(C.T.sl t).bind fun e=>bif inB i rows.len then (bif Nat.beq sz e.2 then K (.val (.q id i.toNat 0)) else none) else none
 | .makeSlice t _ _,[.v (.n _ n),.v (.n _ c)]=>(C.T.sl t).bind fun e=>(C.T.zr e.1).bind fun zs=>bif C.T.zf C.me then none else
   bif decide (0≤n) then bif decide (n≤c) then bif decide (c≤1000000) then K (.new dst (.reg e.1 e.2 (bif C.T.ff C.me then .fo n.toNat (fun _=>zs) else .l (qHX zs n.toNat))) (.o dst)) else none else none else none
 | .slice t _ lo hi none,.v (.lf n f) :: vs=>(yKQ lo hi vs).bind fun b=>(C.T.sl t).bind fun e=>bif inS b.1 b.2 n then (bif Nat.beq (f (loOf b.1)).length e.2 then K (.val (.v (.lf (hiOf b.2 n - loOf b.1) fun v=>f (v + loOf b.1)))) else none) else none
 | .slice t _ lo hi none,.o id e' sz rows :: vs=>(yKQ lo hi vs).bind fun b=>(match b with
   | (none,some j)=>(C.T.sl t).bind fun e=>bif Nat.beq sz e.2 then (bif decide (0≤j) then (bif decide (j.toNat≤rows.len) then K (.app id (.reg e' sz (rows.take j.toNat)) (.o id)) else none) else none) else none
   | _=>none)
 | .index t _ _,[.v (.s s),.v (.n _ i)]=>bif C.T.str t then (bif inB i s.size then K (.val (.v (.n .u8 (zKG s i.toNat)))) else none) else none
 | .next _ true,[.i id 0 s pos]=>bif decide (pos < s.size) then K (.set id (.itr s (pos + (Utf8.decode s pos).2)) (.v (.t [.b true,.n .i64 (pos:Int),.n .i32 ((Utf8.decode s pos).1:Int)]))) else K (.val (.v (.t [.b false])))
 | .indexAddr t _ _,[.v (.lf n f),.v (.n _ i)]=>(C.T.sl t).bind fun e=>bif inB i n then (bif Nat.beq (f i.toNat).length e.2 then K (.val (.v (.zf n f i.toNat 0))) else none) else none
 | .call ⟨.value fx,axs,ats⟩,.v (.f f first cap) :: vs=>bif C.T.rw f then (zV C.T C.cA C.cB C.me dst (.call ⟨.value fx,axs,ats⟩) (.v (.f f first cap) :: vs)).bind fun e=>yGK e K
   else callEffK C cK dst f (first.map .v ++ vs ++ cap.map .v) K
 | op,vs=>(zV C.T C.cA C.cB C.me dst op vs).bind fun e=>yGK e K
def goK (C:Cx) (cK:qUY) (o:Oper) (σ:St) (K:Eff × List RV→Option α):Option α :=
 bif dstB C.n o.dst then
  (mapO (opv (mode o.op) σ) o.op.operands.toList).bind fun vs=>jXU C cK (o.dst.getD 0) o.op vs fun e =>
   bif e.nw.all (fun id=>(yY σ.M id).isNone) then K (e,vs) else none
 else none
def yGU (C:Cx) (o:Oper) (K:Eff × List RV→Option α):Option α:=bif dstB C.n o.dst then K (.val (.v (.t [])),[]) else none
def jHX (C:Cx) (cK:qUY) (ops:Array Oper) (o:Oper) (σ:St) (K:Eff × List RV→Option α):Option α :=
 match o.guard with
 | none=>goK C cK o σ K
 | some (j,b)=>match (ops[j]?).bind (·.dst) with
  | some d=>match uH σ.S d with
   | some (.v (.b c))=>(match b with
    | true=>bif c then goK C cK o σ K else yGU C o K
    | false=>bif c then yGU C o K else goK C cK o σ K)
   | some (.v (.t []))=>yGU C o K
   | _=>none
  | none=>none
end
def yQG (C:Cx) (cK:qUY) (ops:Array Oper):List Oper→(St→Option (Ret × Mem))→St→Option (Ret × Mem)
 | [],K,σ=>K σ
 | o :: l,K,σ=>jHX C cK ops o σ fun r=>yQG C cK ops l K (σ.apply r.1 o.dst)
def zQW (C:Cx) (cK:qUY) (ops:Array Oper):Nat→List Oper→List Done→(St→Option (Ret × Mem))→St→Option (Ret × Mem)
 | _,[],acc,K,σ=>bif zVU ops acc.reverse && Sx.backB ops then K σ else none
 | i,o :: l,acc,K,σ=>jHX C cK ops o σ fun r=>zQW C cK ops (i + 1) l ((i,r) :: acc) K (σ.apply r.1 o.dst)
def qXK (N:Nat) (C:Cx) (cK:qUY):Code→(Ex→St→Option (Ret × Mem))→St→Option (Ret × Mem)
 | .skip,K,σ=>K .normal σ
 | .label _,K,σ=>K .normal σ
 | .scope x,K,σ=>qXK N C cK x K σ
 | .ret,K,σ=>K .ret σ
 | .exit id,K,σ=>K (.exit id) σ
 | .region _ ops d,K,σ=>bif d then zQW C cK ops 0 ops.toList [] (K .normal) σ else yQG C cK ops ops.toList (K .normal) σ
 | .seq x y,K,σ=>qXK N C cK x (fun e σ=>match e with
   | .normal=>qXK N C cK y K σ
   | e=>K e σ) σ
 | .cond c x y,K,σ=>(opv 1 σ c).bind fun v=>match v with
   | .v (.b t)=>bif t then qXK N C cK x K σ else qXK N C cK y K σ
   | _=>none
 | .block id x,K,σ=>qXK N C cK x (fun e σ=>match e with
   | .exit id'=>bif Nat.beq id' id then K .normal σ else K (.exit id') σ
   | e=>K e σ) σ
 | .loop x,K,σ=>zKQ (fun again σ=>qXK N C cK x (fun e σ=>match e with
   | .normal=>again σ
   | e=>K e (qJW (C.T.hint C.me (qU x)) σ)) (qUZ (C.T.hint C.me (qU x)) σ)) N σ
 | _,_,_=>none
abbrev OrK:=Nat→Option (List PV→Option (Bool × Ret))
def OrK.orc (o:OrK):Orc:=⟨fun g=>(o g).bind fun f=>some fun ps=>(f ps).bind fun x=>bif x.1 then some x.2 else none,fun _=>none⟩
def zVG (ok:OrK) (rK:qUY):qUY:=fun g ps K=>match ok g with
 | some o=>(o ps).bind fun x=>bif x.1 then K x.2 else none
 | none=>rK g ps K
def jUH (T:Tab) (ok:OrK):Nat→qUY
 | 0,_,_,_=>none
 | N + 1,f,ps,K=>match T.fn f with
  | none=>none
  | some fi=>bif Nat.ble (ps.map HV.v).length fi.ntmps then qXK N ⟨T,qWJ ok.orc (runF T ok.orc N),qHG ok.orc (runF T ok.orc N),f,fi.ntmps⟩ (zVG ok (jUH T ok N)) fi.body (fun e σ=>(endK T [] fi.results e σ).bind fun r=>K r.1) ⟨initS 0 (ps.map .v),[]⟩ else none
def runK (T:Tab) (ok:OrK) (N f:Nat) (ps:List PV):Option (Ret × Mem):=jUH T ok N f ps fun r=>some (r,[])
section
variable {C:Cx} {cK:qUY} {ops:Array Oper} {r:α}
def SndK (C:Cx) (cK:qUY):Prop:=∀ f ps K r,cK f ps K=some r→∃ x,C.cA f ps=some x∧K x=some r
theorem zZY {dst:Nat} {op:Op} {vs:List RV} {K:Eff→Option α} (hc:SndK C cK) (h:jXU C cK dst op vs K=some r):∃ e,zV C.T C.cA C.cB C.me dst op vs=some e∧K e=some r:=by
 unfold jXU at h;split at h
 ·rename_i k x k' y;obtain ⟨h1,h⟩:=qY h;cases hy:decide (y=0) with
  | true=>rw [hy] at h; cases h
  | false =>
   rw [hy] at h;refine ⟨_,?_,h⟩;simp [zV,binP,binI,h1,hy]
 ·rename_i k x k' y;obtain ⟨h1,h⟩:=qY h;cases hy:decide (y=0) with
  | true=>rw [hy] at h; cases h
  | false =>
   rw [hy] at h;refine ⟨_,?_,h⟩;simp [zV,binP,binI,h1,hy]
 ·rename_i axs ats id e' sz rows y;split at h
  ·rename_i t t' hts;obtain ⟨h1,h⟩:=qY h;simp only [vQQ] at h;obtain ⟨el,hel,news,hnews,h⟩:=h;obtain ⟨h2,h⟩:=qY h;obtain ⟨h3,h⟩:=qY h;obtain ⟨h4,h⟩:=qY h;refine ⟨_,?_,h⟩;rw [vQJ,vQJ] at h3;simp only [zV,hts,h1,vYV,hel,hnews,vYQ,h2,h3.1.1,h3.1.2,h3.2,h4,vZJ]
  ·cases h
 ·rename_i axs ats y;split at h
  ·rename_i t t' hts;obtain ⟨h1,h⟩:=qY h;simp only [vQQ] at h;obtain ⟨el,hel,news,hnews,h⟩:=h;obtain ⟨h2,h⟩:=qY h;obtain ⟨h4,h⟩:=qY h;refine ⟨_,?_,h⟩;simp only [zV,hts,h1,vYV,hel,hnews,vYQ,h2,h4]
  ·cases h
 ·rename_i k x _ y;obtain ⟨h1,h⟩:=qY h;refine ⟨_,?_,h⟩;simp [zV,binP,h1]
 ·rename_i k x _ y;obtain ⟨h1,h⟩:=qY h;refine ⟨_,?_,h⟩;simp [zV,binP,h1]
 ·rename_i t _ _ id _ sz rows _ i;simp only [vQQ] at h;obtain ⟨el,hel,h⟩:=h;obtain ⟨h1,h⟩:=qY h;obtain ⟨h2,h⟩:=qY h;exact ⟨_,by simp only [zV,hel,vYQ,h1,h2,vZJ,vYV],h⟩
 ·rename_i t _ _ _ n _ c;simp only [vQQ] at h;obtain ⟨el,hel,zs,hzs,h⟩:=h;cases hzf:C.T.zf C.me with
  | true=>rw [hzf] at h; cases h
  | false =>
  rw [hzf,vYG] at h;obtain ⟨h1,h⟩:=qY h;obtain ⟨h2,h⟩:=qY h;obtain ⟨h3,h⟩:=qY h;exact ⟨_,by simp only [zV,hel,hzs,hzf,vYQ,h1,h2,h3,Bool.false_and,vYG,vZJ,vYV],h⟩
 ·rename_i t _ lo hi n f vs;simp only [vQQ] at h;obtain ⟨b,hb,el,hel,h⟩:=h;obtain ⟨h1,h⟩:=qY h;obtain ⟨h2,h⟩:=qY h;exact ⟨_,by simp only [zV,hb,hel,vYQ,h1,h2,vYV],h⟩
 ·rename_i t _ lo hi id e' sz rows vs;simp only [vQQ] at h;obtain ⟨b,hb,h⟩:=h;split at h
  ·rename_i j;simp only [vQQ] at h;obtain ⟨el,hel,h⟩:=h;obtain ⟨h1,h⟩:=qY h;obtain ⟨h2,h⟩:=qY h;obtain ⟨h3,h⟩:=qY h;exact ⟨_,by simp only [zV,hb,hel,vYQ,h1,h2,h3,vZJ,vYV],h⟩
  ·cases h
 ·rename_i t _ _ s _ i;obtain ⟨h1,h⟩:=qY h;obtain ⟨h2,h⟩:=qY h;obtain ⟨i0,i1⟩:=qWH h2;refine ⟨_,?_,h⟩;have hb:s[i.toNat]? = some (s[i.toNat]'(by omega)):=getElem?_pos s i.toNat (by omega);simp only [zV,h1,vJQ i0,vZJ,vYV,zKG,hb,vYQ,Option.getD_some]
 ·rename_i id s pos;cases hp:decide (pos < s.size) with
  | true =>
   rw [hp] at h;exact ⟨_,by simp only [zV,hp,vYV],h⟩
  | false =>
   rw [hp] at h;exact ⟨_,by simp only [zV,hp,vYG],h⟩
 ·rename_i t _ _ n f _ i;simp only [vQQ] at h;obtain ⟨el,hel,h⟩:=h;obtain ⟨h1,h⟩:=qY h;obtain ⟨h2,h⟩:=qY h;exact ⟨_,by simp only [zV,hel,vYQ,h1,h2,vZJ,vYV],h⟩
 ·rename_i fx axs ats f first cap vs
  cases hrw:C.T.rw f with
  | true =>
   rw [hrw] at h;simp only [vYV,vQQ] at h;obtain ⟨e,he,h⟩:=h;rw [yQJ] at h;exact ⟨e,he,h⟩
  | false =>
   rw [hrw] at h;simp only [vYG,callEffK,vQQ] at h;obtain ⟨ps,hps,h⟩:=h;obtain ⟨x,hx,h⟩:=hc _ _ _ _ h;rw [vQQ] at h;obtain ⟨e,he,h⟩:=h;rw [yQJ] at h;refine ⟨e,?_,h⟩;simp only [zV,hrw,vYG,yYH,hps,hx,vYQ];exact he
 ·rw [vQQ] at h;obtain ⟨e,he,h⟩:=h;rw [yQJ] at h;exact ⟨e,he,h⟩
theorem yWW {o:Oper} {σ:St} {K:Eff × List RV→Option α} (hc:SndK C cK) (hg:qQY ops σ o=some true) (h:goK C cK o σ K=some r):∃ x,qUV C ops o σ=some x∧K x=some r:=by
 unfold goK at h;obtain ⟨hd,h⟩:=qY h;rw [vQQ] at h;obtain ⟨vs,hvs,h⟩:=h;obtain ⟨e,he,h⟩:=zZY hc h;obtain ⟨hn,h⟩:=qY h;exact ⟨(e,vs),zJQ hd (.inr ⟨hg,hvs,he,fun i hi=>by simpa using List.all_eq_true.1 hn i hi⟩),h⟩
theorem qXV {o:Oper} {σ:St} {K:Eff × List RV→Option α} (hg:qQY ops σ o=some false) (h:yGU C o K=some r):∃ x,qUV C ops o σ=some x∧K x=some r:=by
 unfold yGU at h;obtain ⟨hd,h⟩:=qY h;exact ⟨_,zJQ hd (.inl ⟨hg,rfl⟩),h⟩
theorem stepK_some {o:Oper} {σ:St} {K:Eff × List RV→Option α} (hc:SndK C cK) (h:jHX C cK ops o σ K=some r):∃ x,qUV C ops o σ=some x∧K x=some r:=by
 unfold jHX at h;cases hg:o.guard with
 | none=>rw [hg] at h; exact yWW hc (by unfold qQY; rw [hg]) h
 | some gb =>
  obtain ⟨j,b⟩:=gb;rw [hg] at h;simp only at h;split at h
  ·rename_i d hd;split at h
   ·rename_i c hlc;have gd:qQY ops σ o=some (c == b):=by
     unfold qQY;rw [hg];simp only [hd,hlc]
    cases b <;> cases c <;> simp only [vYV,vYG] at h
    ·exact yWW hc gd h
    ·exact qXV gd h
    ·exact qXV gd h
    ·exact yWW hc gd h
   ·rename_i hlc;exact qXV (by unfold qQY; rw [hg]; simp only [hd,hlc]) h
   ·cases h
  ·cases h
end
section
variable {C:Cx} {ops:Array Oper} {r:Ret × Mem}
def Gets (K0:Ret × Mem→Option (Ret × Mem)) (r:Ret × Mem) (x:Option (Ret × Mem)):Prop:=∃ q,x=some q∧K0 q=some r
variable {K0:Ret × Mem→Option (Ret × Mem)} {cK:qUY}
theorem zQZ (hc:SndK C cK) {K K':St→Option (Ret × Mem)} (hK:∀ σ,K σ=some r→Gets K0 r (K' σ)):∀ (l:List Oper) (σ:St),yQG C cK ops l K σ=some r→Gets K0 r (zVJ C ops l K' σ)
 | [],σ,h=>hK σ h
 | o :: l,σ,h=>by
  simp only [yQG] at h;obtain ⟨x,hx,h⟩:=stepK_some hc h;simp only [zVJ,hx,vYQ];exact zQZ hc hK l _ h
theorem qGJ (hc:SndK C cK) {K K':St→Option (Ret × Mem)} (hK:∀ σ,K σ=some r→Gets K0 r (K' σ)):∀ (l:List Oper) (i:Nat) (acc:List Done) (σ:St),zQW C cK ops i l acc K σ=some r→Gets K0 r (qXY C ops i l acc K' σ)
 | [],i,acc,σ,h=>by
  simp only [zQW] at h;obtain ⟨hp,h⟩:=qY h;simp only [qXY,hp,vYV];exact hK σ h
 | o :: l,i,acc,σ,h=>by
  simp only [zQW] at h;obtain ⟨x,hx,h⟩:=stepK_some hc h;simp only [qXY,hx,vYQ];exact qGJ hc hK l _ _ _ h
theorem zQH {s s':(St→Option (Ret × Mem))→St→Option (Ret × Mem)} (h:∀ a a':St→Option (Ret × Mem),(∀ σ,a σ=some r→Gets K0 r (a' σ))→∀ σ,s a σ=some r→Gets K0 r (s' a' σ)):∀ (n:Nat) (σ:St),zKQ s n σ=some r→Gets K0 r (zKQ s' n σ)
 | 0,σ,hs=>by cases hs
 | n + 1,σ,hs=>h _ _ (zQH h n) σ hs
theorem qJK {N:Nat} (hc:SndK C cK):∀ (c:Code) {K K':Ex→St→Option (Ret × Mem)} (hK:∀ e σ,K e σ=some r→Gets K0 r (K' e σ)) (σ:St),qXK N C cK c K σ=some r→Gets K0 r (runC N C c K' σ)
 | .skip,K,K',hK,σ,h=>hK _ _ h
 | .label _,K,K',hK,σ,h=>hK _ _ h
 | .scope x,K,K',hK,σ,h=>qJK hc x hK σ h
 | .ret,K,K',hK,σ,h=>hK _ _ h
 | .exit id,K,K',hK,σ,h=>hK _ _ h
 | .region id ops d,K,K',hK,σ,h=>by
  cases d with
  | true=>exact qGJ hc (hK .normal) _ _ _ _ h
  | false=>exact zQZ hc (hK .normal) _ _ h
 | .seq x y,K,K',hK,σ,h=>by
  refine qJK hc x (fun e τ hk => ?_) σ h;cases e with
  | normal=>exact qJK hc y hK τ hk
  | _=>exact hK _ _ hk
 | .cond c x y,K,K',hK,σ,h=>by
  simp only [qXK,vQQ] at h;obtain ⟨v,hv,h⟩:=h;simp only [runC,hv,vYQ];split at h
  ·rename_i t;cases t with
   | true=>exact qJK hc x hK σ h
   | false=>exact qJK hc y hK σ h
  ·cases h
 | .block id x,K,K',hK,σ,h=>by
  refine qJK hc x (fun e τ hk => ?_) σ h;cases e with
  | exit id' =>
   simp only at hk ⊢;cases hb:Nat.beq id' id with
   | true=>rw [hb] at hk; exact hK _ _ hk
   | false=>rw [hb] at hk; exact hK _ _ hk
  | _=>exact hK _ _ hk
 | .loop x,K,K',hK,σ,h=>by
  simp only [qXK] at h;simp only [runC];refine zQH (fun a a' ha τ hs => ?_) N σ h;refine qJK hc x (fun e υ hk => ?_) _ hs;cases e with
  | normal=>exact ha _ hk
  | _=>exact hK _ _ hk
 | .rangeFunc ..,K,K',hK,σ,h=>by cases h
 | .goto _,K,K',hK,σ,h=>by cases h
 | .refuse _,K,K',hK,σ,h=>by cases h
end
theorem zUX {T:Tab} {ok:OrK}:∀ (N f:Nat) (ps:List PV) (K:Ret→Option (Ret × Mem)) (r:Ret × Mem),jUH T ok N f ps K=some r→∃ x M,runF T ok.orc N f (ps.map .v) []=some (x,M)∧K x=some r
 | 0,f,ps,K,r,h=>by cases h
 | N + 1,f,ps,K,r,h=>by
  simp only [jUH] at h;split at h
  ·cases h
  ·rename_i fi hfi;obtain ⟨hb,h⟩:=qY h;have hc:SndK ⟨T,qWJ ok.orc (runF T ok.orc N),qHG ok.orc (runF T ok.orc N),f,fi.ntmps⟩ (zVG ok (jUH T ok N)):=fun g qs K' r' hk=>by
    unfold zVG at hk;show ∃ x,qWJ ok.orc (runF T ok.orc N) g qs=some x∧K' x=some r';unfold qWJ;cases ho:ok g with
    | some o =>
     rw [ho] at hk;simp only [vQQ] at hk;obtain ⟨x,hx,hk⟩:=hk;obtain ⟨h1,hk⟩:=qY hk;exact ⟨x.2,by simp only [OrK.orc,ho,hx,vYQ,h1,vYV],hk⟩
    | none =>
     rw [ho] at hk;obtain ⟨x,M,hx,hk⟩:=zUX N g qs K' r' hk;have e:ok.orc.a g=none:=by simp only [OrK.orc,ho,Option.bind_none]
     exact ⟨x,by simp only [e,hx,vYQ],hk⟩
   obtain ⟨q,h1,h2⟩:=qJK (K0:=fun q=>K q.1) (K':=endK T [] fi.results) hc fi.body (fun e σ hk=>by
    simp only [vQQ] at hk;exact hk) _ h
   refine ⟨q.1,q.2,?_,h2⟩;simp only [runF,hfi,hb,vYV];exact h1
theorem runK_some {T:Tab} {ok:OrK} {N f:Nat} {ps:List PV} {r:Ret} (h:runK T ok N f ps=some (r,[])):run T ok.orc N f ps=some r:=by
 obtain ⟨x,M,h1,h2⟩:=zUX N f ps _ _ h;cases h2;unfold run;rw [h1];rfl
def OrK.Ok (P:Program) (ok:OrK):Prop:=∀ g o,ok g=some o→∀ ps r,o ps=some (true,r)→yV P g ps r
theorem OrK.Ok.orc {P:Program} {ok:OrK} (h:ok.Ok P):OrcOk P ok.orc:=by
 refine ⟨fun g o ho ps r hr => ?_,fun g o ho=>by simp [OrK.orc] at ho⟩;simp only [OrK.orc,vQQ,vQZ] at ho;obtain ⟨f,hf,rfl⟩:=ho;simp only [vQQ] at hr;obtain ⟨x,hx,hr⟩:=hr;obtain ⟨h1,hr⟩:=qY hr;cases hr;exact h g f hf ps x.2 (by rw [hx,← h1])
theorem zY {P:Program} {T:Tab} {ok:OrK} {N f:Nat} {ps:List PV} {r:Ret} (hT:TabOk P T) (hm:P.follows .mixedOrders=true) (hO:ok.Ok P) (h:runK T ok N f ps=some (r,[])):yV P f ps r:=qKZ hT hm hO.orc (runK_some h)
abbrev OrL:=List (Nat × (List PV→Option (Bool × Ret)))
def OrL.k (l:OrL):OrK:=asc l
def zJ (P:Program) (f:Nat) (o:List PV→Option (Bool × Ret)):Prop:=∀ ps r,o ps=some (true,r)→yV P f ps r
theorem OrL.ok {P:Program} {l:OrL} (h:AllP (fun x:Nat × (List PV→Option (Bool × Ret))=>zJ P x.1 x.2) l):(OrL.k l).Ok P:=fun g o ho ps r hr=>h.of (qKQ ho) ps r hr
def listed (l:List (List PV × Ret)):List PV→Option (Bool × Ret):=fun ps=>(jGK l ps).bind fun r=>some (true,r)
def PV.val1:PV→Value
 | .n k x=>.int k x
 | .b x=>.bool x
 | .s x=>.string x
 | _=>.nilIface
def PV.val:PV→Value
 | .a cs=>.agg (cs.map PV.val1).toArray
 | x=>x.val1
theorem jQX {F:Nat→Prop} {w:World} {p:PV} {v:Value} (hp:p.flat1=true) (h:RP F w p v):v=p.val1:=by
 cases h <;> first | rfl | (simp [PV.flat1] at hp; done)
theorem zYZ {F:Nat→Prop} {w:World} {p:PV} (hp:p.flat1=true):RP F w p p.val1∧p.val1.oneCell'=true:=by
 cases p <;> first | (simp [PV.flat1] at hp; done) | exact ⟨by constructor,rfl⟩
theorem jXH {F:Nat→Prop} {w:World} {p:PV} {v:Value} (hp:p.flat2=true) (h:RP F w p v):v=p.val:=by
 cases p with
 | a cs =>
  cases h with
  | a _ vs hl h1 h =>
   have e:vs=cs.map PV.val1:=List.ext_getElem? fun i=>by
    rw [vZY];cases hc:cs[i]? with
    | none=>rw [Option.map_none,List.getElem?_eq_none (by have:=List.getElem?_eq_none_iff.1 hc; omega)]
    | some c =>
     have hi:=(List.getElem?_eq_some_iff.1 hc).1;have hv:vs[i]? = some (vs[i]'(by omega)):=vQK (by omega);rw [hv,Option.map_some,jQX (List.all_eq_true.1 hp c (vQG hc)) (h i c _ hc hv)]
   rw [e]; rfl
 | _=>exact jQX (by first | exact hp | (simp [PV.flat2,PV.flat1] at hp)) h
theorem val_rp {F:Nat→Prop} {w:World} {p:PV} (hp:p.flat2=true):RP F w p p.val:=by
 cases p with
 | a cs =>
  refine .a cs (cs.map PV.val1) (by simp) (fun v hv => ?_) fun i p v hi hv => ?_
  ·obtain ⟨c,hc,rfl⟩:=List.mem_map.1 hv;exact (zYZ (F:=F) (w:=w) (List.all_eq_true.1 hp c hc)).2
  ·rw [vZY,hi] at hv;cases hv;exact (zYZ (List.all_eq_true.1 hp p (vQG hi))).1
 | _=>exact (zYZ (by first | exact hp | (simp [PV.flat2,PV.flat1] at hp))).1
theorem qX {P:Program} {f:Nat} {ps:List PV} {x:PV} (hent:uY P f) (hp:ps.all PV.flat2=true) (hx:x.flat2=true) (h:∀ w,Calls P f (ps.map PV.val).toArray w (Rets x.val w)):yV P f ps (.v x):=by
 refine ⟨hent,fun w F vals hF hal => ?_⟩;have e:vals=ps.map PV.val:=List.ext_getElem? fun i=>by
  rw [vZY];have hl:=hal.1;cases hc:ps[i]? with
  | none=>rw [Option.map_none,List.getElem?_eq_none (by have:=List.getElem?_eq_none_iff.1 hc; omega)]
  | some c =>
   have hi:=(List.getElem?_eq_some_iff.1 hc).1;have hv:vals[i]? = some (vals[i]'(by omega)):=vQK (by omega);rw [hv,Option.map_some,jXH (List.all_eq_true.1 hp c (vQG hc)) (hal.2 i c _ hc hv)]
 rw [e];exact (h w).mono fun e w' ⟨he,hg⟩=>⟨x.val,F,he,hg,fun k hk=>hk,fun k hk=>.inl hk,val_rp hx⟩
theorem zZ {P:Program} {f:Nat} {ps:List PV} {x:PV} (h:yV P f ps (.v x)) (hp:ps.all PV.flat2=true) (hx:x.flat2=true) (w:World):Calls P f (ps.map PV.val).toArray w (Rets x.val w):=by
 refine Calls.mono (h.2 w (fun _=>False) (ps.map PV.val) (fun k hk=>hk.elim) ⟨by simp,fun i p v hi hv => ?_⟩) fun e w' ⟨v,F',he,hg,_,_,hr⟩=>⟨by rw [he,jXH hx hr],hg⟩
 rw [vZY,hi] at hv;cases hv;exact val_rp (List.all_eq_true.1 hp p (vQG hi))
end Go.Rx
namespace Go.Rx
open Go.RowKit Go.Sx
def qXW (sz:Nat) (rows:List (List PV)):Bool:=rows.all fun r=>Nat.beq r.length sz && r.all PV.flat1
def qKY (rows:List (List PV)):List (List Value):=rows.map fun r=>r.map PV.val1
theorem qKJ {sz:Nat} {rows:List (List PV)} (h:qXW sz rows=true) {r:List PV} (hr:r ∈ rows):r.length=sz∧∀ p ∈ r,p.flat1=true:=by
 have:=List.all_eq_true.1 h r hr
 rw [vQJ] at this;exact ⟨vQX this.1,List.all_eq_true.1 this.2⟩
theorem rp_of_slc {F:Nat→Prop} {w:World} {sz c:Nat} {a:Option Addr} {rows:List (List PV)} (hs:qXW sz rows=true) (hcap:rows.length≤c) (hS:qWK sz a (qKY rows) w)
  (hF:∀ b off,a=some ⟨b,off,none⟩→rows ≠ []→F b):RP F w (.l rows) (.slice a rows.length c):=by
 cases rows with
 | nil=>exact .l0 a c
 | cons r0 rs =>
  obtain ⟨_,b,off,ha,hb,_⟩:=hS 0 _ (by simp [qKY]; rfl);subst ha;refine .l (r0 :: rs) b off _ c sz (fun j t=>(((r0 :: rs).getD j []).getD t .ni).val1) rfl hcap (fun r hr=>(qKJ hs hr).1) (hF b off rfl (by simp)) (fun j t hj ht => ?_) (fun j r t p hj ht => ?_)
  ·have hr:(r0 :: rs)[j]? = some ((r0 :: rs)[j]'hj):=vQK hj;generalize (r0 :: rs)[j]'hj=r at hr;have hm:=qKJ hs (vQG hr);have htl:t < r.length:=by omega
   have hp:r[t]? = some (r[t]'htl):=vQK htl;obtain ⟨_,b',off',ha',_,hc⟩:=hS j (r.map PV.val1) (by unfold qKY; rw [vZY,hr]; rfl);cases ha';have hc:=hc t ht;rw [vZY,hp,Option.map_some] at hc;have e:(((r0 :: rs).getD j []).getD t .ni)=r[t]'htl:=by
    rw [vZG,vZG,hr];simp only [Option.getD_some];rw [hp]; rfl
   simp only [e];exact ⟨by rw [← hc,Nat.add_assoc],(zYZ (F:=F) (w:=w) (hm.2 _ (List.getElem_mem htl))).2⟩
  ·have hm:=qKJ hs (vQG hj);have e:(((r0 :: rs).getD j []).getD t .ni)=p:=by
    rw [vZG,vZG,hj];simp only [Option.getD_some];rw [ht]; rfl
   simp only [e];exact (zYZ (hm.2 p (vQG ht))).1
theorem slc_of_rp {F:Nat→Prop} {w:World} {sz:Nat} {rows:List (List PV)} {v:Value} (hs:qXW sz rows=true) (hF:∀ k,F k→k < w.heap.size) (h:RP F w (.l rows) v) :
  ∃ a c,v=.slice a rows.length c∧rows.length≤c∧qWK sz a (qKY rows) w∧∀ b off,a=some ⟨b,off,none⟩→rows ≠ []→F b:=by
 cases h with
 | l0 ad c=>exact ⟨ad,c,rfl,Nat.zero_le _,fun j r hj=>by simp [qKY] at hj,fun _ _ _ h=>absurd rfl h⟩
 | l _ b off n c sz' g hn hcap hl hf hc hh =>
  subst hn;refine ⟨_,c,rfl,hcap,fun j r hj => ?_,fun b' off' e _=>by cases e; exact hf⟩;unfold qKY at hj;rw [vZY] at hj;cases hr:rows[j]? with
  | none=>rw [hr] at hj; cases hj
  | some q =>
   rw [hr] at hj;cases hj;have hm:=qKJ hs (vQG hr);have hjl:=(List.getElem?_eq_some_iff.1 hr).1;have e:sz'=sz:=by rw [← hl q (vQG hr),hm.1]
   subst e;refine ⟨by rw [List.length_map,hm.1],b,off,rfl,hF b hf,fun k hk => ?_⟩;have h1:=hc j k hjl hk;have hkl:k < q.length:=by omega
   have hp:q[k]? = some (q[k]'hkl):=vQK hkl;rw [Nat.add_assoc,h1.1,vZY,hp,Option.map_some]
   congr 1
   exact jQX (hm.2 _ (List.getElem_mem hkl)) (hh j q k _ hr hp)
end Go.Rx
namespace Go.Rx
open Go.RowKit Go.Sx
def jVH (L:List Int):PV:=.l (L.map fun x=>[.n .i64 x])
theorem intsP_flat (L:List Int):qXW 1 (L.map fun x=>[PV.n .i64 x])=true:=by
 unfold qXW;rw [List.all_map,vZZ];intro x _;rfl
theorem rp_of_ints {F:Nat→Prop} {w:World} {L:List Int} {a:Option Addr} {c:Nat} (h:IntsAt w w.heap.size (.slice a L.length c) L) (hc:L.length≤c) (hF:∀ k,k < w.heap.size→F k):RP F w (jVH L) (.slice a L.length c):=by
 have e:(L.map fun x=>[PV.n .i64 x]).length=L.length:=by simp
 have key:qWK 1 a (qKY (L.map fun x=>[PV.n .i64 x])) w:=fun j r hj=>by
  obtain ⟨a',c',e',hh⟩:=h.slice;cases e';unfold qKY at hj;rw [vZY,vZY] at hj;cases hr:L[j]? with
  | none=>rw [hr] at hj; cases hj
  | some x =>
   rw [hr] at hj;cases hj;have hjl:=(List.getElem?_eq_some_iff.1 hr).1;obtain ⟨b,off,ha,hb,hq⟩:=hh j hjl;refine ⟨rfl,b,off,ha,hb,fun k hk => ?_⟩;have hk0:k=0:=by omega
   subst hk0;rw [Nat.mul_one,Nat.add_zero,hq,vZG,hr];rfl
 have:=rp_of_slc (F:=F) (c:=c) (intsP_flat L) (by rw [e]; exact hc) key (fun b off ha hne=>by
  obtain ⟨a',c',e',hh⟩:=h.slice;cases e';have h0:0 < L.length:=by
   cases L with
   | nil=>exact absurd rfl hne
   | cons x xs=>simp
  obtain ⟨b',off',ha',hb,_⟩:=hh 0 h0;rw [ha] at ha';cases ha';exact hF b hb)
 rw [e] at this;exact this
theorem zQY {P:Program} {f:Nat} {ps:List PV} {x:PV} {w:World} {vals:List Value} (h:yV P f ps (.v x)) (hx:x.flat2=true) (ha:Al (RP (fun k=>k < w.heap.size) w) ps vals):Calls P f vals.toArray w (Rets x.val w) :=
 Calls.mono (h.2 w _ vals (fun k hk=>hk) ha) fun e w' ⟨v,F',he,hg,_,_,hr⟩=>⟨by rw [he,jXH hx hr],hg⟩
theorem zYQ {F:Nat→Prop} {w:World}:Al (RP F w) [] []:=⟨rfl,fun i p v h=>by simp at h⟩
theorem qUK {F:Nat→Prop} {w:World} {p:PV} {v:Value} {ps:List PV} {vs:List Value} (h:RP F w p v) (t:Al (RP F w) ps vs):Al (RP F w) (p :: ps) (v :: vs) :=
 ⟨by rw [vQW,vQW,t.1],fun i q u hq hu=>by
  cases i with
  | zero=>cases hq; cases hu; exact h
  | succ i=>exact t.2 i q u hq hu⟩
theorem qVH {F:Nat→Prop} {w:World} {p:PV} {ps:List PV} {vals:List Value} (h:Al (RP F w) (p :: ps) vals):∃ v vs,vals=v :: vs∧RP F w p v∧Al (RP F w) ps vs:=by
 cases vals with
 | nil=>have:=h.1; simp at this
 | cons v vs=>exact ⟨v,vs,rfl,h.2 0 p v rfl rfl,by have:=h.1; simpa using this,fun i q u hq hu=>h.2 (i + 1) q u hq hu⟩
theorem yVV {F:Nat→Prop} {w:World} {vals:List Value} (h:Al (RP F w) [] vals):vals=[]:=by
 cases vals with
 | nil=>rfl
 | cons v vs=>have:=h.1; simp at this
theorem rp_parts {F:Nat→Prop} {w:World} {cs:List PV} {v:Value} (h:RP F w (.a cs) v):∃ vs:List Value,v=.agg vs.toArray∧Al (RP F w) cs vs:=by
 cases h with
 | a _ vs hl _ hh=>exact ⟨vs,rfl,hl,hh⟩
end Go.Rx
namespace Go.Rx
open Go.RowKit Go.Sx Go.ChangeShapes Go.WideShapes
inductive Sh where
 | i (k:IntKind)
 | b
 | s
 | l (row:List Sh)
inductive Fit:Sh→PV→Prop
 | i (k:IntKind) (x:Int) (h:(Lit.int k x).wf=true):Fit (.i k) (.n k x)
 | b (x:Bool):Fit .b (.b x)
 | s (x:ByteArray) (h:x.size≤maxLen):Fit .s (.s x)
 | l (row:List Sh) (n:Nat) (f:Nat→List PV) (hn:n≤maxLen) (hl:∀ j,j < n→(f j).length=row.length) (h:∀ j,j < n→∀ (i:Nat) sh p,row[i]? = some sh→(f j)[i]? = some p→Fit sh p):Fit (.l row) (.lf n f)
def jUJ:List (Nat × List Sh)→Nat→Bool
 | [],_=>true
 | x :: l,a=>Nat.beq x.1 a && jUJ l (a + x.2.length)
def sumL:List (List Sh)→Nat
 | []=>0
 | r :: l=>r.length + sumL l
section
variable {P:Program} {w:World} {H:Type} {enc:TypeId × Value→H}
def Good (w:World) (shs:List Sh) (cs:List Value):Prop:=∃ ps:List PV,ps.length=shs.length∧(∀ (i:Nat) sh p,shs[i]? = some sh→ps[i]? = some p→Fit sh p)∧Al (RP (fun k=>k < w.heap.size) w) ps cs∧∀ v ∈ cs,v.oneCell'=true
theorem Good.one {sh:Sh} {p:PV} {v:Value} (h1:Fit sh p) (h2:RP (fun k=>k < w.heap.size) w p v) (h3:v.oneCell'=true):Good w [sh] [v] :=
 ⟨[p],rfl,(fun i s0 q hs hq=>by
  match i with
  | 0=>cases hs; cases hq; exact h1
  | i + 1=>cases hs),qUK h2 zYQ,(fun u hu=>by obtain rfl:=List.mem_singleton.1 hu; exact h3)⟩
theorem Good.cat {r s:List Sh} {cs ds:List Value} (h1:Good w r cs) (h2:Good w s ds):Good w (r ++ s) (cs ++ ds):=by
 obtain ⟨p,a1,a2,a3,a4⟩:=h1;obtain ⟨q,b1,b2,b3,b4⟩:=h2;refine ⟨p ++ q,by simp [a1,b1],fun i sh x hs hx => ?_,a3.append b3,fun v hv => ?_⟩
 ·rcases Nat.lt_or_ge i r.length with hi | hi
  ·rw [List.getElem?_append_left hi] at hs;rw [List.getElem?_append_left (by omega)] at hx;exact a2 i sh x hs hx
  ·rw [List.getElem?_append_right hi] at hs;rw [List.getElem?_append_right (by omega),a1] at hx;exact b2 _ sh x hs hx
 ·rcases List.mem_append.1 hv with h | h
  ·exact a4 v h
  ·exact b4 v h
def Pieces (w:World):List (List Sh)→List Value→Prop
 | [],cs=>cs=[]
 | r :: l,cs=>Good w r (cs.take r.length)∧Pieces w l (cs.drop r.length)
theorem Pieces.good:∀ {l:List (List Sh)} {cs:List Value},Pieces w l cs→Good w l.flatten cs
 | [],cs,h=>by
  have:cs=[]:=h
  subst this;exact ⟨[],rfl,fun i sh p hs=>by simp at hs,zYQ,fun v hv=>by cases hv⟩
 | r :: l,cs,h=>by
  have:=Good.cat h.1 h.2.good
  rw [List.take_append_drop] at this;exact this
end
end Go.Rx
namespace Go.Rx
open Go.RowKit Go.Sx
abbrev Cont:=Ex→St→Option (Ret × Mem)
abbrev kY:=St→Cont→Option (Ret × Mem)
def qUQ:Nat→Code→Code
 | 0,.seq x _=>x
 | _ + 1,.seq _ y=>y
 | 0,.cond _ x _=>x
 | _ + 1,.cond _ _ y=>y
 | _,.block _ x=>x
 | _,.scope x=>x
 | _,.loop x=>x
 | _,c=>c
def qJY (B:Code):List Nat→Code
 | []=>B
 | i :: p=>qUQ i (qJY B p)
def yJV:List Nat→List Nat→Bool
 | [],[]=>true
 | x :: xs,y :: ys=>Nat.beq x y && yJV xs ys
 | _,_=>false
theorem yZQ:∀ {p q:List Nat},yJV p q=true→p=q
 | [],[],_=>rfl
 | x :: xs,y :: ys,h=>by
  simp only [yJV,vQJ] at h;rw [vQX h.1,yZQ h.2]
 | [],_ :: _,h=>by cases h
 | _ :: _,[],h=>by cases h
def LF (N:Nat) (C:Cx) (cK:qUY) (x:Code) (h:Hint) (K:Cont):Nat→St→Option (Ret × Mem)
 | 0,_=>none
 | n + 1,σ=>qXK N C cK x (fun e τ=>match e with
   | .normal=>LF N C cK x h K n (qUZ h τ)
   | e=>K e (qJW h τ)) σ
def yHH (N:Nat) (C:Cx) (cK:qUY) (x:Code) (S:kY):Prop:=∀ K σ r,S σ K=some r→LF N C cK x (C.T.hint C.me (qU x)) K N σ=some r
theorem loopN_LF {N:Nat} {C:Cx} {cK:qUY} {x:Code} {h:Hint} {K:Cont}:∀ (n:Nat) (σ:St),zKQ (fun again σ=>qXK N C cK x (fun e σ=>match e with
   | .normal=>again σ
   | e=>K e (qJW h σ)) (qUZ h σ)) n σ=LF N C cK x h K n (qUZ h σ)
 | 0,_=>rfl
 | n + 1,σ=>by
  simp only [zKQ,LF]
  congr 1
  funext e τ;cases e with
  | normal=>exact loopN_LF n τ
  | _=>rfl
def yJJ (N:Nat) (C:Cx) (cK:qUY) (LO:List Nat→Option kY):Code→List Nat→Cont→St→Option (Ret × Mem)
 | .skip,_,K,σ=>K .normal σ
 | .label _,_,K,σ=>K .normal σ
 | .scope x,p,K,σ=>yJJ N C cK LO x (0 :: p) K σ
 | .ret,_,K,σ=>K .ret σ
 | .exit id,_,K,σ=>K (.exit id) σ
 | .region _ ops d,_,K,σ=>bif d then zQW C cK ops 0 ops.toList [] (K .normal) σ else yQG C cK ops ops.toList (K .normal) σ
 | .seq x y,p,K,σ=>yJJ N C cK LO x (0 :: p) (fun e σ=>match e with
   | .normal=>yJJ N C cK LO y (1 :: p) K σ
   | e=>K e σ) σ
 | .cond c x y,p,K,σ=>(opv 1 σ c).bind fun v=>match v with
   | .v (.b t)=>bif t then yJJ N C cK LO x (0 :: p) K σ else yJJ N C cK LO y (1 :: p) K σ
   | _=>none
 | .block id x,p,K,σ=>yJJ N C cK LO x (0 :: p) (fun e σ=>match e with
   | .exit id'=>bif Nat.beq id' id then K .normal σ else K (.exit id') σ
   | e=>K e σ) σ
 | .loop x,p,K,σ=>match LO p with
   | some S=>S (qUZ (C.T.hint C.me (qU x)) σ) K
   | none=>zKQ (fun again σ=>qXK N C cK x (fun e σ=>match e with
     | .normal=>again σ
     | e=>K e (qJW (C.T.hint C.me (qU x)) σ)) (qUZ (C.T.hint C.me (qU x)) σ)) N σ
 | _,_,_,_=>none
section
variable {C:Cx} {cK:qUY} {r:Ret × Mem} {K0:Ret × Mem→Option (Ret × Mem)}
theorem qUJ {N:Nat} {LO:List Nat→Option kY} {B:Code} (hc:SndK C cK) (hL:∀ p S,LO p=some S→yHH N C cK (qUQ 0 (qJY B p)) S):∀ (c:Code) (p:List Nat) {K K':Cont} (hp:qJY B p=c) (hK:∀ e σ,K e σ=some r→Gets K0 r (K' e σ)) (σ:St),yJJ N C cK LO c p K σ=some r→Gets K0 r (runC N C c K' σ)
 | .skip,p,K,K',hp,hK,σ,h=>hK _ _ h
 | .label _,p,K,K',hp,hK,σ,h=>hK _ _ h
 | .scope x,p,K,K',hp,hK,σ,h=>qUJ hc hL x (0 :: p) (by simp only [qJY,hp,qUQ]) hK σ h
 | .ret,p,K,K',hp,hK,σ,h=>hK _ _ h
 | .exit id,p,K,K',hp,hK,σ,h=>hK _ _ h
 | .region id ops d,p,K,K',hp,hK,σ,h=>by
  cases d with
  | true=>exact qGJ hc (hK .normal) _ _ _ _ h
  | false=>exact zQZ hc (hK .normal) _ _ h
 | .seq x y,p,K,K',hp,hK,σ,h=>by
  refine qUJ hc hL x (0 :: p) (by simp only [qJY,hp,qUQ]) (fun e τ hk => ?_) σ h;cases e with
  | normal=>exact qUJ hc hL y (1 :: p) (by simp only [qJY,hp,qUQ]) hK τ hk
  | _=>exact hK _ _ hk
 | .cond c x y,p,K,K',hp,hK,σ,h=>by
  simp only [yJJ,vQQ] at h;obtain ⟨v,hv,h⟩:=h;simp only [runC,hv,vYQ];split at h
  ·rename_i t;cases t with
   | true=>exact qUJ hc hL x (0 :: p) (by simp only [qJY,hp,qUQ]) hK σ h
   | false=>exact qUJ hc hL y (1 :: p) (by simp only [qJY,hp,qUQ]) hK σ h
  ·cases h
 | .block id x,p,K,K',hp,hK,σ,h=>by
  refine qUJ hc hL x (0 :: p) (by simp only [qJY,hp,qUQ]) (fun e τ hk => ?_) σ h;cases e with
  | exit id' =>
   simp only at hk ⊢;cases hb:Nat.beq id' id with
   | true=>rw [hb] at hk; exact hK _ _ hk
   | false=>rw [hb] at hk; exact hK _ _ hk
  | _=>exact hK _ _ hk
 | .loop x,p,K,K',hp,hK,σ,h=>by
  simp only [yJJ] at h;simp only [runC];have h':zKQ (fun again σ=>qXK N C cK x (fun e σ=>match e with
     | .normal=>again σ
     | e=>K e (qJW (C.T.hint C.me (qU x)) σ)) (qUZ (C.T.hint C.me (qU x)) σ)) N σ=some r:=by
   cases hS:LO p with
   | none=>rw [hS] at h; exact h
   | some S =>
    rw [hS] at h
    have:=hL p S hS
    rw [hp] at this;rw [loopN_LF];exact this K _ r h
  refine zQH (fun a a' ha τ hs => ?_) N σ h';refine qJK hc x (fun e υ hk => ?_) _ hs;cases e with
  | normal=>exact ha _ hk
  | _=>exact hK _ _ hk
 | .rangeFunc ..,p,K,K',hp,hK,σ,h=>by cases h
 | .goto _,p,K,K',hp,hK,σ,h=>by cases h
 | .refuse _,p,K,K',hp,hK,σ,h=>by cases h
end
def cxF (T:Tab) (ok:OrK) (N f n:Nat):Cx:=⟨T,qWJ ok.orc (runF T ok.orc N),qHG ok.orc (runF T ok.orc N),f,n⟩
def ckF (T:Tab) (ok:OrK) (N:Nat):qUY:=zVG ok (jUH T ok N)
def zGQ (T:Tab) (f:Nat):Code:=match T.fn f with
 | some fi=>fi.body
 | none=>.skip
def ntmF (T:Tab) (f:Nat):Nat:=match T.fn f with
 | some fi=>fi.ntmps
 | none=>0
def zVH (T:Tab) (ok:OrK) (LO:List Nat→Option kY) (N f:Nat) (ps:List PV):Option (Ret × Mem):=match T.fn f with
 | none=>none
 | some fi=>bif Nat.ble (ps.map HV.v).length fi.ntmps then yJJ N (cxF T ok N f (ntmF T f)) (ckF T ok N) LO (zGQ T f) [] (fun e σ=>(endK T [] fi.results e σ).bind fun r=>some (r.1,[])) ⟨initS 0 (ps.map .v),[]⟩ else none
theorem ckF_snd {T:Tab} {ok:OrK} {N f n:Nat}:SndK (cxF T ok N f n) (ckF T ok N):=fun g qs K' r' hk=>by
 unfold ckF zVG at hk;show ∃ x,qWJ ok.orc (runF T ok.orc N) g qs=some x∧K' x=some r';unfold qWJ;cases ho:ok g with
 | some o =>
  rw [ho] at hk;simp only [vQQ] at hk;obtain ⟨x,hx,hk⟩:=hk;obtain ⟨h1,hk⟩:=qY hk;exact ⟨x.2,by simp only [OrK.orc,ho,hx,vYQ,h1,vYV],hk⟩
 | none =>
  rw [ho] at hk;obtain ⟨x,M,hx,hk⟩:=zUX N g qs K' r' hk;have e:ok.orc.a g=none:=by simp only [OrK.orc,ho,Option.bind_none]
  exact ⟨x,by simp only [e,hx,vYQ],hk⟩
def qQ (T:Tab) (f:Nat) (p:List Nat):Code:=qUQ 0 (qJY (zGQ T f) p)
theorem qQW {P:Program} {T:Tab} {ok:OrK} {LO:List Nat→Option kY} {N f:Nat} {ps:List PV} {r:Ret} (hT:TabOk P T) (hm:P.follows .mixedOrders=true) (hO:ok.Ok P)
  (hL:∀ p S,LO p=some S→yHH N (cxF T ok N f (ntmF T f)) (ckF T ok N) (qQ T f p) S) (h:zVH T ok LO N f ps=some (r,[])):yV P f ps r:=by
 refine qKZ (N:=N + 1) hT hm hO.orc ?_;unfold zVH at h;split at h
 ·cases h
 ·rename_i fi hfi;obtain ⟨hb,h⟩:=qY h;obtain ⟨q,h1,h2⟩:=qUJ (K0:=fun q=>some (q.1,[])) (K':=endK T [] fi.results) (B:=zGQ T f) ckF_snd hL (zGQ T f) [] rfl (fun e σ hk=>by
   simp only [vQQ] at hk;exact hk) _ h
  cases h2;have eb:zGQ T f=fi.body:=by unfold zGQ; rw [hfi]
  have en:ntmF T f=fi.ntmps:=by unfold ntmF; rw [hfi]
  rw [eb,en] at h1;unfold run;simp only [runF,hfi,hb,vYV];unfold cxF at h1;rw [h1];rfl
noncomputable def gSt (a b:St):Bool:=@decide (a=b) (vYJ _)
theorem jY (a:St):gSt a a=true:=@vJQ _ (vYJ _) rfl
theorem gSt_eq {a b:St} (h:gSt a b=true):a=b:=@vJZ _ (vYJ _) h
noncomputable def uG (s:St) (R:Cont→Option (Ret × Mem)):kY:=fun σ K=>bif gSt σ s then R K else none
theorem qKV {N:Nat} {C:Cx} {cK:qUY} {x:Code} {s:St} {R:Cont→Option (Ret × Mem)} (h:∀ K r,R K=some r→LF N C cK x (C.T.hint C.me (qU x)) K N s=some r):yHH N C cK x (uG s R):=fun K σ r hr=>by
 unfold uG at hr;obtain ⟨hg,hq⟩:=qY hr;have e:=gSt_eq hg;subst e;exact h K r hq
def qZ (l:List (List Nat × kY)) (p:List Nat):Option kY:=match l with
 | []=>none
 | x :: xs=>bif yJV x.1 p then some x.2 else qZ xs p
theorem qYH {N:Nat} {C:Cx} {cK:qUY} {L:List Nat→Code}:∀ {l:List (List Nat × kY)},AllP (fun x:List Nat × kY=>yHH N C cK (L x.1) x.2) l→∀ p S,qZ l p=some S→yHH N C cK (L p) S
 | [],_,p,S,h=>by cases h
 | x :: xs,hl,p,S,h=>by
  simp only [qZ] at h;cases hb:yJV x.1 p with
  | true =>
   rw [hb] at h;simp only [vYV,vQZ] at h;subst h
   have:=yZQ hb
   subst this;exact hl.1
  | false =>
   rw [hb] at h;exact qYH hl.2 p S h
end Go.Rx
namespace Go.Rx
open Go.RowKit Go.Sx
theorem own_mem {D:Nat→Prop} {G:World→Prop} {e sz cap k:Nat} {a:Option Addr} {ys:List Value} {w:World} (hd:zYH D G) (hG:G w) (hi:∀ w,G w→OwnF 0 e sz a cap k ys w):∀ ad,a=some ad→D ad.block:=by
 rintro ad rfl
 apply Classical.byContradiction;intro hn;obtain ⟨_,h1⟩:=hi w hG;rcases h1 with ⟨h1,_⟩ | ⟨g,cp,cur,hv,_,hb,_,_,hs,_⟩
 ·cases h1
 ·simp only [Value.slice.injEq,vQZ] at hv;obtain ⟨rfl,_,rfl⟩:=hv;have hlt:g < w.heap.size:=qZX hb;have hG':G { w with heap:=w.heap.setIfInBounds g (.cells (cur.push (.bool true)) e (0,0)) }:=hd w _ (fun k hk=>by
   have e:g ≠ k:=fun e=>hn (e ▸ hk)
   show (w.heap.setIfInBounds g _)[k]? = _;exact Array.getElem?_setIfInBounds_ne e) hG
  obtain ⟨_,h2⟩:=hi _ hG';rcases h2 with ⟨h2,_⟩ | ⟨g',cp',cur',hv',_,hb',_,_,hs',_⟩
  ·cases h2
  ·simp only [Value.slice.injEq,vQZ,Addr.mk.injEq] at hv';obtain ⟨⟨rfl,_⟩,_,rfl⟩:=hv';have hb2:(w.heap.setIfInBounds g (.cells (cur.push (.bool true)) e (0,0)))[g]? = some (.cells cur' e (0,0)):=hb';rw [Array.getElem?_setIfInBounds_self_of_lt hlt] at hb2;simp only [vQZ,Obj.cells.injEq] at hb2;rw [← hb2.1,Array.size_push,hs] at hs';omega
theorem al_flat {F:Nat→Prop} {w:World} {sz:Nat} {rows:List (List PV)} (hs:qXW sz rows=true):Al (Al (RP F w)) rows (qKY rows)∧(∀ v ∈ qKY rows,∀ u ∈ v,u.oneCell'=true):=by
 unfold qKY;refine ⟨⟨by simp,fun i r v hr hv => ?_⟩,fun v hv u hu => ?_⟩
 ·rw [vZY,hr] at hv;cases hv;refine ⟨by simp,fun j p u hp hu => ?_⟩;rw [vZY,hp] at hu;cases hu;exact (zYZ ((qKJ hs (vQG hr)).2 p (vQG hp))).1
 ·obtain ⟨r,hr,rfl⟩:=List.mem_map.1 hv;obtain ⟨p,hp,rfl⟩:=List.mem_map.1 hu;exact (zYZ (F:=F) (w:=w) ((qKJ hs hr).2 p hp)).2
theorem snd_toldOw {P:Program} {f:Nat} {ps:List PV} {e sz:Nat} {rows:List (List PV)} {Φ:Option Addr × Nat→Prop} (hent:uY P f) (hs:qXW sz rows=true) (h0:0 < sz)
  (h:∀ (w:World) (F:Nat→Prop) (vals:List Value),(∀ k,F k→k < w.heap.size)→Al (RP F w) ps vals→Calls P f vals.toArray w (RetsF Φ (fun x=>.slice x.1 rows.length x.2) (fun x=>OwnF 0 e sz x.1 x.2 rows.length (qKY rows).flatten) w)):yV P f ps (.ow e sz rows):=by
 refine ⟨hent,fun w F vals hF hal=>(h w F vals hF hal).mono ?_⟩
 rintro en w' ⟨x,hx,rfl,hg,D,h1,h2,h3⟩
 have hal:=al_flat (F:=F) (w:=w') hs;refine ⟨_,F,rfl,hg,fun k hk=>hk,fun k hk=>.inl hk,x.1,x.2,qKY rows,rfl,h0,hal.1,fun r hr=>(qKJ hs hr).1,hal.2,h3,fun b hb => ?_⟩;obtain ⟨ad,ha,rfl⟩:=Option.map_eq_some_iff.1 hb;have hD:=h2 _ (own_mem h1 h3 (fun _ h=>h) ad ha);exact ⟨fun hk=>by have:=hF _ hk; omega,hD.1,hD.2⟩
end Go.Rx
namespace Go.Rx
open Go.RowKit Go.Sx
def zVK {β:Type} (good:Nat→Bool) (KX:β) (KR:Nat→β):Nat→Nat→β
 | 0,_=>KX
 | k + 1,p=>bif good p then zVK good KX KR k (p + 1) else KR p
def allN (good:Nat→Bool):Nat→Nat→Bool
 | 0,_=>true
 | k + 1,p=>good p && allN good k (p + 1)
theorem jK {β:Type} (good:Nat→Bool) (x y:β):∀ k p,zVK good x (fun _=>y) k p=bif allN good k p then x else y
 | 0,_=>rfl
 | k + 1,p=>by
  simp only [zVK,allN,jK good x y k (p + 1)];cases good p <;> rfl
theorem allN_iff {good:Nat→Bool}:∀ {k p:Nat},allN good k p=true ↔ ∀ j,p≤j→j < p + k→good j=true
 | 0,p=>⟨fun _ j h1 h2=>by omega,fun _=>rfl⟩
 | k + 1,p=>by
  simp only [allN,vQJ,allN_iff (k:=k)];exact ⟨fun h j h1 h2=>by
   rcases Nat.eq_or_lt_of_le h1 with e | e
   ·exact e ▸ h.1
   ·exact h.2 j e (by omega),fun h=>⟨h p (Nat.le_refl _) (by omega),fun j h1 h2=>h j (by omega) (by omega)⟩⟩
def firstK (good:Nat→Bool):Nat→Nat→Nat
 | 0,p=>p
 | k + 1,p=>bif good p then firstK good k (p + 1) else p
theorem qYV {β:Type} (good:Nat→Bool) (x:β) (y:Nat→β):∀ k p,zVK good x y k p=bif allN good k p then x else y (firstK good k p)
 | 0,_=>rfl
 | k + 1,p=>by
  simp only [zVK,allN,firstK,qYV good x y k (p + 1)];cases good p <;> rfl
def jQV (N:Nat) (C:Cx) (cK:qUY) (x:Code) (h:Hint) (K:Cont) (G:St→Option (Ret × Mem)) (σ:St):Option (Ret × Mem):=qXK N C cK x (fun e τ=>match e with
 | .normal=>G (qUZ h τ)
 | e=>K e (qJW h τ)) σ
theorem LF_succ {N:Nat} {C:Cx} {cK:qUY} {x:Code} {h:Hint} {K:Cont} {n:Nat} {σ:St}:LF N C cK x h K (n + 1) σ=jQV N C cK x h K (fun σ=>LF N C cK x h K n σ) σ:=rfl
theorem yHU {N:Nat} {C:Cx} {cK:qUY} {x:Code} {h:Hint} {K:Cont} (hd:Int→St) (good:Nat→Bool) {c:Nat} (KX:Option (Ret × Mem)) (KR:Nat→Option (Ret × Mem))
  (r1:∀ G (i:Nat),i < c→jQV N C cK x h K G (hd (i:Int))=bif good i then G (hd ((i + 1:Nat):Int)) else KR i)
  (r2:∀ G,jQV N C cK x h K G (hd (c:Int))=KX):∀ (k p q:Nat),p + k=c→k < q→LF N C cK x h K q (hd (p:Int))=zVK good KX KR k p
 | 0,p,q + 1,hp,_=>by
  rw [LF_succ,show p=c by omega];exact r2 _
 | k + 1,p,q + 1,hp,hq=>by
  rw [LF_succ,r1 _ p (by omega),yHU hd good KX KR r1 r2 k (p + 1) q (by omega) (by omega)];rfl
theorem rows_fn {α:Type} (d:α) (f:α→List PV) (l:List α):l.map f=(List.range l.length).map fun i=>f (l.getD i d):=by
 refine List.ext_getElem? fun i => ?_
 rw [vZY,vZY];by_cases h:i < l.length
 ·rw [List.getElem?_range h,vQK h];simp [vZG,h]
 ·rw [List.getElem?_eq_none (by omega),List.getElem?_eq_none (by simp; omega)];rfl
theorem snd_args {P:Program} {f:Nat} {ps ps':List PV} {r:Ret} (hs:∀ F w vals,Al (RP F w) ps' vals→Al (RP F w) ps vals) (h:yV P f ps r):yV P f ps' r :=
 ⟨h.1,fun w F vals hF hal=>h.2 w F vals hF (hs F w vals hal)⟩
theorem yKW {P:Program} {f:Nat} {ps:List PV} {x y:PV} (hs:∀ F w v,RP F w x v→RP F w y v) (h:yV P f ps (.v x)):yV P f ps (.v y) :=
 ⟨h.1,fun w F vals hF hal=>(h.2 w F vals hF hal).mono fun _ w' ⟨v,F',he,hg,f1,f2,hr⟩=>⟨v,F',he,hg,f1,f2,hs F' w' v hr⟩⟩
theorem rp_lf_l {F:Nat→Prop} {w:World} {n:Nat} {f:Nat→List PV} {rows:List (List PV)} {v:Value} (e:rows=(List.range n).map f) (h:RP F w (.l rows) v):RP F w (.lf n f) v:=.lf n f v (e ▸ h)
theorem zUV {F:Nat→Prop} {w:World} {n:Nat} {f:Nat→List PV} {rows:List (List PV)} {v:Value} (e:rows=(List.range n).map f) (h:RP F w (.lf n f) v):RP F w (.l rows) v:=by
 cases h with
 | lf _ _ _ h=>exact e ▸ h
def Same (x y:PV):Prop:=∀ F w v,RP F w x v→RP F w y v
theorem Same.refl (x:PV):Same x x:=fun _ _ _ h=>h
theorem Same.lf {n:Nat} {f:Nat→List PV} {rows:List (List PV)} (e:rows=(List.range n).map f):Same (.l rows) (.lf n f):=fun _ _ _=>rp_lf_l e
theorem Same.l {n:Nat} {f:Nat→List PV} {rows:List (List PV)} (e:rows=(List.range n).map f):Same (.lf n f) (.l rows):=fun _ _ _=>zUV e
def Sames:List PV→List PV→Prop
 | [],[]=>True
 | x :: xs,y :: ys=>Same x y∧Sames xs ys
 | _,_=>False
theorem Sames.al {F:Nat→Prop} {w:World}:∀ {xs ys:List PV} {vs:List Value},Sames xs ys→Al (RP F w) xs vs→Al (RP F w) ys vs
 | [],[],_,_,h=>h
 | x :: xs,y :: ys,vs,hs,h=>by
  obtain ⟨v,vs,rfl,h1,h2⟩:=qVH h;exact qUK (hs.1 F w v h1) (Sames.al hs.2 h2)
 | [],_ :: _,_,h,_=>h.elim
 | _ :: _,[],_,h,_=>h.elim
theorem Same.a {xs ys:List PV} (h:Sames xs ys):Same (.a xs) (.a ys):=fun F w v hv=>by
 cases hv with
 | a _ vs hl h1 hh =>
  have:=Sames.al h (show Al (RP F w) xs vs from ⟨hl,hh⟩)
  exact .a ys vs this.1 h1 this.2
theorem Same.t {xs ys:List PV} (h:Sames xs ys):Same (.t xs) (.t ys):=fun F w v hv=>by
 cases hv with
 | t _ vs hl hh =>
  have:=Sames.al h (show Al (RP F w) xs vs from ⟨hl,hh⟩)
  exact .t ys vs this.1 this.2
theorem jQH {P:Program} {f e sz:Nat} {ps:List PV} {rows:List (List PV)} (h:yV P f ps (.ow e sz rows)):yV P f ps (.v (.l rows)):=by
 refine ⟨h.1,fun w F vals hF hal=>(h.2 w F vals hF hal).mono ?_⟩
 rintro en w' ⟨v,F',he,hg,f1,f2,hr⟩
 obtain ⟨F2,f3,f4,hx⟩:=hr.pv (x:=.l rows) rfl;refine ⟨v,F2,he,hg,fun k hk=>f3 k (f1 k hk),fun k hk => ?_,hx⟩;rcases f4 k hk with h | h
 ·exact f2 k h
 ·exact .inr h
end Go.Rx
namespace Go.Rx
open Go.RowKit Go.Sx Go.ChangeShapes Go.WideShapes
section
variable {P:Program} {W:World} {H:Type} {enc:TypeId × Value→H}
def Fits (row:List Sh) (ps:List PV):Prop:=ps.length=row.length∧∀ (i:Nat) sh p,row[i]? = some sh→ps[i]? = some p→Fit sh p
theorem Fits.cons {s0:Sh} {row:List Sh} {ps:List PV} (h:Fits (s0 :: row) ps):∃ p qs,ps=p :: qs∧Fit s0 p∧Fits row qs:=by
 cases ps with
 | nil=>have:=h.1; simp at this
 | cons p qs=>exact ⟨p,qs,rfl,h.2 0 s0 p rfl rfl,by have:=h.1; simpa using this,fun i sh q h1 h2=>h.2 (i + 1) sh q h1 h2⟩
theorem Fits.nil {ps:List PV} (h:Fits [] ps):ps=[]:=List.eq_nil_of_length_eq_zero h.1
theorem Fit.int {k:IntKind} {p:PV} (h:Fit (.i k) p):∃ x,p=.n k x∧(Lit.int k x).wf=true:=by cases h with | i k x h=>exact ⟨x,rfl,h⟩
theorem Fit.str {p:PV} (h:Fit .s p):∃ x,p=.s x:=by cases h with | s x h=>exact ⟨x,rfl⟩
theorem Fit.bool {p:PV} (h:Fit .b p):∃ x,p=.b x:=by cases h with | b x=>exact ⟨x,rfl⟩
theorem Fit.slc {row:List Sh} {p:PV} (h:Fit (.l row) p):∃ n f,p=.lf n f∧∀ j,j < n→Fits row (f j):=by
 cases h with
 | l row n f hn hl h=>exact ⟨n,f,rfl,fun j hj=>⟨hl j hj,h j hj⟩⟩
theorem zYX {n:Nat} {f g:Nat→List PV} (h:∀ j,j < n→f j=g j):Same (.lf n f) (.lf n g):=fun F w v hv =>
 rp_lf_l (List.map_congr_left fun j hj=>h j (List.mem_range.1 hj)) (zUV rfl hv)
end
end Go.Rx
namespace Go.Rx
open Go.RowKit Go.Sx
def qJJ (N:Nat) (C:Cx) (x:Code) (S:kY):Prop:=∀ (K K':Cont) (K0:Ret × Mem→Option (Ret × Mem)) (σ:St) (r:Ret × Mem),(∀ e τ,K e τ=some r→Gets K0 r (K' e τ))→S (qUZ (C.T.hint C.me (qU x)) σ) K=some r →
 Gets K0 r (zKQ (fun again σ=>runC N C x (fun e σ=>match e with
   | .normal=>again σ
   | e=>K' e (qJW (C.T.hint C.me (qU x)) σ)) (qUZ (C.T.hint C.me (qU x)) σ)) N σ)
section
variable {C:Cx} {cK:qUY} {r:Ret × Mem} {K0:Ret × Mem→Option (Ret × Mem)}
end
theorem zH {N:Nat} {C:Cx} {L:List Nat→Code}:∀ {l:List (List Nat × kY)},AllP (fun x:List Nat × kY=>qJJ N C (L x.1) x.2) l→∀ p S,qZ l p=some S→qJJ N C (L p) S
 | [],_,p,S,h=>by cases h
 | x :: xs,hl,p,S,h=>by
  simp only [qZ] at h;cases hb:yJV x.1 p with
  | true =>
   rw [hb] at h;simp only [vYV,vQZ] at h;subst h
   have:=yZQ hb
   subst this;exact hl.1
  | false =>
   rw [hb] at h;exact zH hl.2 p S h
noncomputable def sumF {τ:Type} (hd:τ→St) (ex:St→τ) (R:τ→Cont→Option (Ret × Mem)):kY:=fun σ K=>bif gSt σ (hd (ex σ)) then R (ex σ) K else none
theorem qQZ {N:Nat} {C:Cx} {L:List Nat→Code}:∀ p S,qZ [] p=some S→qJJ N C (L p) S:=fun p S h=>by cases h
def runS {τ β:Type} (good:Nat→τ→Bool) (nx:Nat→τ→τ) (KX:τ→β) (KR:Nat→τ→β):Nat→Nat→τ→β
 | 0,_,s=>KX s
 | k + 1,p,s=>bif good p s then runS good nx KX KR k (p + 1) (nx p s) else KR p s
theorem qQV {τ β:Type} {L:Nat→St→Option β} {stp:(St→Option β)→St→Option β} (hs:∀ n s,L (n + 1) s=stp (L n) s) (hd:Nat→τ→St) (Inv:Nat→τ→Prop) (good:Nat→τ→Bool) (nx:Nat→τ→τ) {c:Nat} (KX:τ→Option β) (KR:Nat→τ→Option β)
  (r1:∀ G i s,i < c→Inv i s→stp G (hd i s)=bif good i s then G (hd (i + 1) (nx i s)) else KR i s) (hi:∀ i s,i < c→Inv i s→good i s=true→Inv (i + 1) (nx i s))
  (r2:∀ G s,Inv c s→stp G (hd c s)=KX s):∀ k p q s,p + k=c→k < q→Inv p s→L q (hd p s)=runS good nx KX KR k p s
 | 0,p,q + 1,s,hp,_,hv=>by
  have e:p=c:=by omega
  subst e;rw [hs,r2 _ s hv]; rfl
 | k + 1,p,q + 1,s,hp,hq,hv=>by
  rw [hs,r1 _ p s (by omega) hv];simp only [runS];cases hg:good p s with
  | true=>exact qQV hs hd Inv good nx KX KR r1 hi r2 k (p + 1) q (nx p s) (by omega) (by omega) (hi p s (by omega) hv hg)
  | false=>rfl
end Go.Rx
namespace Go.Rx
open Go.RowKit Go.Sx
abbrev Ev:=Nat→Op→List RV→(Eff→Option (Ret × Mem))→Option (Ret × Mem)
def EvOk (C:Cx) (ev:Ev):Prop:=∀ dst op vs K r,ev dst op vs K=some r→∃ e,zV C.T C.cA C.cB C.me dst op vs=some e∧K e=some r
def goE (C:Cx) (ev:Ev) (o:Oper) (σ:St) (K:Eff × List RV→Option (Ret × Mem)):Option (Ret × Mem) :=
 bif dstB C.n o.dst then
  (mapO (opv (mode o.op) σ) o.op.operands.toList).bind fun vs=>ev (o.dst.getD 0) o.op vs fun e =>
   bif e.nw.all (fun id=>(yY σ.M id).isNone) then K (e,vs) else none
 else none
def jHW (C:Cx) (ev:Ev) (ops:Array Oper) (o:Oper) (σ:St) (K:Eff × List RV→Option (Ret × Mem)):Option (Ret × Mem) :=
 match o.guard with
 | none=>goE C ev o σ K
 | some (j,b)=>match (ops[j]?).bind (·.dst) with
  | some d=>match uH σ.S d with
   | some (.v (.b c))=>(match b with
    | true=>bif c then goE C ev o σ K else yGU C o K
    | false=>bif c then yGU C o K else goE C ev o σ K)
   | some (.v (.t []))=>yGU C o K
   | _=>none
  | none=>none
def yKH (C:Cx) (ev:Ev) (ops:Array Oper):List Oper→(St→Option (Ret × Mem))→St→Option (Ret × Mem)
 | [],K,σ=>K σ
 | o :: l,K,σ=>jHW C ev ops o σ fun r=>yKH C ev ops l K (σ.apply r.1 o.dst)
def zJY (C:Cx) (ev:Ev) (ops:Array Oper):Nat→List Oper→List Done→(St→Option (Ret × Mem))→St→Option (Ret × Mem)
 | _,[],acc,K,σ=>bif zVU ops acc.reverse && Sx.backB ops then K σ else none
 | i,o :: l,acc,K,σ=>jHW C ev ops o σ fun r=>zJY C ev ops (i + 1) l ((i,r) :: acc) K (σ.apply r.1 o.dst)
def zUW (N:Nat) (C:Cx) (ev:Ev) (LO:List Nat→Option kY):Code→List Nat→Cont→St→Option (Ret × Mem)
 | .skip,_,K,σ=>K .normal σ
 | .label _,_,K,σ=>K .normal σ
 | .scope x,p,K,σ=>zUW N C ev LO x (0 :: p) K σ
 | .ret,_,K,σ=>K .ret σ
 | .exit id,_,K,σ=>K (.exit id) σ
 | .region _ ops d,_,K,σ=>bif d then zJY C ev ops 0 ops.toList [] (K .normal) σ else yKH C ev ops ops.toList (K .normal) σ
 | .seq x y,p,K,σ=>zUW N C ev LO x (0 :: p) (fun e σ=>match e with
   | .normal=>zUW N C ev LO y (1 :: p) K σ
   | e=>K e σ) σ
 | .cond c x y,p,K,σ=>(opv 1 σ c).bind fun v=>match v with
   | .v (.b t)=>bif t then zUW N C ev LO x (0 :: p) K σ else zUW N C ev LO y (1 :: p) K σ
   | _=>none
 | .block id x,p,K,σ=>zUW N C ev LO x (0 :: p) (fun e σ=>match e with
   | .exit id'=>bif Nat.beq id' id then K .normal σ else K (.exit id') σ
   | e=>K e σ) σ
 | .loop x,p,K,σ=>match LO p with
   | some S=>S (qUZ (C.T.hint C.me (qU x)) σ) K
   | none=>zKQ (fun again σ=>zUW N C ev LO x (0 :: p) (fun e σ=>match e with
     | .normal=>again σ
     | e=>K e (qJW (C.T.hint C.me (qU x)) σ)) (qUZ (C.T.hint C.me (qU x)) σ)) N σ
 | _,_,_,_=>none
section
variable {C:Cx} {ev:Ev} {ops:Array Oper} {r:Ret × Mem} {K0:Ret × Mem→Option (Ret × Mem)}
theorem yWV {o:Oper} {σ:St} {K:Eff × List RV→Option (Ret × Mem)} (hc:EvOk C ev) (hg:qQY ops σ o=some true) (h:goE C ev o σ K=some r):∃ x,qUV C ops o σ=some x∧K x=some r:=by
 unfold goE at h;obtain ⟨hd,h⟩:=qY h;rw [vQQ] at h;obtain ⟨vs,hvs,h⟩:=h;obtain ⟨e,he,h⟩:=hc _ _ _ _ _ h;obtain ⟨hn,h⟩:=qY h;exact ⟨(e,vs),zJQ hd (.inr ⟨hg,hvs,he,fun i hi=>by simpa using List.all_eq_true.1 hn i hi⟩),h⟩
theorem stepE_some {o:Oper} {σ:St} {K:Eff × List RV→Option (Ret × Mem)} (hc:EvOk C ev) (h:jHW C ev ops o σ K=some r):∃ x,qUV C ops o σ=some x∧K x=some r:=by
 unfold jHW at h;cases hg:o.guard with
 | none=>rw [hg] at h; exact yWV hc (by unfold qQY; rw [hg]) h
 | some gb =>
  obtain ⟨j,b⟩:=gb;rw [hg] at h;simp only at h;split at h
  ·rename_i d hd;split at h
   ·rename_i c hlc;have gd:qQY ops σ o=some (c == b):=by
     unfold qQY;rw [hg];simp only [hd,hlc]
    cases b <;> cases c <;> simp only [vYV,vYG] at h
    ·exact yWV hc gd h
    ·exact qXV gd h
    ·exact qXV gd h
    ·exact yWV hc gd h
   ·rename_i hlc;exact qXV (by unfold qQY; rw [hg]; simp only [hd,hlc]) h
   ·cases h
  ·cases h
theorem runOpsE_some (hc:EvOk C ev) {K K':St→Option (Ret × Mem)} (hK:∀ σ,K σ=some r→Gets K0 r (K' σ)):∀ (l:List Oper) (σ:St),yKH C ev ops l K σ=some r→Gets K0 r (zVJ C ops l K' σ)
 | [],σ,h=>hK σ h
 | o :: l,σ,h=>by
  simp only [yKH] at h;obtain ⟨x,hx,h⟩:=stepE_some hc h;simp only [zVJ,hx,vYQ];exact runOpsE_some hc hK l _ h
theorem runDrawE_some (hc:EvOk C ev) {K K':St→Option (Ret × Mem)} (hK:∀ σ,K σ=some r→Gets K0 r (K' σ)):∀ (l:List Oper) (i:Nat) (acc:List Done) (σ:St),zJY C ev ops i l acc K σ=some r→Gets K0 r (qXY C ops i l acc K' σ)
 | [],i,acc,σ,h=>by
  simp only [zJY] at h;obtain ⟨hp,h⟩:=qY h;simp only [qXY,hp,vYV];exact hK σ h
 | o :: l,i,acc,σ,h=>by
  simp only [zJY] at h;obtain ⟨x,hx,h⟩:=stepE_some hc h;simp only [qXY,hx,vYQ];exact runDrawE_some hc hK l _ _ _ h
theorem qYQ {N:Nat} {LO:List Nat→Option kY} {B:Code} (hc:EvOk C ev) (hL:∀ p S,LO p=some S→qJJ N C (qUQ 0 (qJY B p)) S):∀ (c:Code) (p:List Nat) {K K':Cont} (hp:qJY B p=c) (hK:∀ e σ,K e σ=some r→Gets K0 r (K' e σ)) (σ:St),zUW N C ev LO c p K σ=some r→Gets K0 r (runC N C c K' σ)
 | .skip,p,K,K',hp,hK,σ,h=>hK _ _ h
 | .label _,p,K,K',hp,hK,σ,h=>hK _ _ h
 | .scope x,p,K,K',hp,hK,σ,h=>qYQ hc hL x (0 :: p) (by simp only [qJY,hp,qUQ]) hK σ h
 | .ret,p,K,K',hp,hK,σ,h=>hK _ _ h
 | .exit id,p,K,K',hp,hK,σ,h=>hK _ _ h
 | .region id ops d,p,K,K',hp,hK,σ,h=>by
  cases d with
  | true=>exact runDrawE_some hc (hK .normal) _ _ _ _ h
  | false=>exact runOpsE_some hc (hK .normal) _ _ h
 | .seq x y,p,K,K',hp,hK,σ,h=>by
  refine qYQ hc hL x (0 :: p) (by simp only [qJY,hp,qUQ]) (fun e τ hk => ?_) σ h;cases e with
  | normal=>exact qYQ hc hL y (1 :: p) (by simp only [qJY,hp,qUQ]) hK τ hk
  | _=>exact hK _ _ hk
 | .cond c x y,p,K,K',hp,hK,σ,h=>by
  simp only [zUW,vQQ] at h;obtain ⟨v,hv,h⟩:=h;simp only [runC,hv,vYQ];split at h
  ·rename_i t;cases t with
   | true=>exact qYQ hc hL x (0 :: p) (by simp only [qJY,hp,qUQ]) hK σ h
   | false=>exact qYQ hc hL y (1 :: p) (by simp only [qJY,hp,qUQ]) hK σ h
  ·cases h
 | .block id x,p,K,K',hp,hK,σ,h=>by
  refine qYQ hc hL x (0 :: p) (by simp only [qJY,hp,qUQ]) (fun e τ hk => ?_) σ h;cases e with
  | exit id' =>
   simp only at hk ⊢;cases hb:Nat.beq id' id with
   | true=>rw [hb] at hk; exact hK _ _ hk
   | false=>rw [hb] at hk; exact hK _ _ hk
  | _=>exact hK _ _ hk
 | .loop x,p,K,K',hp,hK,σ,h=>by
  simp only [zUW] at h;simp only [runC];cases hS:LO p with
  | none =>
   rw [hS] at h;refine zQH (fun a a' ha τ hs => ?_) N σ h;refine qYQ hc hL x (0 :: p) (by simp only [qJY,hp,qUQ]) (fun e υ hk => ?_) _ hs;cases e with
   | normal=>exact ha _ hk
   | _=>exact hK _ _ hk
  | some S =>
   rw [hS] at h
   have:=hL p S hS
   rw [hp] at this;exact this K K' K0 σ r hK h
 | .rangeFunc ..,p,K,K',hp,hK,σ,h=>by cases h
 | .goto _,p,K,K',hp,hK,σ,h=>by cases h
 | .refuse _,p,K,K',hp,hK,σ,h=>by cases h
end
def kV (N:Nat) (C:Cx) (ev:Ev) (LO:List Nat→Option kY) (x:Code) (p:List Nat) (h:Hint) (K:Cont) (G:St→Option (Ret × Mem)) (σ:St):Option (Ret × Mem):=zUW N C ev LO x (0 :: p) (fun e τ=>match e with
 | .normal=>G (qUZ h τ)
 | e=>K e (qJW h τ)) σ
def LFX (N:Nat) (C:Cx) (ev:Ev) (LO:List Nat→Option kY) (x:Code) (p:List Nat) (h:Hint) (K:Cont):Nat→St→Option (Ret × Mem)
 | 0,_=>none
 | n + 1,σ=>kV N C ev LO x p h K (LFX N C ev LO x p h K n) σ
theorem LFX_get {N:Nat} {C:Cx} {ev:Ev} {LO:List Nat→Option kY} {B x:Code} {p:List Nat} {K K':Cont} {K0:Ret × Mem→Option (Ret × Mem)} {r:Ret × Mem} (hc:EvOk C ev) (hL:∀ p S,LO p=some S→qJJ N C (qUQ 0 (qJY B p)) S) (hx:qJY B (0 :: p)=x)
  (hK:∀ e τ,K e τ=some r→Gets K0 r (K' e τ)):∀ (n:Nat) (σ:St),LFX N C ev LO x p (C.T.hint C.me (qU x)) K n (qUZ (C.T.hint C.me (qU x)) σ)=some r→Gets K0 r (zKQ (fun again σ=>runC N C x (fun e σ=>match e with
   | .normal=>again σ
   | e=>K' e (qJW (C.T.hint C.me (qU x)) σ)) (qUZ (C.T.hint C.me (qU x)) σ)) n σ)
 | 0,σ,h=>by cases h
 | n + 1,σ,h=>by
  simp only [LFX,kV] at h;simp only [zKQ];refine qYQ hc hL x (0 :: p) hx (fun e τ hk => ?_) _ h;cases e with
  | normal=>exact LFX_get hc hL hx hK n τ hk
  | _=>exact hK _ _ hk
theorem loopX_of {N:Nat} {C:Cx} {ev:Ev} {LO:List Nat→Option kY} {B x:Code} {p:List Nat} {S:kY} (hc:EvOk C ev) (hL:∀ p S,LO p=some S→qJJ N C (qUQ 0 (qJY B p)) S) (hx:qJY B (0 :: p)=x)
  (hS:∀ K σ r,S σ K=some r→LFX N C ev LO x p (C.T.hint C.me (qU x)) K N σ=some r):qJJ N C x S:=fun K _ _ σ r hK h =>
 LFX_get hc hL hx hK N σ (hS K _ r h)
abbrev jQZ:=Nat→List HV→List PV→(PV × List PV→Option (Ret × Mem))→Option (Ret × Mem)
def jWZ (r:PV × List PV) (K:PV × List PV→Option (Ret × Mem)):Option (Ret × Mem):=match r with
 | (.b c,ps)=>bif c then K (.b true,ps) else K (.b false,ps)
 | r=>K r
theorem splitB_eq (r:PV × List PV) (K:PV × List PV→Option (Ret × Mem)):jWZ r K=K r:=by
 unfold jWZ;split
 ·rename_i c ps; cases c <;> rfl
 ·rfl
def callEffBK (cBK:jQZ) (f:Nat) (args:List RV) (K:Eff→Option (Ret × Mem)):Option (Ret × Mem) :=
 (jGJ args).bind fun p=>(mapO CV.pv p.2).bind fun ps=>(mapO (RV.toB p.1) args).bind fun hs=>cBK f hs ps fun r=>jWZ r fun r =>
  K (Eff.and (.set p.1 (.blk (r.2.map PV.toH)) (.v r.1)) (catR RV.regs args))
def SndBK (C:Cx) (cBK:jQZ):Prop:=∀ f hs ps K r,cBK f hs ps K=some r→∃ x,C.cB f hs ps=some x∧K x=some r
def selC:List PV→Int→PV
 | [],_=>.ni
 | [x],_=>x
 | x :: y :: l,i=>zVW (decide (i=0)) x (selC (y :: l) (i - 1))
theorem selC_eq:∀ (l:List PV) (i:Int),0≤i→i.toNat < l.length→l[i.toNat]? = some (selC l i)
 | [],i,_,h=>by simp at h
 | [x],i,h0,h=>by
  have:i.toNat=0:=by simp at h; omega
  rw [this]; rfl
 | x :: y :: l,i,h0,h=>by
  rw [selC];by_cases e:i=0
  ·subst e; rw [vJQ rfl,zGH]; rfl
  ·rw [vYH e,zHQ,show i.toNat=(i - 1).toNat + 1 by omega,List.getElem?_cons_succ];exact selC_eq (y :: l) (i - 1) (by omega) (by simp only [vQW] at h ⊢; omega)
def evS (C:Cx) (cK:qUY) (cBK:jQZ):Ev:=fun dst op vs K=>match op,vs with
 | .call ⟨.value fx,axs,ats⟩,.v (.f f first cap) :: vs=>bif C.T.rw f then callEffBK cBK f (first.map .v ++ vs ++ cap.map .v) K else jXU C cK dst (.call ⟨.value fx,axs,ats⟩) (.v (.f f first cap) :: vs) K
 | .index t a b,[.v (.a cs),.v (.n k i)]=>(C.T.ar t).bind fun q=>bif q.2.2 then jXU C cK dst (.index t a b) [.v (.a cs),.v (.n k i)] K else bif inB i q.1 && Nat.ble q.1 cs.length then K (.val (selC cs i).toH) else none
 | .slice t a lo hi none,.v (.s s) :: vs=>(yKQ lo hi vs).bind fun b=>bif C.T.str t then (bif inS b.1 b.2 s.size then K (.val (.v (.s (s.extract (loOf b.1) (hiOf b.2 s.size))))) else none) else none
 | op,vs=>jXU C cK dst op vs K
theorem evS_ok {C:Cx} {cK:qUY} {cBK:jQZ} (hc:SndK C cK) (hb:SndBK C cBK):EvOk C (evS C cK cBK):=fun dst op vs K r h=>by
 unfold evS at h;split at h
 ·rename_i fx axs ats f first cap vs
  cases hrw:C.T.rw f with
  | false =>
   rw [hrw,vYG] at h;exact zZY hc h
  | true =>
   rw [hrw,vYV] at h;simp only [callEffBK,vQQ] at h;obtain ⟨p,hp,ps,hps,hs,hhs,h⟩:=h;obtain ⟨x,hx,h⟩:=hb _ _ _ _ _ h;rw [splitB_eq] at h;exact ⟨_,by simp only [zV,hrw,vYV,zHG,hp,hps,hhs,hx,vYQ],h⟩
 ·rename_i t a b cs k i;simp only [vQQ] at h;obtain ⟨q,hq,h⟩:=h;cases h2:q.2.2 with
  | true=>rw [h2,vYV] at h; exact zZY hc h
  | false =>
   rw [h2,vYG] at h;obtain ⟨hi,h⟩:=qY h;rw [vQJ] at hi;obtain ⟨i0,i1⟩:=qWH hi.1;have hl:=vZX hi.2;exact ⟨_,by simp only [zV,hq,vYQ,hi.1,h2,vYV,vYG,selC_eq cs i i0 (by omega)],h⟩
 ·rename_i t a lo hi s vs;simp only [vQQ] at h;obtain ⟨b,hbd,h⟩:=h;obtain ⟨h1,h⟩:=qY h;obtain ⟨h2,h⟩:=qY h;exact ⟨_,by simp only [zV,hbd,vYQ,h1,h2,vZJ,vYV],h⟩
 ·exact zZY hc h
abbrev OrB:=Nat→Option (List HV→List PV→Option (Bool × (PV × List PV)))
structure OrS where
 a:OrK
 b:OrB
def OrS.orc (o:OrS):Orc:=⟨o.a.orc.a,fun g=>(o.b g).bind fun f=>some fun hs ps=>(f hs ps).bind fun x=>bif x.1 then some x.2 else none⟩
structure OrS.Ok (P:Program) (o:OrS):Prop where
 a:o.a.Ok P
 b:∀ g f,o.b g=some f→∀ hs ps x ps',f hs ps=some (true,(x,ps'))→yHG P g hs ps x ps'
theorem OrS.Ok.orc {P:Program} {o:OrS} (h:o.Ok P):OrcOk P o.orc:=by
 refine ⟨h.a.orc.a,fun g f ho hs ps x ps' hr => ?_⟩;simp only [OrS.orc,vQQ,vQZ] at ho;obtain ⟨q,hq,rfl⟩:=ho;simp only [vQQ] at hr;obtain ⟨y,hy,hr⟩:=hr;obtain ⟨h1,hr⟩:=qY hr;obtain ⟨y1,y2⟩:=y;cases hr;exact h.b g q hq hs ps x ps' (by rw [hy,← h1])
def cxS (T:Tab) (o:OrS) (N f n:Nat):Cx:=⟨T,qWJ o.orc (runF T o.orc N),qHG o.orc (runF T o.orc N),f,n⟩
def jUG (T:Tab) (o:OrS):Nat→Nat→List HV→Mem→(Ret × Mem→Option (Ret × Mem))→Option (Ret × Mem)
 | 0,_,_,_,_=>none
 | N + 1,f,hs,M,K=>match T.fn f with
  | none=>none
  | some fi=>bif Nat.ble hs.length fi.ntmps then zUW N (cxS T o N f fi.ntmps) (evS (cxS T o N f fi.ntmps)
    (zVG o.a fun g ps K=>jUG T o N g (ps.map .v) [] fun r=>K r.1)
    (fun g hs ps K=>match o.b g with
     | some q=>(q hs ps).bind fun x=>bif x.1 then K x.2 else none
     | none=>jUG T o N g hs [(pid,.blk (ps.map PV.toH))] fun r=>(qVK r.2).bind fun ps'=>(jXQ r.1).bind fun x=>K (x,ps')))
    (fun _=>none) fi.body [] (fun e σ=>(endK T M fi.results e σ).bind K) ⟨initS 0 hs,M⟩ else none
def ckS (T:Tab) (o:OrS) (N:Nat):qUY:=zVG o.a fun g ps K=>jUG T o N g (ps.map .v) [] fun r=>K r.1
def cbS (T:Tab) (o:OrS) (N:Nat):jQZ:=fun g hs ps K=>match o.b g with
 | some q=>(q hs ps).bind fun x=>bif x.1 then K x.2 else none
 | none=>jUG T o N g hs [(pid,.blk (ps.map PV.toH))] fun r=>(qVK r.2).bind fun ps'=>(jXQ r.1).bind fun x=>K (x,ps')
def evX (T:Tab) (o:OrS) (N f n:Nat):Ev:=evS (cxS T o N f n) (ckS T o N) (cbS T o N)
section
variable {T:Tab} {o:OrS}
def FSnd (T:Tab) (o:OrS) (N:Nat):Prop:=∀ (f:Nat) (hs:List HV) (M:Mem) (K:Ret × Mem→Option (Ret × Mem)) (r:Ret × Mem),jUG T o N f hs M K=some r→∃ x,runF T o.orc N f hs M=some x∧K x=some r
theorem ckS_ok {N f n:Nat} (h:FSnd T o N):SndK (cxS T o N f n) (ckS T o N):=fun g qs K' r' hk=>by
 unfold ckS zVG at hk;show ∃ x,qWJ o.orc (runF T o.orc N) g qs=some x∧K' x=some r';unfold qWJ;cases ho:o.a g with
 | some q =>
  rw [ho] at hk;simp only [vQQ] at hk;obtain ⟨x,hx,hk⟩:=hk;obtain ⟨h1,hk⟩:=qY hk;exact ⟨x.2,by simp only [OrS.orc,OrK.orc,ho,hx,vYQ,h1,vYV],hk⟩
 | none =>
  rw [ho] at hk;obtain ⟨x,hx,hk⟩:=h g _ _ _ r' hk;have e:o.orc.a g=none:=by simp only [OrS.orc,OrK.orc,ho,Option.bind_none]
  exact ⟨x.1,by simp only [e,hx,vYQ],hk⟩
theorem cbS_ok {N f n:Nat} (h:FSnd T o N):SndBK (cxS T o N f n) (cbS T o N):=fun g hs ps K' r' hk=>by
 unfold cbS at hk;show ∃ x,qHG o.orc (runF T o.orc N) g hs ps=some x∧K' x=some r';unfold qHG;cases ho:o.b g with
 | some q =>
  rw [ho] at hk;simp only [vQQ] at hk;obtain ⟨x,hx,hk⟩:=hk;obtain ⟨h1,hk⟩:=qY hk;exact ⟨x.2,by simp only [OrS.orc,ho,hx,vYQ,h1,vYV],hk⟩
 | none =>
  rw [ho] at hk;obtain ⟨x,hx,hk⟩:=h g _ _ _ r' hk;simp only [vQQ] at hk;obtain ⟨ps',h1,y,h2,hk⟩:=hk;have e:o.orc.b g=none:=by simp only [OrS.orc,ho,Option.bind_none]
  exact ⟨(y,ps'),by simp only [e,hx,vYQ,h1,h2],hk⟩
theorem jGW {N f n:Nat} (h:FSnd T o N):EvOk (cxS T o N f n) (evX T o N f n):=evS_ok (ckS_ok h) (cbS_ok h)
theorem zUU:∀ N,FSnd T o N
 | 0,f,hs,M,K,r,h=>by cases h
 | N + 1,f,hs,M,K,r,h=>by
  simp only [jUG] at h;split at h
  ·cases h
  ·rename_i fi hfi;obtain ⟨hb,h⟩:=qY h;have ih:FSnd T o N:=zUU N;obtain ⟨q,h1,h2⟩:=qYQ (K0:=K) (K':=endK T M fi.results) (B:=fi.body) (LO:=fun _=>none) (jGW (f:=f) (n:=fi.ntmps) ih) (fun p S hp=>by cases hp) fi.body [] rfl (fun e σ hk=>by
    simp only [vQQ] at hk;exact hk) _ h
   refine ⟨q,?_,h2⟩;simp only [runF,hfi,hb,vYV];exact h1
def jHV (T:Tab) (o:OrS) (LO:List Nat→Option kY) (N f:Nat) (hs:List HV) (M:Mem) (K:Ret × Mem→Option (Ret × Mem)):Option (Ret × Mem):=match T.fn f with
 | none=>none
 | some fi=>bif Nat.ble hs.length fi.ntmps then zUW N (cxS T o N f (ntmF T f)) (evX T o N f (ntmF T f)) LO (zGQ T f) [] (fun e σ=>(endK T M fi.results e σ).bind K) ⟨initS 0 hs,M⟩ else none
theorem runXL_some {LO:List Nat→Option kY} {N f:Nat} {hs:List HV} {M:Mem} {K:Ret × Mem→Option (Ret × Mem)} {r:Ret × Mem} (hL:∀ p S,LO p=some S→qJJ N (cxS T o N f (ntmF T f)) (qQ T f p) S) (h:jHV T o LO N f hs M K=some r):∃ x,runF T o.orc (N + 1) f hs M=some x∧K x=some r:=by
 unfold jHV at h;split at h
 ·cases h
 ·rename_i fi hfi;obtain ⟨hb,h⟩:=qY h;obtain ⟨q,h1,h2⟩:=qYQ (K0:=K) (K':=endK T M fi.results) (B:=zGQ T f) (jGW (zUU N)) hL (zGQ T f) [] rfl (fun e σ hk=>by
   simp only [vQQ] at hk;exact hk) _ h
  have eb:zGQ T f=fi.body:=by unfold zGQ; rw [hfi]
  have en:ntmF T f=fi.ntmps:=by unfold ntmF; rw [hfi]
  rw [eb,en] at h1;refine ⟨q,?_,h2⟩;simp only [runF,hfi,hb,vYV];unfold cxS at h1;exact h1
def qYY (T:Tab) (o:OrS) (LO:List Nat→Option kY) (N f:Nat) (ps:List PV):Option (Ret × Mem):=jHV T o LO N f (ps.map .v) [] fun r=>some (r.1,[])
def runBX (T:Tab) (o:OrS) (LO:List Nat→Option kY) (N f:Nat) (hs:List HV) (ps:List PV):Option (Ret × Mem):=jHV T o LO N f hs [(pid,.blk (ps.map PV.toH))] fun r=>(qVK r.2).bind fun ps'=>(jXQ r.1).bind fun x=>some (.v (.t (x :: ps')),[])
theorem yQ {P:Program} {LO:List Nat→Option kY} {N f:Nat} {ps:List PV} {r:Ret} (hT:TabOk P T) (hm:P.follows .mixedOrders=true) (hO:o.Ok P) (hL:∀ p S,LO p=some S→qJJ N (cxS T o N f (ntmF T f)) (qQ T f p) S) (h:qYY T o LO N f ps=some (r,[])):yV P f ps r:=by
 obtain ⟨x,h1,h2⟩:=runXL_some hL h;cases h2;refine qKZ (N:=N + 1) hT hm hO.orc ?_;unfold run;rw [h1];rfl
theorem runBX_sound {P:Program} {LO:List Nat→Option kY} {N f:Nat} {hs:List HV} {ps ps':List PV} {x:PV} (hT:TabOk P T) (hm:P.follows .mixedOrders=true) (hO:o.Ok P) (hL:∀ p S,LO p=some S→qJJ N (cxS T o N f (ntmF T f)) (qQ T f p) S) (h:runBX T o LO N f hs ps=some (.v (.t (x :: ps')),[])):yHG P f hs ps x ps':=by
 obtain ⟨y,h1,h2⟩:=runXL_some hL h;simp only [vQQ,vQZ,vQY,Ret.v.injEq,PV.t.injEq,List.cons.injEq,and_true] at h2;obtain ⟨qs,h3,z,h4,rfl,rfl⟩:=h2;refine runB_sound (N:=N + 1) hT hm hO.orc ?_;unfold runB;rw [h1];simp only [vYQ,h3,h4]
end
theorem kH {N:Nat} {T:Tab} {o:OrS} {f:Nat} {LO:List Nat→Option kY} {p:List Nat} {τ:Type} {hd:τ→St} {ex:St→τ} {R:τ→Cont→Option (Ret × Mem)}
  (hL:∀ p S,LO p=some S→qJJ N (cxS T o N f (ntmF T f)) (qQ T f p) S)
  (h:∀ s K r,R s K=some r→LFX N (cxS T o N f (ntmF T f)) (evX T o N f (ntmF T f)) LO (qQ T f p) p (T.hint f (qU (qQ T f p))) K N (hd s)=some r):qJJ N (cxS T o N f (ntmF T f)) (qQ T f p) (sumF hd ex R) :=
 loopX_of (B:=zGQ T f) (ev:=evX T o N f (ntmF T f)) (jGW (zUU N)) hL rfl fun K σ r hr=>by
  unfold sumF at hr;obtain ⟨hg,hq⟩:=qY hr;have e:=gSt_eq hg
  have:=h (ex σ) K r hq
  rw [← e] at this;exact this
abbrev OrBL:=List (Nat × (List HV→List PV→Option (Bool × (PV × List PV))))
def jHQ (P:Program) (f:Nat) (o:List HV→List PV→Option (Bool × (PV × List PV))):Prop:=∀ hs ps x ps',o hs ps=some (true,(x,ps'))→yHG P f hs ps x ps'
def orS (l:OrL) (m:OrBL):OrS:=⟨OrL.k l,asc m⟩
theorem kG {P:Program} {l:OrL} {m:OrBL} (h:AllP (fun x:Nat × (List PV→Option (Bool × Ret))=>zJ P x.1 x.2) l) (hb:AllP (fun x:Nat × (List HV→List PV→Option (Bool × (PV × List PV)))=>jHQ P x.1 x.2) m):(orS l m).Ok P :=
 ⟨OrL.ok h,fun _ _ ho hs ps x ps' hr=>hb.of (qKQ ho) hs ps x ps' hr⟩
end Go.Rx
namespace Go.Rx
open Go.RowKit Go.Sx
noncomputable def gEq (a b:PV):Bool:=@decide (a=b) (vYJ _)
theorem zKY (a:PV):gEq a a=true:=@vJQ _ (vYJ _) rfl
theorem yYJ {a b:PV} (h:gEq a b=true):a=b:=@vJZ _ (vYJ _) h
noncomputable def g1 (l:List PV):Bool:=gEq (.t l) (.t l)
theorem g1_t (l:List PV):g1 l=true:=zKY _
noncomputable def o_lk (as_:List PV) (g:Bool) (r:Ret):List PV→Option (Bool × Ret):=fun ps=>some (gEq (.t ps) (.t as_) && g,r)
theorem ok_lk {P:Program} {f:Nat} {as_:List PV} {g:Bool} {r:Ret} (h:g=true→yV P f as_ r):zJ P f (o_lk as_ g r):=by
 intro ps q hh;unfold o_lk at hh;simp only [vQZ,vQY,vQJ] at hh;obtain ⟨⟨hg,hb⟩,rfl⟩:=hh
 have:=yYJ hg
 simp only [PV.t.injEq] at this;rw [this];exact h hb
noncomputable def o_cr (as_:List PV) (r:Ret):List PV→Option (Bool × Ret):=fun ps=>some (gEq (.t ps) (.t as_),r)
theorem yHY {P:Program} {f:Nat} {as_:List PV} {r:Ret} (h:yV P f as_ r):zJ P f (o_cr as_ r):=by
 intro ps q hh;unfold o_cr at hh;simp only [vQZ,vQY] at hh;obtain ⟨hg,rfl⟩:=hh
 have:=yYJ hg
 simp only [PV.t.injEq] at this;rw [this];exact h
noncomputable def gP (p:Prop):Bool:=@decide p (vYJ _)
theorem zWW {p:Prop} (h:p):gP p=true:=@vJQ _ (vYJ _) h
theorem kX {p:Prop} (h:gP p=true):p:=@vJZ _ (vYJ _) h
noncomputable def gFam {τ:Type} (C:τ→Prop) (enc:τ→List PV) (t:τ) (ps:List PV):Bool:=gP (C t∧ps=enc t)
noncomputable def gF1 {τ:Type} (C:τ→Prop) (enc:τ→List PV) (t:τ):Bool:=gFam C enc t (enc t)
theorem jX {τ:Type} {C:τ→Prop} {enc:τ→List PV} {t:τ} (h:C t):gF1 C enc t=true:=zWW ⟨h,rfl⟩
noncomputable def o_fm {τ:Type} (dec:List PV→τ) (C:τ→Prop) (enc:τ→List PV) (res:τ→Ret):List PV→Option (Bool × Ret):=fun ps=>some (gFam C enc (dec ps) ps,res (dec ps))
theorem qYJ {P:Program} {f:Nat} {τ:Type} {dec:List PV→τ} {C:τ→Prop} {enc:τ→List PV} {res:τ→Ret} (h:∀ t,C t→yV P f (enc t) (res t)):zJ P f (o_fm dec C enc res):=by
 intro ps r hh;unfold o_fm at hh;simp only [vQZ,vQY] at hh;obtain ⟨hg,rfl⟩:=hh;obtain ⟨hc,e⟩:=kX hg
 have:=h _ hc
 rw [← e] at this;exact this
noncomputable def gFamB {τ:Type} (C:τ→Prop) (eh:τ→List HV) (ep:τ→List PV) (t:τ) (hs:List HV) (ps:List PV):Bool:=gP (C t∧hs=eh t∧ps=ep t)
noncomputable def gB1 {τ:Type} (C:τ→Prop) (eh:τ→List HV) (ep:τ→List PV) (t:τ):Bool:=gFamB C eh ep t (eh t) (ep t)
theorem qHY {τ:Type} {C:τ→Prop} {eh:τ→List HV} {ep:τ→List PV} {t:τ} (h:C t):gB1 C eh ep t=true:=zWW ⟨h,rfl,rfl⟩
noncomputable def o_fb {τ:Type} (dec:List HV→List PV→τ) (C:τ→Prop) (eh:τ→List HV) (ep:τ→List PV) (x:τ→PV) (qs:τ→List PV):List HV→List PV→Option (Bool × (PV × List PV)):=fun hs ps=>some (gFamB C eh ep (dec hs ps) hs ps,(x (dec hs ps),qs (dec hs ps)))
theorem ok_fb {P:Program} {f:Nat} {τ:Type} {dec:List HV→List PV→τ} {C:τ→Prop} {eh:τ→List HV} {ep:τ→List PV} {x:τ→PV} {qs:τ→List PV} (h:∀ t,C t→yHG P f (eh t) (ep t) (x t) (qs t)):jHQ P f (o_fb dec C eh ep x qs):=by
 intro hs ps y ps' hh;unfold o_fb at hh;simp only [vQZ,vQY] at hh;obtain ⟨hg,rfl,rfl⟩:=hh;obtain ⟨hc,e1,e2⟩:=kX hg
 have:=h _ hc
 rw [← e1,← e2] at this;exact this
def fQ (q:Nat→Int):Nat→List PV:=fun v=>[.n .i64 (q v)]
def unFQ (f:Nat→List PV):Nat→Int:=fun i=>match f i with
 | [.n _ x]=>x
 | _=>0
def iqOf (l:List Int):Nat→Int:=fun i=>l.getD i 0
theorem ints_same (l:List Int):Same (jVH l) (.lf l.length (fQ (iqOf l))):=Same.lf (rows_fn 0 (fun x=>[PV.n .i64 x]) l)
theorem toN (p:Nat):(p:Int).toNat=p:=by omega
theorem uX {p:Nat} (_:p < 1000000):vJJ .i64 ((p:Int) + 1)=((p + 1:Nat):Int):=by rw [qH (by omega)]; omega
theorem yU {p n:Nat} (_:p < n):inB (p:Int) n=true:=by unfold inB; rw [vJQ (show (0:Int)≤p by omega),vJQ (show (p:Int).toNat < n by omega)]; rfl
def yWU {τ:Type} (nx:Nat→τ→τ):Nat→Nat→τ→τ
 | 0,_,s=>s
 | m + 1,p,s=>yWU nx m (p + 1) (nx p s)
theorem qVJ {τ β:Type} {nx:Nat→τ→τ} {KX:τ→β} {KR:Nat→τ→β}:∀ m p s,runS (fun _ _=>true) nx KX KR m p s=KX (yWU nx m p s)
 | 0,_,_=>rfl
 | m + 1,p,s=>by
  simp only [runS,vYV,yWU];exact qVJ m (p + 1) _
theorem qJQ {τ:Type} {nx:Nat→τ→τ} {Q:Nat→τ→Prop} {c:Nat} (h:∀ i s,i < c→Q i s→Q (i + 1) (nx i s)):∀ r p s,p + r=c→Q p s→Q c (yWU nx r p s)
 | 0,p,s,hp,hq=>by
  obtain rfl:p=c:=by omega
  exact hq
 | r + 1,p,s,hp,hq=>qJQ h r (p + 1) (nx p s) (by omega) (h p s (by omega) hq)
theorem jW {β:Type} (good:Nat→Bool) (KX:β) (KR:Nat→β):∀ k p,runS (fun (i:Nat) (_:Unit)=>good i) (fun _ _=>()) (fun _=>KX) (fun i _=>KR i) k p ()=zVK good KX KR k p
 | 0,_=>rfl
 | k + 1,p=>by simp only [runS,zVK,jW good KX KR k (p + 1)]
def slI (σ:St) (k:Nat):Int:=match uH σ.S k with
 | some (.v (.n _ x))=>x
 | _=>0
def rgN (σ:St) (k:Nat):Nat:=match yY σ.M k with
 | some (.reg _ _ (.fo n _))=>n
 | _=>0
def rgF (σ:St) (k:Nat):Nat→List PV:=match yY σ.M k with
 | some (.reg _ _ (.fo _ f))=>f
 | _=>fun _=>[]
def bkC (σ:St) (k i:Nat):Int:=match yY σ.M k with
 | some (.blk cs)=>match cs[i]? with
  | some (.v (.n _ x))=>x
  | _=>0
 | _=>0
def mA (w m:Nat):Nat→Nat
 | 0=>m
 | i + 1=>min (mA w m i + 1) w
theorem qYX {w m:Nat} (h:m≤w):∀ i,mA w m i≤w
 | 0=>h
 | i + 1=>Nat.min_le_right _ _
def eW (e:Nat→Int) (w m:Nat):Int:=bif Nat.blt m w then e m else 0
def nxV (e:Nat→Int) (w m:Nat) (k:Int):Int:=eW e w m % k
theorem qWW {e:Nat→Int} {w m:Nat} {k:Int} (h:0 < k):0≤nxV e w m k∧nxV e w m k < k:=⟨Int.emod_nonneg _ (by omega),Int.emod_lt_of_pos _ h⟩
end Go.Rx

/- Part 7 of the texts behind the last one: rules and contracts. No condition. -/
import Derived.Test.YtmffoiemmlcmfaaGreatPE6
open Option renaming bind_eq_some_iff → vQQ, bind_some → vYQ
open Option.some renaming injEq → vQZ
open Prod.mk renaming injEq → vQY
open Bool renaming and_eq_true → vQJ, and_self → vZJ
open List renaming getElem?_eq_getElem → vQK, length_cons → vQW, length_nil → vQV, mem_of_getElem? → vQG, all_eq_true → vZZ, getElem?_map → vZY, getD_eq_getElem?_getD → vZG, take_succ_cons → vYK, drop_succ_cons → vYU, take_zero → vYX, drop_zero → vYW
open Nat renaming add_right_cancel_iff → vQU, eq_of_beq_eq_true → vQX, le_of_ble_eq_true → vZX
open Go.IntKind renaming wrap → vJJ
namespace Go.Rx
open Go.RowKit Go.Sx
section
abbrev α:=Ret × Mem
abbrev qVK:=Nat→List PV→(Ret→Option α)→Option α
def jWQ (e:Eff) (K:Eff→Option α):Option α:=match e with
 | ⟨[],[],.v (.b c),[]⟩=>bif c then K (.val (.v (.b true))) else K (.val (.v (.b false)))
 | e=>K e
theorem yWG (e:Eff) (K:Eff→Option α):jWQ e K=K e:=by
 unfold jWQ;split
 ·rename_i c; cases c <;> rfl
 ·rfl
def callEffK (C:Cx) (cK:qVK) (dst f:Nat) (args:List RV) (K:Eff→Option α):Option α :=
 (mapO RV.fz args).bind fun ps=>cK f ps fun r =>
  (bif args.all RV.still then jWY C.T C.me dst (catR RV.regs args) r
  else match r with
   | .v x=>bif x.flat then some (.val (.v x)) else none
   | .ow _ _ (.l rows)=>bif rows.all (fun r=>r.all PV.flat1) then some (.val (.v (.l rows))) else none
   | _=>none).bind fun e=>jWQ e K
def yYZ (s:ByteArray) (i:Nat):Int:=(((s[i]?).getD 0).toNat:Int)
def uYH (C:Cx) (cK:qVK) (dst:Nat) (op:Op) (vs:List RV) (K:Eff→Option α):Option α :=
 match op,vs with
 | .binOp .quo _ _ _ _,[.v (.n k x),.v (.n k' y)]=>bif decide (k=k') then (bif decide (y=0) then none else K (.val (.v (.n k (k.wrap (x.tdiv y)))))) else none
 | .binOp .rem _ _ _ _,[.v (.n k x),.v (.n k' y)]=>bif decide (k=k') then (bif decide (y=0) then none else K (.val (.v (.n k (x.tmod y))))) else none
 | .call ⟨.builtin .append,axs,ats⟩,[.o id e' sz rows,y]=>(match ats.toList with
   | [t,t']=>bif Nat.beq t t' then (C.T.sl t).bind fun e=>(kJQ y).bind fun news=>bif news.ok e.2 then (bif Nat.beq e' e.1 && Nat.beq sz e.2 && !(y.ids.any (Nat.beq id)) then
     (bif decide (rows.len + news.len≤1000000) then K (.app id (.reg e' sz (rows.app news)) (.o id)) else none) else none) else none else none
   | _=>none)
 | .call ⟨.builtin .append,axs,ats⟩,[.nl,y]=>(match ats.toList with
   | [t,t']=>bif Nat.beq t t' then (C.T.sl t).bind fun e=>(kJQ y).bind fun news=>bif news.ok e.2 then
     (bif decide (news.len≤1000000) then K (.new dst (.reg e.1 e.2 news) (.o dst)) else none) else none else none
   | _=>none)
 | .binOp .shl _ _ _ _,[.v (.n k x),.v (.n _ y)]=>bif decide (0≤y) then K (.val (.v (.n k (k.wrap (x * 2 ^ (min y.toNat k.bits)))))) else none
 | .binOp .shr _ _ _ _,[.v (.n k x),.v (.n _ y)]=>bif decide (0≤y) then K (.val (.v (.n k (x.fdiv (2 ^ (min y.toNat k.bits)))))) else none
 | .indexAddr t _ _,[.o id _ sz rows,.v (.n _ i)]=>(C.T.sl t).bind fun e=>bif inB i rows.len then (bif Nat.beq sz e.2 then K (.val (.q id i.toNat 0)) else none) else none
 | .makeSlice t _ _,[.v (.n _ n),.v (.n _ c)]=>(C.T.sl t).bind fun e=>(C.T.zr e.1).bind fun zs =>
   bif decide (0≤n) then bif decide (n≤c) then bif decide (c≤1000000) then K (.new dst (.reg e.1 e.2 (bif C.T.ff C.me then .fo n.toNat (fun _=>zs) else .l (zXY zs n.toNat))) (.o dst)) else none else none else none
 | .slice t _ lo hi none,.v (.lf n f) :: vs=>(jVV lo hi vs).bind fun b=>(C.T.sl t).bind fun e=>bif inS b.1 b.2 n then (bif Nat.beq (f (loOf b.1)).length e.2 then K (.val (.v (.lf (hiOf b.2 n - loOf b.1) fun v=>f (v + loOf b.1)))) else none) else none
 | .slice t _ lo hi none,.o id e' sz rows :: vs=>(jVV lo hi vs).bind fun b=>(match b with
   | (none,some j)=>(C.T.sl t).bind fun e=>bif Nat.beq sz e.2 then (bif decide (0≤j) then (bif decide (j.toNat≤rows.len) then K (.app id (.reg e' sz (rows.take j.toNat)) (.o id)) else none) else none) else none
   | _=>none)
 | .index t _ _,[.v (.s s),.v (.n _ i)]=>bif C.T.str t then (bif inB i s.size then K (.val (.v (.n .u8 (yYZ s i.toNat)))) else none) else none
 | .next _ true,[.i id 0 s pos]=>bif decide (pos < s.size) then K (.set id (.itr s (pos + (Utf8.decode s pos).2)) (.v (.t [.b true,.n .i64 (pos:Int),.n .i32 ((Utf8.decode s pos).1:Int)]))) else K (.val (.v (.t [.b false])))
 | .indexAddr t _ _,[.v (.lf n f),.v (.n _ i)]=>(C.T.sl t).bind fun e=>bif inB i n then (bif Nat.beq (f i.toNat).length e.2 then K (.val (.v (.zf n f i.toNat 0))) else none) else none
 | .call ⟨.value fx,axs,ats⟩,.v (.f f first cap) :: vs=>bif C.T.rw f then (yZ C.T C.cA C.cB C.me dst (.call ⟨.value fx,axs,ats⟩) (.v (.f f first cap) :: vs)).bind fun e=>jWQ e K
   else callEffK C cK dst f (first.map .v ++ vs ++ cap.map .v) K
 | op,vs=>(yZ C.T C.cA C.cB C.me dst op vs).bind fun e=>jWQ e K
def goK (C:Cx) (cK:qVK) (o:Oper) (σ:St) (K:Eff × List RV→Option α):Option α :=
 bif dstB C.n o.dst then
  (mapO (opv (mode o.op) σ) o.op.operands.toList).bind fun vs=>uYH C cK (o.dst.getD 0) o.op vs fun e =>
   bif e.nw.all (fun id=>(yK σ.M id).isNone) then K (e,vs) else none
 else none
def kXH (C:Cx) (o:Oper) (K:Eff × List RV→Option α):Option α:=bif dstB C.n o.dst then K (.val (.v (.t [])),[]) else none
def kHX (C:Cx) (cK:qVK) (ops:Array Oper) (o:Oper) (σ:St) (K:Eff × List RV→Option α):Option α :=
 match o.guard with
 | none=>goK C cK o σ K
 | some (j,b)=>match (ops[j]?).bind (·.dst) with
  | some d=>match qYV σ.S d with
   | some (.v (.b c))=>(match b with
    | true=>bif c then goK C cK o σ K else kXH C o K
    | false=>bif c then kXH C o K else goK C cK o σ K)
   | some (.v (.t []))=>kXH C o K
   | _=>none
  | none=>none
end
def yVK (C:Cx) (cK:qVK) (ops:Array Oper):List Oper→(St→Option (Ret × Mem))→St→Option (Ret × Mem)
 | [],K,σ=>K σ
 | o :: l,K,σ=>kHX C cK ops o σ fun r=>yVK C cK ops l K (σ.apply r.1 o.dst)
def zWG (C:Cx) (cK:qVK) (ops:Array Oper):Nat→List Oper→List Done→(St→Option (Ret × Mem))→St→Option (Ret × Mem)
 | _,[],acc,K,σ=>bif yVH ops acc.reverse && Sx.backB ops then K σ else none
 | i,o :: l,acc,K,σ=>kHX C cK ops o σ fun r=>zWG C cK ops (i + 1) l ((i,r) :: acc) K (σ.apply r.1 o.dst)
def qHW (N:Nat) (C:Cx) (cK:qVK):Code→(Ex→St→Option (Ret × Mem))→St→Option (Ret × Mem)
 | .skip,K,σ=>K .normal σ
 | .label _,K,σ=>K .normal σ
 | .scope x,K,σ=>qHW N C cK x K σ
 | .ret,K,σ=>K .ret σ
 | .exit id,K,σ=>K (.exit id) σ
 | .region _ ops d,K,σ=>bif d then zWG C cK ops 0 ops.toList [] (K .normal) σ else yVK C cK ops ops.toList (K .normal) σ
 | .seq x y,K,σ=>qHW N C cK x (fun e σ=>match e with
   | .normal=>qHW N C cK y K σ
   | e=>K e σ) σ
 | .cond c x y,K,σ=>(opv 1 σ c).bind fun v=>match v with
   | .v (.b t)=>bif t then qHW N C cK x K σ else qHW N C cK y K σ
   | _=>none
 | .block id x,K,σ=>qHW N C cK x (fun e σ=>match e with
   | .exit id'=>bif Nat.beq id' id then K .normal σ else K (.exit id') σ
   | e=>K e σ) σ
 | .loop x,K,σ=>yKX (fun again σ=>qHW N C cK x (fun e σ=>match e with
   | .normal=>again σ
   | e=>K e (qUU (C.T.hint C.me (zY x)) σ)) (qGJ (C.T.hint C.me (zY x)) σ)) N σ
 | _,_,_=>none
abbrev OrK:=Nat→Option (List PV→Option (Bool × Ret))
def OrK.orc (o:OrK):Orc:=⟨fun g=>(o g).bind fun f=>some fun ps=>(f ps).bind fun x=>bif x.1 then some x.2 else none,fun _=>none⟩
def jVW (ok:OrK) (rK:qVK):qVK:=fun g ps K=>match ok g with
 | some o=>(o ps).bind fun x=>bif x.1 then K x.2 else none
 | none=>rK g ps K
def kUZ (T:Tab) (ok:OrK):Nat→qVK
 | 0,_,_,_=>none
 | N + 1,f,ps,K=>match T.fn f with
  | none=>none
  | some fi=>bif Nat.ble (ps.map HV.v).length fi.ntmps then qHW N ⟨T,zKY ok.orc (runF T ok.orc N),zHU ok.orc (runF T ok.orc N),f,fi.ntmps⟩ (jVW ok (kUZ T ok N)) fi.body (fun e σ=>(endK T [] fi.results e σ).bind fun r=>K r.1) ⟨initS 0 (ps.map .v),[]⟩ else none
def runK (T:Tab) (ok:OrK) (N f:Nat) (ps:List PV):Option (Ret × Mem):=kUZ T ok N f ps fun r=>some (r,[])
section
variable {C:Cx} {cK:qVK} {ops:Array Oper} {r:α}
def SndK (C:Cx) (cK:qVK):Prop:=∀ f ps K r,cK f ps K=some r→∃ x,C.cA f ps=some x∧K x=some r
theorem evalK_some {dst:Nat} {op:Op} {vs:List RV} {K:Eff→Option α} (hc:SndK C cK) (h:uYH C cK dst op vs K=some r):∃ e,yZ C.T C.cA C.cB C.me dst op vs=some e∧K e=some r:=by
 unfold uYH at h;split at h
 ·rename_i k x k' y;obtain ⟨h1,h⟩:=qH h;cases hy:decide (y=0) with
  | true=>rw [hy] at h; cases h
  | false =>
   rw [hy] at h;refine ⟨_,?_,h⟩;simp [yZ,binP,binI,h1,hy]
 ·rename_i k x k' y;obtain ⟨h1,h⟩:=qH h;cases hy:decide (y=0) with
  | true=>rw [hy] at h; cases h
  | false =>
   rw [hy] at h;refine ⟨_,?_,h⟩;simp [yZ,binP,binI,h1,hy]
 ·rename_i axs ats id e' sz rows y;split at h
  ·rename_i t t' hts;obtain ⟨h1,h⟩:=qH h;simp only [vQQ] at h;obtain ⟨el,hel,news,hnews,h⟩:=h;obtain ⟨h2,h⟩:=qH h;obtain ⟨h3,h⟩:=qH h;obtain ⟨h4,h⟩:=qH h;refine ⟨_,?_,h⟩;rw [vQJ,vQJ] at h3;simp only [yZ,hts,h1,vYV,hel,hnews,vYQ,h2,h3.1.1,h3.1.2,h3.2,h4,vZJ]
  ·cases h
 ·rename_i axs ats y;split at h
  ·rename_i t t' hts;obtain ⟨h1,h⟩:=qH h;simp only [vQQ] at h;obtain ⟨el,hel,news,hnews,h⟩:=h;obtain ⟨h2,h⟩:=qH h;obtain ⟨h4,h⟩:=qH h;refine ⟨_,?_,h⟩;simp only [yZ,hts,h1,vYV,hel,hnews,vYQ,h2,h4]
  ·cases h
 ·rename_i k x _ y;obtain ⟨h1,h⟩:=qH h;refine ⟨_,?_,h⟩;simp [yZ,binP,h1]
 ·rename_i k x _ y;obtain ⟨h1,h⟩:=qH h;refine ⟨_,?_,h⟩;simp [yZ,binP,h1]
 ·rename_i t _ _ id _ sz rows _ i;simp only [vQQ] at h;obtain ⟨el,hel,h⟩:=h;obtain ⟨h1,h⟩:=qH h;obtain ⟨h2,h⟩:=qH h;exact ⟨_,by simp only [yZ,hel,vYQ,h1,h2,vZJ,vYV],h⟩
 ·rename_i t _ _ _ n _ c;simp only [vQQ] at h;obtain ⟨el,hel,zs,hzs,h⟩:=h;obtain ⟨h1,h⟩:=qH h;obtain ⟨h2,h⟩:=qH h;obtain ⟨h3,h⟩:=qH h;exact ⟨_,by simp only [yZ,hel,hzs,vYQ,h1,h2,h3,vZJ,vYV],h⟩
 ·rename_i t _ lo hi n f vs;simp only [vQQ] at h;obtain ⟨b,hb,el,hel,h⟩:=h;obtain ⟨h1,h⟩:=qH h;obtain ⟨h2,h⟩:=qH h;exact ⟨_,by simp only [yZ,hb,hel,vYQ,h1,h2,vYV],h⟩
 ·rename_i t _ lo hi id e' sz rows vs;simp only [vQQ] at h;obtain ⟨b,hb,h⟩:=h;split at h
  ·rename_i j;simp only [vQQ] at h;obtain ⟨el,hel,h⟩:=h;obtain ⟨h1,h⟩:=qH h;obtain ⟨h2,h⟩:=qH h;obtain ⟨h3,h⟩:=qH h;exact ⟨_,by simp only [yZ,hb,hel,vYQ,h1,h2,h3,vZJ,vYV],h⟩
  ·cases h
 ·rename_i t _ _ s _ i;obtain ⟨h1,h⟩:=qH h;obtain ⟨h2,h⟩:=qH h;obtain ⟨i0,i1⟩:=zUJ h2;refine ⟨_,?_,h⟩;have hb:s[i.toNat]? = some (s[i.toNat]'(by omega)):=getElem?_pos s i.toNat (by omega);simp only [yZ,h1,vJQ i0,vZJ,vYV,yYZ,hb,vYQ,Option.getD_some]
 ·rename_i id s pos;cases hp:decide (pos < s.size) with
  | true =>
   rw [hp] at h;exact ⟨_,by simp only [yZ,hp,vYV],h⟩
  | false =>
   rw [hp] at h;exact ⟨_,by simp only [yZ,hp,vYG],h⟩
 ·rename_i t _ _ n f _ i;simp only [vQQ] at h;obtain ⟨el,hel,h⟩:=h;obtain ⟨h1,h⟩:=qH h;obtain ⟨h2,h⟩:=qH h;exact ⟨_,by simp only [yZ,hel,vYQ,h1,h2,vZJ,vYV],h⟩
 ·rename_i fx axs ats f first cap vs
  cases hrw:C.T.rw f with
  | true =>
   rw [hrw] at h;simp only [vYV,vQQ] at h;obtain ⟨e,he,h⟩:=h;rw [yWG] at h;exact ⟨e,he,h⟩
  | false =>
   rw [hrw] at h;simp only [vYG,callEffK,vQQ] at h;obtain ⟨ps,hps,h⟩:=h;obtain ⟨x,hx,h⟩:=hc _ _ _ _ h;rw [vQQ] at h;obtain ⟨e,he,h⟩:=h;rw [yWG] at h;refine ⟨e,?_,h⟩;simp only [yZ,hrw,vYG,jQU,hps,hx,vYQ];exact he
 ·rw [vQQ] at h;obtain ⟨e,he,h⟩:=h;rw [yWG] at h;exact ⟨e,he,h⟩
theorem jUZ {o:Oper} {σ:St} {K:Eff × List RV→Option α} (hc:SndK C cK) (hg:qUV ops σ o=some true) (h:goK C cK o σ K=some r):∃ x,zQX C ops o σ=some x∧K x=some r:=by
 unfold goK at h;obtain ⟨hd,h⟩:=qH h;rw [vQQ] at h;obtain ⟨vs,hvs,h⟩:=h;obtain ⟨e,he,h⟩:=evalK_some hc h;obtain ⟨hn,h⟩:=qH h;exact ⟨(e,vs),yWV hd (.inr ⟨hg,hvs,he,fun i hi=>by simpa using List.all_eq_true.1 hn i hi⟩),h⟩
theorem yYV {o:Oper} {σ:St} {K:Eff × List RV→Option α} (hg:qUV ops σ o=some false) (h:kXH C o K=some r):∃ x,zQX C ops o σ=some x∧K x=some r:=by
 unfold kXH at h;obtain ⟨hd,h⟩:=qH h;exact ⟨_,yWV hd (.inl ⟨hg,rfl⟩),h⟩
theorem stepK_some {o:Oper} {σ:St} {K:Eff × List RV→Option α} (hc:SndK C cK) (h:kHX C cK ops o σ K=some r):∃ x,zQX C ops o σ=some x∧K x=some r:=by
 unfold kHX at h;cases hg:o.guard with
 | none=>rw [hg] at h; exact jUZ hc (by unfold qUV; rw [hg]) h
 | some gb =>
  obtain ⟨j,b⟩:=gb;rw [hg] at h;simp only at h;split at h
  ·rename_i d hd;split at h
   ·rename_i c hlc;have gd:qUV ops σ o=some (c == b):=by
     unfold qUV;rw [hg];simp only [hd,hlc]
    cases b <;> cases c <;> simp only [vYV,vYG] at h
    ·exact jUZ hc gd h
    ·exact yYV gd h
    ·exact yYV gd h
    ·exact jUZ hc gd h
   ·rename_i hlc;exact yYV (by unfold qUV; rw [hg]; simp only [hd,hlc]) h
   ·cases h
  ·cases h
end
section
variable {C:Cx} {ops:Array Oper} {r:Ret × Mem}
def Gets (K0:Ret × Mem→Option (Ret × Mem)) (r:Ret × Mem) (x:Option (Ret × Mem)):Prop:=∃ q,x=some q∧K0 q=some r
variable {K0:Ret × Mem→Option (Ret × Mem)} {cK:qVK}
theorem zYV (hc:SndK C cK) {K K':St→Option (Ret × Mem)} (hK:∀ σ,K σ=some r→Gets K0 r (K' σ)):∀ (l:List Oper) (σ:St),yVK C cK ops l K σ=some r→Gets K0 r (jZU C ops l K' σ)
 | [],σ,h=>hK σ h
 | o :: l,σ,h=>by
  simp only [yVK] at h;obtain ⟨x,hx,h⟩:=stepK_some hc h;simp only [jZU,hx,vYQ];exact zYV hc hK l _ h
theorem zQV (hc:SndK C cK) {K K':St→Option (Ret × Mem)} (hK:∀ σ,K σ=some r→Gets K0 r (K' σ)):∀ (l:List Oper) (i:Nat) (acc:List Done) (σ:St),zWG C cK ops i l acc K σ=some r→Gets K0 r (zKK C ops i l acc K' σ)
 | [],i,acc,σ,h=>by
  simp only [zWG] at h;obtain ⟨hp,h⟩:=qH h;simp only [zKK,hp,vYV];exact hK σ h
 | o :: l,i,acc,σ,h=>by
  simp only [zWG] at h;obtain ⟨x,hx,h⟩:=stepK_some hc h;simp only [zKK,hx,vYQ];exact zQV hc hK l _ _ _ h
theorem zVJ {s s':(St→Option (Ret × Mem))→St→Option (Ret × Mem)} (h:∀ a a':St→Option (Ret × Mem),(∀ σ,a σ=some r→Gets K0 r (a' σ))→∀ σ,s a σ=some r→Gets K0 r (s' a' σ)):∀ (n:Nat) (σ:St),yKX s n σ=some r→Gets K0 r (yKX s' n σ)
 | 0,σ,hs=>by cases hs
 | n + 1,σ,hs=>h _ _ (zVJ h n) σ hs
theorem qKG {N:Nat} (hc:SndK C cK):∀ (c:Code) {K K':Ex→St→Option (Ret × Mem)} (hK:∀ e σ,K e σ=some r→Gets K0 r (K' e σ)) (σ:St),qHW N C cK c K σ=some r→Gets K0 r (runC N C c K' σ)
 | .skip,K,K',hK,σ,h=>hK _ _ h
 | .label _,K,K',hK,σ,h=>hK _ _ h
 | .scope x,K,K',hK,σ,h=>qKG hc x hK σ h
 | .ret,K,K',hK,σ,h=>hK _ _ h
 | .exit id,K,K',hK,σ,h=>hK _ _ h
 | .region id ops d,K,K',hK,σ,h=>by
  cases d with
  | true=>exact zQV hc (hK .normal) _ _ _ _ h
  | false=>exact zYV hc (hK .normal) _ _ h
 | .seq x y,K,K',hK,σ,h=>by
  refine qKG hc x (fun e τ hk => ?_) σ h;cases e with
  | normal=>exact qKG hc y hK τ hk
  | _=>exact hK _ _ hk
 | .cond c x y,K,K',hK,σ,h=>by
  simp only [qHW,vQQ] at h;obtain ⟨v,hv,h⟩:=h;simp only [runC,hv,vYQ];split at h
  ·rename_i t;cases t with
   | true=>exact qKG hc x hK σ h
   | false=>exact qKG hc y hK σ h
  ·cases h
 | .block id x,K,K',hK,σ,h=>by
  refine qKG hc x (fun e τ hk => ?_) σ h;cases e with
  | exit id' =>
   simp only at hk ⊢;cases hb:Nat.beq id' id with
   | true=>rw [hb] at hk; exact hK _ _ hk
   | false=>rw [hb] at hk; exact hK _ _ hk
  | _=>exact hK _ _ hk
 | .loop x,K,K',hK,σ,h=>by
  simp only [qHW] at h;simp only [runC];refine zVJ (fun a a' ha τ hs => ?_) N σ h;refine qKG hc x (fun e υ hk => ?_) _ hs;cases e with
  | normal=>exact ha _ hk
  | _=>exact hK _ _ hk
 | .rangeFunc ..,K,K',hK,σ,h=>by cases h
 | .goto _,K,K',hK,σ,h=>by cases h
 | .refuse _,K,K',hK,σ,h=>by cases h
end
theorem yYG {T:Tab} {ok:OrK}:∀ (N f:Nat) (ps:List PV) (K:Ret→Option (Ret × Mem)) (r:Ret × Mem),kUZ T ok N f ps K=some r→∃ x M,runF T ok.orc N f (ps.map .v) []=some (x,M)∧K x=some r
 | 0,f,ps,K,r,h=>by cases h
 | N + 1,f,ps,K,r,h=>by
  simp only [kUZ] at h;split at h
  ·cases h
  ·rename_i fi hfi;obtain ⟨hb,h⟩:=qH h;have hc:SndK ⟨T,zKY ok.orc (runF T ok.orc N),zHU ok.orc (runF T ok.orc N),f,fi.ntmps⟩ (jVW ok (kUZ T ok N)):=fun g qs K' r' hk=>by
    unfold jVW at hk;show ∃ x,zKY ok.orc (runF T ok.orc N) g qs=some x∧K' x=some r';unfold zKY;cases ho:ok g with
    | some o =>
     rw [ho] at hk;simp only [vQQ] at hk;obtain ⟨x,hx,hk⟩:=hk;obtain ⟨h1,hk⟩:=qH hk;exact ⟨x.2,by simp only [OrK.orc,ho,hx,vYQ,h1,vYV],hk⟩
    | none =>
     rw [ho] at hk;obtain ⟨x,M,hx,hk⟩:=yYG N g qs K' r' hk;have e:ok.orc.a g=none:=by simp only [OrK.orc,ho,Option.bind_none]
     exact ⟨x,by simp only [e,hx,vYQ],hk⟩
   obtain ⟨q,h1,h2⟩:=qKG (K0:=fun q=>K q.1) (K':=endK T [] fi.results) hc fi.body (fun e σ hk=>by
    simp only [vQQ] at hk;exact hk) _ h
   refine ⟨q.1,q.2,?_,h2⟩;simp only [runF,hfi,hb,vYV];exact h1
theorem runK_some {T:Tab} {ok:OrK} {N f:Nat} {ps:List PV} {r:Ret} (h:runK T ok N f ps=some (r,[])):run T ok.orc N f ps=some r:=by
 obtain ⟨x,M,h1,h2⟩:=yYG N f ps _ _ h;cases h2;unfold run;rw [h1];rfl
def OrK.Ok (P:Program) (ok:OrK):Prop:=∀ g o,ok g=some o→∀ ps r,o ps=some (true,r)→zH P g ps r
theorem OrK.Ok.orc {P:Program} {ok:OrK} (h:ok.Ok P):OrcOk P ok.orc:=by
 refine ⟨fun g o ho ps r hr => ?_,fun g o ho=>by simp [OrK.orc] at ho⟩;simp only [OrK.orc,vQQ,vQZ] at ho;obtain ⟨f,hf,rfl⟩:=ho;simp only [vQQ] at hr;obtain ⟨x,hx,hr⟩:=hr;obtain ⟨h1,hr⟩:=qH hr;cases hr;exact h g f hf ps x.2 (by rw [hx,← h1])
theorem qG {P:Program} {T:Tab} {ok:OrK} {N f:Nat} {ps:List PV} {r:Ret} (hT:TabOk P T) (hm:P.follows .mixedOrders=true) (hO:ok.Ok P) (h:runK T ok N f ps=some (r,[])):zH P f ps r:=zXW hT hm hO.orc (runK_some h)
abbrev OrL:=List (Nat × (List PV→Option (Bool × Ret)))
def OrL.k (l:OrL):OrK:=asc l
def zW (P:Program) (f:Nat) (o:List PV→Option (Bool × Ret)):Prop:=∀ ps r,o ps=some (true,r)→zH P f ps r
theorem OrL.ok {P:Program} {l:OrL} (h:AllP (fun x:Nat × (List PV→Option (Bool × Ret))=>zW P x.1 x.2) l):(OrL.k l).Ok P:=fun g o ho ps r hr=>h.of (qVZ ho) ps r hr
def listed (l:List (List PV × Ret)):List PV→Option (Bool × Ret):=fun ps=>(kGX l ps).bind fun r=>some (true,r)
def PV.val1:PV→Value
 | .n k x=>.int k x
 | .b x=>.bool x
 | .s x=>.string x
 | _=>.nilIface
def PV.val:PV→Value
 | .a cs=>.agg (cs.map PV.val1).toArray
 | x=>x.val1
theorem jGK {F:Nat→Prop} {w:World} {p:PV} {v:Value} (hp:p.flat1=true) (h:RP F w p v):v=p.val1:=by
 cases h <;> first | rfl | (simp [PV.flat1] at hp; done)
theorem zGJ {F:Nat→Prop} {w:World} {p:PV} (hp:p.flat1=true):RP F w p p.val1∧p.val1.oneCell'=true:=by
 cases p <;> first | (simp [PV.flat1] at hp; done) | exact ⟨by constructor,rfl⟩
theorem kXU {F:Nat→Prop} {w:World} {p:PV} {v:Value} (hp:p.flat2=true) (h:RP F w p v):v=p.val:=by
 cases p with
 | a cs =>
  cases h with
  | a _ vs hl h1 h =>
   have e:vs=cs.map PV.val1:=List.ext_getElem? fun i=>by
    rw [vZY];cases hc:cs[i]? with
    | none=>rw [Option.map_none,List.getElem?_eq_none (by have:=List.getElem?_eq_none_iff.1 hc; omega)]
    | some c =>
     have hi:=(List.getElem?_eq_some_iff.1 hc).1;have hv:vs[i]? = some (vs[i]'(by omega)):=vQK (by omega);rw [hv,Option.map_some,jGK (List.all_eq_true.1 hp c (vQG hc)) (h i c _ hc hv)]
   rw [e]; rfl
 | _=>exact jGK (by first | exact hp | (simp [PV.flat2,PV.flat1] at hp)) h
theorem val_rp {F:Nat→Prop} {w:World} {p:PV} (hp:p.flat2=true):RP F w p p.val:=by
 cases p with
 | a cs =>
  refine .a cs (cs.map PV.val1) (by simp) (fun v hv => ?_) fun i p v hi hv => ?_
  ·obtain ⟨c,hc,rfl⟩:=List.mem_map.1 hv;exact (zGJ (F:=F) (w:=w) (List.all_eq_true.1 hp c hc)).2
  ·rw [vZY,hi] at hv;cases hv;exact (zGJ (List.all_eq_true.1 hp p (vQG hi))).1
 | _=>exact (zGJ (by first | exact hp | (simp [PV.flat2,PV.flat1] at hp))).1
theorem zJ {P:Program} {f:Nat} {ps:List PV} {x:PV} (hent:kH P f) (hp:ps.all PV.flat2=true) (hx:x.flat2=true) (h:∀ w,Calls P f (ps.map PV.val).toArray w (Rets x.val w)):zH P f ps (.v x):=by
 refine ⟨hent,fun w F vals hF hal => ?_⟩;have e:vals=ps.map PV.val:=List.ext_getElem? fun i=>by
  rw [vZY];have hl:=hal.1;cases hc:ps[i]? with
  | none=>rw [Option.map_none,List.getElem?_eq_none (by have:=List.getElem?_eq_none_iff.1 hc; omega)]
  | some c =>
   have hi:=(List.getElem?_eq_some_iff.1 hc).1;have hv:vals[i]? = some (vals[i]'(by omega)):=vQK (by omega);rw [hv,Option.map_some,kXU (List.all_eq_true.1 hp c (vQG hc)) (hal.2 i c _ hc hv)]
 rw [e];exact (h w).mono fun e w' ⟨he,hg⟩=>⟨x.val,F,he,hg,fun k hk=>hk,fun k hk=>.inl hk,val_rp hx⟩
theorem zX {P:Program} {f:Nat} {ps:List PV} {x:PV} (h:zH P f ps (.v x)) (hp:ps.all PV.flat2=true) (hx:x.flat2=true) (w:World):Calls P f (ps.map PV.val).toArray w (Rets x.val w):=by
 refine Calls.mono (h.2 w (fun _=>False) (ps.map PV.val) (fun k hk=>hk.elim) ⟨by simp,fun i p v hi hv => ?_⟩) fun e w' ⟨v,F',he,hg,_,_,hr⟩=>⟨by rw [he,kXU hx hr],hg⟩
 rw [vZY,hi] at hv;cases hv;exact val_rp (List.all_eq_true.1 hp p (vQG hi))
end Go.Rx
namespace Go.Sx
def dn (x:Int):Nat→Int
 | 0=>1073741824
 | 1=>x * 6746518852 / 65536
 | k + 2=>dn x (k + 1) * (x * 6746518852 / 65536) / 1073741824
def up (x:Int):Nat→Int
 | 0=>1073741824
 | 1=>zG (x * 6746518853) 65536
 | k + 2=>zG (up x (k + 1) * zG (x * 6746518853) 65536) 1073741824
theorem step_dn {m t r:Int} (h:r=m * t / 1073741824) (hm:0≤m∧m≤1073741824) (ht:0≤t∧t≤1073741824):0≤r∧r≤1073741824:=by
 subst h;have h1:0≤m * t:=Int.mul_nonneg hm.1 ht.1;have h2:m * t≤1073741824 * 1073741824:=Int.mul_le_mul hm.2 ht.2 ht.1 (by decide);omega
theorem yZG {a b:Int} (hb:0 < b):a≤zG a b * b∧zG a b * b < a + b:=by
 unfold zG;have h1:=Int.ediv_mul_le (-a) (Int.ne_of_gt hb);have h2:=Int.lt_ediv_add_one_mul_self (-a) hb;rw [Int.add_mul] at h2;rw [Int.neg_mul];omega
theorem step_up {m t r:Int} (h:r=zG (m * t) 1073741824) (hm:0≤m∧m≤1073741824) (ht:0≤t∧t≤1073741824):0≤r∧r≤1073741824:=by
 subst h;have h1:0≤m * t:=Int.mul_nonneg hm.1 ht.1;have h2:m * t≤1073741824 * 1073741824:=Int.mul_le_mul hm.2 ht.2 ht.1 (by decide);have h3:=yZG (a:=m * t) (b:=1073741824) (by decide);omega
theorem jGU {x r:Int} (h:r=zG (x * 6746518853) 65536) (hx:0≤x∧x≤8192):0≤r∧r≤1073741824:=by
 have h3:=yZG (a:=x * 6746518853) (b:=65536) (by decide);omega
theorem qGQ {x:Int} (hx:0≤x∧x≤8192):∀ k,0≤dn x k∧dn x k≤1073741824
 | 0=>by simp [dn]
 | 1=>by simp only [dn]; omega
 | k + 2=>step_dn rfl (qGQ hx (k + 1)) (by omega)
theorem qUZ {x:Int} (hx:0≤x∧x≤8192):∀ k,0≤up x k∧up x k≤1073741824
 | 0=>by simp [up]
 | 1=>jGU rfl hx
 | k + 2=>step_up rfl (qUZ hx (k + 1)) (jGU rfl hx)
def encI (low high:Int):Iv:=⟨max 0 (low / 16384),min 65536 (zG high 16384)⟩
def sinL (x:Int):Int:=dn x 1 - zG (up x 3) 6 + dn x 5 / 120 - zG (up x 7) 5040
def sinU (x:Int):Int:=up x 1 - dn x 3 / 6 + zG (up x 5) 120 - dn x 7 / 5040 + zG (up x 9) 362880
def cosL (x:Int):Int:=1073741824 - zG (up x 2) 2 + dn x 4 / 24 - zG (up x 6) 720 + dn x 8 / 40320 - zG (up x 10) 3628800
def cosU (x:Int):Int:=1073741824 - dn x 2 / 2 + zG (up x 4) 24 - dn x 6 / 720 + zG (up x 8) 40320
def jYG (x:Int):Iv:=encI (sinL x) (sinU x)
def zUX (x:Int):Iv:=encI (cosL x) (cosU x)
def uX (r:Int):Iv:=bif decide (r≤8192) then jYG r else zUX (16384 - r)
def sinM (m:Int):Iv:=bif decide (m / 16384=0) then uX (m % 16384) else bif decide (m / 16384=1) then uX (16384 - m % 16384)
 else bif decide (m / 16384=2) then Iv.neg (uX (m % 16384)) else Iv.neg (uX (16384 - m % 16384))
def sinI (a:Int):Iv:=sinM (a % 65536)
def cosI (a:Int):Iv:=sinI (a % 65536 + 16384)
def qQY (a:Iv) (c:Int):Bool:=decide (a.lo + (c - a.lo) % 65536≤a.hi)
def overI (a:Iv) (low high:Iv) (top bottom:Int):Iv :=
 bif !a.valid then ⟨0,0⟩ else bif decide (65536≤a.hi - a.lo) then ⟨-65536,65536⟩ else
  let x:=Iv.hull low high
  let y:=bif qQY a top then Iv.hull x (Iv.of 65536) else x
  bif qQY a bottom then Iv.hull y (Iv.of (-65536)) else y
def uV (a:Iv):Iv:=overI a (sinI a.lo) (sinI a.hi) 16384 49152
def uH (a:Iv):Iv:=overI a (cosI a.lo) (cosI a.hi) 0 32768
theorem ceiling_eq {a b:Int} (ha:0≤a) (hb:0 < b):(a + b - 1) / b=zG a b:=by
 refine (yZH hb ?_ ?_).symm
 ·have:=Int.lt_ediv_add_one_mul_self (a + b - 1) hb
  rw [Int.add_mul] at this;omega
 ·have:=Int.ediv_mul_le (a + b - 1) (Int.ne_of_gt hb)
  omega
theorem ceil_nonneg {a b:Int} (ha:0≤a) (hb:0 < b):0≤zG a b∧zG a b≤a:=by
 have h:=yZG (a:=a) hb;constructor
 ·rcases Int.lt_or_le (zG a b) 0 with h1 | h1
  ·have:zG a b * b ≤ -1 * b:=Int.mul_le_mul_of_nonneg_right (by omega) (Int.le_of_lt hb)
   omega
  ·exact h1
 ·rcases Int.lt_or_le a (zG a b) with h1 | h1
  ·have:(a + 1) * b≤zG a b * b:=Int.mul_le_mul_of_nonneg_right (by omega) (Int.le_of_lt hb)
   rw [Int.add_mul] at this;have h3:a * 1≤a * b:=Int.mul_le_mul_of_nonneg_left (by omega) ha;omega
  ·exact h1
theorem jJ {r a b:Int} (h:r=zG a b) (ha:0≤a∧a≤1073741824) (hb:0 < b):0≤r∧r≤1073741824:=by
 have:=ceil_nonneg ha.1 hb
 omega
theorem ceil_quo {a b:Int} (ha:0≤a∧a≤1073741824) (hb:0 < b∧b≤1073741824):vJJ .i64 ((a + b - 1).tdiv b)=zG a b:=by
 rw [tdiv_nonneg (by omega) (by omega),ceiling_eq ha.1 hb.1];exact zK (by have:=ceil_nonneg ha.1 hb.1; omega)
theorem round_neg {n k:Int} (hk:0 < k) (h:n.tmod k < 0):n.tmod k + k=n % k:=by
 have e:=Int.tdiv_mul_add_tmod n k;have f:=yHH hk h;have g:=Int.mul_ediv_add_emod n k;rw [← f,Int.mul_comm,Int.sub_mul] at g;omega
theorem round_pos {n k:Int} (hk:0 < k) (h:¬ n.tmod k < 0):n.tmod k=n % k:=by
 have e:=Int.tdiv_mul_add_tmod n k;have f:=floor_pos hk h;have g:=Int.mul_ediv_add_emod n k;rw [← f,Int.mul_comm] at g;omega
end Go.Sx
namespace Go.Sx
def cN (a b:Nat):Nat:=(a + (b - 1)) / b
def d1N (x:Nat):Nat:=x * 6746518852 / 65536
def u1N (x:Nat):Nat:=(x * 6746518853 + 65535) / 65536
def dN (x:Nat):Nat→Nat
 | 0=>1073741824
 | 1=>d1N x
 | k + 2=>dN x (k + 1) * d1N x / 1073741824
def uN (x:Nat):Nat→Nat
 | 0=>1073741824
 | 1=>u1N x
 | k + 2=>(uN x (k + 1) * u1N x + 1073741823) / 1073741824
def sLo (x:Nat):Nat:=((dN x 1 + dN x 5 / 120) - (cN (uN x 3) 6 + cN (uN x 7) 5040)) / 16384
def sHi (x:Nat):Nat:=min 65536 ((((uN x 1 + cN (uN x 5) 120 + cN (uN x 9) 362880) - (dN x 3 / 6 + dN x 7 / 5040)) + 16383) / 16384)
def cLo (x:Nat):Nat:=((1073741824 + dN x 4 / 24 + dN x 8 / 40320) - (cN (uN x 2) 2 + cN (uN x 6) 720 + cN (uN x 10) 3628800)) / 16384
def cHi (x:Nat):Nat:=min 65536 ((((1073741824 + cN (uN x 4) 24 + cN (uN x 8) 40320) - (dN x 2 / 2 + dN x 6 / 720)) + 16383) / 16384)
def fLo (r:Nat):Nat:=if r≤8192 then sLo r else cLo (16384 - r)
def fHi (r:Nat):Nat:=if r≤8192 then sHi r else cHi (16384 - r)
theorem jYZ {r:Nat} (h:r≤8192):fLo r=sLo r∧fHi r=sHi r:=⟨if_pos h,if_pos h⟩
theorem kKY {r:Nat} (h:8192 < r):fLo r=cLo (16384 - r)∧fHi r=cHi (16384 - r):=⟨if_neg (by omega),if_neg (by omega)⟩
def frc (n:Nat) (k:Nat→Bool):Bool:=Nat.rec (motive:=fun _=>Bool) (k 0) (fun m _=>k (Nat.succ m)) n
theorem kGU (n:Nat) (k:Nat→Bool):frc n k=k n:=by cases n <;> rfl
def kXK (x:Nat) (K:Nat→Nat→Nat→Nat→Bool):Bool :=
 frc x fun x=>frc (x * 6746518852 / 65536) fun d1=>frc ((x * 6746518853 + 65535) / 65536) fun u1 =>
 frc (d1 * d1 / 1073741824) fun d2=>frc ((u1 * u1 + 1073741823) / 1073741824) fun u2 =>
 frc (d2 * d1 / 1073741824) fun d3=>frc ((u2 * u1 + 1073741823) / 1073741824) fun u3 =>
 frc (d3 * d1 / 1073741824) fun d4=>frc ((u3 * u1 + 1073741823) / 1073741824) fun u4 =>
 frc (d4 * d1 / 1073741824) fun d5=>frc ((u4 * u1 + 1073741823) / 1073741824) fun u5 =>
 frc (d5 * d1 / 1073741824) fun d6=>frc ((u5 * u1 + 1073741823) / 1073741824) fun u6 =>
 frc (d6 * d1 / 1073741824) fun d7=>frc ((u6 * u1 + 1073741823) / 1073741824) fun u7 =>
 frc (d7 * d1 / 1073741824) fun d8=>frc ((u7 * u1 + 1073741823) / 1073741824) fun u8 =>
 frc ((u8 * u1 + 1073741823) / 1073741824) fun u9=>frc ((u9 * u1 + 1073741823) / 1073741824) fun u10 =>
 frc (((d1 + d5 / 120) - ((u3 + 5) / 6 + (u7 + 5039) / 5040)) / 16384) fun slo =>
 frc (min 65536 ((((u1 + (u5 + 119) / 120 + (u9 + 362879) / 362880) - (d3 / 6 + d7 / 5040)) + 16383) / 16384)) fun shi =>
 frc (((1073741824 + d4 / 24 + d8 / 40320) - ((u2 + 1) / 2 + (u6 + 719) / 720 + (u10 + 3628799) / 3628800)) / 16384) fun clo =>
 frc (min 65536 ((((1073741824 + (u4 + 23) / 24 + (u8 + 40319) / 40320) - (d2 / 2 + d6 / 720)) + 16383) / 16384)) fun chi=>K slo shi clo chi
theorem jYJ (x:Nat) (K:Nat→Nat→Nat→Nat→Bool):kXK x K=K (sLo x) (sHi x) (cLo x) (cHi x):=by
 unfold kXK;simp only [kGU];rfl
def one (x a b c d:Nat):Bool :=
 Nat.ble a b && (Nat.ble b 65536 && (Nat.ble b (a + 2) && (Nat.ble c d && (Nat.ble d 65536 && (Nat.ble d (c + 2) &&
 (Nat.ble (4 * x) b && (Nat.ble (4 * x) (a + 2) && (Nat.ble a (x * 411775 / 65536 + 1) &&
 (Nat.ble (4 * (16384 - x)) d && (Nat.ble (4 * (16384 - x)) (c + 2) && (Nat.ble c ((16384 - x) * 411775 / 65536 + 1) &&
 (Nat.ble (a * a / 65536 + c * c / 65536) 65536 && Nat.ble 65536 ((b * b + 65535) / 65536 + (d * d + 65535) / 65536)))))))))))))
structure Fst (r:Nat):Prop where
 ord:fLo r≤fHi r
 top:fHi r≤65536
 wid:fHi r≤fLo r + 2
 ch1:4 * r≤fHi r
 ch2:4 * r≤fLo r + 2
 ch3:fLo r≤r * 411775 / 65536 + 1
end Go.Sx
namespace Go.Sx
theorem neg_mk {x y:Int} (h : -2147483648≤x∧x≤y∧y≤2147483648):Iv.neg ⟨x,y⟩=⟨-y,-x⟩:=by
 have:Iv.valid ⟨x,y⟩=true:=by simp [Iv.valid]; omega
 simp [Iv.neg,this]
theorem neg_of {a:Iv} (h : -2147483648≤a.lo∧a.lo≤a.hi∧a.hi≤2147483648):Iv.neg a=⟨-a.hi,-a.lo⟩:=neg_mk (x:=a.lo) (y:=a.hi) h
theorem valid_of {a:Iv} (h : -2147483648≤a.lo∧a.lo≤a.hi∧a.hi≤2147483648):a.valid=true:=by simp [Iv.valid]; omega
theorem neg_neg {a:Iv} (h : -2147483648≤a.lo∧a.lo≤a.hi∧a.hi≤2147483648):Iv.neg (Iv.neg a)=a:=by
 rw [neg_of h,neg_mk (by omega),Int.neg_neg,Int.neg_neg]
end Go.Sx
namespace Go.Sx
def nn:Nat:=340282366920938463463374607431768211456
def uu:Nat:=5192296858534827628530496329220096
def uc:Nat:=340282365357037221779282487371359009126
def us:Nat:=32624163282081701561065576601652201
def w:Nat→Nat × Nat
 | 0=>(nn,0)
 | n + 1=>(((w n).1 * uc - (w n).2 * us) / nn,((w n).1 * us + (w n).2 * uc) / nn)
def bx (S C a b c d:Nat):Bool:=Nat.ble (a * 5192296858534827628530496329220096) S && (Nat.ble S (b * 5192296858534827628530496329220096) && (Nat.ble (c * 5192296858534827628530496329220096) C && Nat.ble C (d * 5192296858534827628530496329220096)))
def goU (C' T':Nat):Nat→Nat→Nat→Nat→Bool
 | 0,C,T,_=>Nat.beq C C' && Nat.beq T T'
 | k + 1,C,T,x=>(kXK x fun a b c d=>bx T C a b c d) && (Nat.ble (T * 32624163282081701561065576601652201) (C * 340282365357037221779282487371359009126) && frc ((C * 340282365357037221779282487371359009126 - T * 32624163282081701561065576601652201) / 340282366920938463463374607431768211456) fun C2=>frc ((C * 32624163282081701561065576601652201 + T * 340282365357037221779282487371359009126) / 340282366920938463463374607431768211456) fun T2=>frc (x + 1) fun x2=>goU C' T' k C2 T2 x2)
def goD (C' T':Nat):Nat→Nat→Nat→Nat→Bool
 | 0,C,T,_=>Nat.beq C C' && Nat.beq T T'
 | k + 1,C,T,x=>(kXK x fun a b c d=>bx C T a b c d) && (Nat.ble (T * 32624163282081701561065576601652201) (C * 340282365357037221779282487371359009126) && frc ((C * 340282365357037221779282487371359009126 - T * 32624163282081701561065576601652201) / 340282366920938463463374607431768211456) fun C2=>frc ((C * 32624163282081701561065576601652201 + T * 340282365357037221779282487371359009126) / 340282366920938463463374607431768211456) fun T2=>frc (x - 1) fun x2=>goD C' T' k C2 T2 x2)
structure BoxU (r:Nat):Prop where
 sl:sLo r * uu≤(w r).2
 sh:(w r).2≤sHi r * uu
 cl:cLo r * uu≤(w r).1
 ch:(w r).1≤cHi r * uu
 st:(w r).2 * us≤(w r).1 * uc
structure BoxD (r:Nat):Prop where
 sl:sLo (16384 - r) * uu≤(w r).1
 sh:(w r).1≤sHi (16384 - r) * uu
 cl:cLo (16384 - r) * uu≤(w r).2
 ch:(w r).2≤cHi (16384 - r) * uu
 st:(w r).2 * us≤(w r).1 * uc
theorem qJZ {C' T':Nat}:∀ k C T x,goU C' T' k C T x=true→w x=(C,T)→w (x + k)=(C',T')∧∀ i,x≤i→i < x + k→BoxU i
 | 0,C,T,x,h,e=>by
  simp only [goU,vQJ] at h;refine ⟨?_,fun i a b=>absurd b (by omega)⟩;rw [Nat.add_zero,e,vQX h.1,vQX h.2]
 | k + 1,C,T,x,h,e=>by
  simp only [goU,kGU,jYJ,bx,vQJ] at h;obtain ⟨⟨h1,h2,h3,h4⟩,h5,h6⟩:=h;obtain ⟨q1,q2⟩:=qJZ k _ _ (x + 1) h6 (by rw [w,e]; rfl);refine ⟨by rw [← q1]; congr 1; omega,fun i a b => ?_⟩;by_cases hi:i=x
  ·subst hi;exact ⟨by rw [e]; exact vZX h1,by rw [e]; exact vZX h2,by rw [e]; exact vZX h3,by rw [e]; exact vZX h4,by rw [e]; exact vZX h5⟩
  ·exact q2 i (by omega) (by omega)
theorem qJU {C' T':Nat}:∀ k C T r,r≤16384→k≤16384 - r→goD C' T' k C T (16384 - r)=true→w r=(C,T)→w (r + k)=(C',T')∧∀ i,r≤i→i < r + k→BoxD i
 | 0,C,T,x,_,_,h,e=>by
  simp only [goD,vQJ] at h;refine ⟨?_,fun i a b=>absurd b (by omega)⟩;rw [Nat.add_zero,e,vQX h.1,vQX h.2]
 | k + 1,C,T,x,g1,g2,h,e=>by
  simp only [goD,kGU,jYJ,bx,vQJ] at h;obtain ⟨⟨h1,h2,h3,h4⟩,h5,h6⟩:=h;rw [show 16384 - x - 1=16384 - (x + 1) by omega] at h6;obtain ⟨q1,q2⟩:=qJU k _ _ (x + 1) (by omega) (by omega) h6 (by rw [w,e]; rfl);refine ⟨by rw [← q1]; congr 1; omega,fun i a b => ?_⟩;by_cases hi:i=x
  ·subst hi;exact ⟨by rw [e]; exact vZX h1,by rw [e]; exact vZX h2,by rw [e]; exact vZX h3,by rw [e]; exact vZX h4,by rw [e]; exact vZX h5⟩
  ·exact q2 i (by omega) (by omega)
theorem wk0:goU 338643814315582355912937410983956791763 33353504510164655995148692933346502990 1024 340282366920938463463374607431768211456 0 0=true:=by decide +kernel
theorem wk1:goU 333743936656827580393945988194117882553 66385796539016198537004233666266150132 1024 338643814315582355912937410983956791763 33353504510164655995148692933346502990 1024=true:=by decide +kernel
theorem wk2:goU 325629922445073537381874007154866693371 98778757057029163154891549979681820108 1024 333743936656827580393945988194117882553 66385796539016198537004233666266150132 2048=true:=by decide +kernel
theorem wk3:goU 314379914072750776175968446003616356708 130220424146621615521356287373662035415 1024 325629922445073537381874007154866693371 98778757057029163154891549979681820108 3072=true:=by decide +kernel
theorem wk4:goU 300102255270364911803307903246760032214 160407997365957196655387116525924829546 1024 314379914072750776175968446003616356708 130220424146621615521356287373662035415 4096=true:=by decide +kernel
theorem wk5:goU 282934447697145148265594844368147524013 189050753882727566157415671255032869469 1024 300102255270364911803307903246760032214 160407997365957196655387116525924829546 5120=true:=by decide +kernel
theorem wk6:goU 263041826724899848421390153308517431640 215872848293952797667059038248426017122 1024 282934447697145148265594844368147524013 189050753882727566157415671255032869469 6144=true:=by decide +kernel
theorem wk7:goU 240615969168004511545033772483698474358 240615969168004511545033772471550468243 1024 263041826724899848421390153308517431640 215872848293952797667059038248426017122 7168=true:=by decide +kernel
theorem wk8:goD 215872848293952797667059038261706108609 263041826724899848421390153297618474197 1024 240615969168004511545033772483698474358 240615969168004511545033772471550468243 8192=true:=by decide +kernel
theorem wk9:goD 189050753882727566157415671269317183057 282934447697145148265594844358602552466 1024 215872848293952797667059038261706108609 263041826724899848421390153297618474197 7168=true:=by decide +kernel
theorem wk10:goD 160407997365957196655387116541075833093 300102255270364911803307903238660947340 1024 189050753882727566157415671269317183057 282934447697145148265594844358602552466 6144=true:=by decide +kernel
theorem wk11:goD 130220424146621615521356287389533852184 314379914072750776175968445997041138024 1024 160407997365957196655387116541075833093 300102255270364911803307903238660947340 5120=true:=by decide +kernel
theorem wk12:goD 98778757057029163154891549996121633199 325629922445073537381874007149878648288 1024 130220424146621615521356287389533852184 314379914072750776175968445997041138024 4096=true:=by decide +kernel
theorem wk13:goD 66385796539016198537004233683115673837 333743936656827580393945988190765036869 1024 98778757057029163154891549996121633199 325629922445073537381874007149878648288 3072=true:=by decide +kernel
theorem wk14:goD 33353504510164655995148692950443506845 338643814315582355912937410982271427247 1024 66385796539016198537004233683115673837 333743936656827580393945988190765036869 2048=true:=by decide +kernel
theorem wk15:goD 17179870747 340282366920938463463374607431766555032 1024 33353504510164655995148692950443506845 338643814315582355912937410982271427247 1024=true:=by decide +kernel
theorem ws0:w 0=(340282366920938463463374607431768211456,0):=rfl
theorem ws1:w 1024=(338643814315582355912937410983956791763,33353504510164655995148692933346502990):=(qJZ 1024 _ _ 0 wk0 ws0).1
theorem ws2:w 2048=(333743936656827580393945988194117882553,66385796539016198537004233666266150132):=(qJZ 1024 _ _ 1024 wk1 ws1).1
theorem ws3:w 3072=(325629922445073537381874007154866693371,98778757057029163154891549979681820108):=(qJZ 1024 _ _ 2048 wk2 ws2).1
theorem ws4:w 4096=(314379914072750776175968446003616356708,130220424146621615521356287373662035415):=(qJZ 1024 _ _ 3072 wk3 ws3).1
theorem ws5:w 5120=(300102255270364911803307903246760032214,160407997365957196655387116525924829546):=(qJZ 1024 _ _ 4096 wk4 ws4).1
theorem ws6:w 6144=(282934447697145148265594844368147524013,189050753882727566157415671255032869469):=(qJZ 1024 _ _ 5120 wk5 ws5).1
theorem ws7:w 7168=(263041826724899848421390153308517431640,215872848293952797667059038248426017122):=(qJZ 1024 _ _ 6144 wk6 ws6).1
theorem ws8:w 8192=(240615969168004511545033772483698474358,240615969168004511545033772471550468243):=(qJZ 1024 _ _ 7168 wk7 ws7).1
theorem ws9:w 9216=(215872848293952797667059038261706108609,263041826724899848421390153297618474197):=(qJU 1024 _ _ 8192 (by decide) (by decide) wk8 ws8).1
theorem ws10:w 10240=(189050753882727566157415671269317183057,282934447697145148265594844358602552466):=(qJU 1024 _ _ 9216 (by decide) (by decide) wk9 ws9).1
theorem ws11:w 11264=(160407997365957196655387116541075833093,300102255270364911803307903238660947340):=(qJU 1024 _ _ 10240 (by decide) (by decide) wk10 ws10).1
theorem ws12:w 12288=(130220424146621615521356287389533852184,314379914072750776175968445997041138024):=(qJU 1024 _ _ 11264 (by decide) (by decide) wk11 ws11).1
theorem ws13:w 13312=(98778757057029163154891549996121633199,325629922445073537381874007149878648288):=(qJU 1024 _ _ 12288 (by decide) (by decide) wk12 ws12).1
theorem ws14:w 14336=(66385796539016198537004233683115673837,333743936656827580393945988190765036869):=(qJU 1024 _ _ 13312 (by decide) (by decide) wk13 ws13).1
theorem ws15:w 15360=(33353504510164655995148692950443506845,338643814315582355912937410982271427247):=(qJU 1024 _ _ 14336 (by decide) (by decide) wk14 ws14).1
theorem boxU {r:Nat} (h:r < 8192):BoxU r:=by
 have hq:(0≤r∧r < 1024) ∨ (1024≤r∧r < 2048) ∨ (2048≤r∧r < 3072) ∨ (3072≤r∧r < 4096) ∨ (4096≤r∧r < 5120) ∨ (5120≤r∧r < 6144) ∨ (6144≤r∧r < 7168) ∨ (7168≤r∧r < 8192):=by omega
 rcases hq with h | h | h | h | h | h | h | h
 ·exact (qJZ 1024 _ _ 0 wk0 ws0).2 r h.1 h.2
 ·exact (qJZ 1024 _ _ 1024 wk1 ws1).2 r h.1 h.2
 ·exact (qJZ 1024 _ _ 2048 wk2 ws2).2 r h.1 h.2
 ·exact (qJZ 1024 _ _ 3072 wk3 ws3).2 r h.1 h.2
 ·exact (qJZ 1024 _ _ 4096 wk4 ws4).2 r h.1 h.2
 ·exact (qJZ 1024 _ _ 5120 wk5 ws5).2 r h.1 h.2
 ·exact (qJZ 1024 _ _ 6144 wk6 ws6).2 r h.1 h.2
 ·exact (qJZ 1024 _ _ 7168 wk7 ws7).2 r h.1 h.2
theorem boxD {r:Nat} (g:8192≤r) (h:r < 16384):BoxD r:=by
 have hq:(8192≤r∧r < 9216) ∨ (9216≤r∧r < 10240) ∨ (10240≤r∧r < 11264) ∨ (11264≤r∧r < 12288) ∨ (12288≤r∧r < 13312) ∨ (13312≤r∧r < 14336) ∨ (14336≤r∧r < 15360) ∨ (15360≤r∧r < 16384):=by omega
 rcases hq with h | h | h | h | h | h | h | h
 ·exact (qJU 1024 _ _ 8192 (by decide) (by decide) wk8 ws8).2 r h.1 h.2
 ·exact (qJU 1024 _ _ 9216 (by decide) (by decide) wk9 ws9).2 r h.1 h.2
 ·exact (qJU 1024 _ _ 10240 (by decide) (by decide) wk10 ws10).2 r h.1 h.2
 ·exact (qJU 1024 _ _ 11264 (by decide) (by decide) wk11 ws11).2 r h.1 h.2
 ·exact (qJU 1024 _ _ 12288 (by decide) (by decide) wk12 ws12).2 r h.1 h.2
 ·exact (qJU 1024 _ _ 13312 (by decide) (by decide) wk13 ws13).2 r h.1 h.2
 ·exact (qJU 1024 _ _ 14336 (by decide) (by decide) wk14 ws14).2 r h.1 h.2
 ·exact (qJU 1024 _ _ 15360 (by decide) (by decide) wk15 ws15).2 r h.1 h.2
theorem mid0:(kXK 8192 fun a b c d=>bx 240615969168004511545033772471550468243 240615969168004511545033772483698474358 a b c d)=true:=by decide +kernel
theorem mid:sLo 8192 * uu≤(w 8192).2∧(w 8192).2≤sHi 8192 * uu:=by
 have:=mid0
 simp only [jYJ,bx,vQJ] at this;rw [ws8];exact ⟨vZX this.1,vZX this.2.1⟩
theorem box {r:Nat} (h:r < 16384):fLo r * uu≤(w r).2∧(w r).2≤fHi r * uu∧fLo (16384 - r) * uu≤(w r).1∧(w r).1≤fHi (16384 - r) * uu:=by
 rcases Nat.lt_or_ge r 8192 with h1 | h1
 ·have b:=boxU h1;rw [(jYZ (r:=r) (by omega)).1,(jYZ (r:=r) (by omega)).2,(kKY (r:=16384 - r) (by omega)).1,(kKY (r:=16384 - r) (by omega)).2,show 16384 - (16384 - r)=r by omega];exact ⟨b.sl,b.sh,b.cl,b.ch⟩
 ·have b:=boxD h1 h;rw [(jYZ (r:=16384 - r) (by omega)).1,(jYZ (r:=16384 - r) (by omega)).2];rcases Nat.lt_or_ge 8192 r with h2 | h2
  ·rw [(kKY (r:=r) (by omega)).1,(kKY (r:=r) (by omega)).2];exact ⟨b.cl,b.ch,b.sl,b.sh⟩
  ·have e:r=8192:=by omega
   subst e;rw [(jYZ (r:=8192) (by omega)).1,(jYZ (r:=8192) (by omega)).2];have k:=mid;exact ⟨k.1,k.2,b.sl,b.sh⟩
end Go.Sx
namespace Go.Sx
def WC (r:Nat):Int:=((w r).1:Int)
def WT (r:Nat):Int:=((w r).2:Int)
theorem w0:WC 0=(340282366920938463463374607431768211456:Int)∧WT 0=0:=⟨rfl,rfl⟩
end Go.Sx
namespace Go.Sx
structure In (I:Iv) (m x:Int):Prop where
 lo:I.lo * m≤x
 hi:x≤I.hi * m
def Ok (a:Iv):Prop:=-2147483648≤a.lo∧a.lo≤a.hi∧a.hi≤2147483648
theorem clamp_bnd (z:Int) : -2147483648≤qYG z∧qYG z≤2147483648:=by unfold qYG; omega
theorem clamp_mono {x y:Int} (h:x≤y):qYG x≤qYG y:=by unfold qYG; omega
theorem mul_Ok (a b:Iv):Ok (Iv.mul a b):=by
 unfold Iv.mul;cases a.valid && b.valid
 ·exact (show Ok ⟨0,0⟩ by unfold Ok; decide)
 ·refine ⟨(clamp_bnd _).1,clamp_mono ?_,(clamp_bnd _).2⟩;have hc:=yZG (a:=max4 (a.lo * b.lo) (a.lo * b.hi) (a.hi * b.lo) (a.hi * b.hi)) (b:=65536) (by decide)
  have:min4 (a.lo * b.lo) (a.lo * b.hi) (a.hi * b.lo) (a.hi * b.hi)≤max4 (a.lo * b.lo) (a.lo * b.hi) (a.hi * b.lo) (a.hi * b.hi):=by unfold min4 max4; omega
  omega
end Go.Sx
namespace Go.Sx
structure V3 where
 x:Iv
 y:Iv
 z:Iv
structure M3 where
 x:V3
 y:V3
 z:V3
structure Po where
 r:M3
 t:V3
structure Z3 where
 x:Int
 y:Int
 z:Int
def z3 (v:Z3):Value:=.agg #[.int .i64 v.x,.int .i64 v.y,.int .i64 v.z]
def v3 (v:V3):Value:=.agg #[.int .i64 v.x.lo,.int .i64 v.x.hi,.int .i64 v.y.lo,.int .i64 v.y.hi,.int .i64 v.z.lo,.int .i64 v.z.hi]
def m3 (v:M3):Value:=.agg #[.int .i64 v.x.x.lo,.int .i64 v.x.x.hi,.int .i64 v.x.y.lo,.int .i64 v.x.y.hi,.int .i64 v.x.z.lo,.int .i64 v.x.z.hi,
 .int .i64 v.y.x.lo,.int .i64 v.y.x.hi,.int .i64 v.y.y.lo,.int .i64 v.y.y.hi,.int .i64 v.y.z.lo,.int .i64 v.y.z.hi,
 .int .i64 v.z.x.lo,.int .i64 v.z.x.hi,.int .i64 v.z.y.lo,.int .i64 v.z.y.hi,.int .i64 v.z.z.lo,.int .i64 v.z.z.hi]
def po (p:Po):Value:=.agg #[.int .i64 p.r.x.x.lo,.int .i64 p.r.x.x.hi,.int .i64 p.r.x.y.lo,.int .i64 p.r.x.y.hi,.int .i64 p.r.x.z.lo,.int .i64 p.r.x.z.hi,
 .int .i64 p.r.y.x.lo,.int .i64 p.r.y.x.hi,.int .i64 p.r.y.y.lo,.int .i64 p.r.y.y.hi,.int .i64 p.r.y.z.lo,.int .i64 p.r.y.z.hi,
 .int .i64 p.r.z.x.lo,.int .i64 p.r.z.x.hi,.int .i64 p.r.z.y.lo,.int .i64 p.r.z.y.hi,.int .i64 p.r.z.z.lo,.int .i64 p.r.z.z.hi,
 .int .i64 p.t.x.lo,.int .i64 p.t.x.hi,.int .i64 p.t.y.lo,.int .i64 p.t.y.hi,.int .i64 p.t.z.lo,.int .i64 p.t.z.hi]
def V3.of (p:Z3):V3:=⟨Iv.of p.x,Iv.of p.y,Iv.of p.z⟩
def V3.add (a b:V3):V3:=⟨Iv.add a.x b.x,Iv.add a.y b.y,Iv.add a.z b.z⟩
def V3.sub (a b:V3):V3:=⟨Iv.sub a.x b.x,Iv.sub a.y b.y,Iv.sub a.z b.z⟩
def V3.neg (a:V3):V3:=⟨Iv.neg a.x,Iv.neg a.y,Iv.neg a.z⟩
def V3.within (a b:V3):Bool:=Iv.within a.x b.x && Iv.within a.y b.y && Iv.within a.z b.z
def V3.dot (a b:V3):Iv:=Iv.add (Iv.add (Iv.mul a.x b.x) (Iv.mul a.y b.y)) (Iv.mul a.z b.z)
def M3.apply (m:M3) (v:V3):V3:=⟨V3.dot m.x v,V3.dot m.y v,V3.dot m.z v⟩
def limI (x:Int):Int:=min (max x (-65536)) 65536
def limV (a:Iv):Iv:=⟨limI a.lo,limI a.hi⟩
def M3.tr (m:M3):M3:=⟨⟨m.x.x,m.y.x,m.z.x⟩,⟨m.x.y,m.y.y,m.z.y⟩,⟨m.x.z,m.y.z,m.z.z⟩⟩
def M3.row (a:V3) (b:M3):V3:=⟨limV (V3.dot a b.tr.x),limV (V3.dot a b.tr.y),limV (V3.dot a b.tr.z)⟩
def M3.mul (a b:M3):M3:=⟨M3.row a.x b,M3.row a.y b,M3.row a.z b⟩
def M3.within (a b:M3):Bool:=V3.within a.x b.x && V3.within a.y b.y && V3.within a.z b.z
def iv0:Iv:=⟨0,0⟩
def iv1:Iv:=⟨65536,65536⟩
def M3.unit:M3:=⟨⟨iv1,iv0,iv0⟩,⟨iv0,iv1,iv0⟩,⟨iv0,iv0,iv1⟩⟩
def M3.zero:M3:=⟨⟨iv0,iv0,iv0⟩,⟨iv0,iv0,iv0⟩,⟨iv0,iv0,iv0⟩⟩
def M3.turn (axis:Int) (a:Iv):M3:=bif !a.valid then M3.zero else
 bif decide (axis=0) then ⟨⟨iv1,iv0,iv0⟩,⟨iv0,uH a,Iv.neg (uV a)⟩,⟨iv0,uV a,uH a⟩⟩ else
 bif decide (axis=1) then ⟨⟨uH a,iv0,uV a⟩,⟨iv0,iv1,iv0⟩,⟨Iv.neg (uV a),iv0,uH a⟩⟩ else
 bif decide (axis=2) then ⟨⟨uH a,Iv.neg (uV a),iv0⟩,⟨uV a,uH a,iv0⟩,⟨iv0,iv0,iv1⟩⟩ else M3.zero
theorem of_one:Iv.of 65536=iv1:=by kernel_rfl
theorem of_zero:Iv.of 0=iv0:=by kernel_rfl
theorem add_zero_mul (a b:Iv):Iv.add ⟨0,0⟩ (Iv.mul a b)=Iv.mul a b:=by
 have h:=mul_Ok a b;have hz:Iv.valid ⟨0,0⟩=true:=by decide
 simp only [Iv.add,hz,valid_of h,vZJ,vYV,Int.zero_add];unfold Ok at h;rw [clampI_id (by omega),clampI_id (by omega)]
theorem lim_ref (x:Int):max (-65536) (min x 65536)=limI x:=by unfold limI; omega
end Go.Sx
namespace Go.Sx
def V3.zero:V3:=⟨iv0,iv0,iv0⟩
def Po.shift (v:V3):Po:=⟨M3.unit,v⟩
def Po.rest:Po:=⟨M3.unit,V3.zero⟩
def Po.turn (axis:Int) (a:Iv):Po:=⟨M3.turn axis a,V3.zero⟩
def Po.app (p:Po) (v:V3):V3:=V3.add p.t (M3.apply p.r v)
def Po.mul (p q:Po):Po:=⟨M3.mul p.r q.r,Po.app p q.t⟩
def Po.inv (p:Po):Po:=⟨M3.tr p.r,V3.neg (M3.apply (M3.tr p.r) p.t)⟩
def Po.within (p q:Po):Bool:=M3.within p.r q.r && V3.within p.t q.t
end Go.Sx
namespace Go.Rx
open Go.RowKit Go.Sx
def PV.i64:PV→Option Int
 | .n .i64 x=>some x
 | _=>none
def ints (cs:List PV):Option (List Int):=mapO PV.i64 cs
theorem yKH:∀ {cs:List PV} {l:List Int},ints cs=some l→cs=l.map fun x=>.n .i64 x
 | [],l,h=>by cases h; rfl
 | c :: cs,l,h=>by
  simp only [ints,mapO,vQQ,vQZ] at h;obtain ⟨x,hx,ys,hys,rfl⟩:=h;rw [List.map_cons,← yKH (cs:=cs) hys];unfold PV.i64 at hx;split at hx
  ·cases hx; rfl
  ·cases hx
def ivs:List Iv→List PV
 | []=>[]
 | p :: l=>.n .i64 p.lo :: .n .i64 p.hi :: ivs l
def ivC (p:Iv):List PV:=[.n .i64 p.lo,.n .i64 p.hi]
def ivD (cs:List PV):Option Iv:=(ints cs).bind fun l=>bif Nat.beq l.length 2 then some ⟨(l.getD 0 0),(l.getD 1 0)⟩ else none
theorem qZY {cs:List PV} {p:Iv} (h:ivD cs=some p):cs=ivC p:=by
 simp only [ivD,vQQ] at h;obtain ⟨l,hl,h⟩:=h;obtain ⟨hn,h⟩:=qH h;have hn:=vQX hn;rw [yKH hl];cases h;obtain _ | ⟨x0,l0⟩:=l <;> simp only [vQW,vQV,vQU] at hn <;> first | (exact absurd hn (by omega)) | skip
 obtain _ | ⟨x1,l1⟩:=l0 <;> simp only [vQW,vQV,vQU] at hn <;> first | (exact absurd hn (by omega)) | skip
 obtain _ | ⟨y,l⟩:=l1 <;> simp only [vQW,vQV] at hn <;> first | (exact absurd hn (by omega)) | skip
 rfl
def z3C (p:Z3):List PV:=[.n .i64 p.x,.n .i64 p.y,.n .i64 p.z]
def z3D (cs:List PV):Option Z3:=(ints cs).bind fun l=>bif Nat.beq l.length 3 then some ⟨(l.getD 0 0),(l.getD 1 0),(l.getD 2 0)⟩ else none
theorem yWX {cs:List PV} {p:Z3} (h:z3D cs=some p):cs=z3C p:=by
 simp only [z3D,vQQ] at h;obtain ⟨l,hl,h⟩:=h;obtain ⟨hn,h⟩:=qH h;have hn:=vQX hn;rw [yKH hl];cases h;obtain _ | ⟨x0,l0⟩:=l <;> simp only [vQW,vQV,vQU] at hn <;> first | (exact absurd hn (by omega)) | skip
 obtain _ | ⟨x1,l1⟩:=l0 <;> simp only [vQW,vQV,vQU] at hn <;> first | (exact absurd hn (by omega)) | skip
 obtain _ | ⟨x2,l2⟩:=l1 <;> simp only [vQW,vQV,vQU] at hn <;> first | (exact absurd hn (by omega)) | skip
 obtain _ | ⟨y,l⟩:=l2 <;> simp only [vQW,vQV] at hn <;> first | (exact absurd hn (by omega)) | skip
 rfl
def v3C (p:V3):List PV:=[.n .i64 p.x.lo,.n .i64 p.x.hi,.n .i64 p.y.lo,.n .i64 p.y.hi,.n .i64 p.z.lo,.n .i64 p.z.hi]
def v3D (cs:List PV):Option V3:=(ints cs).bind fun l=>bif Nat.beq l.length 6 then some ⟨⟨(l.getD 0 0),(l.getD 1 0)⟩,⟨(l.getD 2 0),(l.getD 3 0)⟩,⟨(l.getD 4 0),(l.getD 5 0)⟩⟩ else none
theorem zJK {cs:List PV} {p:V3} (h:v3D cs=some p):cs=v3C p:=by
 simp only [v3D,vQQ] at h;obtain ⟨l,hl,h⟩:=h;obtain ⟨hn,h⟩:=qH h;have hn:=vQX hn;rw [yKH hl];cases h;obtain _ | ⟨x0,l0⟩:=l <;> simp only [vQW,vQV,vQU] at hn <;> first | (exact absurd hn (by omega)) | skip
 obtain _ | ⟨x1,l1⟩:=l0 <;> simp only [vQW,vQV,vQU] at hn <;> first | (exact absurd hn (by omega)) | skip
 obtain _ | ⟨x2,l2⟩:=l1 <;> simp only [vQW,vQV,vQU] at hn <;> first | (exact absurd hn (by omega)) | skip
 obtain _ | ⟨x3,l3⟩:=l2 <;> simp only [vQW,vQV,vQU] at hn <;> first | (exact absurd hn (by omega)) | skip
 obtain _ | ⟨x4,l4⟩:=l3 <;> simp only [vQW,vQV,vQU] at hn <;> first | (exact absurd hn (by omega)) | skip
 obtain _ | ⟨x5,l5⟩:=l4 <;> simp only [vQW,vQV,vQU] at hn <;> first | (exact absurd hn (by omega)) | skip
 obtain _ | ⟨y,l⟩:=l5 <;> simp only [vQW,vQV] at hn <;> first | (exact absurd hn (by omega)) | skip
 rfl
def m3C (p:M3):List PV:=[.n .i64 p.x.x.lo,.n .i64 p.x.x.hi,.n .i64 p.x.y.lo,.n .i64 p.x.y.hi,.n .i64 p.x.z.lo,.n .i64 p.x.z.hi,.n .i64 p.y.x.lo,.n .i64 p.y.x.hi,.n .i64 p.y.y.lo,.n .i64 p.y.y.hi,.n .i64 p.y.z.lo,.n .i64 p.y.z.hi,.n .i64 p.z.x.lo,.n .i64 p.z.x.hi,.n .i64 p.z.y.lo,.n .i64 p.z.y.hi,.n .i64 p.z.z.lo,.n .i64 p.z.z.hi]
def m3D (cs:List PV):Option M3:=(ints cs).bind fun l=>bif Nat.beq l.length 18 then some ⟨⟨⟨(l.getD 0 0),(l.getD 1 0)⟩,⟨(l.getD 2 0),(l.getD 3 0)⟩,⟨(l.getD 4 0),(l.getD 5 0)⟩⟩,⟨⟨(l.getD 6 0),(l.getD 7 0)⟩,⟨(l.getD 8 0),(l.getD 9 0)⟩,⟨(l.getD 10 0),(l.getD 11 0)⟩⟩,⟨⟨(l.getD 12 0),(l.getD 13 0)⟩,⟨(l.getD 14 0),(l.getD 15 0)⟩,⟨(l.getD 16 0),(l.getD 17 0)⟩⟩⟩ else none
theorem yHK {cs:List PV} {p:M3} (h:m3D cs=some p):cs=m3C p:=by
 simp only [m3D,vQQ] at h;obtain ⟨l,hl,h⟩:=h;obtain ⟨hn,h⟩:=qH h;have hn:=vQX hn;rw [yKH hl];cases h;obtain _ | ⟨x0,l0⟩:=l <;> simp only [vQW,vQV,vQU] at hn <;> first | (exact absurd hn (by omega)) | skip
 obtain _ | ⟨x1,l1⟩:=l0 <;> simp only [vQW,vQV,vQU] at hn <;> first | (exact absurd hn (by omega)) | skip
 obtain _ | ⟨x2,l2⟩:=l1 <;> simp only [vQW,vQV,vQU] at hn <;> first | (exact absurd hn (by omega)) | skip
 obtain _ | ⟨x3,l3⟩:=l2 <;> simp only [vQW,vQV,vQU] at hn <;> first | (exact absurd hn (by omega)) | skip
 obtain _ | ⟨x4,l4⟩:=l3 <;> simp only [vQW,vQV,vQU] at hn <;> first | (exact absurd hn (by omega)) | skip
 obtain _ | ⟨x5,l5⟩:=l4 <;> simp only [vQW,vQV,vQU] at hn <;> first | (exact absurd hn (by omega)) | skip
 obtain _ | ⟨x6,l6⟩:=l5 <;> simp only [vQW,vQV,vQU] at hn <;> first | (exact absurd hn (by omega)) | skip
 obtain _ | ⟨x7,l7⟩:=l6 <;> simp only [vQW,vQV,vQU] at hn <;> first | (exact absurd hn (by omega)) | skip
 obtain _ | ⟨x8,l8⟩:=l7 <;> simp only [vQW,vQV,vQU] at hn <;> first | (exact absurd hn (by omega)) | skip
 obtain _ | ⟨x9,l9⟩:=l8 <;> simp only [vQW,vQV,vQU] at hn <;> first | (exact absurd hn (by omega)) | skip
 obtain _ | ⟨x10,l10⟩:=l9 <;> simp only [vQW,vQV,vQU] at hn <;> first | (exact absurd hn (by omega)) | skip
 obtain _ | ⟨x11,l11⟩:=l10 <;> simp only [vQW,vQV,vQU] at hn <;> first | (exact absurd hn (by omega)) | skip
 obtain _ | ⟨x12,l12⟩:=l11 <;> simp only [vQW,vQV,vQU] at hn <;> first | (exact absurd hn (by omega)) | skip
 obtain _ | ⟨x13,l13⟩:=l12 <;> simp only [vQW,vQV,vQU] at hn <;> first | (exact absurd hn (by omega)) | skip
 obtain _ | ⟨x14,l14⟩:=l13 <;> simp only [vQW,vQV,vQU] at hn <;> first | (exact absurd hn (by omega)) | skip
 obtain _ | ⟨x15,l15⟩:=l14 <;> simp only [vQW,vQV,vQU] at hn <;> first | (exact absurd hn (by omega)) | skip
 obtain _ | ⟨x16,l16⟩:=l15 <;> simp only [vQW,vQV,vQU] at hn <;> first | (exact absurd hn (by omega)) | skip
 obtain _ | ⟨x17,l17⟩:=l16 <;> simp only [vQW,vQV,vQU] at hn <;> first | (exact absurd hn (by omega)) | skip
 obtain _ | ⟨y,l⟩:=l17 <;> simp only [vQW,vQV] at hn <;> first | (exact absurd hn (by omega)) | skip
 rfl
def poC (p:Po):List PV:=[.n .i64 p.r.x.x.lo,.n .i64 p.r.x.x.hi,.n .i64 p.r.x.y.lo,.n .i64 p.r.x.y.hi,.n .i64 p.r.x.z.lo,.n .i64 p.r.x.z.hi,.n .i64 p.r.y.x.lo,.n .i64 p.r.y.x.hi,.n .i64 p.r.y.y.lo,.n .i64 p.r.y.y.hi,.n .i64 p.r.y.z.lo,.n .i64 p.r.y.z.hi,.n .i64 p.r.z.x.lo,.n .i64 p.r.z.x.hi,.n .i64 p.r.z.y.lo,.n .i64 p.r.z.y.hi,.n .i64 p.r.z.z.lo,.n .i64 p.r.z.z.hi,.n .i64 p.t.x.lo,.n .i64 p.t.x.hi,.n .i64 p.t.y.lo,.n .i64 p.t.y.hi,.n .i64 p.t.z.lo,.n .i64 p.t.z.hi]
def poD (cs:List PV):Option Po:=(ints cs).bind fun l=>bif Nat.beq l.length 24 then some ⟨⟨⟨⟨(l.getD 0 0),(l.getD 1 0)⟩,⟨(l.getD 2 0),(l.getD 3 0)⟩,⟨(l.getD 4 0),(l.getD 5 0)⟩⟩,⟨⟨(l.getD 6 0),(l.getD 7 0)⟩,⟨(l.getD 8 0),(l.getD 9 0)⟩,⟨(l.getD 10 0),(l.getD 11 0)⟩⟩,⟨⟨(l.getD 12 0),(l.getD 13 0)⟩,⟨(l.getD 14 0),(l.getD 15 0)⟩,⟨(l.getD 16 0),(l.getD 17 0)⟩⟩⟩,⟨⟨(l.getD 18 0),(l.getD 19 0)⟩,⟨(l.getD 20 0),(l.getD 21 0)⟩,⟨(l.getD 22 0),(l.getD 23 0)⟩⟩⟩ else none
theorem jZW {cs:List PV} {p:Po} (h:poD cs=some p):cs=poC p:=by
 simp only [poD,vQQ] at h;obtain ⟨l,hl,h⟩:=h;obtain ⟨hn,h⟩:=qH h;have hn:=vQX hn;rw [yKH hl];cases h;obtain _ | ⟨x0,l0⟩:=l <;> simp only [vQW,vQV,vQU] at hn <;> first | (exact absurd hn (by omega)) | skip
 obtain _ | ⟨x1,l1⟩:=l0 <;> simp only [vQW,vQV,vQU] at hn <;> first | (exact absurd hn (by omega)) | skip
 obtain _ | ⟨x2,l2⟩:=l1 <;> simp only [vQW,vQV,vQU] at hn <;> first | (exact absurd hn (by omega)) | skip
 obtain _ | ⟨x3,l3⟩:=l2 <;> simp only [vQW,vQV,vQU] at hn <;> first | (exact absurd hn (by omega)) | skip
 obtain _ | ⟨x4,l4⟩:=l3 <;> simp only [vQW,vQV,vQU] at hn <;> first | (exact absurd hn (by omega)) | skip
 obtain _ | ⟨x5,l5⟩:=l4 <;> simp only [vQW,vQV,vQU] at hn <;> first | (exact absurd hn (by omega)) | skip
 obtain _ | ⟨x6,l6⟩:=l5 <;> simp only [vQW,vQV,vQU] at hn <;> first | (exact absurd hn (by omega)) | skip
 obtain _ | ⟨x7,l7⟩:=l6 <;> simp only [vQW,vQV,vQU] at hn <;> first | (exact absurd hn (by omega)) | skip
 obtain _ | ⟨x8,l8⟩:=l7 <;> simp only [vQW,vQV,vQU] at hn <;> first | (exact absurd hn (by omega)) | skip
 obtain _ | ⟨x9,l9⟩:=l8 <;> simp only [vQW,vQV,vQU] at hn <;> first | (exact absurd hn (by omega)) | skip
 obtain _ | ⟨x10,l10⟩:=l9 <;> simp only [vQW,vQV,vQU] at hn <;> first | (exact absurd hn (by omega)) | skip
 obtain _ | ⟨x11,l11⟩:=l10 <;> simp only [vQW,vQV,vQU] at hn <;> first | (exact absurd hn (by omega)) | skip
 obtain _ | ⟨x12,l12⟩:=l11 <;> simp only [vQW,vQV,vQU] at hn <;> first | (exact absurd hn (by omega)) | skip
 obtain _ | ⟨x13,l13⟩:=l12 <;> simp only [vQW,vQV,vQU] at hn <;> first | (exact absurd hn (by omega)) | skip
 obtain _ | ⟨x14,l14⟩:=l13 <;> simp only [vQW,vQV,vQU] at hn <;> first | (exact absurd hn (by omega)) | skip
 obtain _ | ⟨x15,l15⟩:=l14 <;> simp only [vQW,vQV,vQU] at hn <;> first | (exact absurd hn (by omega)) | skip
 obtain _ | ⟨x16,l16⟩:=l15 <;> simp only [vQW,vQV,vQU] at hn <;> first | (exact absurd hn (by omega)) | skip
 obtain _ | ⟨x17,l17⟩:=l16 <;> simp only [vQW,vQV,vQU] at hn <;> first | (exact absurd hn (by omega)) | skip
 obtain _ | ⟨x18,l18⟩:=l17 <;> simp only [vQW,vQV,vQU] at hn <;> first | (exact absurd hn (by omega)) | skip
 obtain _ | ⟨x19,l19⟩:=l18 <;> simp only [vQW,vQV,vQU] at hn <;> first | (exact absurd hn (by omega)) | skip
 obtain _ | ⟨x20,l20⟩:=l19 <;> simp only [vQW,vQV,vQU] at hn <;> first | (exact absurd hn (by omega)) | skip
 obtain _ | ⟨x21,l21⟩:=l20 <;> simp only [vQW,vQV,vQU] at hn <;> first | (exact absurd hn (by omega)) | skip
 obtain _ | ⟨x22,l22⟩:=l21 <;> simp only [vQW,vQV,vQU] at hn <;> first | (exact absurd hn (by omega)) | skip
 obtain _ | ⟨x23,l23⟩:=l22 <;> simp only [vQW,vQV,vQU] at hn <;> first | (exact absurd hn (by omega)) | skip
 obtain _ | ⟨y,l⟩:=l23 <;> simp only [vQW,vQV] at hn <;> first | (exact absurd hn (by omega)) | skip
 rfl
end Go.Rx
namespace Go.Rx
open Go.RowKit Go.Sx
def zZQ (sz:Nat) (rows:List (List PV)):Bool:=rows.all fun r=>Nat.beq r.length sz && r.all PV.flat1
def qXV (rows:List (List PV)):List (List Value):=rows.map fun r=>r.map PV.val1
theorem qVQ {sz:Nat} {rows:List (List PV)} (h:zZQ sz rows=true) {r:List PV} (hr:r ∈ rows):r.length=sz∧∀ p ∈ r,p.flat1=true:=by
 have:=List.all_eq_true.1 h r hr
 rw [vQJ] at this;exact ⟨vQX this.1,List.all_eq_true.1 this.2⟩
theorem rp_of_slc {F:Nat→Prop} {w:World} {sz c:Nat} {a:Option Addr} {rows:List (List PV)} (hs:zZQ sz rows=true) (hcap:rows.length≤c) (hS:qJJ sz a (qXV rows) w)
  (hF:∀ b off,a=some ⟨b,off,none⟩→rows ≠ []→F b):RP F w (.l rows) (.slice a rows.length c):=by
 cases rows with
 | nil=>exact .l0 a c
 | cons r0 rs =>
  obtain ⟨_,b,off,ha,hb,_⟩:=hS 0 _ (by simp [qXV]; rfl);subst ha;refine .l (r0 :: rs) b off _ c sz (fun j t=>(((r0 :: rs).getD j []).getD t .ni).val1) rfl hcap (fun r hr=>(qVQ hs hr).1) (hF b off rfl (by simp)) (fun j t hj ht => ?_) (fun j r t p hj ht => ?_)
  ·have hr:(r0 :: rs)[j]? = some ((r0 :: rs)[j]'hj):=vQK hj;generalize (r0 :: rs)[j]'hj=r at hr;have hm:=qVQ hs (vQG hr);have htl:t < r.length:=by omega
   have hp:r[t]? = some (r[t]'htl):=vQK htl;obtain ⟨_,b',off',ha',_,hc⟩:=hS j (r.map PV.val1) (by unfold qXV; rw [vZY,hr]; rfl);cases ha';have hc:=hc t ht;rw [vZY,hp,Option.map_some] at hc;have e:(((r0 :: rs).getD j []).getD t .ni)=r[t]'htl:=by
    rw [vZG,vZG,hr];simp only [Option.getD_some];rw [hp]; rfl
   simp only [e];exact ⟨by rw [← hc,Nat.add_assoc],(zGJ (F:=F) (w:=w) (hm.2 _ (List.getElem_mem htl))).2⟩
  ·have hm:=qVQ hs (vQG hj);have e:(((r0 :: rs).getD j []).getD t .ni)=p:=by
    rw [vZG,vZG,hj];simp only [Option.getD_some];rw [ht]; rfl
   simp only [e];exact (zGJ (hm.2 p (vQG ht))).1
theorem slc_of_rp {F:Nat→Prop} {w:World} {sz:Nat} {rows:List (List PV)} {v:Value} (hs:zZQ sz rows=true) (hF:∀ k,F k→k < w.heap.size) (h:RP F w (.l rows) v) :
  ∃ a c,v=.slice a rows.length c∧rows.length≤c∧qJJ sz a (qXV rows) w∧∀ b off,a=some ⟨b,off,none⟩→rows ≠ []→F b:=by
 cases h with
 | l0 ad c=>exact ⟨ad,c,rfl,Nat.zero_le _,fun j r hj=>by simp [qXV] at hj,fun _ _ _ h=>absurd rfl h⟩
 | l _ b off n c sz' g hn hcap hl hf hc hh =>
  subst hn;refine ⟨_,c,rfl,hcap,fun j r hj => ?_,fun b' off' e _=>by cases e; exact hf⟩;unfold qXV at hj;rw [vZY] at hj;cases hr:rows[j]? with
  | none=>rw [hr] at hj; cases hj
  | some q =>
   rw [hr] at hj;cases hj;have hm:=qVQ hs (vQG hr);have hjl:=(List.getElem?_eq_some_iff.1 hr).1;have e:sz'=sz:=by rw [← hl q (vQG hr),hm.1]
   subst e;refine ⟨by rw [List.length_map,hm.1],b,off,rfl,hF b hf,fun k hk => ?_⟩;have h1:=hc j k hjl hk;have hkl:k < q.length:=by omega
   have hp:q[k]? = some (q[k]'hkl):=vQK hkl;rw [Nat.add_assoc,h1.1,vZY,hp,Option.map_some]
   congr 1
   exact jGK (hm.2 _ (List.getElem_mem hkl)) (hh j q k _ hr hp)
theorem dep_mem {D:Nat→Prop} {G:World→Prop} {sz:Nat} {a:Option Addr} {rows:List (List Value)} {w:World} (hd:zQU D G) (hG:G w) (hi:∀ w,G w→qJJ sz a rows w) (h0:0 < sz) (hne:rows ≠ []) :
  ∀ b off,a=some ⟨b,off,none⟩→D b:=by
 intro b off ha;subst ha;apply Classical.byContradiction;intro hn;obtain ⟨r0,rs,rfl⟩:∃ r0 rs,rows=r0 :: rs:=by cases rows with | nil=>exact absurd rfl hne | cons x xs=>exact ⟨x,xs,rfl⟩
 have hG':G { w with heap:=w.heap.setIfInBounds b (.cells #[] 0) }:=hd w _ (fun k hk=>by
  have e:b ≠ k:=fun e=>hn (e ▸ hk)
  show (w.heap.setIfInBounds b _)[k]? = _;exact Array.getElem?_setIfInBounds_ne e) hG
 obtain ⟨hl,b',off',e,hb,hc⟩:=hi _ hG' 0 r0 rfl;cases e;have hc:=hc 0 h0;have hb':b < w.heap.size:=by simpa using hb
 rw [vQK (by omega)] at hc;simp [World.cell?,hb'] at hc
theorem snd_told {P:Program} {f:Nat} {ps:List PV} {p:PV} {X:Type} {Φ:X→Prop} {V:X→Value} {G:X→World→Prop} (hent:kH P f)
  (h:∀ (w:World) (F:Nat→Prop) (vals:List Value),(∀ k,F k→k < w.heap.size)→Al (RP F w) ps vals→Calls P f vals.toArray w (jXX Φ V G w))
  (hp:∀ x (w:World) (D:Nat→Prop) (F:Nat→Prop),Φ x→G x w→zQU D (G x)→(∀ k,D k→F k)→RP F w p (V x)):zH P f ps (.v p):=by
 refine ⟨hent,fun w F vals hF hal=>(h w F vals hF hal).mono ?_⟩
 rintro e w' ⟨x,hx,rfl,hg,D,h1,h2,h3⟩
 exact ⟨V x,fun k=>F k ∨ D k,rfl,hg,fun k hk=>.inl hk,fun k hk=>hk.imp id (h2 k),hp x w' D _ hx h3 h1 fun k hk=>.inr hk⟩
end Go.Rx
namespace Go.Rx
open Go.RowKit Go.Sx
def zJJ (L:List Int):PV:=.l (L.map fun x=>[.n .i64 x])
theorem yUQ (L:List Int):zZQ 1 (L.map fun x=>[PV.n .i64 x])=true:=by
 unfold zZQ;rw [List.all_map,vZZ];intro x _;rfl
theorem yKG {F:Nat→Prop} {w:World} {L:List Int} {v:Value} (hL:L.length≤9223372036854775807) (hF:∀ k,F k→k < w.heap.size) (h:RP F w (zJJ L) v):IntsAt w w.heap.size v L:=by
 obtain ⟨a,c,rfl,_,hS,_⟩:=slc_of_rp (yUQ L) hF h;refine ⟨hL,a,c,by rw [List.length_map],fun j hj => ?_⟩;have hj':L[j]? = some (L[j]'hj):=vQK hj;obtain ⟨_,b,off,ha,hb,hc⟩:=hS j [.int .i64 (L[j]'hj)] (by simp [qXV,hj',PV.val1]);refine ⟨b,off,ha,hb,?_⟩
 have:=hc 0 (by omega)
 simp only [Nat.mul_one,Nat.add_zero] at this;rw [this,vZG,hj'];rfl
theorem rp_of_ints {F:Nat→Prop} {w:World} {L:List Int} {a:Option Addr} {c:Nat} (h:IntsAt w w.heap.size (.slice a L.length c) L) (hc:L.length≤c) (hF:∀ k,k < w.heap.size→F k):RP F w (zJJ L) (.slice a L.length c):=by
 have e:(L.map fun x=>[PV.n .i64 x]).length=L.length:=by simp
 have key:qJJ 1 a (qXV (L.map fun x=>[PV.n .i64 x])) w:=fun j r hj=>by
  obtain ⟨a',c',e',hh⟩:=h.slice;cases e';unfold qXV at hj;rw [vZY,vZY] at hj;cases hr:L[j]? with
  | none=>rw [hr] at hj; cases hj
  | some x =>
   rw [hr] at hj;cases hj;have hjl:=(List.getElem?_eq_some_iff.1 hr).1;obtain ⟨b,off,ha,hb,hq⟩:=hh j hjl;refine ⟨rfl,b,off,ha,hb,fun k hk => ?_⟩;have hk0:k=0:=by omega
   subst hk0;rw [Nat.mul_one,Nat.add_zero,hq,vZG,hr];rfl
 have:=rp_of_slc (F:=F) (c:=c) (yUQ L) (by rw [e]; exact hc) key (fun b off ha hne=>by
  obtain ⟨a',c',e',hh⟩:=h.slice;cases e';have h0:0 < L.length:=by
   cases L with
   | nil=>exact absurd rfl hne
   | cons x xs=>simp
  obtain ⟨b',off',ha',hb,_⟩:=hh 0 h0;rw [ha] at ha';cases ha';exact hF b hb)
 rw [e] at this;exact this
theorem zXG {P:Program} {f:Nat} {ps:List PV} {x:PV} {w:World} {vals:List Value} (h:zH P f ps (.v x)) (hx:x.flat2=true) (ha:Al (RP (fun k=>k < w.heap.size) w) ps vals):Calls P f vals.toArray w (Rets x.val w) :=
 Calls.mono (h.2 w _ vals (fun k hk=>hk) ha) fun e w' ⟨v,F',he,hg,_,_,hr⟩=>⟨by rw [he,kXU hx hr],hg⟩
theorem jYY {F:Nat→Prop} {w:World}:Al (RP F w) [] []:=⟨rfl,fun i p v h=>by simp at h⟩
theorem qKU {F:Nat→Prop} {w:World} {p:PV} {v:Value} {ps:List PV} {vs:List Value} (h:RP F w p v) (t:Al (RP F w) ps vs):Al (RP F w) (p :: ps) (v :: vs) :=
 ⟨by rw [vQW,vQW,t.1],fun i q u hq hu=>by
  cases i with
  | zero=>cases hq; cases hu; exact h
  | succ i=>exact t.2 i q u hq hu⟩
theorem qYW {F:Nat→Prop} {w:World} {p:PV} {ps:List PV} {vals:List Value} (h:Al (RP F w) (p :: ps) vals):∃ v vs,vals=v :: vs∧RP F w p v∧Al (RP F w) ps vs:=by
 cases vals with
 | nil=>have:=h.1; simp at this
 | cons v vs=>exact ⟨v,vs,rfl,h.2 0 p v rfl rfl,by have:=h.1; simpa using this,fun i q u hq hu=>h.2 (i + 1) q u hq hu⟩
theorem zUG {F:Nat→Prop} {w:World} {vals:List Value} (h:Al (RP F w) [] vals):vals=[]:=by
 cases vals with
 | nil=>rfl
 | cons v vs=>have:=h.1; simp at this
theorem rp_parts {F:Nat→Prop} {w:World} {cs:List PV} {v:Value} (h:RP F w (.a cs) v):∃ vs:List Value,v=.agg vs.toArray∧Al (RP F w) cs vs:=by
 cases h with
 | a _ vs hl _ hh=>exact ⟨vs,rfl,hl,hh⟩
end Go.Rx
namespace Go.Proofs.YtmffoiemmlcmfaaGreat
open Go.Sx Go.Rx Rt Go.RowKit
namespace Tn
end Tn
open Tn
theorem zXZ:qVJ Tryz.prog 72 0 0=true:=by kernel_rfl
theorem ty2:tyB Tryz.prog 2 false 1=true:=by kernel_rfl
theorem yZJ:qVJ Tryz.prog 72 1 1=true:=by kernel_rfl
theorem ze72:qYU Tryz.prog 72 (.agg #[.int .i64 0,.int .i64 0]):=by unfold qYU; kernel_rfl
theorem la72:qKJ Tryz.prog 72=some ([.int .i64 0,.int .i64 0],[(0,1),(1,1)]):=by kernel_rfl
theorem ty72:tyB Tryz.prog 72 true 2=true:=by kernel_rfl
theorem en92:kH Tryz.prog 92:=zQ Tryz.func92 (by kernel_rfl) (by kernel_rfl)
theorem en106:kH Tryz.prog 106:=zQ Tryz.func106 (by kernel_rfl) (by kernel_rfl)
theorem en107:kH Tryz.prog 107:=zQ Tryz.func107 (by kernel_rfl) (by kernel_rfl)
theorem en120:kH Tryz.prog 120:=zQ Tryz.func120 (by kernel_rfl) (by kernel_rfl)
theorem mo:Tryz.prog.follows .mixedOrders=true:=by kernel_rfl
theorem en108:kH Tryz.prog 108:=zQ Tryz.func108 (by kernel_rfl) (by kernel_rfl)
theorem en109:kH Tryz.prog 109:=zQ Tryz.func109 (by kernel_rfl) (by kernel_rfl)
set_option maxRecDepth 100000 in
theorem iValid (a0 a1:Int) (w:World):Calls Tryz.prog 135 [.agg #[.int .i64 a0,.int .i64 a1]].toArray w (Rets (vB (Iv.valid (⟨a0,a1⟩:Iv))) (w)) :=
 zX (x:=.b (Iv.valid ⟨a0,a1⟩)) (qG (N:=60) (ps:=[.a [.n .i64 a0,.n .i64 a1]]) yJ yQ (OrL.ok (l:=([]:OrL)) trivial) ((by kernel_rfl:_=bif (decide ((-2147483648)≤a0)) then (bif (decide (a0≤a1)) then (bif (decide (a1≤2147483648)) then some (.v (.b true),[])
 else some (.v (.b false),[]))
 else some (.v (.b false),[]))
 else some (.v (.b false),[])).trans (by
 show _=some (Ret.v (.b (decide (-2147483648≤a0) && decide (a0≤a1) && decide (a1≤2147483648))),[]);cases decide (-2147483648≤a0) <;> cases decide (a0≤a1) <;> cases decide (a1≤2147483648) <;> rfl))) rfl rfl w
set_option maxRecDepth 100000 in
theorem kYG (a0 a1:Int) (w:World):Calls Tryz.prog 106 [.agg #[.int .i64 a0,.int .i64 a1]].toArray w (Rets (vB (Iv.valid (⟨a0,a1⟩:Iv))) (w)) :=
 zX (x:=.b (Iv.valid ⟨a0,a1⟩)) (qG (N:=60) (ps:=[.a [.n .i64 a0,.n .i64 a1]]) yJ yQ (OrL.ok (l:=([]:OrL)) trivial) ((by kernel_rfl:_=bif (decide ((-2147483648)≤a0)) then (bif (decide (a0≤a1)) then (bif (decide (a1≤2147483648)) then some (.v (.b true),[])
 else some (.v (.b false),[]))
 else some (.v (.b false),[]))
 else some (.v (.b false),[])).trans (by
 show _=some (Ret.v (.b (decide (-2147483648≤a0) && decide (a0≤a1) && decide (a1≤2147483648))),[]);cases decide (-2147483648≤a0) <;> cases decide (a0≤a1) <;> cases decide (a1≤2147483648) <;> rfl))) rfl rfl w
namespace Tn
noncomputable def o_iValid:List PV→Option (Bool × Ret):=fun ps=>match ps with
 | [.a a']=>(ivD a').bind fun a=>some (true,.v (.b (Iv.valid a)))
 | _=>none
theorem ok_iValid:zW Tryz.prog 135 o_iValid:=by
 intro ps r h;unfold o_iValid at h;split at h
 ·simp only [vQQ,vQZ,vQY] at h;obtain ⟨a,ha,hg,rfl⟩:=h;rw [qZY ha];exact zJ (zQ Tryz.func135 (by kernel_rfl) (by kernel_rfl)) rfl rfl (fun w=>iValid _ _ w)
 ·cases h
noncomputable def LTn1:OrL:=(135,o_iValid) :: ([]:OrL)
theorem LTn1_ok:AllP (fun x:Nat × (List PV→Option (Bool × Ret))=>zW Tryz.prog x.1 x.2) LTn1:=⟨ok_iValid,trivial⟩
noncomputable def o_rValid:List PV→Option (Bool × Ret):=fun ps=>match ps with
 | [.a a']=>(ivD a').bind fun a=>some (true,.v (.b (Iv.valid a)))
 | _=>none
theorem ok_rValid:zW Tryz.prog 106 o_rValid:=by
 intro ps r h;unfold o_rValid at h;split at h
 ·simp only [vQQ,vQZ,vQY] at h;obtain ⟨a,ha,hg,rfl⟩:=h;rw [qZY ha];exact zJ (zQ Tryz.func106 (by kernel_rfl) (by kernel_rfl)) rfl rfl (fun w=>kYG _ _ w)
 ·cases h
noncomputable def LTn2:OrL:=(106,o_rValid) :: LTn1
theorem kYK:AllP (fun x:Nat × (List PV→Option (Bool × Ret))=>zW Tryz.prog x.1 x.2) LTn2:=⟨ok_rValid,LTn1_ok⟩
end Tn
set_option maxRecDepth 100000 in
theorem fClamp (a:Int) (w:World):Calls Tryz.prog 128 [.int .i64 a].toArray w (Rets (vI (qYG a)) (w)) :=
 zX (x:=.n .i64 (qYG a)) (qG (N:=60) (ps:=[.n .i64 a]) yJ yQ (OrL.ok (l:=LTn2) kYK) (by kernel_rfl)) rfl rfl w
set_option maxRecDepth 100000 in
theorem rClamp (a:Int) (w:World):Calls Tryz.prog 105 [.int .i64 a].toArray w (Rets (vI (qYG a)) (w)) :=
 zX (x:=.n .i64 (qYG a)) (qG (N:=60) (ps:=[.n .i64 a]) yJ yQ (OrL.ok (l:=LTn2) kYK) ((by kernel_rfl:_=some (.v (.n .i64 (max (-2147483648) (min a 2147483648))),[])).trans (by
 rw [show max (-2147483648) (min a 2147483648)=qYG a by unfold qYG; omega]))) rfl rfl w
namespace Tn
noncomputable def jJV:List PV→Option (Bool × Ret):=fun ps=>match ps with
 | [.n .i64 a]=>some (true,.v (.n .i64 ((qYG a))))
 | _=>none
theorem ok_fClamp:zW Tryz.prog 128 jJV:=by
 intro ps r h;unfold jJV at h;split at h
 ·simp only [vQZ,vQY] at h;obtain ⟨hg,rfl⟩:=h;exact zJ (zQ Tryz.func128 (by kernel_rfl) (by kernel_rfl)) rfl rfl (fun w=>fClamp _ w)
 ·cases h
noncomputable def LTn3:OrL:=(128,jJV) :: LTn2
theorem LTn3_ok:AllP (fun x:Nat × (List PV→Option (Bool × Ret))=>zW Tryz.prog x.1 x.2) LTn3:=⟨ok_fClamp,kYK⟩
noncomputable def jJY:List PV→Option (Bool × Ret):=fun ps=>match ps with
 | [.n .i64 a]=>some (true,.v (.n .i64 ((qYG a))))
 | _=>none
theorem ok_rClamp:zW Tryz.prog 105 jJY:=by
 intro ps r h;unfold jJY at h;split at h
 ·simp only [vQZ,vQY] at h;obtain ⟨hg,rfl⟩:=h;exact zJ (zQ Tryz.func105 (by kernel_rfl) (by kernel_rfl)) rfl rfl (fun w=>rClamp _ w)
 ·cases h
noncomputable def LTn4:OrL:=(105,jJY) :: LTn3
theorem kYJ:AllP (fun x:Nat × (List PV→Option (Bool × Ret))=>zW Tryz.prog x.1 x.2) LTn4:=⟨ok_rClamp,LTn3_ok⟩
end Tn
set_option maxRecDepth 100000 in
theorem iLimited (lo:Int) (hi:Int) (w:World):Calls Tryz.prog 92 [.int .i64 lo,.int .i64 hi].toArray w (Rets (iv (Iv.limited lo hi)) (w)) :=
 zX (x:=.a (ivC (Iv.limited lo hi))) (qG (N:=60) (ps:=[.n .i64 lo,.n .i64 hi]) yJ yQ (OrL.ok (l:=LTn4) kYJ) (by kernel_rfl)) rfl rfl w
set_option maxRecDepth 100000 in
theorem iOf (x:Int) (w:World):Calls Tryz.prog 59 [.int .i64 x].toArray w (Rets (iv (Iv.of x)) (w)) :=
 zX (x:=.a (ivC (Iv.of x))) (qG (N:=60) (ps:=[.n .i64 x]) yJ yQ (OrL.ok (l:=LTn4) kYJ) (by kernel_rfl)) rfl rfl w
namespace Tn
noncomputable def yKY:List PV→Option (Bool × Ret):=fun ps=>match ps with
 | [.n .i64 a,.n .i64 b]=>some (true,.v (.a (ivC (Iv.limited a b))))
 | _=>none
theorem ok_iLimited:zW Tryz.prog 92 yKY:=by
 intro ps r h;unfold yKY at h;split at h
 ·simp only [vQZ,vQY] at h;obtain ⟨hg,rfl⟩:=h;exact zJ (zQ Tryz.func92 (by kernel_rfl) (by kernel_rfl)) rfl rfl (fun w=>iLimited _ _ w)
 ·cases h
noncomputable def LTn5:OrL:=(92,yKY) :: LTn4
theorem kYY:AllP (fun x:Nat × (List PV→Option (Bool × Ret))=>zW Tryz.prog x.1 x.2) LTn5:=⟨ok_iLimited,kYJ⟩
end Tn
set_option maxRecDepth 100000 in
theorem rLimited (lo:Int) (hi:Int) (w:World):Calls Tryz.prog 107 [.int .i64 lo,.int .i64 hi].toArray w (Rets (iv (Iv.limited lo hi)) (w)) :=
 zX (x:=.a (ivC (Iv.limited lo hi))) (qG (N:=60) (ps:=[.n .i64 lo,.n .i64 hi]) yJ yQ (OrL.ok (l:=LTn5) kYY) (by kernel_rfl)) rfl rfl w
set_option maxRecDepth 100000 in
theorem rOf (x:Int) (w:World):Calls Tryz.prog 70 [.int .i64 x].toArray w (Rets (iv (Iv.of x)) (w)) :=
 zX (x:=.a (ivC (Iv.of x))) (qG (N:=60) (ps:=[.n .i64 x]) yJ yQ (OrL.ok (l:=LTn5) kYY) (by kernel_rfl)) rfl rfl w
namespace Tn
noncomputable def yJW:List PV→Option (Bool × Ret):=fun ps=>match ps with
 | [.n .i64 a,.n .i64 b]=>some (true,.v (.a (ivC (Iv.limited a b))))
 | _=>none
theorem ok_rLimited:zW Tryz.prog 107 yJW:=by
 intro ps r h;unfold yJW at h;split at h
 ·simp only [vQZ,vQY] at h;obtain ⟨hg,rfl⟩:=h;exact zJ (zQ Tryz.func107 (by kernel_rfl) (by kernel_rfl)) rfl rfl (fun w=>rLimited _ _ w)
 ·cases h
noncomputable def LTn6:OrL:=(107,yJW) :: LTn5
theorem zYY:AllP (fun x:Nat × (List PV→Option (Bool × Ret))=>zW Tryz.prog x.1 x.2) LTn6:=⟨ok_rLimited,kYY⟩
end Tn
set_option maxRecDepth 100000 in
theorem iNeg (a0 a1:Int) (w:World):Calls Tryz.prog 179 [.agg #[.int .i64 a0,.int .i64 a1]].toArray w (Rets (iv (Iv.neg (⟨a0,a1⟩:Iv))) (w)) :=
 zX (x:=.a (ivC (Iv.neg ⟨a0,a1⟩))) (qG (N:=60) (ps:=[.a [.n .i64 a0,.n .i64 a1]]) yJ yQ (OrL.ok (l:=LTn6) zYY) ((by kernel_rfl:_=bif Iv.valid (Iv.mk a0 a1) then some (.v (.a [.n .i64 (vJJ .i64 (0 - a1)),.n .i64 (vJJ .i64 (0 - a0))]),[])
 else some (.v (.a [.n .i64 0,.n .i64 0]),[])).trans (by
 unfold Iv.neg;cases ha:Iv.valid (Iv.mk a0 a1) with
 | false=>rfl
 | true =>
  have va:=qZQ ha;rw [zK (show -9223372036854775808≤0 - a1∧0 - a1≤9223372036854775807 by omega),zK (show -9223372036854775808≤0 - a0∧0 - a0≤9223372036854775807 by omega),show 0 - a1 = -a1 by omega,show 0 - a0 = -a0 by omega]; rfl))) rfl rfl w
set_option maxRecDepth 100000 in
theorem rNeg (a0 a1:Int) (w:World):Calls Tryz.prog 144 [.agg #[.int .i64 a0,.int .i64 a1]].toArray w (Rets (iv (Iv.neg (⟨a0,a1⟩:Iv))) (w)) :=
 zX (x:=.a (ivC (Iv.neg ⟨a0,a1⟩))) (qG (N:=60) (ps:=[.a [.n .i64 a0,.n .i64 a1]]) yJ yQ (OrL.ok (l:=LTn6) zYY) ((by kernel_rfl:_=bif Iv.valid (Iv.mk a0 a1) then some (.v (.a [.n .i64 (vJJ .i64 (0 - a1)),.n .i64 (vJJ .i64 (0 - a0))]),[])
 else some (.v (.a [.n .i64 0,.n .i64 0]),[])).trans (by
 unfold Iv.neg;cases ha:Iv.valid (Iv.mk a0 a1) with
 | false=>rfl
 | true =>
  have va:=qZQ ha;rw [zK (show -9223372036854775808≤0 - a1∧0 - a1≤9223372036854775807 by omega),zK (show -9223372036854775808≤0 - a0∧0 - a0≤9223372036854775807 by omega),show 0 - a1 = -a1 by omega,show 0 - a0 = -a0 by omega]; rfl))) rfl rfl w
set_option maxRecDepth 100000 in
theorem iValid2 (a0 a1:Int) (b0 b1:Int) (w:World):Calls Tryz.prog 120 [.agg #[.int .i64 a0,.int .i64 a1],.agg #[.int .i64 b0,.int .i64 b1]].toArray w (Rets (vB ((Iv.valid (⟨a0,a1⟩:Iv) && Iv.valid (⟨b0,b1⟩:Iv)))) (w)) :=
 zX (x:=.b (Iv.valid ⟨a0,a1⟩ && Iv.valid ⟨b0,b1⟩)) (qG (N:=60) (ps:=[.a [.n .i64 a0,.n .i64 a1],.a [.n .i64 b0,.n .i64 b1]]) yJ yQ (OrL.ok (l:=LTn6) zYY) ((by kernel_rfl:_=bif Iv.valid (Iv.mk a0 a1) then (bif Iv.valid (Iv.mk b0 b1) then some (.v (.b true),[])
 else some (.v (.b false),[]))
 else some (.v (.b false),[])).trans (by
 cases Iv.valid (Iv.mk a0 a1) <;> cases Iv.valid (Iv.mk b0 b1) <;> rfl))) rfl rfl w
set_option maxRecDepth 100000 in
theorem rAdd (a0 a1:Int) (b0 b1:Int) (w:World):Calls Tryz.prog 72 [.agg #[.int .i64 a0,.int .i64 a1],.agg #[.int .i64 b0,.int .i64 b1]].toArray w (Rets (iv (Iv.add (⟨a0,a1⟩:Iv) (⟨b0,b1⟩:Iv))) (w)) :=
 zX (x:=.a (ivC (Iv.add ⟨a0,a1⟩ ⟨b0,b1⟩))) (qG (N:=60) (ps:=[.a [.n .i64 a0,.n .i64 a1],.a [.n .i64 b0,.n .i64 b1]]) yJ yQ (OrL.ok (l:=LTn6) zYY) ((by kernel_rfl:_=bif Iv.valid (Iv.mk a0 a1) then (bif Iv.valid (Iv.mk b0 b1) then some (.v (.a (ivC (Iv.limited (vJJ .i64 (a0 + b0)) (vJJ .i64 (a1 + b1))))),[])
 else some (.v (.a [.n .i64 0,.n .i64 0]),[]))
 else some (.v (.a [.n .i64 0,.n .i64 0]),[])).trans (by
 unfold Iv.add;cases ha:Iv.valid (Iv.mk a0 a1) with
 | false=>rfl
 | true =>
  cases hb:Iv.valid (Iv.mk b0 b1) with
  | false=>rfl
  | true =>
   have va:=qZQ ha;have vb:=qZQ hb;rw [zK (show -9223372036854775808≤a0 + b0∧a0 + b0≤9223372036854775807 by omega),zK (show -9223372036854775808≤a1 + b1∧a1 + b1≤9223372036854775807 by omega)]; rfl))) rfl rfl w
set_option maxRecDepth 100000 in
theorem iAdd (a0 a1:Int) (b0 b1:Int) (w:World):Calls Tryz.prog 150 [.agg #[.int .i64 a0,.int .i64 a1],.agg #[.int .i64 b0,.int .i64 b1]].toArray w (Rets (iv (Iv.add (⟨a0,a1⟩:Iv) (⟨b0,b1⟩:Iv))) (w)) :=
 zX (x:=.a (ivC (Iv.add ⟨a0,a1⟩ ⟨b0,b1⟩))) (qG (N:=60) (ps:=[.a [.n .i64 a0,.n .i64 a1],.a [.n .i64 b0,.n .i64 b1]]) yJ yQ (OrL.ok (l:=LTn6) zYY) ((by kernel_rfl:_=bif Iv.valid (Iv.mk a0 a1) then (bif Iv.valid (Iv.mk b0 b1) then some (.v (.a (ivC (Iv.limited (vJJ .i64 (a0 + b0)) (vJJ .i64 (a1 + b1))))),[])
 else some (.v (.a [.n .i64 0,.n .i64 0]),[]))
 else some (.v (.a [.n .i64 0,.n .i64 0]),[])).trans (by
 unfold Iv.add;cases ha:Iv.valid (Iv.mk a0 a1) with
 | false=>rfl
 | true =>
  cases hb:Iv.valid (Iv.mk b0 b1) with
  | false=>rfl
  | true =>
   have va:=qZQ ha;have vb:=qZQ hb;rw [zK (show -9223372036854775808≤a0 + b0∧a0 + b0≤9223372036854775807 by omega),zK (show -9223372036854775808≤a1 + b1∧a1 + b1≤9223372036854775807 by omega)]; rfl))) rfl rfl w
set_option maxRecDepth 100000 in
theorem rHull (a0 a1:Int) (b0 b1:Int) (w:World):Calls Tryz.prog 163 [.agg #[.int .i64 a0,.int .i64 a1],.agg #[.int .i64 b0,.int .i64 b1]].toArray w (Rets (iv (Iv.hull (⟨a0,a1⟩:Iv) (⟨b0,b1⟩:Iv))) (w)) :=
 zX (x:=.a (ivC (Iv.hull ⟨a0,a1⟩ ⟨b0,b1⟩))) (qG (N:=60) (ps:=[.a [.n .i64 a0,.n .i64 a1],.a [.n .i64 b0,.n .i64 b1]]) yJ yQ (OrL.ok (l:=LTn6) zYY) ((by kernel_rfl:_=bif Iv.valid (Iv.mk a0 a1) then (bif Iv.valid (Iv.mk b0 b1) then some (.v (.a [.n .i64 (min a0 b0),.n .i64 (max a1 b1)]),[])
 else some (.v (.a [.n .i64 0,.n .i64 0]),[]))
 else some (.v (.a [.n .i64 0,.n .i64 0]),[])).trans (by
 unfold Iv.hull;cases ha:Iv.valid (Iv.mk a0 a1) with
 | false=>rfl
 | true =>
  cases hb:Iv.valid (Iv.mk b0 b1) with
  | false=>rfl
  | true =>
   have va:=qZQ ha;have vb:=qZQ hb
   rfl))) rfl rfl w
set_option maxRecDepth 100000 in
theorem iHull (a0 a1:Int) (b0 b1:Int) (w:World):Calls Tryz.prog 184 [.agg #[.int .i64 a0,.int .i64 a1],.agg #[.int .i64 b0,.int .i64 b1]].toArray w (Rets (iv (Iv.hull (⟨a0,a1⟩:Iv) (⟨b0,b1⟩:Iv))) (w)) :=
 zX (x:=.a (ivC (Iv.hull ⟨a0,a1⟩ ⟨b0,b1⟩))) (qG (N:=60) (ps:=[.a [.n .i64 a0,.n .i64 a1],.a [.n .i64 b0,.n .i64 b1]]) yJ yQ (OrL.ok (l:=LTn6) zYY) ((by kernel_rfl:_=bif Iv.valid (Iv.mk a0 a1) then (bif Iv.valid (Iv.mk b0 b1) then some (.v (.a [.n .i64 (min a0 b0),.n .i64 (max a1 b1)]),[])
 else some (.v (.a [.n .i64 0,.n .i64 0]),[]))
 else some (.v (.a [.n .i64 0,.n .i64 0]),[])).trans (by
 unfold Iv.hull;cases ha:Iv.valid (Iv.mk a0 a1) with
 | false=>rfl
 | true =>
  cases hb:Iv.valid (Iv.mk b0 b1) with
  | false=>rfl
  | true =>
   have va:=qZQ ha;have vb:=qZQ hb
   rfl))) rfl rfl w
set_option maxRecDepth 100000 in
theorem iWidth (a0 a1:Int) (w:World):Calls Tryz.prog 183 [.agg #[.int .i64 a0,.int .i64 a1]].toArray w (Rets (vI (Iv.width (⟨a0,a1⟩:Iv))) (w)) :=
 zX (x:=.n .i64 (Iv.width ⟨a0,a1⟩)) (qG (N:=60) (ps:=[.a [.n .i64 a0,.n .i64 a1]]) yJ yQ (OrL.ok (l:=LTn6) zYY) ((by kernel_rfl:_=bif Iv.valid (Iv.mk a0 a1) then some (.v (.n .i64 (vJJ .i64 (a1 - a0))),[])
 else some (.v (.n .i64 0),[])).trans (by
 unfold Iv.width;cases ha:Iv.valid (Iv.mk a0 a1) with
 | false=>rfl
 | true =>
  have va:=qZQ ha;rw [zK (show -9223372036854775808≤a1 - a0∧a1 - a0≤9223372036854775807 by omega)]; rfl))) rfl rfl w
set_option maxRecDepth 100000 in
theorem iHas (a0 a1:Int) (x:Int) (w:World):Calls Tryz.prog 188 [.agg #[.int .i64 a0,.int .i64 a1],.int .i64 x].toArray w (Rets (vB (Iv.has (⟨a0,a1⟩:Iv) x)) (w)) :=
 zX (x:=.b (Iv.has ⟨a0,a1⟩ x)) (qG (N:=60) (ps:=[.a [.n .i64 a0,.n .i64 a1],.n .i64 x]) yJ yQ (OrL.ok (l:=LTn6) zYY) ((by kernel_rfl:_=bif Iv.valid (Iv.mk a0 a1) then (bif (decide (a0≤x)) then (bif (decide (x≤a1)) then some (.v (.b true),[])
 else some (.v (.b false),[]))
 else some (.v (.b false),[]))
 else some (.v (.b false),[])).trans (by
 show _=some (Ret.v (.b (Iv.valid (Iv.mk a0 a1) && decide (a0≤x) && decide (x≤a1))),[]);cases Iv.valid (Iv.mk a0 a1) <;> cases decide (a0≤x) <;> cases decide (x≤a1) <;> rfl))) rfl rfl w
set_option maxRecDepth 100000 in
theorem rWithin (a0 a1:Int) (b0 b1:Int) (w:World):Calls Tryz.prog 94 [.agg #[.int .i64 a0,.int .i64 a1],.agg #[.int .i64 b0,.int .i64 b1]].toArray w (Rets (vB (Iv.within (⟨a0,a1⟩:Iv) (⟨b0,b1⟩:Iv))) (w)) :=
 zX (x:=.b (Iv.within ⟨a0,a1⟩ ⟨b0,b1⟩)) (qG (N:=60) (ps:=[.a [.n .i64 a0,.n .i64 a1],.a [.n .i64 b0,.n .i64 b1]]) yJ yQ (OrL.ok (l:=LTn6) zYY) ((by kernel_rfl:_=bif Iv.valid (Iv.mk a0 a1) then (bif Iv.valid (Iv.mk b0 b1) then (bif (decide (b0≤a0)) then (bif (decide (a1≤b1)) then some (.v (.b true),[])
 else some (.v (.b false),[]))
 else some (.v (.b false),[]))
 else some (.v (.b false),[]))
 else some (.v (.b false),[])).trans (by
 show _=some (Ret.v (.b (Iv.valid (Iv.mk a0 a1) && Iv.valid (Iv.mk b0 b1) && decide (b0≤a0) && decide (a1≤b1))),[]);cases Iv.valid (Iv.mk a0 a1) <;> cases Iv.valid (Iv.mk b0 b1) <;> cases decide (b0≤a0) <;> cases decide (a1≤b1) <;> rfl))) rfl rfl w
set_option maxRecDepth 100000 in
theorem iWithin (a0 a1:Int) (b0 b1:Int) (w:World):Calls Tryz.prog 84 [.agg #[.int .i64 a0,.int .i64 a1],.agg #[.int .i64 b0,.int .i64 b1]].toArray w (Rets (vB (Iv.within (⟨a0,a1⟩:Iv) (⟨b0,b1⟩:Iv))) (w)) :=
 zX (x:=.b (Iv.within ⟨a0,a1⟩ ⟨b0,b1⟩)) (qG (N:=60) (ps:=[.a [.n .i64 a0,.n .i64 a1],.a [.n .i64 b0,.n .i64 b1]]) yJ yQ (OrL.ok (l:=LTn6) zYY) ((by kernel_rfl:_=bif Iv.valid (Iv.mk a0 a1) then (bif Iv.valid (Iv.mk b0 b1) then (bif (decide (b0≤a0)) then (bif (decide (a1≤b1)) then some (.v (.b true),[])
 else some (.v (.b false),[]))
 else some (.v (.b false),[]))
 else some (.v (.b false),[]))
 else some (.v (.b false),[])).trans (by
 show _=some (Ret.v (.b (Iv.valid (Iv.mk a0 a1) && Iv.valid (Iv.mk b0 b1) && decide (b0≤a0) && decide (a1≤b1))),[]);cases Iv.valid (Iv.mk a0 a1) <;> cases Iv.valid (Iv.mk b0 b1) <;> cases decide (b0≤a0) <;> cases decide (a1≤b1) <;> rfl))) rfl rfl w
theorem yUY (a:Int) (k:Int) (h0:0≤k∧k≤62) (w:World):Calls Tryz.prog 169 [.int .i64 a,.int .i64 k].toArray w (Rets (vI (a / 2 ^ (k).toNat)) (w)):=by
 refine jY (n:=11) Tryz.func169 rfl rfl rfl ?_;refine qW ?_;refine qZ ?_;refine qJ (qV rfl) rfl rfl rfl ?_;refine qX ?_;refine qQ ?_;refine qW ?_;refine qW ?_;refine qZ ?_;refine qJ (qK rfl) rfl rfl rfl ?_;refine qJ (qVV rfl rfl) rfl rfl rfl ?_;refine qX ?_;refine qQ ?_;refine zVX rfl (by simp; omega) ?_;refine kJ ?_;refine qQ ?_;refine qW ?_;refine qZ ?_;refine qJ (qK rfl) rfl rfl rfl ?_;refine qJ (qK rfl) rfl rfl rfl ?_;refine qJ (jHU rfl rfl (by first | decide | omega) (shr_eq (by omega) (by omega))) rfl rfl rfl ?_;refine qJ (qV rfl) rfl rfl rfl ?_;refine qX ?_;refine qQ ?_;refine jU ?_;refine yU (rs:=[.tmp 4]) rfl (resC (uU rfl) (resN)) (congrArg (vI) (?_:_=a / 2 ^ (k).toNat))
 first | rfl | (subst_vars; rfl) | (subst_vars; simp_all)
theorem jUU (a:Int) (k:Int) (h0:0≤k∧k≤62) (ha:In64 a) (w:World):Calls Tryz.prog 170 [.int .i64 a,.int .i64 k].toArray w (Rets (vI (zG a (2 ^ (k).toNat))) (w)):=by
 refine jY (n:=20) Tryz.func170 rfl rfl rfl ?_;refine qW ?_;refine qZ ?_;refine qJ (qV rfl) rfl rfl rfl ?_;refine qX ?_;refine qQ ?_;refine qW ?_;refine qW ?_;refine qZ ?_;refine qJ (qK rfl) rfl rfl rfl ?_;refine qJ (qVV rfl rfl) rfl rfl rfl ?_;refine qX ?_;refine qQ ?_;refine zVX rfl (by simp; omega) ?_;refine kJ ?_;refine qQ ?_;refine qW ?_;refine qZ ?_;refine qJ (qK rfl) rfl rfl rfl ?_;refine qJ (qK rfl) rfl rfl rfl ?_;refine qJ (jHU rfl rfl (by first | decide | omega) (shr_eq (by omega) (by omega))) rfl rfl rfl ?_;refine qJ (qV rfl) rfl rfl rfl ?_;refine qX ?_;refine qQ ?_;refine qW ?_;refine qW ?_;refine qZ ?_;refine qJ (qK rfl) rfl rfl rfl ?_;refine qJ (qK rfl) rfl rfl rfl ?_;refine qJ (opV_shl rfl rfl (by first | decide | omega) (shl_eq ha (by omega) (by omega))) rfl rfl rfl ?_;refine qJ (qK rfl) rfl rfl rfl ?_;refine qJ (yGY rfl rfl) rfl rfl rfl ?_;refine qX ?_;refine qQ ?_;refine kZ rfl (fun hc16 => ?_) (fun hc16 => ?_)
 ·
  have h1:¬ a / 2 ^ k.toNat * 2 ^ k.toNat=a:=by simpa using hc16
  have h2:=ceil_of_ne (Int.pow_pos (by decide)) h1;refine qZ ?_;refine qJ (qK rfl) rfl rfl rfl ?_;refine qJ (uQ rfl rfl (zK (shiftUp_bnd ha h1))) rfl rfl rfl ?_;refine qJ (qV rfl) rfl rfl rfl ?_;refine qX ?_;refine qQ ?_;refine qW ?_;refine qZ ?_;refine qJ (qK rfl) rfl rfl rfl ?_;refine qJ (qV rfl) rfl rfl rfl ?_;refine qX ?_;refine qQ ?_;refine jU ?_;refine yU (rs:=[.tmp 4]) rfl (resC (uU rfl) (resN)) (congrArg (vI) (?_:_=zG a (2 ^ (k).toNat)));exact h2
 ·
  have h1:a / 2 ^ k.toNat * 2 ^ k.toNat=a:=by simpa using hc16
  have h2:=ceil_of_mul (Int.pow_pos (by decide)) h1;refine kJ ?_;refine qQ ?_;refine qW ?_;refine qZ ?_;refine qJ (qK rfl) rfl rfl rfl ?_;refine qJ (qV rfl) rfl rfl rfl ?_;refine qX ?_;refine qQ ?_;refine jU ?_;refine yU (rs:=[.tmp 4]) rfl (resC (uU rfl) (resN)) (congrArg (vI) (?_:_=zG a (2 ^ (k).toNat)));exact h2
theorem kWY (a:Int) (b:Int) (ha:In64 a) (hb:0 < b) (w:World):Calls Tryz.prog 108 [.int .i64 a,.int .i64 b].toArray w (Rets (vI (a / b)) (w)):=by
 refine jY (n:=16) Tryz.func108 rfl rfl rfl ?_;refine qW ?_;have hq:=zWW ha hb;refine qZ ?_;refine qJ (qV rfl) rfl rfl rfl ?_;refine qX ?_;refine qQ ?_;refine qW ?_;refine qZ ?_;refine qJ (qK rfl) rfl rfl rfl ?_;refine qJ (qK rfl) rfl rfl rfl ?_;refine qJ (qVW rfl rfl (by first | decide | omega) (zK hq)) rfl rfl rfl ?_;refine qJ (qV rfl) rfl rfl rfl ?_;refine qX ?_;refine qQ ?_;refine qW ?_;refine qW ?_;refine qZ ?_;refine qJ (qK rfl) rfl rfl rfl ?_;refine qJ (qK rfl) rfl rfl rfl ?_;refine qJ (yJY rfl rfl (by first | decide | omega) rfl) rfl rfl rfl ?_;refine qJ (qVV rfl rfl) rfl rfl rfl ?_;refine qX ?_;refine qQ ?_;refine kZ rfl (fun hc12 => ?_) (fun hc12 => ?_)
 ·
  refine qZ ?_;refine qJ (qK rfl) rfl rfl rfl ?_;refine qJ (qGW rfl rfl (zK (floor_bnd ha hb (by simpa using hc12)))) rfl rfl rfl ?_;refine qJ (qV rfl) rfl rfl rfl ?_;refine qX ?_;refine qQ ?_;refine qW ?_;refine qZ ?_;refine qJ (qK rfl) rfl rfl rfl ?_;refine qJ (qV rfl) rfl rfl rfl ?_;refine qX ?_;refine qQ ?_;refine jU ?_;refine yU (rs:=[.tmp 4]) rfl (resC (uU rfl) (resN)) (congrArg (vI) (?_:_=a / b));exact yHH hb (by simpa using hc12)
 ·
  refine kJ ?_;refine qQ ?_;refine qW ?_;refine qZ ?_;refine qJ (qK rfl) rfl rfl rfl ?_;refine qJ (qV rfl) rfl rfl rfl ?_;refine qX ?_;refine qQ ?_;refine jU ?_;refine yU (rs:=[.tmp 4]) rfl (resC (uU rfl) (resN)) (congrArg (vI) (?_:_=a / b));exact floor_pos hb (by simpa using hc12)
theorem uYQ (a:Int) (b:Int) (ha:In64 a) (hb:0 < b) (w:World):Calls Tryz.prog 109 [.int .i64 a,.int .i64 b].toArray w (Rets (vI (zG a b)) (w)):=by
 refine jY (n:=16) Tryz.func109 rfl rfl rfl ?_;refine qW ?_;have hq:=zWW ha hb;refine qZ ?_;refine qJ (qV rfl) rfl rfl rfl ?_;refine qX ?_;refine qQ ?_;refine qW ?_;refine qZ ?_;refine qJ (qK rfl) rfl rfl rfl ?_;refine qJ (qK rfl) rfl rfl rfl ?_;refine qJ (qVW rfl rfl (by first | decide | omega) (zK hq)) rfl rfl rfl ?_;refine qJ (qV rfl) rfl rfl rfl ?_;refine qX ?_;refine qQ ?_;refine qW ?_;refine qW ?_;refine qZ ?_;refine qJ (qK rfl) rfl rfl rfl ?_;refine qJ (qK rfl) rfl rfl rfl ?_;refine qJ (yJY rfl rfl (by first | decide | omega) rfl) rfl rfl rfl ?_;refine qJ (yJK rfl rfl) rfl rfl rfl ?_;refine qX ?_;refine qQ ?_;refine kZ rfl (fun hc12 => ?_) (fun hc12 => ?_)
 ·
  refine qZ ?_;refine qJ (qK rfl) rfl rfl rfl ?_;refine qJ (uQ rfl rfl (zK (ceil_bnd ha hb (by simpa using hc12)))) rfl rfl rfl ?_;refine qJ (qV rfl) rfl rfl rfl ?_;refine qX ?_;refine qQ ?_;refine qW ?_;refine qZ ?_;refine qJ (qK rfl) rfl rfl rfl ?_;refine qJ (qV rfl) rfl rfl rfl ?_;refine qX ?_;refine qQ ?_;refine jU ?_;refine yU (rs:=[.tmp 4]) rfl (resC (uU rfl) (resN)) (congrArg (vI) (?_:_=zG a b));exact ceil_pos hb (by simpa using hc12)
 ·
  refine kJ ?_;refine qQ ?_;refine qW ?_;refine qZ ?_;refine qJ (qK rfl) rfl rfl rfl ?_;refine qJ (qV rfl) rfl rfl rfl ?_;refine qX ?_;refine qQ ?_;refine jU ?_;refine yU (rs:=[.tmp 4]) rfl (resC (uU rfl) (resN)) (congrArg (vI) (?_:_=zG a b));exact ceil_neg hb (by simpa using hc12)
theorem rMul (a0 a1:Int) (b0 b1:Int) (w:World):Calls Tryz.prog 73 [.agg #[.int .i64 a0,.int .i64 a1],.agg #[.int .i64 b0,.int .i64 b1]].toArray w (Rets (iv (Iv.mul (⟨a0,a1⟩:Iv) (⟨b0,b1⟩:Iv))) (w)):=by
 refine jY (n:=51) Tryz.func73 rfl rfl rfl ?_;refine qW ?_;refine qZ ?_;refine zYQ 2 rfl rfl rfl rfl ?_; intro b2;refine zYQ 3 rfl rfl rfl rfl ?_; intro b3;refine qKV 4 ze72 rfl rfl rfl ?_; intro b4;refine qX ?_;refine qQ ?_;refine qW ?_;refine qW ?_;refine qZ ?_;refine qJ (jG 2 ty72 rfl rfl rfl) rfl rfl rfl ?_;refine qHG (F:=vB) (uG en106 rfl (fun w _=>kYG _ _  w)) rfl rfl rfl ?_; intro r10 hr10;refine qJ (yGZ rfl) rfl rfl rfl ?_;refine qJ (qK rfl) rfl rfl rfl ?_;refine doL_split 12 rfl (fun hg12 => ?_) (fun hg12 => ?_)
 ·
  refine jUG rfl rfl rfl ?_;refine jUG rfl rfl rfl ?_;refine jUG rfl rfl rfl ?_;refine qJ (opV_pick_t rfl rfl rfl rfl) rfl rfl rfl ?_;refine qX ?_;refine qQ ?_;refine qXY rfl (rfl) ?_;refine qW ?_;refine qZ ?_;refine qJ (qZV la72 rfl rfl) rfl rfl rfl ?_;refine zV 4 ty72 rfl rfl rfl rfl rfl rfl rfl rfl ?_;refine qX ?_;refine qQ ?_;refine jU ?_;refine zQG ?_;refine yU (rs:=[.cell 4 72]) rfl (resC (jH 4 rfl rfl ty72 rfl) (resN)) (congrArg (iv) (?_:⟨_,_⟩=Iv.mul (⟨a0,a1⟩:Iv) (⟨b0,b1⟩:Iv)))
  subst_vars; first | (simp_all [Iv.mul,Iv.limited,min4,max4]; done) | (simp_all [Iv.mul,Iv.limited,min4,max4] <;> omega) | grind [Iv.mul,Iv.limited,min4,max4]
 ·
  refine qJ (jG 3 ty72 rfl rfl rfl) rfl rfl rfl ?_;refine qHG (F:=vB) (uG en106 rfl (fun w _=>kYG _ _  w)) rfl rfl rfl ?_; intro r14 hr14;refine qJ (yGZ rfl) rfl rfl rfl ?_;refine qJ (yJJ rfl rfl rfl rfl) rfl rfl rfl ?_;refine qX ?_;refine qQ ?_;refine kZ rfl (fun hc16 => ?_) (fun hc16 => ?_)
  ·
   refine qW ?_;refine qZ ?_;refine qJ (qZV la72 rfl rfl) rfl rfl rfl ?_;refine zV 4 ty72 rfl rfl rfl rfl rfl rfl rfl rfl ?_;refine qX ?_;refine qQ ?_;refine jU ?_;refine zQG ?_;refine yU (rs:=[.cell 4 72]) rfl (resC (jH 4 rfl rfl ty72 rfl) (resN)) (congrArg (iv) (?_:⟨_,_⟩=Iv.mul (⟨a0,a1⟩:Iv) (⟨b0,b1⟩:Iv)))
   subst_vars; first | (simp_all [Iv.mul,Iv.limited,min4,max4]; done) | (simp_all [Iv.mul,Iv.limited,min4,max4] <;> omega) | grind [Iv.mul,Iv.limited,min4,max4]
  ·
   refine kJ ?_;refine qQ ?_;refine qW ?_;have ha:=qZQ (hr10.symm.trans (by simpa using hg12));have hb:=qZQ (hr14.symm.trans (by simpa using hc16));have m1:=zUY (a:=a0) (b:=b0) (by omega) (by omega);have m2:=zUY (a:=a0) (b:=b1) (by omega) (by omega);have m3:=zUY (a:=a1) (b:=b0) (by omega) (by omega);have m4:=zUY (a:=a1) (b:=b1) (by omega) (by omega);refine qWU 23 mo (by kernel_rfl) ?_;simp only [vYK,vYX,vYU,vYW];refine yV (qU zXZ rfl) rfl rfl rfl ?_;refine yV (yX 2 ty2 rfl rfl rfl) rfl rfl rfl ?_;refine yV (qU zXZ rfl) rfl rfl rfl ?_;refine yV (yX 3 ty2 rfl rfl rfl) rfl rfl rfl ?_;refine yV (kQ rfl rfl (by first | exact zK ⟨by omega,by omega⟩ | rfl)) rfl rfl rfl ?_;refine yV (qU zXZ rfl) rfl rfl rfl ?_;refine yV (yX 2 ty2 rfl rfl rfl) rfl rfl rfl ?_;refine yV (qU yZJ rfl) rfl rfl rfl ?_;refine yV (yX 3 ty2 rfl rfl rfl) rfl rfl rfl ?_;refine yV (kQ rfl rfl (by first | exact zK ⟨by omega,by omega⟩ | rfl)) rfl rfl rfl ?_;refine yV (qU yZJ rfl) rfl rfl rfl ?_;refine yV (yX 2 ty2 rfl rfl rfl) rfl rfl rfl ?_;refine yV (qU zXZ rfl) rfl rfl rfl ?_;refine yV (yX 3 ty2 rfl rfl rfl) rfl rfl rfl ?_;refine yV (kQ rfl rfl (by first | exact zK ⟨by omega,by omega⟩ | rfl)) rfl rfl rfl ?_;refine yV (qU yZJ rfl) rfl rfl rfl ?_;refine yV (yX 2 ty2 rfl rfl rfl) rfl rfl rfl ?_;refine yV (qU yZJ rfl) rfl rfl rfl ?_;refine yV (yX 3 ty2 rfl rfl rfl) rfl rfl rfl ?_;refine yV (kQ rfl rfl (by first | exact zK ⟨by omega,by omega⟩ | rfl)) rfl rfl rfl ?_;refine yV (qV rfl) rfl rfl rfl ?_;refine yV (qV rfl) rfl rfl rfl ?_;refine yV (qV rfl) rfl rfl rfl ?_;refine zYZ ?_;refine qWG ?_;refine qJ (qV rfl) rfl rfl rfl ?_;refine qX ?_;refine qQ ?_;refine qW ?_;refine qZ ?_;refine qJ (qK rfl) rfl rfl rfl ?_;refine qJ (qK rfl) rfl rfl rfl ?_;refine qJ (qK rfl) rfl rfl rfl ?_;refine qJ (qK rfl) rfl rfl rfl ?_;refine qJ (opV_min4 rfl rfl rfl rfl) rfl rfl rfl ?_;refine qHG (F:=vI) (uG en108 rfl (fun w _=>kWY _ _ (by unfold In64; omega) (by omega) w)) rfl rfl rfl ?_; intro r43 hr43;refine qJ (qK rfl) rfl rfl rfl ?_;refine qJ (qK rfl) rfl rfl rfl ?_;refine qJ (qK rfl) rfl rfl rfl ?_;refine qJ (qK rfl) rfl rfl rfl ?_;refine qJ (opV_max4 rfl rfl rfl rfl) rfl rfl rfl ?_;refine qHG (F:=vI) (uG en109 rfl (fun w _=>uYQ _ _ (by unfold In64; omega) (by omega) w)) rfl rfl rfl ?_; intro r49 hr49;refine qHG (F:=iv) (uG en107 rfl (fun w _=>rLimited _ _  w)) rfl rfl rfl ?_; intro r50 hr50;refine zV 4 ty72 rfl rfl rfl rfl rfl rfl rfl rfl ?_;refine qX ?_;refine qQ ?_;refine jU ?_;refine yU (rs:=[.cell 4 72]) rfl (resC (jH 4 rfl rfl ty72 rfl) (resN)) (congrArg (iv) (?_:⟨_,_⟩=Iv.mul (⟨a0,a1⟩:Iv) (⟨b0,b1⟩:Iv)))
   subst_vars; first | (simp_all [Iv.mul,Iv.limited,min4,max4]; done) | (simp_all [Iv.mul,Iv.limited,min4,max4] <;> omega) | grind [Iv.mul,Iv.limited,min4,max4]
end Go.Proofs.YtmffoiemmlcmfaaGreat

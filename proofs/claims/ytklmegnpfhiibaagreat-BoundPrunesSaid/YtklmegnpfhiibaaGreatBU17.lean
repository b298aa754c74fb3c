/- Part 17 of the texts behind the last one: rules and contracts. No condition. -/
import Derived.Test.YtklmegnpfhiibaaGreatBU16
open Option renaming bind_eq_some_iff → vQQ, bind_some → vZV
open Option.some renaming injEq → vQZ
open Bool renaming and_eq_true → vQJ, and_self → vZQ
open List renaming getElem?_eq_getElem → vQK, length_cons → vQX, mem_of_getElem? → vQW, mem_cons_of_mem → vQV, mem_cons_self → vQG, getElem?_map → vQH, getD_eq_getElem?_getD → vZX, drop_zero → vYZ
open Nat renaming eq_of_beq_eq_true → vQU
namespace Go.Rx
open Go.RowKit Go.Sx
def kB:IntKind→IntKind→Bool
 | .i64,.i64=>true
 | .i32,.i32=>true
 | .u64,.u64=>true
 | .u8,.u8=>true
 | _,_=>false
theorem kB_eq {k k':IntKind} (h:kB k k'=true):k=k':=by cases k <;> cases k' <;> first | rfl | cases h
def eqP:Nat→PV→PV→Bool
 | 0,_,_=>false
 | _ + 1,.n k x,.n k' y=>kB k k' && decide (x=y)
 | _ + 1,.b x,.b y=>x == y
 | _ + 1,.s x,.s y=>decide (x.data.toList=y.data.toList)
 | n + 1,.a xs,.a ys=>eqL n xs ys
 | n + 1,.t xs,.t ys=>eqL n xs ys
 | n + 1,.l xs,.l ys=>eqLL n xs ys
 | n + 1,.z xs j o,.z ys j' o'=>eqLL n xs ys && Nat.beq j j' && Nat.beq o o'
 | n + 1,.c xs o,.c ys o'=>eqL n xs ys && Nat.beq o o'
 | n + 1,.f f fs cs,.f f' fs' cs'=>Nat.beq f f' && eqL n fs fs' && eqL n cs cs'
 | _ + 1,.ni,.ni=>true
 | _ + 1,.np,.np=>true
 | _ + 1,.nf,.nf=>true
 | _ + 1,.zs,.zs=>true
 | _ + 1,.ze,.ze=>true
 | _ + 1,.ne,.ne=>true
 | _ + 1,_,_=>false
where
 eqL:Nat→List PV→List PV→Bool
 | 0,_,_=>false
 | _ + 1,[],[]=>true
 | n + 1,x :: xs,y :: ys=>eqP n x y && eqL n xs ys
 | _ + 1,_,_=>false
 eqLL:Nat→List (List PV)→List (List PV)→Bool
 | 0,_,_=>false
 | _ + 1,[],[]=>true
 | n + 1,x :: xs,y :: ys=>eqP.eqL n x y && eqLL n xs ys
 | _ + 1,_,_=>false
theorem bytes_eq {x y:ByteArray} (h:x.data.toList=y.data.toList):x=y:=by
 cases x; cases y
 congr 1
 exact Array.toList_inj.1 h
theorem eq_all:∀ n,(∀ p q,eqP n p q=true→p=q)∧(∀ p q,eqP.eqL n p q=true→p=q)∧(∀ p q,eqP.eqLL n p q=true→p=q)
 | 0=>⟨fun p q h=>by simp [eqP] at h,fun p q h=>by simp [eqP.eqL] at h,fun p q h=>by simp [eqP.eqLL] at h⟩
 | n + 1=>by
  obtain ⟨h1,h2,h3⟩:=eq_all n;refine ⟨fun p q h => ?_,fun p q h => ?_,fun p q h => ?_⟩
  ·cases p <;> cases q <;> simp only [eqP,vQJ,decide_eq_true_eq,beq_iff_eq] at h <;> first | (cases h; done) | skip
   ·rw [kB_eq h.1,h.2]
   ·rw [h]
   ·rw [bytes_eq h]
   ·rw [h2 _ _ h]
   ·rw [h2 _ _ h]
   ·rw [h3 _ _ h]
   ·rw [h3 _ _ h.1.1,vQU h.1.2,vQU h.2]
   ·rw [h2 _ _ h.1,vQU h.2]
   ·rw [vQU h.1.1,h2 _ _ h.1.2,h2 _ _ h.2]
   all_goals rfl
  ·cases p <;> cases q <;> simp only [eqP.eqL,vQJ] at h <;> first | (cases h; done) | skip
   ·rfl
   ·rw [h1 _ _ h.1,h2 _ _ h.2]
  ·cases p <;> cases q <;> simp only [eqP.eqLL,vQJ] at h <;> first | (cases h; done) | skip
   ·rfl
   ·rw [h2 _ _ h.1,h3 _ _ h.2]
abbrev Known:=List (Nat × List (List PV × Ret))
def yQQ:List (List PV × Ret)→List PV→Option Ret
 | [],_=>none
 | (ps,r) :: l,qs=>bif eqP.eqL 200 ps qs then some r else yQQ l qs
def Known.orc (t:Known):Orc:=⟨fun g=>(asc t g).bind fun l=>some (yQQ l),fun _=>none⟩
def Known.Ok (P:Program) (t:Known):Prop:=∀ x ∈ t,∀ y ∈ x.2,zQ P x.1 y.1 y.2
theorem findK_mem {l:List (List PV × Ret)} {qs:List PV} {r:Ret} (h:yQQ l qs=some r):(qs,r) ∈ l:=by
 induction l with
 | nil=>cases h
 | cons y l ih =>
  obtain ⟨ps,r'⟩:=y;simp only [yQQ] at h;cases hc:eqP.eqL 200 ps qs with
  | true=>rw [hc] at h; cases h; rw [(eq_all 200).2.1 _ _ hc]; exact vQG
  | false=>rw [hc] at h; exact vQV _ (ih h)
theorem Known.ok {P:Program} {T:Tab} {t:Known} (h:t.Ok P):OrcOk P T t.orc:=by
 refine ⟨fun g o ho ps r hr => ?_,fun g o ho=>by simp [Known.orc] at ho⟩;simp only [Known.orc,vQQ,vQZ] at ho;obtain ⟨l,hl,rfl⟩:=ho;exact h _ (qYJ hl) _ (findK_mem hr)
theorem Known.nil (P:Program):Known.Ok P []:=fun x hx=>by simp at hx
theorem Known.add {P:Program} {T:Tab} {t:Known} {f:Nat} {l:List (List PV × Ret)} {N:Nat} (hT:TabOk P T) (hm:P.follows .mixedOrders=true) (ht:t.Ok P) (h:l.map (fun y=>run T t.orc N f y.1)=l.map (fun y=>some y.2)):Known.Ok P ((f,l) :: t):=fun x hx=>by
 rcases List.mem_cons.1 hx with rfl | hx
 ·exact fun y hy=>qYU hT hm (Known.ok ht) (zQU h hy)
 ·exact ht x hx
end Go.Rx
namespace Go.Rx
open Go.RowKit Go.Sx
section
abbrev α:=Ret × Mem
abbrev qYV:=Nat→List PV→(Ret→Option α)→Option α
def zYI (e:Eff) (K:Eff→Option α):Option α:=match e with
 | ⟨[],[],.v (.b c),[]⟩=>bif c then K (.val (.v (.b true))) else K (.val (.v (.b false)))
 | e=>K e
theorem qVI (e:Eff) (K:Eff→Option α):zYI e K=K e:=by
 unfold zYI;split
 ·rename_i c; cases c <;> rfl
 ·rfl
def callEffK (C:Cx) (cK:qYV) (dst f:Nat) (args:List RV) (K:Eff→Option α):Option α :=
 (mapO RV.fz args).bind fun ps=>cK f ps fun r =>
  bif args.all RV.still then (zZC C.T C.me dst (catR RV.regs args) r).bind fun e=>zYI e K
  else match r with
   | .v x=>bif x.flat then zYI (.val (.v x)) K else none
   | .ow _ _ (.l rows)=>bif rows.all (fun r=>r.all PV.flat1) then K (.val (.v (.l rows))) else none
   | .ow _ _ (.fo n g)=>bif yJH g then (bif decide (n≤16) then K (.val (.v (.lf n g))) else none) else none
   | _=>none
def qHZ (s:ByteArray) (i:Nat):Int:=(((s[i]?).getD 0).toNat:Int)
def zWL (C:Cx) (cK:qYV) (dst:Nat) (op:Op) (vs:List RV) (K:Eff→Option α):Option α :=
 match op,vs with
 | .binOp .quo _ _ _ _,[.v (.n k x),.v (.n k' y)]=>bif decide (k=k') then (bif decide (y=0) then none else K (.val (.v (.n k (k.wrap (x.tdiv y)))))) else none
 | .binOp .rem _ _ _ _,[.v (.n k x),.v (.n k' y)]=>bif decide (k=k') then (bif decide (y=0) then none else K (.val (.v (.n k (x.tmod y))))) else none
 | .call ⟨.builtin .append,axs,ats⟩,[.o id e' sz rows,y]=>(match ats.toList with
   | [t,t']=>bif Nat.beq t t' then (C.T.sl t).bind fun e=>(zXY y).bind fun news=>bif news.ok e.2 then (bif Nat.beq e' e.1 && Nat.beq sz e.2 && !(y.ids.any (Nat.beq id)) then
     (bif decide (rows.len + news.len≤C.T.bd e.1) then K (.app id (.reg e' sz (rows.app news)) (.o id)) else none) else none) else none else none
   | _=>none)
 | .call ⟨.builtin .append,axs,ats⟩,[.nl,y]=>(match ats.toList with
   | [t,t']=>bif Nat.beq t t' then (C.T.sl t).bind fun e=>(zXY y).bind fun news=>bif news.ok e.2 then
     (bif decide (news.len≤C.T.bd e.1) then K (.new dst (.reg e.1 e.2 news) (.o dst)) else none) else none else none
   | _=>none)
 | .binOp .shl _ _ _ _,[.v (.n k x),.v (.n _ y)]=>bif decide (0≤y) then K (.val (.v (.n k (k.wrap (x * 2 ^ (min y.toNat k.bits)))))) else none
 | .binOp .shr _ _ _ _,[.v (.n k x),.v (.n _ y)]=>bif decide (0≤y) then K (.val (.v (.n k (x.fdiv (2 ^ (min y.toNat k.bits)))))) else none
 | .indexAddr t _ _,[.o id _ sz rows,.v (.n _ i)]=>(C.T.sl t).bind fun e=>bif inB i rows.len then (bif Nat.beq sz e.2 then K (.val (.q id i.toNat 0)) else none) else none
 | .makeSlice t _ _,[.v (.n _ n),.v (.n _ c)]=>(C.T.sl t).bind fun e=>(C.T.zr e.1).bind fun zs=>bif C.T.zf C.me then none else
   bif C.T.nf C.me then (C.T.sl e.1).bind fun q=>(C.T.zr q.1).bind fun z2=>(match zs with
    | [.zs]=>bif Nat.beq e.2 1 then (bif decide (0≤n) then bif decide (n≤c) then bif decide (c≤1000000) then K ⟨[(dst,some (.nst e.1 q.1 q.2 (bif C.T.ff C.me then .fo n.toNat (fun _=>.fo 0 (fun _=>z2)) else .l (qKZ (.l []) n.toNat)) none))],[(mid dst,none)],.o dst,[dst]⟩ else none else none else none) else none
    | _=>none) else
   bif decide (0≤n) then bif decide (n≤c) then bif decide (c≤1000000) then K (.new dst (.reg e.1 e.2 (bif C.T.ff C.me then .fo n.toNat (fun _=>zs) else .l (qKZ zs n.toNat))) (.o dst)) else none else none else none
 | .slice t _ lo hi none,.v (.lf n f) :: vs=>(zJX lo hi vs).bind fun b=>(C.T.sl t).bind fun e=>bif inS b.1 b.2 n then (bif Nat.beq (f (loOf b.1)).length e.2 then K (.val (.v (.lf (hiOf b.2 n - loOf b.1) fun v=>f (v + loOf b.1)))) else none) else none
 | .slice t _ lo hi none,.o id e' sz rows :: vs=>(zJX lo hi vs).bind fun b=>(match b with
   | (none,some j)=>(C.T.sl t).bind fun e=>bif Nat.beq sz e.2 then (bif decide (0≤j) then (bif decide (j.toNat≤rows.len) then K (.app id (.reg e' sz (rows.take j.toNat)) (.o id)) else none) else none) else none
   | _=>none)
 | .index t _ _,[.v (.s s),.v (.n _ i)]=>bif C.T.str t then (bif inB i s.size then K (.val (.v (.n .u8 (qHZ s i.toNat)))) else none) else none
 | .next _ true,[.i id 0 s pos]=>bif Nat.beq id pid2 then none else bif decide (pos < s.size) then K (.set id (.itr s (pos + (Utf8.decode s pos).2)) (.v (.t [.b true,.n .i64 (pos:Int),.n .i32 ((Utf8.decode s pos).1:Int)]))) else K (.val (.v (.t [.b false])))
 | .indexAddr t _ _,[.no id _ n,.v (.n _ i)]=>(C.T.sl t).bind fun e=>bif inB i n then (bif Nat.beq 1 e.2 then K (.val (.q id i.toNat 0)) else none) else none
 | .call ⟨.builtin .append,axs,ats⟩,[.mi id j e' ie isz rows none,y]=>(match ats.toList with
   | [t,t']=>bif Nat.beq t t' then (C.T.sl t).bind fun e=>(zXY y).bind fun news=>bif news.ok e.2 then (bif Nat.beq ie e.1 && Nat.beq isz e.2 && !(y.ids.any (Nat.beq id)) then (rows.at j).bind fun r =>
     (bif decide (r.len + news.len≤C.T.bd e.1) then K ⟨[(id,some (.nst e' ie isz rows (some (j,r.app news))))],[(mid id,none)],.mp id j,[]⟩ else none) else none) else none else none
   | _=>none)
 | .store t _ _,[.nq id j 0 e ie isz rows (some (j',r)),.w (.mp id' j'')]=>(C.T.sz t).bind fun k=>bif !k.1 && Nat.beq id' id then (bif Nat.beq j' j then (bif Nat.beq j'' j then K ⟨[(id,some (.nst e ie isz (rows.set j r) none))],[(mid id,none)],.un,[]⟩ else none) else none) else none
 | .indexAddr t _ _,[.v (.lf n f),.v (.n _ i)]=>(C.T.sl t).bind fun e=>bif inB i n then (bif Nat.beq (f i.toNat).length e.2 then K (.val (.v (.zf n f i.toNat 0))) else none) else none
 | .call ⟨.value fx,axs,ats⟩,.v (.f f first cap) :: vs=>bif C.T.rw f then (qG C.T C.cA C.cB C.me dst (.call ⟨.value fx,axs,ats⟩) (.v (.f f first cap) :: vs)).bind fun e=>zYI e K
   else callEffK C cK dst f (first.map .v ++ vs ++ cap.map .v) K
 | op,vs=>(qG C.T C.cA C.cB C.me dst op vs).bind fun e=>zYI e K
def goK (C:Cx) (cK:qYV) (o:Oper) (σ:St) (K:Eff × List RV→Option α):Option α :=
 bif dstB C.n o.dst then
  (mapO (opv (mode o.op) σ) o.op.operands.toList).bind fun vs=>zWL C cK (o.dst.getD 0) o.op vs fun e =>
   bif e.nw.all (fun id=>(zZ σ.M id).isNone && Nat.blt id 2000000) then K (e,vs) else none
 else none
def zUG (C:Cx) (o:Oper) (K:Eff × List RV→Option α):Option α:=bif dstB C.n o.dst then K (.val (.v (.t [])),[]) else none
def yQX (C:Cx) (cK:qYV) (ops:Array Oper) (o:Oper) (σ:St) (K:Eff × List RV→Option α):Option α :=
 match o.guard with
 | none=>goK C cK o σ K
 | some (j,b)=>match (ops[j]?).bind (·.dst) with
  | some d=>match uJ σ.S d with
   | some (.v (.b c))=>(match b with
    | true=>bif c then goK C cK o σ K else zUG C o K
    | false=>bif c then zUG C o K else goK C cK o σ K)
   | some (.v (.t []))=>zUG C o K
   | _=>none
  | none=>none
end
def zZH (C:Cx) (cK:qYV) (ops:Array Oper):List Oper→(St→Option (Ret × Mem))→St→Option (Ret × Mem)
 | [],K,σ=>K σ
 | o :: l,K,σ=>yQX C cK ops o σ fun r=>zZH C cK ops l K (σ.apply r.1 o.dst)
def qWB (C:Cx) (cK:qYV) (ops:Array Oper):Nat→List Oper→List Done→(St→Option (Ret × Mem))→St→Option (Ret × Mem)
 | _,[],acc,K,σ=>bif zQY ops acc.reverse && Sx.backB ops then K σ else none
 | i,o :: l,acc,K,σ=>yQX C cK ops o σ fun r=>qWB C cK ops (i + 1) l ((i,r) :: acc) K (σ.apply r.1 o.dst)
def qKQ (N:Nat) (C:Cx) (cK:qYV):Code→(Ex→St→Option (Ret × Mem))→St→Option (Ret × Mem)
 | .skip,K,σ=>K .normal σ
 | .label _,K,σ=>K .normal σ
 | .scope x,K,σ=>qKQ N C cK x K σ
 | .ret,K,σ=>K .ret σ
 | .exit id,K,σ=>K (.exit id) σ
 | .region id ops d,K,σ=>preK C id (fun σ=>bif d then qWB C cK ops 0 ops.toList [] (K .normal) σ else zZH C cK ops ops.toList (K .normal) σ) σ
 | .seq x y,K,σ=>qKQ N C cK x (fun e σ=>match e with
   | .normal=>qKQ N C cK y K σ
   | e=>K e σ) σ
 | .cond c x y,K,σ=>(opv 1 σ c).bind fun v=>match v with
   | .v (.b t)=>bif t then qKQ N C cK x K σ else qKQ N C cK y K σ
   | _=>none
 | .block id x,K,σ=>qKQ N C cK x (fun e σ=>match e with
   | .exit id'=>bif Nat.beq id' id then K .normal σ else K (.exit id') σ
   | e=>K e σ) σ
 | .loop x,K,σ=>qVQ (fun again σ=>qKQ N C cK x (fun e σ=>match e with
   | .normal=>again σ
   | e=>K e (qZJ (C.T.hint C.me (zJ x)) σ)) (qYQ (C.T.hint C.me (zJ x)) σ)) N σ
 | _,_,_=>none
abbrev OrK:=Nat→Option (List PV→Option (Bool × Ret))
def OrK.orc (o:OrK):Orc:=⟨fun g=>(o g).bind fun f=>some fun ps=>(f ps).bind fun x=>bif x.1 then some x.2 else none,fun _=>none⟩
def zQW (ok:OrK) (rK:qYV):qYV:=fun g ps K=>match ok g with
 | some o=>(o ps).bind fun x=>bif x.1 then K x.2 else none
 | none=>rK g ps K
def zGZ (T:Tab) (ok:OrK):Nat→qYV
 | 0,_,_,_=>none
 | N + 1,f,ps,K=>match T.fn f with
  | none=>none
  | some fi=>bif Nat.ble (ps.map HV.v).length fi.ntmps then qKQ N ⟨T,qJD ok.orc (runF T ok.orc N),qJZ T ok.orc (runF T ok.orc N),f,fi.ntmps⟩ (zQW ok (zGZ T ok N)) fi.body (fun e σ=>(endK T [] fi.results e σ).bind fun r=>K r.1) ⟨initS 0 (ps.map .v),[]⟩ else none
def runK (T:Tab) (ok:OrK) (N f:Nat) (ps:List PV):Option (Ret × Mem):=zGZ T ok N f ps fun r=>some (r,[])
section
variable {C:Cx} {cK:qYV} {ops:Array Oper} {r:α}
def SndK (C:Cx) (cK:qYV):Prop:=∀ f ps K r,cK f ps K=some r→∃ x,C.cA f ps=some x∧K x=some r
theorem qXX {dst:Nat} {op:Op} {vs:List RV} {K:Eff→Option α} (hc:SndK C cK) (h:zWL C cK dst op vs K=some r):∃ e,qG C.T C.cA C.cB C.me dst op vs=some e∧K e=some r:=by
 unfold zWL at h;split at h
 ·rename_i k x k' y;obtain ⟨h1,h⟩:=qZ h;cases hy:decide (y=0) with
  | true=>rw [hy] at h; cases h
  | false =>
   rw [hy] at h;refine ⟨_,?_,h⟩;simp [qG,binP,binI,h1,hy]
 ·rename_i k x k' y;obtain ⟨h1,h⟩:=qZ h;cases hy:decide (y=0) with
  | true=>rw [hy] at h; cases h
  | false =>
   rw [hy] at h;refine ⟨_,?_,h⟩;simp [qG,binP,binI,h1,hy]
 ·rename_i axs ats id e' sz rows y;split at h
  ·rename_i t t' hts;obtain ⟨h1,h⟩:=qZ h;simp only [vQQ] at h;obtain ⟨el,hel,news,hnews,h⟩:=h;obtain ⟨h2,h⟩:=qZ h;obtain ⟨h3,h⟩:=qZ h;obtain ⟨h4,h⟩:=qZ h;refine ⟨_,?_,h⟩;rw [vQJ,vQJ] at h3;simp only [qG,hts,h1,vYY,hel,hnews,vZV,h2,h3.1.1,h3.1.2,h3.2,h4,vZQ]
  ·cases h
 ·rename_i axs ats y;split at h
  ·rename_i t t' hts;obtain ⟨h1,h⟩:=qZ h;simp only [vQQ] at h;obtain ⟨el,hel,news,hnews,h⟩:=h;obtain ⟨h2,h⟩:=qZ h;obtain ⟨h4,h⟩:=qZ h;refine ⟨_,?_,h⟩;simp only [qG,hts,h1,vYY,hel,hnews,vZV,h2,h4]
  ·cases h
 ·rename_i k x _ y;obtain ⟨h1,h⟩:=qZ h;refine ⟨_,?_,h⟩;simp [qG,binP,h1]
 ·rename_i k x _ y;obtain ⟨h1,h⟩:=qZ h;refine ⟨_,?_,h⟩;simp [qG,binP,h1]
 ·rename_i t _ _ id _ sz rows _ i;simp only [vQQ] at h;obtain ⟨el,hel,h⟩:=h;obtain ⟨h1,h⟩:=qZ h;obtain ⟨h2,h⟩:=qZ h;exact ⟨_,by simp only [qG,hel,vZV,h1,h2,vZQ,vYY],h⟩
 ·rename_i t _ _ _ n _ c;simp only [vQQ] at h;obtain ⟨el,hel,zs,hzs,h⟩:=h;cases hzf:C.T.zf C.me with
  | true=>rw [hzf] at h; cases h
  | false =>
  rw [hzf,vYJ] at h;cases hnf:C.T.nf C.me with
  | true =>
   rw [hnf,vYY] at h;simp only [vQQ] at h;obtain ⟨q,hq,z2,hz2,h⟩:=h;split at h
   ·obtain ⟨h0,h⟩:=qZ h;obtain ⟨h1,h⟩:=qZ h;obtain ⟨h2,h⟩:=qZ h;obtain ⟨h3,h⟩:=qZ h;exact ⟨_,by simp only [qG,hel,hzs,hzf,hnf,hq,hz2,vZV,h0,h1,h2,h3,Bool.false_and,vYJ,vZQ,vYY],h⟩
   ·cases h
  | false =>
  rw [hnf,vYJ] at h;obtain ⟨h1,h⟩:=qZ h;obtain ⟨h2,h⟩:=qZ h;obtain ⟨h3,h⟩:=qZ h;exact ⟨_,by simp only [qG,hel,hzs,hzf,hnf,vZV,h1,h2,h3,Bool.false_and,vYJ,vZQ,vYY],h⟩
 ·rename_i t _ lo hi n f vs;simp only [vQQ] at h;obtain ⟨b,hb,el,hel,h⟩:=h;obtain ⟨h1,h⟩:=qZ h;obtain ⟨h2,h⟩:=qZ h;exact ⟨_,by simp only [qG,hb,hel,vZV,h1,h2,vYY],h⟩
 ·rename_i t _ lo hi id e' sz rows vs;simp only [vQQ] at h;obtain ⟨b,hb,h⟩:=h;split at h
  ·rename_i j;simp only [vQQ] at h;obtain ⟨el,hel,h⟩:=h;obtain ⟨h1,h⟩:=qZ h;obtain ⟨h2,h⟩:=qZ h;obtain ⟨h3,h⟩:=qZ h;exact ⟨_,by simp only [qG,hb,hel,vZV,h1,h2,h3,vZQ,vYY],h⟩
  ·cases h
 ·rename_i t _ _ s _ i;obtain ⟨h1,h⟩:=qZ h;obtain ⟨h2,h⟩:=qZ h;obtain ⟨i0,i1⟩:=qKK h2;refine ⟨_,?_,h⟩;have hb:s[i.toNat]? = some (s[i.toNat]'(by omega)):=getElem?_pos s i.toNat (by omega);simp only [qG,h1,vYU i0,vZQ,vYY,qHZ,hb,vZV,Option.getD_some]
 ·rename_i id s pos;cases hp2:Nat.beq id pid2 with
  | true=>rw [hp2] at h; cases h
  | false =>
  rw [hp2,vYJ] at h;cases hp:decide (pos < s.size) with
  | true =>
   rw [hp] at h;exact ⟨_,by simp only [qG,hp2,hp,vYY,vYJ],h⟩
  | false =>
   rw [hp] at h;exact ⟨_,by simp only [qG,hp2,hp,vYJ],h⟩
 ·rename_i t _ _ id _ n _ i;simp only [vQQ] at h;obtain ⟨el,hel,h⟩:=h;obtain ⟨h1,h⟩:=qZ h;obtain ⟨h2,h⟩:=qZ h;exact ⟨_,by simp only [qG,hel,vZV,h1,h2,vZQ,vYY],h⟩
 ·rename_i axs ats id j e' ie isz rows y;split at h
  ·rename_i t t' hts;obtain ⟨h1,h⟩:=qZ h;simp only [vQQ] at h;obtain ⟨el,hel,news,hnews,h⟩:=h;obtain ⟨h2,h⟩:=qZ h;obtain ⟨h3,h⟩:=qZ h;simp only [vQQ] at h;obtain ⟨r1,hr1,h⟩:=h;obtain ⟨h4,h⟩:=qZ h;refine ⟨_,?_,h⟩;simp only [qG,hts,h1,vYY,hel,hnews,vZV,h2,h3,hr1,h4]
  ·cases h
 ·rename_i t _ _ id j e ie isz rows j' r1 id' j'';simp only [vQQ] at h;obtain ⟨k,hk,h⟩:=h;obtain ⟨h1,h⟩:=qZ h;obtain ⟨h2,h⟩:=qZ h;obtain ⟨h3,h⟩:=qZ h;rw [vQJ] at h1;exact ⟨_,by simp only [qG,hk,vZV,h1.1,h1.2,h2,h3,vZQ,vYY],h⟩
 ·rename_i t _ _ n f _ i;simp only [vQQ] at h;obtain ⟨el,hel,h⟩:=h;obtain ⟨h1,h⟩:=qZ h;obtain ⟨h2,h⟩:=qZ h;exact ⟨_,by simp only [qG,hel,vZV,h1,h2,vZQ,vYY],h⟩
 ·rename_i fx axs ats f first cap vs
  cases hrw:C.T.rw f with
  | true =>
   rw [hrw] at h;simp only [vYY,vQQ] at h;obtain ⟨e,he,h⟩:=h;rw [qVI] at h;exact ⟨e,he,h⟩
  | false =>
   rw [hrw] at h;simp only [vYJ,callEffK,vQQ] at h;obtain ⟨ps,hps,h⟩:=h;obtain ⟨x,hx,h⟩:=hc _ _ _ _ h;have key:∃ e,(bif (first.map RV.v ++ vs ++ cap.map RV.v).all RV.still then zZC C.T C.me dst (catR RV.regs (first.map RV.v ++ vs ++ cap.map RV.v)) x
    else match x with
     | .v x=>bif x.flat then some (.val (.v x)) else none
     | .ow _ _ (.l rows)=>bif rows.all (fun r=>r.all PV.flat1) then some (.val (.v (.l rows))) else none
     | .ow _ _ (.fo n g)=>bif yJH g then (bif decide (n≤16) then some (.val (.v (.lf n g))) else none) else none
     | _=>none)=some e∧K e=some r:=by
    cases hst:(first.map RV.v ++ vs ++ cap.map RV.v).all RV.still with
    | true =>
     rw [hst] at h;simp only [vYY,vQQ] at h;obtain ⟨e,he,h⟩:=h;rw [qVI] at h;exact ⟨e,he,h⟩
    | false =>
     rw [hst] at h;simp only [vYJ] at h;cases x with
     | v x =>
      obtain ⟨h1,h⟩:=qZ h;rw [qVI] at h;exact ⟨_,by simp only [vYJ,h1,vYY],h⟩
     | ow e' sz rows =>
      cases rows with
      | l rows =>
       obtain ⟨h1,h⟩:=qZ h;exact ⟨_,by simp only [vYJ,h1,vYY],h⟩
      | fo n g =>
       obtain ⟨h1,h⟩:=qZ h;obtain ⟨h2,h⟩:=qZ h;exact ⟨_,by simp only [vYJ,h1,h2,vYY],h⟩
     | oa xs e' sz rows=>cases h
     | pb _=>cases h
   obtain ⟨e,he,h⟩:=key;refine ⟨e,?_,h⟩;simp only [qG,hrw,vYJ,qHL,hps,hx,vZV];exact he
 ·rw [vQQ] at h;obtain ⟨e,he,h⟩:=h;rw [qVI] at h;exact ⟨e,he,h⟩
theorem zKD {o:Oper} {σ:St} {K:Eff × List RV→Option α} (hc:SndK C cK) (hg:uG ops σ o=some true) (h:goK C cK o σ K=some r):∃ x,qJV C ops o σ=some x∧K x=some r:=by
 unfold goK at h;obtain ⟨hd,h⟩:=qZ h;rw [vQQ] at h;obtain ⟨vs,hvs,h⟩:=h;obtain ⟨e,he,h⟩:=qXX hc h;obtain ⟨hn,h⟩:=qZ h;exact ⟨(e,vs),qVF hd (.inr ⟨hg,hvs,he,fun i hi=>zZX (List.all_eq_true.1 hn i hi)⟩),h⟩
theorem qKX {o:Oper} {σ:St} {K:Eff × List RV→Option α} (hg:uG ops σ o=some false) (h:zUG C o K=some r):∃ x,qJV C ops o σ=some x∧K x=some r:=by
 unfold zUG at h;obtain ⟨hd,h⟩:=qZ h;exact ⟨_,qVF hd (.inl ⟨hg,rfl⟩),h⟩
theorem stepK_some {o:Oper} {σ:St} {K:Eff × List RV→Option α} (hc:SndK C cK) (h:yQX C cK ops o σ K=some r):∃ x,qJV C ops o σ=some x∧K x=some r:=by
 unfold yQX at h;cases hg:o.guard with
 | none=>rw [hg] at h; exact zKD hc (by unfold uG; rw [hg]) h
 | some gb =>
  obtain ⟨j,b⟩:=gb;rw [hg] at h;simp only at h;split at h
  ·rename_i d hd;split at h
   ·rename_i c hlc;have gd:uG ops σ o=some (c == b):=by
     unfold uG;rw [hg];simp only [hd,hlc]
    cases b <;> cases c <;> simp only [vYY,vYJ] at h
    ·exact zKD hc gd h
    ·exact qKX gd h
    ·exact qKX gd h
    ·exact zKD hc gd h
   ·rename_i hlc;exact qKX (by unfold uG; rw [hg]; simp only [hd,hlc]) h
   ·cases h
  ·cases h
end
section
variable {C:Cx} {ops:Array Oper} {r:Ret × Mem}
def Gets (K0:Ret × Mem→Option (Ret × Mem)) (r:Ret × Mem) (x:Option (Ret × Mem)):Prop:=∃ q,x=some q∧K0 q=some r
variable {K0:Ret × Mem→Option (Ret × Mem)} {cK:qYV}
theorem qUV (hc:SndK C cK) {K K':St→Option (Ret × Mem)} (hK:∀ σ,K σ=some r→Gets K0 r (K' σ)):∀ (l:List Oper) (σ:St),zZH C cK ops l K σ=some r→Gets K0 r (qXI C ops l K' σ)
 | [],σ,h=>hK σ h
 | o :: l,σ,h=>by
  simp only [zZH] at h;obtain ⟨x,hx,h⟩:=stepK_some hc h;simp only [qXI,hx,vZV];exact qUV hc hK l _ h
theorem qJL (hc:SndK C cK) {K K':St→Option (Ret × Mem)} (hK:∀ σ,K σ=some r→Gets K0 r (K' σ)):∀ (l:List Oper) (i:Nat) (acc:List Done) (σ:St),qWB C cK ops i l acc K σ=some r→Gets K0 r (qZL C ops i l acc K' σ)
 | [],i,acc,σ,h=>by
  simp only [qWB] at h;obtain ⟨hp,h⟩:=qZ h;simp only [qZL,hp,vYY];exact hK σ h
 | o :: l,i,acc,σ,h=>by
  simp only [qWB] at h;obtain ⟨x,hx,h⟩:=stepK_some hc h;simp only [qZL,hx,vZV];exact qJL hc hK l _ _ _ h
theorem qXZ {s s':(St→Option (Ret × Mem))→St→Option (Ret × Mem)} (h:∀ a a':St→Option (Ret × Mem),(∀ σ,a σ=some r→Gets K0 r (a' σ))→∀ σ,s a σ=some r→Gets K0 r (s' a' σ)):∀ (n:Nat) (σ:St),qVQ s n σ=some r→Gets K0 r (qVQ s' n σ)
 | 0,σ,hs=>by cases hs
 | n + 1,σ,hs=>h _ _ (qXZ h n) σ hs
theorem qQI {N:Nat} (hc:SndK C cK):∀ (c:Code) {K K':Ex→St→Option (Ret × Mem)} (hK:∀ e σ,K e σ=some r→Gets K0 r (K' e σ)) (σ:St),qKQ N C cK c K σ=some r→Gets K0 r (runC N C c K' σ)
 | .skip,K,K',hK,σ,h=>hK _ _ h
 | .label _,K,K',hK,σ,h=>hK _ _ h
 | .scope x,K,K',hK,σ,h=>qQI hc x hK σ h
 | .ret,K,K',hK,σ,h=>hK _ _ h
 | .exit id,K,K',hK,σ,h=>hK _ _ h
 | .region id ops d,K,K',hK,σ,h=>by
  have h:=preK_eq.symm.trans h;refine Eq.mpr (congrArg (Gets K0 r) (preK_eq (F:=fun σ=>bif d then qZL C ops 0 ops.toList [] (K' .normal) σ else qXI C ops ops.toList (K' .normal) σ))) ?_;cases d with
  | true=>exact qJL hc (hK .normal) _ _ _ _ h
  | false=>exact qUV hc (hK .normal) _ _ h
 | .seq x y,K,K',hK,σ,h=>by
  refine qQI hc x (fun e τ hk => ?_) σ h;cases e with
  | normal=>exact qQI hc y hK τ hk
  | _=>exact hK _ _ hk
 | .cond c x y,K,K',hK,σ,h=>by
  simp only [qKQ,vQQ] at h;obtain ⟨v,hv,h⟩:=h;simp only [runC,hv,vZV];split at h
  ·rename_i t;cases t with
   | true=>exact qQI hc x hK σ h
   | false=>exact qQI hc y hK σ h
  ·cases h
 | .block id x,K,K',hK,σ,h=>by
  refine qQI hc x (fun e τ hk => ?_) σ h;cases e with
  | exit id' =>
   simp only at hk ⊢;cases hb:Nat.beq id' id with
   | true=>rw [hb] at hk; exact hK _ _ hk
   | false=>rw [hb] at hk; exact hK _ _ hk
  | _=>exact hK _ _ hk
 | .loop x,K,K',hK,σ,h=>by
  simp only [qKQ] at h;simp only [runC];refine qXZ (fun a a' ha τ hs => ?_) N σ h;refine qQI hc x (fun e υ hk => ?_) _ hs;cases e with
  | normal=>exact ha _ hk
  | _=>exact hK _ _ hk
 | .rangeFunc ..,K,K',hK,σ,h=>by cases h
 | .goto _,K,K',hK,σ,h=>by cases h
 | .refuse _,K,K',hK,σ,h=>by cases h
end
theorem qHW {T:Tab} {ok:OrK}:∀ (N f:Nat) (ps:List PV) (K:Ret→Option (Ret × Mem)) (r:Ret × Mem),zGZ T ok N f ps K=some r→∃ x M,runF T ok.orc N f (ps.map .v) []=some (x,M)∧K x=some r
 | 0,f,ps,K,r,h=>by cases h
 | N + 1,f,ps,K,r,h=>by
  simp only [zGZ] at h;split at h
  ·cases h
  ·rename_i fi hfi;obtain ⟨hb,h⟩:=qZ h;have hc:SndK ⟨T,qJD ok.orc (runF T ok.orc N),qJZ T ok.orc (runF T ok.orc N),f,fi.ntmps⟩ (zQW ok (zGZ T ok N)):=fun g qs K' r' hk=>by
    unfold zQW at hk;show ∃ x,qJD ok.orc (runF T ok.orc N) g qs=some x∧K' x=some r';unfold qJD;cases ho:ok g with
    | some o =>
     rw [ho] at hk;simp only [vQQ] at hk;obtain ⟨x,hx,hk⟩:=hk;obtain ⟨h1,hk⟩:=qZ hk;exact ⟨x.2,by simp only [OrK.orc,ho,hx,vZV,h1,vYY],hk⟩
    | none =>
     rw [ho] at hk;obtain ⟨x,M,hx,hk⟩:=qHW N g qs K' r' hk;have e:ok.orc.a g=none:=by simp only [OrK.orc,ho,Option.bind_none]
     exact ⟨x,by simp only [e,hx,vZV],hk⟩
   obtain ⟨q,h1,h2⟩:=qQI (K0:=fun q=>K q.1) (K':=endK T [] fi.results) hc fi.body (fun e σ hk=>by
    simp only [vQQ] at hk;exact hk) _ h
   refine ⟨q.1,q.2,?_,h2⟩;simp only [runF,hfi,hb,vYY];exact h1
theorem runK_some {T:Tab} {ok:OrK} {N f:Nat} {ps:List PV} {r:Ret} (h:runK T ok N f ps=some (r,[])):run T ok.orc N f ps=some r:=by
 obtain ⟨x,M,h1,h2⟩:=qHW N f ps _ _ h;cases h2;unfold run;rw [h1];rfl
def OrK.Ok (P:Program) (ok:OrK):Prop:=∀ g o,ok g=some o→∀ ps r,o ps=some (true,r)→zQ P g ps r
theorem OrK.Ok.orc {P:Program} {ok:OrK} {T:Tab} (h:ok.Ok P):OrcOk P T ok.orc:=by
 refine ⟨fun g o ho ps r hr => ?_,fun g o ho=>by simp [OrK.orc] at ho⟩;simp only [OrK.orc,vQQ,vQZ] at ho;obtain ⟨f,hf,rfl⟩:=ho;simp only [vQQ] at hr;obtain ⟨x,hx,hr⟩:=hr;obtain ⟨h1,hr⟩:=qZ hr;cases hr;exact h g f hf ps x.2 (by rw [hx,← h1])
theorem jV {P:Program} {T:Tab} {ok:OrK} {N f:Nat} {ps:List PV} {r:Ret} (hT:TabOk P T) (hm:P.follows .mixedOrders=true) (hO:ok.Ok P) (h:runK T ok N f ps=some (r,[])):zQ P f ps r:=qYU hT hm hO.orc (runK_some h)
abbrev OrL:=List (Nat × (List PV→Option (Bool × Ret)))
def OrL.k (l:OrL):OrK:=asc l
def kU (P:Program) (f:Nat) (o:List PV→Option (Bool × Ret)):Prop:=∀ ps r,o ps=some (true,r)→zQ P f ps r
theorem OrL.ok {P:Program} {l:OrL} (h:AllP (fun x:Nat × (List PV→Option (Bool × Ret))=>kU P x.1 x.2) l):(OrL.k l).Ok P:=fun g o ho ps r hr=>h.of (qYJ ho) ps r hr
def listed (l:List (List PV × Ret)):List PV→Option (Bool × Ret):=fun ps=>(yQQ l ps).bind fun r=>some (true,r)
def PV.val1:PV→Value
 | .n k x=>.int k x
 | .b x=>.bool x
 | .s x=>.string x
 | _=>.nilIface
def PV.val:PV→Value
 | .a cs=>.agg (cs.map PV.val1).toArray
 | x=>x.val1
theorem zXC {F:Nat→Prop} {w:World} {p:PV} {v:Value} (hp:p.flat1=true) (h:RP F w p v):v=p.val1:=by
 cases h <;> first | rfl | (simp [PV.flat1] at hp; done)
theorem val1_rp {F:Nat→Prop} {w:World} {p:PV} (hp:p.flat1=true):RP F w p p.val1∧p.val1.oneCell'=true:=by
 cases p <;> first | (simp [PV.flat1] at hp; done) | exact ⟨by constructor,rfl⟩
theorem val_eq {F:Nat→Prop} {w:World} {p:PV} {v:Value} (hp:p.flat2=true) (h:RP F w p v):v=p.val:=by
 cases p with
 | a cs =>
  cases h with
  | a _ vs hl h1 h =>
   have e:vs=cs.map PV.val1:=List.ext_getElem? fun i=>by
    rw [vQH];cases hc:cs[i]? with
    | none=>rw [Option.map_none,List.getElem?_eq_none (by have:=List.getElem?_eq_none_iff.1 hc; omega)]
    | some c =>
     have hi:=(List.getElem?_eq_some_iff.1 hc).1;have hv:vs[i]? = some (vs[i]'(by omega)):=vQK (by omega);rw [hv,Option.map_some,zXC (List.all_eq_true.1 hp c (vQW hc)) (h i c _ hc hv)]
   rw [e]; rfl
 | _=>exact zXC (by first | exact hp | (simp [PV.flat2,PV.flat1] at hp)) h
end Go.Rx
namespace Go.Rx
open Go.RowKit Go.Sx
def qWD (sz:Nat) (rows:List (List PV)):Bool:=rows.all fun r=>Nat.beq r.length sz && r.all PV.flat1
def qUA (rows:List (List PV)):List (List Value):=rows.map fun r=>r.map PV.val1
theorem qXC {sz:Nat} {rows:List (List PV)} (h:qWD sz rows=true) {r:List PV} (hr:r ∈ rows):r.length=sz∧∀ p ∈ r,p.flat1=true:=by
 have:=List.all_eq_true.1 h r hr
 rw [vQJ] at this;exact ⟨vQU this.1,List.all_eq_true.1 this.2⟩
theorem rp_of_slc {F:Nat→Prop} {w:World} {sz c:Nat} {a:Option Addr} {rows:List (List PV)} (hs:qWD sz rows=true) (hcap:rows.length≤c) (hS:qJE sz a (qUA rows) w)
  (hF:∀ b off,a=some ⟨b,off,none⟩→rows ≠ []→F b):RP F w (.l rows) (.slice a rows.length c):=by
 cases rows with
 | nil=>exact .l0 a c
 | cons r0 rs =>
  obtain ⟨_,b,off,ha,hb,_⟩:=hS 0 _ (by simp [qUA]; rfl);subst ha;refine .l (r0 :: rs) b off _ c sz (fun j t=>(((r0 :: rs).getD j []).getD t .ni).val1) rfl hcap (fun r hr=>(qXC hs hr).1) (hF b off rfl (by simp)) (fun j t hj ht => ?_) (fun j r t p hj ht => ?_)
  ·have hr:(r0 :: rs)[j]? = some ((r0 :: rs)[j]'hj):=vQK hj;generalize (r0 :: rs)[j]'hj=r at hr;have hm:=qXC hs (vQW hr);have htl:t < r.length:=by omega
   have hp:r[t]? = some (r[t]'htl):=vQK htl;obtain ⟨_,b',off',ha',_,hc⟩:=hS j (r.map PV.val1) (by unfold qUA; rw [vQH,hr]; rfl);cases ha';have hc:=hc t ht;rw [vQH,hp,Option.map_some] at hc;have e:(((r0 :: rs).getD j []).getD t .ni)=r[t]'htl:=by
    rw [vZX,vZX,hr];simp only [Option.getD_some];rw [hp]; rfl
   simp only [e];exact ⟨by rw [← hc,Nat.add_assoc],(val1_rp (F:=F) (w:=w) (hm.2 _ (List.getElem_mem htl))).2⟩
  ·have hm:=qXC hs (vQW hj);have e:(((r0 :: rs).getD j []).getD t .ni)=p:=by
    rw [vZX,vZX,hj];simp only [Option.getD_some];rw [ht]; rfl
   simp only [e];exact (val1_rp (hm.2 p (vQW ht))).1
theorem slc_of_rp {F:Nat→Prop} {w:World} {sz:Nat} {rows:List (List PV)} {v:Value} (hs:qWD sz rows=true) (hF:∀ k,F k→k < w.heap.size) (h:RP F w (.l rows) v) :
  ∃ a c,v=.slice a rows.length c∧rows.length≤c∧qJE sz a (qUA rows) w∧∀ b off,a=some ⟨b,off,none⟩→rows ≠ []→F b:=by
 cases h with
 | l0 ad c=>exact ⟨ad,c,rfl,Nat.zero_le _,fun j r hj=>by simp [qUA] at hj,fun _ _ _ h=>absurd rfl h⟩
 | l _ b off n c sz' g hn hcap hl hf hc hh =>
  subst hn;refine ⟨_,c,rfl,hcap,fun j r hj => ?_,fun b' off' e _=>by cases e; exact hf⟩;unfold qUA at hj;rw [vQH] at hj;cases hr:rows[j]? with
  | none=>rw [hr] at hj; cases hj
  | some q =>
   rw [hr] at hj;cases hj;have hm:=qXC hs (vQW hr);have hjl:=(List.getElem?_eq_some_iff.1 hr).1;have e:sz'=sz:=by rw [← hl q (vQW hr),hm.1]
   subst e;refine ⟨by rw [List.length_map,hm.1],b,off,rfl,hF b hf,fun k hk => ?_⟩;have h1:=hc j k hjl hk;have hkl:k < q.length:=by omega
   have hp:q[k]? = some (q[k]'hkl):=vQK hkl;rw [Nat.add_assoc,h1.1,vQH,hp,Option.map_some]
   congr 1
   exact zXC (hm.2 _ (List.getElem_mem hkl)) (hh j q k _ hr hp)
end Go.Rx
namespace Go.Rx
open Go.RowKit Go.Sx
def qVH (L:List Int):PV:=.l (L.map fun x=>[.n .i64 x])
theorem intsP_flat (L:List Int):qWD 1 (L.map fun x=>[PV.n .i64 x])=true:=by
 unfold qWD;rw [List.all_map,List.all_eq_true];intro x _;rfl
theorem rp_of_ints {F:Nat→Prop} {w:World} {L:List Int} {a:Option Addr} {c:Nat} (h:IntsAt w w.heap.size (.slice a L.length c) L) (hc:L.length≤c) (hF:∀ k,k < w.heap.size→F k):RP F w (qVH L) (.slice a L.length c):=by
 have e:(L.map fun x=>[PV.n .i64 x]).length=L.length:=by simp
 have key:qJE 1 a (qUA (L.map fun x=>[PV.n .i64 x])) w:=fun j r hj=>by
  obtain ⟨a',c',e',hh⟩:=h.slice;cases e';unfold qUA at hj;rw [vQH,vQH] at hj;cases hr:L[j]? with
  | none=>rw [hr] at hj; cases hj
  | some x =>
   rw [hr] at hj;cases hj;have hjl:=(List.getElem?_eq_some_iff.1 hr).1;obtain ⟨b,off,ha,hb,hq⟩:=hh j hjl;refine ⟨rfl,b,off,ha,hb,fun k hk => ?_⟩;have hk0:k=0:=by omega
   subst hk0;rw [Nat.mul_one,Nat.add_zero,hq,vZX,hr];rfl
 have:=rp_of_slc (F:=F) (c:=c) (intsP_flat L) (by rw [e]; exact hc) key (fun b off ha hne=>by
  obtain ⟨a',c',e',hh⟩:=h.slice;cases e';have h0:0 < L.length:=by
   cases L with
   | nil=>exact absurd rfl hne
   | cons x xs=>simp
  obtain ⟨b',off',ha',hb,_⟩:=hh 0 h0;rw [ha] at ha';cases ha';exact hF b hb)
 rw [e] at this;exact this
theorem rets_of_sndR {P:Program} {f:Nat} {ps:List PV} {x:PV} {w:World} {vals:List Value} (h:zQ P f ps (.v x)) (hx:x.flat2=true) (ha:Al (RP (fun k=>k < w.heap.size) w) ps vals):Calls P f vals.toArray w (Rets x.val w) :=
 Calls.mono (h.2 w _ vals (fun k hk=>hk) ha) fun e w' ⟨v,F',he,hg,_,_,hr⟩=>⟨by rw [he,val_eq hx hr],hg⟩
theorem qVU {F:Nat→Prop} {w:World}:Al (RP F w) [] []:=⟨rfl,fun i p v h=>by simp at h⟩
theorem qQJ {F:Nat→Prop} {w:World} {p:PV} {v:Value} {ps:List PV} {vs:List Value} (h:RP F w p v) (t:Al (RP F w) ps vs):Al (RP F w) (p :: ps) (v :: vs) :=
 ⟨by rw [vQX,vQX,t.1],fun i q u hq hu=>by
  cases i with
  | zero=>cases hq; cases hu; exact h
  | succ i=>exact t.2 i q u hq hu⟩
theorem uK {F:Nat→Prop} {w:World} {p:PV} {ps:List PV} {vals:List Value} (h:Al (RP F w) (p :: ps) vals):∃ v vs,vals=v :: vs∧RP F w p v∧Al (RP F w) ps vs:=by
 cases vals with
 | nil=>have:=h.1; simp at this
 | cons v vs=>exact ⟨v,vs,rfl,h.2 0 p v rfl rfl,by have:=h.1; simpa using this,fun i q u hq hu=>h.2 (i + 1) q u hq hu⟩
theorem qZE {F:Nat→Prop} {w:World} {vals:List Value} (h:Al (RP F w) [] vals):vals=[]:=by
 cases vals with
 | nil=>rfl
 | cons v vs=>have:=h.1; simp at this
theorem rp_parts {F:Nat→Prop} {w:World} {cs:List PV} {v:Value} (h:RP F w (.a cs) v):∃ vs:List Value,v=.agg vs.toArray∧Al (RP F w) cs vs:=by
 cases h with
 | a _ vs hl _ hh=>exact ⟨vs,rfl,hl,hh⟩
end Go.Rx
namespace Go.Rx
open Go.RowKit Go.Sx Go.ChangeShapes Go.WideShapes
inductive Sh where
 | i (k:IntKind)
 | b
 | s
 | l (row:List Sh)
inductive Fit:Sh→PV→Prop
 | i (k:IntKind) (x:Int) (h:(Lit.int k x).wf=true):Fit (.i k) (.n k x)
 | b (x:Bool):Fit .b (.b x)
 | s (x:ByteArray) (h:x.size≤maxLen):Fit .s (.s x)
 | l (row:List Sh) (n:Nat) (f:Nat→List PV) (hn:n≤maxLen) (hl:∀ j,j < n→(f j).length=row.length) (h:∀ j,j < n→∀ (i:Nat) sh p,row[i]? = some sh→(f j)[i]? = some p→Fit sh p):Fit (.l row) (.lf n f)
def zYH:List (Nat × List Sh)→Nat→Bool
 | [],_=>true
 | x :: l,a=>Nat.beq x.1 a && zYH l (a + x.2.length)
def sumL:List (List Sh)→Nat
 | []=>0
 | r :: l=>r.length + sumL l
def shT (P:Program):Nat→TypeId→Option (List Sh)
 | 0,_=>none
 | g + 1,t=>match P.underlying t with
  | some (.int k)=>some [.i k]
  | some .bool=>some [.b]
  | some .string=>some [.s]
  | some (.slice e)=>(shT P g e).bind fun r=>bif Nat.beq (P.cellsOf e) r.length && Nat.blt 0 r.length then some [.l r] else none
  | some (.array n e)=>(shT P g e).bind fun r=>bif Nat.beq (P.cellsOf e) r.length && Nat.beq (P.cellsOf t) (sumL (List.replicate n r)) then some (List.replicate n r).flatten else none
  | some (.struct fs)=>(mapO (fun f:Field=>(shT P g f.type).bind fun r=>bif Nat.beq (P.cellsOf f.type) r.length then some (f.offset,r) else none) fs.toList).bind fun l =>
    bif zYH l 0 && Nat.beq (P.cellsOf t) (sumL (l.map (·.2))) then some (l.map (·.2)).flatten else none
  | _=>none
section
variable {P:Program} {w:World} {H:Type} {enc:TypeId × Value→H}
def Good (w:World) (shs:List Sh) (cs:List Value):Prop:=∃ ps:List PV,ps.length=shs.length∧(∀ (i:Nat) sh p,shs[i]? = some sh→ps[i]? = some p→Fit sh p)∧Al (RP (fun k=>k < w.heap.size) w) ps cs∧∀ v ∈ cs,v.oneCell'=true
theorem Good.one {sh:Sh} {p:PV} {v:Value} (h1:Fit sh p) (h2:RP (fun k=>k < w.heap.size) w p v) (h3:v.oneCell'=true):Good w [sh] [v] :=
 ⟨[p],rfl,(fun i s0 q hs hq=>by
  match i with
  | 0=>cases hs; cases hq; exact h1
  | i + 1=>cases hs),qQJ h2 qVU,(fun u hu=>by obtain rfl:=List.mem_singleton.1 hu; exact h3)⟩
theorem Good.cat {r s:List Sh} {cs ds:List Value} (h1:Good w r cs) (h2:Good w s ds):Good w (r ++ s) (cs ++ ds):=by
 obtain ⟨p,a1,a2,a3,a4⟩:=h1;obtain ⟨q,b1,b2,b3,b4⟩:=h2;refine ⟨p ++ q,by simp [a1,b1],fun i sh x hs hx => ?_,a3.append b3,fun v hv => ?_⟩
 ·rcases Nat.lt_or_ge i r.length with hi | hi
  ·rw [List.getElem?_append_left hi] at hs;rw [List.getElem?_append_left (by omega)] at hx;exact a2 i sh x hs hx
  ·rw [List.getElem?_append_right hi] at hs;rw [List.getElem?_append_right (by omega),a1] at hx;exact b2 _ sh x hs hx
 ·rcases List.mem_append.1 hv with h | h
  ·exact a4 v h
  ·exact b4 v h
def Pieces (w:World):List (List Sh)→List Value→Prop
 | [],cs=>cs=[]
 | r :: l,cs=>Good w r (cs.take r.length)∧Pieces w l (cs.drop r.length)
theorem Pieces.good:∀ {l:List (List Sh)} {cs:List Value},Pieces w l cs→Good w l.flatten cs
 | [],cs,h=>by
  have:cs=[]:=h
  subst this;exact ⟨[],rfl,fun i sh p hs=>by simp at hs,qVU,fun v hv=>by cases hv⟩
 | r :: l,cs,h=>by
  have:=Good.cat h.1 h.2.good
  rw [List.take_append_drop] at this;exact this
theorem pieces_arr {r:List Sh}:∀ (n:Nat) (cs:List Value),cs.length=sumL (List.replicate n r)→(∀ i,i < n→Good w r ((cs.drop (i * r.length)).take r.length))→Pieces w (List.replicate n r) cs
 | 0,cs,hl,_=>by
  have:cs.length=0:=hl
  exact List.length_eq_zero_iff.1 this
 | n + 1,cs,hl,h=>by
  have hl':cs.length=r.length + sumL (List.replicate n r):=hl;refine ⟨by have:=h 0 (by omega); simpa using this,pieces_arr n _ (by rw [List.length_drop]; omega) fun i hi => ?_⟩
  have:=h (i + 1) (by omega)
  rw [List.drop_drop];rw [show r.length + i * r.length=(i + 1) * r.length by rw [Nat.add_mul]; omega];exact this
theorem pieces_str:∀ (l:List (Nat × List Sh)) (a:Nat) (cs:List Value),zYH l a=true→(cs.drop a).length=sumL (l.map (·.2))→(∀ x ∈ l,Good w x.2 ((cs.drop x.1).take x.2.length))→Pieces w (l.map (·.2)) (cs.drop a)
 | [],a,cs,_,hl,_=>List.length_eq_zero_iff.1 hl
 | x :: l,a,cs,hc,hl,h=>by
  simp only [zYH,vQJ] at hc;have e:=vQU hc.1;have hl':(cs.drop a).length=x.2.length + sumL (l.map (·.2)):=hl;rw [List.length_drop] at hl';have h0:=h x vQG;rw [e] at h0;refine ⟨h0,?_⟩;show Pieces w (l.map (·.2)) ((cs.drop a).drop x.2.length);rw [List.drop_drop];exact pieces_str l (a + x.2.length) cs hc.2 (by rw [List.length_drop]; omega) fun y hy=>h y (vQV _ hy)
theorem zJB {sp:Nat→Bool} {held:Bool}:∀ (fuel:Nat) (t:TypeId) (cs:List Value) (x:DataW H × List MemPlace) (g:Nat) (shs:List Sh),DataW.trod enc P w 0 sp held fuel t cs=some x→shT P g t=some shs→Good w shs cs
 | 0,t,cs,x,g,shs,h,_=>by simp [DataW.trod] at h
 | fuel + 1,t,cs,x,0,shs,h,hs=>by cases hs
 | fuel + 1,t,cs,x,g + 1,shs,h,hs=>by
  unfold shT at hs;split at hs
  ·rename_i k hu;cases hs;obtain ⟨n,rfl,_,hwf⟩:=DataW.trod_int hu h;exact Good.one (.i _ _ hwf) (.n _ _) rfl
  ·rename_i hu;cases hs;obtain ⟨b,rfl,_⟩:=DataW.trod_bool hu h;exact Good.one (.b _) (.b _) rfl
  ·rename_i hu;cases hs;obtain ⟨s,rfl,_,hs⟩:=DataW.trod_string hu h;exact Good.one (.s _ hs) (.s _) rfl
  ·rename_i e hu;simp only [vQQ] at hs;obtain ⟨r,hr,hs⟩:=hs;obtain ⟨hb,hs⟩:=qZ hs;cases hs;simp only [vQJ,Nat.blt_eq] at hb;have hk:=vQU hb.1;have hr0:=hb.2;rcases DataW.trod_slice hu h with ⟨rfl,_⟩ | ⟨a,len,cap,elems,rest,n,hf,rfl,_,_,hl,hm,hel,hcell,_,_⟩
   ·exact Good.one (.l r 0 (fun _=>[]) (Nat.zero_le _) (fun j hj=>by omega) (fun j hj=>by omega)) (.lf 0 _ _ (.l0 _ _)) rfl
   ·obtain rfl:n=fuel:=by omega
    have each:∀ i,∃ y:List PV × List Value,i < len→w.cells? 0 (a.add (i * r.length)) r.length=some y.2∧y.1.length=r.length∧(∀ (j:Nat) sh p,r[j]? = some sh→y.1[j]? = some p→Fit sh p)∧Al (RP (fun k=>k < w.heap.size) w) y.1 y.2∧∀ v ∈ y.2,v.oneCell'=true:=fun i=>by
     by_cases hi:i < len
     ·have hc:=hcell i hi;have he:elems[i]? = some (elems[i]'(by omega)):=vQK (by omega);rw [he,vQQ] at hc;obtain ⟨cs',h1,h2⟩:=hc;rw [hk] at h1;obtain ⟨ps,b1,b2,b3,b4⟩:=zJB n e cs' _ g r h2 hr;exact ⟨(ps,cs'),fun _=>⟨h1,b1,b2,b3,b4⟩⟩
     ·exact ⟨([],[]),fun h=>absurd h hi⟩
    obtain ⟨f,hf2⟩:=Classical.axiomOfChoice each;refine Good.one (.l r len (fun j=>(f j).1) (by omega) (fun j hj=>(hf2 j hj).2.1) (fun j hj=>(hf2 j hj).2.2.1)) (.lf len _ _ ?_) rfl;rcases Nat.eq_zero_or_pos len with h0 | hpos
    ·subst h0;exact .l0 _ _
    ·have hsome:∀ j t,j < len→t < r.length→w.cell? ((a.add (j * r.length)).add t)=(f j).2[t]?:=fun j t hj ht=>(World.cells?_some (hf2 j hj).1).2.2 t ht
     have hlen2:∀ j,j < len→(f j).2.length=r.length:=fun j hj=>(World.cells?_some (hf2 j hj).1).2.1
     have h00:=hsome 0 0 hpos hr0;have hg:(f 0).2[0]? = some ((f 0).2[0]'(by rw [hlen2 0 hpos]; exact hr0)):=vQK _;rw [hg] at h00;have hsp:a.spot=none:=by
      have e:(a.add (0 * r.length)).add 0=a:=by simp [Addr.add]
      rw [e] at h00;unfold World.cell? at h00;cases hb:w.heap[a.block]? with
      | none=>simp [hb] at h00
      | some o=>cases o <;> simp [hb] at h00; exact h00.1
     obtain ⟨bb,off,sp'⟩:=a;simp only at hsp;subst hsp;have hbb:bb < w.heap.size:=by
      rw [kG,kG] at h00;unfold World.cell? at h00;cases hb:w.heap[bb]? with
      | none=>simp [hb] at h00
      | some o=>exact qQC hb
     refine .l _ bb off len cap r.length (fun j t=>((f j).2[t]?).getD (.bool false)) (by simp) hl (fun q hq => ?_) hbb (fun j t hj ht => ?_) (fun j q t p hq hp => ?_)
     ·obtain ⟨j,hj,rfl⟩:=List.mem_map.1 hq;exact (hf2 j (List.mem_range.1 hj)).2.1
     ·have h1:=hsome j t hj ht;have hg2:(f j).2[t]? = some ((f j).2[t]'(by rw [hlen2 j hj]; exact ht)):=vQK _;rw [kG,kG,hg2,Nat.add_assoc] at h1;rw [hg2];exact ⟨h1,(hf2 j hj).2.2.2.2 _ (List.getElem_mem _)⟩
     ·have hj:j < len:=by have:=(List.getElem?_eq_some_iff.1 hq).1; simpa using this
      rw [vQH,List.getElem?_range hj] at hq;cases hq;have htl:=(List.getElem?_eq_some_iff.1 hp).1;have hg2:(f j).2[t]? = some ((f j).2[t]'(by rw [hlen2 j hj,← (hf2 j hj).2.1]; exact htl)):=vQK _
      have:=(hf2 j hj).2.2.2.1.2 t p _ hp hg2
      rw [hg2];exact this
  ·rename_i n e hu;simp only [vQQ] at hs;obtain ⟨r,hr,hs⟩:=hs;obtain ⟨hb,hs⟩:=qZ hs;cases hs;simp only [vQJ] at hb;have hk:=vQU hb.1;have hk2:=vQU hb.2;obtain ⟨xs,m,hf,_,hl,hxl,hall⟩:=DataW.trod_array hu h;obtain rfl:m=fuel:=by omega
   refine (pieces_arr n cs (hl.trans hk2) fun i hi => ?_).good;have h1:=hall i hi;have he:xs[i]? = some (xs[i]'(by omega)):=vQK (by omega);rw [he,hk] at h1;exact zJB m e _ _ g r h1 hr
  ·rename_i fs hu;simp only [vQQ] at hs;obtain ⟨l,hlm,hs⟩:=hs;obtain ⟨hb,hs⟩:=qZ hs;cases hs;simp only [vQJ] at hb;have hk2:=vQU hb.2;obtain ⟨xs,m,hf,_,hl,hxl,hall⟩:=DataW.trod_struct hu h;obtain rfl:m=fuel:=by omega
   have hm:=yZ hlm
   have:=pieces_str (w:=w) l 0 cs hb.1 (by rw [vYZ]; exact hl.trans hk2) fun y hy=>by
    obtain ⟨i,hi⟩:=List.mem_iff_getElem?.1 hy;have hil:=(List.getElem?_eq_some_iff.1 hi).1;have hl2:i < fs.toList.length:=by rw [hm.1]; exact hil
    have hfi:fs.toList[i]? = some (fs.toList[i]'hl2):=vQK hl2;have h1:=hm.2 i _ y hfi hi;generalize fs.toList[i]'hl2=fd at hfi h1;simp only [vQQ] at h1;obtain ⟨r,hr,h1⟩:=h1;obtain ⟨hb1,h1⟩:=qZ h1;cases h1;have hk:=vQU hb1;have h2:=hall i fd (by simpa using hfi);have he:xs[i]? = some (xs[i]'(by simp at hxl hl2; omega)):=vQK _;rw [he,hk] at h2;exact zJB m fd.type _ _ g r h2 hr
   rw [vYZ] at this;exact this.good
  ·cases hs
end
end Go.Rx

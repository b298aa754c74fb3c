/- Part 17 of the texts behind the last one: rules and contracts. No condition. -/
import Derived.Test.YtklmegnpfhiibaaGreatBK16
open Option renaming bind_eq_some_iff → vQQ, bind_some → vZV
open Option.some renaming injEq → vQZ
open Bool renaming and_eq_true → vQJ, and_self → vZQ
open List renaming getElem?_eq_getElem → vQK, length_cons → vQX, mem_of_getElem? → vQW, mem_cons_of_mem → vQV, mem_cons_self → vQG, getElem?_map → vQH, getD_eq_getElem?_getD → vZX
open Nat renaming eq_of_beq_eq_true → vQU
open Classical renaming propDecidable → vYQ
namespace Go.Rx
open Go.RowKit Go.Sx
def kB:IntKind→IntKind→Bool
 | .i64,.i64=>true
 | .i32,.i32=>true
 | .u64,.u64=>true
 | .u8,.u8=>true
 | _,_=>false
theorem kB_eq {k k':IntKind} (h:kB k k'=true):k=k':=by cases k <;> cases k' <;> first | rfl | cases h
def eqP:Nat→PV→PV→Bool
 | 0,_,_=>false
 | _ + 1,.n k x,.n k' y=>kB k k' && decide (x=y)
 | _ + 1,.b x,.b y=>x == y
 | _ + 1,.s x,.s y=>decide (x.data.toList=y.data.toList)
 | n + 1,.a xs,.a ys=>eqL n xs ys
 | n + 1,.t xs,.t ys=>eqL n xs ys
 | n + 1,.l xs,.l ys=>eqLL n xs ys
 | n + 1,.z xs j o,.z ys j' o'=>eqLL n xs ys && Nat.beq j j' && Nat.beq o o'
 | n + 1,.c xs o,.c ys o'=>eqL n xs ys && Nat.beq o o'
 | n + 1,.f f fs cs,.f f' fs' cs'=>Nat.beq f f' && eqL n fs fs' && eqL n cs cs'
 | _ + 1,.ni,.ni=>true
 | _ + 1,.np,.np=>true
 | _ + 1,.nf,.nf=>true
 | _ + 1,.zs,.zs=>true
 | _ + 1,.ze,.ze=>true
 | _ + 1,.ne,.ne=>true
 | _ + 1,_,_=>false
where
 eqL:Nat→List PV→List PV→Bool
 | 0,_,_=>false
 | _ + 1,[],[]=>true
 | n + 1,x :: xs,y :: ys=>eqP n x y && eqL n xs ys
 | _ + 1,_,_=>false
 eqLL:Nat→List (List PV)→List (List PV)→Bool
 | 0,_,_=>false
 | _ + 1,[],[]=>true
 | n + 1,x :: xs,y :: ys=>eqP.eqL n x y && eqLL n xs ys
 | _ + 1,_,_=>false
theorem bytes_eq {x y:ByteArray} (h:x.data.toList=y.data.toList):x=y:=by
 cases x; cases y
 congr 1
 exact Array.toList_inj.1 h
theorem eq_all:∀ n,(∀ p q,eqP n p q=true→p=q)∧(∀ p q,eqP.eqL n p q=true→p=q)∧(∀ p q,eqP.eqLL n p q=true→p=q)
 | 0=>⟨fun p q h=>by simp [eqP] at h,fun p q h=>by simp [eqP.eqL] at h,fun p q h=>by simp [eqP.eqLL] at h⟩
 | n + 1=>by
  obtain ⟨h1,h2,h3⟩:=eq_all n;refine ⟨fun p q h => ?_,fun p q h => ?_,fun p q h => ?_⟩
  ·cases p <;> cases q <;> simp only [eqP,vQJ,decide_eq_true_eq,beq_iff_eq] at h <;> first | (cases h; done) | skip
   ·rw [kB_eq h.1,h.2]
   ·rw [h]
   ·rw [bytes_eq h]
   ·rw [h2 _ _ h]
   ·rw [h2 _ _ h]
   ·rw [h3 _ _ h]
   ·rw [h3 _ _ h.1.1,vQU h.1.2,vQU h.2]
   ·rw [h2 _ _ h.1,vQU h.2]
   ·rw [vQU h.1.1,h2 _ _ h.1.2,h2 _ _ h.2]
   all_goals rfl
  ·cases p <;> cases q <;> simp only [eqP.eqL,vQJ] at h <;> first | (cases h; done) | skip
   ·rfl
   ·rw [h1 _ _ h.1,h2 _ _ h.2]
  ·cases p <;> cases q <;> simp only [eqP.eqLL,vQJ] at h <;> first | (cases h; done) | skip
   ·rfl
   ·rw [h2 _ _ h.1,h3 _ _ h.2]
abbrev Known:=List (Nat × List (List PV × Ret))
def yQD:List (List PV × Ret)→List PV→Option Ret
 | [],_=>none
 | (ps,r) :: l,qs=>bif eqP.eqL 200 ps qs then some r else yQD l qs
def Known.orc (t:Known):Orc:=⟨fun g=>(asc t g).bind fun l=>some (yQD l),fun _=>none⟩
def Known.Ok (P:Program) (t:Known):Prop:=∀ x ∈ t,∀ y ∈ x.2,zY P x.1 y.1 y.2
theorem findK_mem {l:List (List PV × Ret)} {qs:List PV} {r:Ret} (h:yQD l qs=some r):(qs,r) ∈ l:=by
 induction l with
 | nil=>cases h
 | cons y l ih =>
  obtain ⟨ps,r'⟩:=y;simp only [yQD] at h;cases hc:eqP.eqL 200 ps qs with
  | true=>rw [hc] at h; cases h; rw [(eq_all 200).2.1 _ _ hc]; exact vQG
  | false=>rw [hc] at h; exact vQV _ (ih h)
theorem Known.ok {P:Program} {T:Tab} {t:Known} (h:t.Ok P):OrcOk P T t.orc:=by
 refine ⟨fun g o ho ps r hr => ?_,fun g o ho=>by simp [Known.orc] at ho⟩;simp only [Known.orc,vQQ,vQZ] at ho;obtain ⟨l,hl,rfl⟩:=ho;exact h _ (qZE hl) _ (findK_mem hr)
theorem Known.nil (P:Program):Known.Ok P []:=fun x hx=>by simp at hx
theorem Known.add {P:Program} {T:Tab} {t:Known} {f:Nat} {l:List (List PV × Ret)} {N:Nat} (hT:TabOk P T) (hm:P.follows .mixedOrders=true) (ht:t.Ok P) (h:l.map (fun y=>run T t.orc N f y.1)=l.map (fun y=>some y.2)):Known.Ok P ((f,l) :: t):=fun x hx=>by
 rcases List.mem_cons.1 hx with rfl | hx
 ·exact fun y hy=>qZI hT hm (Known.ok ht) (zQK h hy)
 ·exact ht x hx
end Go.Rx
namespace Go.Rx
open Go.RowKit Go.Sx
section
abbrev α:=Ret × Mem
abbrev qYQ:=Nat→List PV→(Ret→Option α)→Option α
def zYF (e:Eff) (K:Eff→Option α):Option α:=match e with
 | ⟨[],[],.v (.b c),[]⟩=>bif c then K (.val (.v (.b true))) else K (.val (.v (.b false)))
 | e=>K e
theorem qVC (e:Eff) (K:Eff→Option α):zYF e K=K e:=by
 unfold zYF;split
 ·rename_i c; cases c <;> rfl
 ·rfl
def callEffK (C:Cx) (cK:qYQ) (dst f:Nat) (args:List RV) (K:Eff→Option α):Option α :=
 (mapO RV.fz args).bind fun ps=>cK f ps fun r =>
  bif args.all RV.still then (zZG C.T C.me dst (catR RV.regs args) r).bind fun e=>zYF e K
  else match r with
   | .v x=>bif x.flat then zYF (.val (.v x)) K else none
   | .ow _ _ (.l rows)=>bif rows.all (fun r=>r.all PV.flat1) then K (.val (.v (.l rows))) else none
   | .ow _ _ (.fo n g)=>bif yJD g then (bif decide (n≤16) then K (.val (.v (.lf n g))) else none) else none
   | _=>none
def qGL (s:ByteArray) (i:Nat):Int:=(((s[i]?).getD 0).toNat:Int)
def zVX (C:Cx) (cK:qYQ) (dst:Nat) (op:Op) (vs:List RV) (K:Eff→Option α):Option α :=
 match op,vs with
 | .binOp .quo _ _ _ _,[.v (.n k x),.v (.n k' y)]=>bif decide (k=k') then (bif decide (y=0) then none else K (.val (.v (.n k (k.wrap (x.tdiv y)))))) else none
 | .binOp .rem _ _ _ _,[.v (.n k x),.v (.n k' y)]=>bif decide (k=k') then (bif decide (y=0) then none else K (.val (.v (.n k (x.tmod y))))) else none
 | .call ⟨.builtin .append,axs,ats⟩,[.o id e' sz rows,y]=>(match ats.toList with
   | [t,t']=>bif Nat.beq t t' then (C.T.sl t).bind fun e=>(zXW y).bind fun news=>bif news.ok e.2 then (bif Nat.beq e' e.1 && Nat.beq sz e.2 && !(y.ids.any (Nat.beq id)) then
     (bif decide (rows.len + news.len≤C.T.bd e.1) then K (.app id (.reg e' sz (rows.app news)) (.o id)) else none) else none) else none else none
   | _=>none)
 | .call ⟨.builtin .append,axs,ats⟩,[.nl,y]=>(match ats.toList with
   | [t,t']=>bif Nat.beq t t' then (C.T.sl t).bind fun e=>(zXW y).bind fun news=>bif news.ok e.2 then
     (bif decide (news.len≤C.T.bd e.1) then K (.new dst (.reg e.1 e.2 news) (.o dst)) else none) else none else none
   | _=>none)
 | .binOp .shl _ _ _ _,[.v (.n k x),.v (.n _ y)]=>bif decide (0≤y) then K (.val (.v (.n k (k.wrap (x * 2 ^ (min y.toNat k.bits)))))) else none
 | .binOp .shr _ _ _ _,[.v (.n k x),.v (.n _ y)]=>bif decide (0≤y) then K (.val (.v (.n k (x.fdiv (2 ^ (min y.toNat k.bits)))))) else none
 | .indexAddr t _ _,[.o id _ sz rows,.v (.n _ i)]=>(C.T.sl t).bind fun e=>bif inB i rows.len then (bif Nat.beq sz e.2 then K (.val (.q id i.toNat 0)) else none) else none
 | .makeSlice t _ _,[.v (.n _ n),.v (.n _ c)]=>(C.T.sl t).bind fun e=>(C.T.zr e.1).bind fun zs=>bif C.T.zf C.me then none else
   bif C.T.nf C.me then (C.T.sl e.1).bind fun q=>(C.T.zr q.1).bind fun z2=>(match zs with
    | [.zs]=>bif Nat.beq e.2 1 then (bif decide (0≤n) then bif decide (n≤c) then bif decide (c≤1000000) then K ⟨[(dst,some (.nst e.1 q.1 q.2 (bif C.T.ff C.me then .fo n.toNat (fun _=>.fo 0 (fun _=>z2)) else .l (qJE (.l []) n.toNat)) none))],[(mid dst,none)],.o dst,[dst]⟩ else none else none else none) else none
    | _=>none) else
   bif decide (0≤n) then bif decide (n≤c) then bif decide (c≤1000000) then K (.new dst (.reg e.1 e.2 (bif C.T.ff C.me then .fo n.toNat (fun _=>zs) else .l (qJE zs n.toNat))) (.o dst)) else none else none else none
 | .slice t _ lo hi none,.v (.lf n f) :: vs=>(zJX lo hi vs).bind fun b=>(C.T.sl t).bind fun e=>bif inS b.1 b.2 n then (bif Nat.beq (f (loOf b.1)).length e.2 then K (.val (.v (.lf (hiOf b.2 n - loOf b.1) fun v=>f (v + loOf b.1)))) else none) else none
 | .slice t _ lo hi none,.o id e' sz rows :: vs=>(zJX lo hi vs).bind fun b=>(match b with
   | (none,some j)=>(C.T.sl t).bind fun e=>bif Nat.beq sz e.2 then (bif decide (0≤j) then (bif decide (j.toNat≤rows.len) then K (.app id (.reg e' sz (rows.take j.toNat)) (.o id)) else none) else none) else none
   | _=>none)
 | .index t _ _,[.v (.s s),.v (.n _ i)]=>bif C.T.str t then (bif inB i s.size then K (.val (.v (.n .u8 (qGL s i.toNat)))) else none) else none
 | .next _ true,[.i id 0 s pos]=>bif Nat.beq id pid2 then none else bif decide (pos < s.size) then K (.set id (.itr s (pos + (Utf8.decode s pos).2)) (.v (.t [.b true,.n .i64 (pos:Int),.n .i32 ((Utf8.decode s pos).1:Int)]))) else K (.val (.v (.t [.b false])))
 | .indexAddr t _ _,[.no id _ n,.v (.n _ i)]=>(C.T.sl t).bind fun e=>bif inB i n then (bif Nat.beq 1 e.2 then K (.val (.q id i.toNat 0)) else none) else none
 | .call ⟨.builtin .append,axs,ats⟩,[.mi id j e' ie isz rows none,y]=>(match ats.toList with
   | [t,t']=>bif Nat.beq t t' then (C.T.sl t).bind fun e=>(zXW y).bind fun news=>bif news.ok e.2 then (bif Nat.beq ie e.1 && Nat.beq isz e.2 && !(y.ids.any (Nat.beq id)) then (rows.at j).bind fun r =>
     (bif decide (r.len + news.len≤C.T.bd e.1) then K ⟨[(id,some (.nst e' ie isz rows (some (j,r.app news))))],[(mid id,none)],.mp id j,[]⟩ else none) else none) else none else none
   | _=>none)
 | .store t _ _,[.nq id j 0 e ie isz rows (some (j',r)),.w (.mp id' j'')]=>(C.T.sz t).bind fun k=>bif !k.1 && Nat.beq id' id then (bif Nat.beq j' j then (bif Nat.beq j'' j then K ⟨[(id,some (.nst e ie isz (rows.set j r) none))],[(mid id,none)],.un,[]⟩ else none) else none) else none
 | .indexAddr t _ _,[.v (.lf n f),.v (.n _ i)]=>(C.T.sl t).bind fun e=>bif inB i n then (bif Nat.beq (f i.toNat).length e.2 then K (.val (.v (.zf n f i.toNat 0))) else none) else none
 | .call ⟨.value fx,axs,ats⟩,.v (.f f first cap) :: vs=>bif C.T.rw f then (qU C.T C.cA C.cB C.me dst (.call ⟨.value fx,axs,ats⟩) (.v (.f f first cap) :: vs)).bind fun e=>zYF e K
   else callEffK C cK dst f (first.map .v ++ vs ++ cap.map .v) K
 | op,vs=>(qU C.T C.cA C.cB C.me dst op vs).bind fun e=>zYF e K
def goK (C:Cx) (cK:qYQ) (o:Oper) (σ:St) (K:Eff × List RV→Option α):Option α :=
 bif dstB C.n o.dst then
  (mapO (opv (mode o.op) σ) o.op.operands.toList).bind fun vs=>zVX C cK (o.dst.getD 0) o.op vs fun e =>
   bif e.nw.all (fun id=>(qV σ.M id).isNone && Nat.blt id 2000000) then K (e,vs) else none
 else none
def zUB (C:Cx) (o:Oper) (K:Eff × List RV→Option α):Option α:=bif dstB C.n o.dst then K (.val (.v (.t [])),[]) else none
def yZY (C:Cx) (cK:qYQ) (ops:Array Oper) (o:Oper) (σ:St) (K:Eff × List RV→Option α):Option α :=
 match o.guard with
 | none=>goK C cK o σ K
 | some (j,b)=>match (ops[j]?).bind (·.dst) with
  | some d=>match kH σ.S d with
   | some (.v (.b c))=>(match b with
    | true=>bif c then goK C cK o σ K else zUB C o K
    | false=>bif c then zUB C o K else goK C cK o σ K)
   | some (.v (.t []))=>zUB C o K
   | _=>none
  | none=>none
end
def zZX (C:Cx) (cK:qYQ) (ops:Array Oper):List Oper→(St→Option (Ret × Mem))→St→Option (Ret × Mem)
 | [],K,σ=>K σ
 | o :: l,K,σ=>yZY C cK ops o σ fun r=>zZX C cK ops l K (σ.apply r.1 o.dst)
def qWB (C:Cx) (cK:qYQ) (ops:Array Oper):Nat→List Oper→List Done→(St→Option (Ret × Mem))→St→Option (Ret × Mem)
 | _,[],acc,K,σ=>bif zQZ ops acc.reverse && Sx.backB ops then K σ else none
 | i,o :: l,acc,K,σ=>yZY C cK ops o σ fun r=>qWB C cK ops (i + 1) l ((i,r) :: acc) K (σ.apply r.1 o.dst)
def qJD (N:Nat) (C:Cx) (cK:qYQ):Code→(Ex→St→Option (Ret × Mem))→St→Option (Ret × Mem)
 | .skip,K,σ=>K .normal σ
 | .label _,K,σ=>K .normal σ
 | .scope x,K,σ=>qJD N C cK x K σ
 | .ret,K,σ=>K .ret σ
 | .exit id,K,σ=>K (.exit id) σ
 | .region id ops d,K,σ=>preK C id (fun σ=>bif d then qWB C cK ops 0 ops.toList [] (K .normal) σ else zZX C cK ops ops.toList (K .normal) σ) σ
 | .seq x y,K,σ=>qJD N C cK x (fun e σ=>match e with
   | .normal=>qJD N C cK y K σ
   | e=>K e σ) σ
 | .cond c x y,K,σ=>(opv 1 σ c).bind fun v=>match v with
   | .v (.b t)=>bif t then qJD N C cK x K σ else qJD N C cK y K σ
   | _=>none
 | .block id x,K,σ=>qJD N C cK x (fun e σ=>match e with
   | .exit id'=>bif Nat.beq id' id then K .normal σ else K (.exit id') σ
   | e=>K e σ) σ
 | .loop x,K,σ=>qWL (fun again σ=>qJD N C cK x (fun e σ=>match e with
   | .normal=>again σ
   | e=>K e (qQE (C.T.hint C.me (zZ x)) σ)) (qZB (C.T.hint C.me (zZ x)) σ)) N σ
 | _,_,_=>none
abbrev OrK:=Nat→Option (List PV→Option (Bool × Ret))
def OrK.orc (o:OrK):Orc:=⟨fun g=>(o g).bind fun f=>some fun ps=>(f ps).bind fun x=>bif x.1 then some x.2 else none,fun _=>none⟩
def zQX (ok:OrK) (rK:qYQ):qYQ:=fun g ps K=>match ok g with
 | some o=>(o ps).bind fun x=>bif x.1 then K x.2 else none
 | none=>rK g ps K
def zGC (T:Tab) (ok:OrK):Nat→qYQ
 | 0,_,_,_=>none
 | N + 1,f,ps,K=>match T.fn f with
  | none=>none
  | some fi=>bif Nat.ble (ps.map HV.v).length fi.ntmps then qJD N ⟨T,qJG ok.orc (runF T ok.orc N),qYI T ok.orc (runF T ok.orc N),f,fi.ntmps⟩ (zQX ok (zGC T ok N)) fi.body (fun e σ=>(endK T [] fi.results e σ).bind fun r=>K r.1) ⟨initS 0 (ps.map .v),[]⟩ else none
def runK (T:Tab) (ok:OrK) (N f:Nat) (ps:List PV):Option (Ret × Mem):=zGC T ok N f ps fun r=>some (r,[])
section
variable {C:Cx} {cK:qYQ} {ops:Array Oper} {r:α}
def SndK (C:Cx) (cK:qYQ):Prop:=∀ f ps K r,cK f ps K=some r→∃ x,C.cA f ps=some x∧K x=some r
theorem qXK {dst:Nat} {op:Op} {vs:List RV} {K:Eff→Option α} (hc:SndK C cK) (h:zVX C cK dst op vs K=some r):∃ e,qU C.T C.cA C.cB C.me dst op vs=some e∧K e=some r:=by
 unfold zVX at h;split at h
 ·rename_i k x k' y;obtain ⟨h1,h⟩:=qQ h;cases hy:decide (y=0) with
  | true=>rw [hy] at h; cases h
  | false =>
   rw [hy] at h;refine ⟨_,?_,h⟩;simp [qU,binP,binI,h1,hy]
 ·rename_i k x k' y;obtain ⟨h1,h⟩:=qQ h;cases hy:decide (y=0) with
  | true=>rw [hy] at h; cases h
  | false =>
   rw [hy] at h;refine ⟨_,?_,h⟩;simp [qU,binP,binI,h1,hy]
 ·rename_i axs ats id e' sz rows y;split at h
  ·rename_i t t' hts;obtain ⟨h1,h⟩:=qQ h;simp only [vQQ] at h;obtain ⟨el,hel,news,hnews,h⟩:=h;obtain ⟨h2,h⟩:=qQ h;obtain ⟨h3,h⟩:=qQ h;obtain ⟨h4,h⟩:=qQ h;refine ⟨_,?_,h⟩;rw [vQJ,vQJ] at h3;simp only [qU,hts,h1,vYZ,hel,hnews,vZV,h2,h3.1.1,h3.1.2,h3.2,h4,vZQ]
  ·cases h
 ·rename_i axs ats y;split at h
  ·rename_i t t' hts;obtain ⟨h1,h⟩:=qQ h;simp only [vQQ] at h;obtain ⟨el,hel,news,hnews,h⟩:=h;obtain ⟨h2,h⟩:=qQ h;obtain ⟨h4,h⟩:=qQ h;refine ⟨_,?_,h⟩;simp only [qU,hts,h1,vYZ,hel,hnews,vZV,h2,h4]
  ·cases h
 ·rename_i k x _ y;obtain ⟨h1,h⟩:=qQ h;refine ⟨_,?_,h⟩;simp [qU,binP,h1]
 ·rename_i k x _ y;obtain ⟨h1,h⟩:=qQ h;refine ⟨_,?_,h⟩;simp [qU,binP,h1]
 ·rename_i t _ _ id _ sz rows _ i;simp only [vQQ] at h;obtain ⟨el,hel,h⟩:=h;obtain ⟨h1,h⟩:=qQ h;obtain ⟨h2,h⟩:=qQ h;exact ⟨_,by simp only [qU,hel,vZV,h1,h2,vZQ,vYZ],h⟩
 ·rename_i t _ _ _ n _ c;simp only [vQQ] at h;obtain ⟨el,hel,zs,hzs,h⟩:=h;cases hzf:C.T.zf C.me with
  | true=>rw [hzf] at h; cases h
  | false =>
  rw [hzf,vYY] at h;cases hnf:C.T.nf C.me with
  | true =>
   rw [hnf,vYZ] at h;simp only [vQQ] at h;obtain ⟨q,hq,z2,hz2,h⟩:=h;split at h
   ·obtain ⟨h0,h⟩:=qQ h;obtain ⟨h1,h⟩:=qQ h;obtain ⟨h2,h⟩:=qQ h;obtain ⟨h3,h⟩:=qQ h;exact ⟨_,by simp only [qU,hel,hzs,hzf,hnf,hq,hz2,vZV,h0,h1,h2,h3,Bool.false_and,vYY,vZQ,vYZ],h⟩
   ·cases h
  | false =>
  rw [hnf,vYY] at h;obtain ⟨h1,h⟩:=qQ h;obtain ⟨h2,h⟩:=qQ h;obtain ⟨h3,h⟩:=qQ h;exact ⟨_,by simp only [qU,hel,hzs,hzf,hnf,vZV,h1,h2,h3,Bool.false_and,vYY,vZQ,vYZ],h⟩
 ·rename_i t _ lo hi n f vs;simp only [vQQ] at h;obtain ⟨b,hb,el,hel,h⟩:=h;obtain ⟨h1,h⟩:=qQ h;obtain ⟨h2,h⟩:=qQ h;exact ⟨_,by simp only [qU,hb,hel,vZV,h1,h2,vYZ],h⟩
 ·rename_i t _ lo hi id e' sz rows vs;simp only [vQQ] at h;obtain ⟨b,hb,h⟩:=h;split at h
  ·rename_i j;simp only [vQQ] at h;obtain ⟨el,hel,h⟩:=h;obtain ⟨h1,h⟩:=qQ h;obtain ⟨h2,h⟩:=qQ h;obtain ⟨h3,h⟩:=qQ h;exact ⟨_,by simp only [qU,hb,hel,vZV,h1,h2,h3,vZQ,vYZ],h⟩
  ·cases h
 ·rename_i t _ _ s _ i;obtain ⟨h1,h⟩:=qQ h;obtain ⟨h2,h⟩:=qQ h;obtain ⟨i0,i1⟩:=qJL h2;refine ⟨_,?_,h⟩;have hb:s[i.toNat]? = some (s[i.toNat]'(by omega)):=getElem?_pos s i.toNat (by omega);simp only [qU,h1,vYK i0,vZQ,vYZ,qGL,hb,vZV,Option.getD_some]
 ·rename_i id s pos;cases hp2:Nat.beq id pid2 with
  | true=>rw [hp2] at h; cases h
  | false =>
  rw [hp2,vYY] at h;cases hp:decide (pos < s.size) with
  | true =>
   rw [hp] at h;exact ⟨_,by simp only [qU,hp2,hp,vYZ,vYY],h⟩
  | false =>
   rw [hp] at h;exact ⟨_,by simp only [qU,hp2,hp,vYY],h⟩
 ·rename_i t _ _ id _ n _ i;simp only [vQQ] at h;obtain ⟨el,hel,h⟩:=h;obtain ⟨h1,h⟩:=qQ h;obtain ⟨h2,h⟩:=qQ h;exact ⟨_,by simp only [qU,hel,vZV,h1,h2,vZQ,vYZ],h⟩
 ·rename_i axs ats id j e' ie isz rows y;split at h
  ·rename_i t t' hts;obtain ⟨h1,h⟩:=qQ h;simp only [vQQ] at h;obtain ⟨el,hel,news,hnews,h⟩:=h;obtain ⟨h2,h⟩:=qQ h;obtain ⟨h3,h⟩:=qQ h;simp only [vQQ] at h;obtain ⟨r1,hr1,h⟩:=h;obtain ⟨h4,h⟩:=qQ h;refine ⟨_,?_,h⟩;simp only [qU,hts,h1,vYZ,hel,hnews,vZV,h2,h3,hr1,h4]
  ·cases h
 ·rename_i t _ _ id j e ie isz rows j' r1 id' j'';simp only [vQQ] at h;obtain ⟨k,hk,h⟩:=h;obtain ⟨h1,h⟩:=qQ h;obtain ⟨h2,h⟩:=qQ h;obtain ⟨h3,h⟩:=qQ h;rw [vQJ] at h1;exact ⟨_,by simp only [qU,hk,vZV,h1.1,h1.2,h2,h3,vZQ,vYZ],h⟩
 ·rename_i t _ _ n f _ i;simp only [vQQ] at h;obtain ⟨el,hel,h⟩:=h;obtain ⟨h1,h⟩:=qQ h;obtain ⟨h2,h⟩:=qQ h;exact ⟨_,by simp only [qU,hel,vZV,h1,h2,vZQ,vYZ],h⟩
 ·rename_i fx axs ats f first cap vs
  cases hrw:C.T.rw f with
  | true =>
   rw [hrw] at h;simp only [vYZ,vQQ] at h;obtain ⟨e,he,h⟩:=h;rw [qVC] at h;exact ⟨e,he,h⟩
  | false =>
   rw [hrw] at h;simp only [vYY,callEffK,vQQ] at h;obtain ⟨ps,hps,h⟩:=h;obtain ⟨x,hx,h⟩:=hc _ _ _ _ h;have key:∃ e,(bif (first.map RV.v ++ vs ++ cap.map RV.v).all RV.still then zZG C.T C.me dst (catR RV.regs (first.map RV.v ++ vs ++ cap.map RV.v)) x
    else match x with
     | .v x=>bif x.flat then some (.val (.v x)) else none
     | .ow _ _ (.l rows)=>bif rows.all (fun r=>r.all PV.flat1) then some (.val (.v (.l rows))) else none
     | .ow _ _ (.fo n g)=>bif yJD g then (bif decide (n≤16) then some (.val (.v (.lf n g))) else none) else none
     | _=>none)=some e∧K e=some r:=by
    cases hst:(first.map RV.v ++ vs ++ cap.map RV.v).all RV.still with
    | true =>
     rw [hst] at h;simp only [vYZ,vQQ] at h;obtain ⟨e,he,h⟩:=h;rw [qVC] at h;exact ⟨e,he,h⟩
    | false =>
     rw [hst] at h;simp only [vYY] at h;cases x with
     | v x =>
      obtain ⟨h1,h⟩:=qQ h;rw [qVC] at h;exact ⟨_,by simp only [vYY,h1,vYZ],h⟩
     | ow e' sz rows =>
      cases rows with
      | l rows =>
       obtain ⟨h1,h⟩:=qQ h;exact ⟨_,by simp only [vYY,h1,vYZ],h⟩
      | fo n g =>
       obtain ⟨h1,h⟩:=qQ h;obtain ⟨h2,h⟩:=qQ h;exact ⟨_,by simp only [vYY,h1,h2,vYZ],h⟩
     | oa xs e' sz rows=>cases h
     | pb _=>cases h
   obtain ⟨e,he,h⟩:=key;refine ⟨e,?_,h⟩;simp only [qU,hrw,vYY,qHI,hps,hx,vZV];exact he
 ·rw [vQQ] at h;obtain ⟨e,he,h⟩:=h;rw [qVC] at h;exact ⟨e,he,h⟩
theorem zKI {o:Oper} {σ:St} {K:Eff × List RV→Option α} (hc:SndK C cK) (hg:uK ops σ o=some true) (h:goK C cK o σ K=some r):∃ x,qJK C ops o σ=some x∧K x=some r:=by
 unfold goK at h;obtain ⟨hd,h⟩:=qQ h;rw [vQQ] at h;obtain ⟨vs,hvs,h⟩:=h;obtain ⟨e,he,h⟩:=qXK hc h;obtain ⟨hn,h⟩:=qQ h;exact ⟨(e,vs),qVB hd (.inr ⟨hg,hvs,he,fun i hi=>zZZ (List.all_eq_true.1 hn i hi)⟩),h⟩
theorem qKZ {o:Oper} {σ:St} {K:Eff × List RV→Option α} (hg:uK ops σ o=some false) (h:zUB C o K=some r):∃ x,qJK C ops o σ=some x∧K x=some r:=by
 unfold zUB at h;obtain ⟨hd,h⟩:=qQ h;exact ⟨_,qVB hd (.inl ⟨hg,rfl⟩),h⟩
theorem stepK_some {o:Oper} {σ:St} {K:Eff × List RV→Option α} (hc:SndK C cK) (h:yZY C cK ops o σ K=some r):∃ x,qJK C ops o σ=some x∧K x=some r:=by
 unfold yZY at h;cases hg:o.guard with
 | none=>rw [hg] at h; exact zKI hc (by unfold uK; rw [hg]) h
 | some gb =>
  obtain ⟨j,b⟩:=gb;rw [hg] at h;simp only at h;split at h
  ·rename_i d hd;split at h
   ·rename_i c hlc;have gd:uK ops σ o=some (c == b):=by
     unfold uK;rw [hg];simp only [hd,hlc]
    cases b <;> cases c <;> simp only [vYZ,vYY] at h
    ·exact zKI hc gd h
    ·exact qKZ gd h
    ·exact qKZ gd h
    ·exact zKI hc gd h
   ·rename_i hlc;exact qKZ (by unfold uK; rw [hg]; simp only [hd,hlc]) h
   ·cases h
  ·cases h
end
section
variable {C:Cx} {ops:Array Oper} {r:Ret × Mem}
def Gets (K0:Ret × Mem→Option (Ret × Mem)) (r:Ret × Mem) (x:Option (Ret × Mem)):Prop:=∃ q,x=some q∧K0 q=some r
variable {K0:Ret × Mem→Option (Ret × Mem)} {cK:qYQ}
theorem qUX (hc:SndK C cK) {K K':St→Option (Ret × Mem)} (hK:∀ σ,K σ=some r→Gets K0 r (K' σ)):∀ (l:List Oper) (σ:St),zZX C cK ops l K σ=some r→Gets K0 r (qXF C ops l K' σ)
 | [],σ,h=>hK σ h
 | o :: l,σ,h=>by
  simp only [zZX] at h;obtain ⟨x,hx,h⟩:=stepK_some hc h;simp only [qXF,hx,vZV];exact qUX hc hK l _ h
theorem qJC (hc:SndK C cK) {K K':St→Option (Ret × Mem)} (hK:∀ σ,K σ=some r→Gets K0 r (K' σ)):∀ (l:List Oper) (i:Nat) (acc:List Done) (σ:St),qWB C cK ops i l acc K σ=some r→Gets K0 r (qZA C ops i l acc K' σ)
 | [],i,acc,σ,h=>by
  simp only [qWB] at h;obtain ⟨hp,h⟩:=qQ h;simp only [qZA,hp,vYZ];exact hK σ h
 | o :: l,i,acc,σ,h=>by
  simp only [qWB] at h;obtain ⟨x,hx,h⟩:=stepK_some hc h;simp only [qZA,hx,vZV];exact qJC hc hK l _ _ _ h
theorem qXQ {s s':(St→Option (Ret × Mem))→St→Option (Ret × Mem)} (h:∀ a a':St→Option (Ret × Mem),(∀ σ,a σ=some r→Gets K0 r (a' σ))→∀ σ,s a σ=some r→Gets K0 r (s' a' σ)):∀ (n:Nat) (σ:St),qWL s n σ=some r→Gets K0 r (qWL s' n σ)
 | 0,σ,hs=>by cases hs
 | n + 1,σ,hs=>h _ _ (qXQ h n) σ hs
theorem qQG {N:Nat} (hc:SndK C cK):∀ (c:Code) {K K':Ex→St→Option (Ret × Mem)} (hK:∀ e σ,K e σ=some r→Gets K0 r (K' e σ)) (σ:St),qJD N C cK c K σ=some r→Gets K0 r (runC N C c K' σ)
 | .skip,K,K',hK,σ,h=>hK _ _ h
 | .label _,K,K',hK,σ,h=>hK _ _ h
 | .scope x,K,K',hK,σ,h=>qQG hc x hK σ h
 | .ret,K,K',hK,σ,h=>hK _ _ h
 | .exit id,K,K',hK,σ,h=>hK _ _ h
 | .region id ops d,K,K',hK,σ,h=>by
  have h:=preK_eq.symm.trans h;refine Eq.mpr (congrArg (Gets K0 r) (preK_eq (F:=fun σ=>bif d then qZA C ops 0 ops.toList [] (K' .normal) σ else qXF C ops ops.toList (K' .normal) σ))) ?_;cases d with
  | true=>exact qJC hc (hK .normal) _ _ _ _ h
  | false=>exact qUX hc (hK .normal) _ _ h
 | .seq x y,K,K',hK,σ,h=>by
  refine qQG hc x (fun e τ hk => ?_) σ h;cases e with
  | normal=>exact qQG hc y hK τ hk
  | _=>exact hK _ _ hk
 | .cond c x y,K,K',hK,σ,h=>by
  simp only [qJD,vQQ] at h;obtain ⟨v,hv,h⟩:=h;simp only [runC,hv,vZV];split at h
  ·rename_i t;cases t with
   | true=>exact qQG hc x hK σ h
   | false=>exact qQG hc y hK σ h
  ·cases h
 | .block id x,K,K',hK,σ,h=>by
  refine qQG hc x (fun e τ hk => ?_) σ h;cases e with
  | exit id' =>
   simp only at hk ⊢;cases hb:Nat.beq id' id with
   | true=>rw [hb] at hk; exact hK _ _ hk
   | false=>rw [hb] at hk; exact hK _ _ hk
  | _=>exact hK _ _ hk
 | .loop x,K,K',hK,σ,h=>by
  simp only [qJD] at h;simp only [runC];refine qXQ (fun a a' ha τ hs => ?_) N σ h;refine qQG hc x (fun e υ hk => ?_) _ hs;cases e with
  | normal=>exact ha _ hk
  | _=>exact hK _ _ hk
 | .rangeFunc ..,K,K',hK,σ,h=>by cases h
 | .goto _,K,K',hK,σ,h=>by cases h
 | .refuse _,K,K',hK,σ,h=>by cases h
end
theorem qHU {T:Tab} {ok:OrK}:∀ (N f:Nat) (ps:List PV) (K:Ret→Option (Ret × Mem)) (r:Ret × Mem),zGC T ok N f ps K=some r→∃ x M,runF T ok.orc N f (ps.map .v) []=some (x,M)∧K x=some r
 | 0,f,ps,K,r,h=>by cases h
 | N + 1,f,ps,K,r,h=>by
  simp only [zGC] at h;split at h
  ·cases h
  ·rename_i fi hfi;obtain ⟨hb,h⟩:=qQ h;have hc:SndK ⟨T,qJG ok.orc (runF T ok.orc N),qYI T ok.orc (runF T ok.orc N),f,fi.ntmps⟩ (zQX ok (zGC T ok N)):=fun g qs K' r' hk=>by
    unfold zQX at hk;show ∃ x,qJG ok.orc (runF T ok.orc N) g qs=some x∧K' x=some r';unfold qJG;cases ho:ok g with
    | some o =>
     rw [ho] at hk;simp only [vQQ] at hk;obtain ⟨x,hx,hk⟩:=hk;obtain ⟨h1,hk⟩:=qQ hk;exact ⟨x.2,by simp only [OrK.orc,ho,hx,vZV,h1,vYZ],hk⟩
    | none =>
     rw [ho] at hk;obtain ⟨x,M,hx,hk⟩:=qHU N g qs K' r' hk;have e:ok.orc.a g=none:=by simp only [OrK.orc,ho,Option.bind_none]
     exact ⟨x,by simp only [e,hx,vZV],hk⟩
   obtain ⟨q,h1,h2⟩:=qQG (K0:=fun q=>K q.1) (K':=endK T [] fi.results) hc fi.body (fun e σ hk=>by
    simp only [vQQ] at hk;exact hk) _ h
   refine ⟨q.1,q.2,?_,h2⟩;simp only [runF,hfi,hb,vYZ];exact h1
theorem runK_some {T:Tab} {ok:OrK} {N f:Nat} {ps:List PV} {r:Ret} (h:runK T ok N f ps=some (r,[])):run T ok.orc N f ps=some r:=by
 obtain ⟨x,M,h1,h2⟩:=qHU N f ps _ _ h;cases h2;unfold run;rw [h1];rfl
def OrK.Ok (P:Program) (ok:OrK):Prop:=∀ g o,ok g=some o→∀ ps r,o ps=some (true,r)→zY P g ps r
theorem OrK.Ok.orc {P:Program} {ok:OrK} {T:Tab} (h:ok.Ok P):OrcOk P T ok.orc:=by
 refine ⟨fun g o ho ps r hr => ?_,fun g o ho=>by simp [OrK.orc] at ho⟩;simp only [OrK.orc,vQQ,vQZ] at ho;obtain ⟨f,hf,rfl⟩:=ho;simp only [vQQ] at hr;obtain ⟨x,hx,hr⟩:=hr;obtain ⟨h1,hr⟩:=qQ hr;cases hr;exact h g f hf ps x.2 (by rw [hx,← h1])
theorem jJ {P:Program} {T:Tab} {ok:OrK} {N f:Nat} {ps:List PV} {r:Ret} (hT:TabOk P T) (hm:P.follows .mixedOrders=true) (hO:ok.Ok P) (h:runK T ok N f ps=some (r,[])):zY P f ps r:=qZI hT hm hO.orc (runK_some h)
abbrev OrL:=List (Nat × (List PV→Option (Bool × Ret)))
def OrL.k (l:OrL):OrK:=asc l
def jH (P:Program) (f:Nat) (o:List PV→Option (Bool × Ret)):Prop:=∀ ps r,o ps=some (true,r)→zY P f ps r
theorem OrL.ok {P:Program} {l:OrL} (h:AllP (fun x:Nat × (List PV→Option (Bool × Ret))=>jH P x.1 x.2) l):(OrL.k l).Ok P:=fun g o ho ps r hr=>h.of (qZE ho) ps r hr
def listed (l:List (List PV × Ret)):List PV→Option (Bool × Ret):=fun ps=>(yQD l ps).bind fun r=>some (true,r)
def PV.val1:PV→Value
 | .n k x=>.int k x
 | .b x=>.bool x
 | .s x=>.string x
 | _=>.nilIface
def PV.val:PV→Value
 | .a cs=>.agg (cs.map PV.val1).toArray
 | x=>x.val1
theorem zWQ {F:Nat→Prop} {w:World} {p:PV} {v:Value} (hp:p.flat1=true) (h:RP F w p v):v=p.val1:=by
 cases h <;> first | rfl | (simp [PV.flat1] at hp; done)
theorem val1_rp {F:Nat→Prop} {w:World} {p:PV} (hp:p.flat1=true):RP F w p p.val1∧p.val1.oneCell'=true:=by
 cases p <;> first | (simp [PV.flat1] at hp; done) | exact ⟨by constructor,rfl⟩
theorem val_eq {F:Nat→Prop} {w:World} {p:PV} {v:Value} (hp:p.flat2=true) (h:RP F w p v):v=p.val:=by
 cases p with
 | a cs =>
  cases h with
  | a _ vs hl h1 h =>
   have e:vs=cs.map PV.val1:=List.ext_getElem? fun i=>by
    rw [vQH];cases hc:cs[i]? with
    | none=>rw [Option.map_none,List.getElem?_eq_none (by have:=List.getElem?_eq_none_iff.1 hc; omega)]
    | some c =>
     have hi:=(List.getElem?_eq_some_iff.1 hc).1;have hv:vs[i]? = some (vs[i]'(by omega)):=vQK (by omega);rw [hv,Option.map_some,zWQ (List.all_eq_true.1 hp c (vQW hc)) (h i c _ hc hv)]
   rw [e]; rfl
 | _=>exact zWQ (by first | exact hp | (simp [PV.flat2,PV.flat1] at hp)) h
end Go.Rx
namespace Go.Rx
open Go.RowKit Go.Sx
def qWD (sz:Nat) (rows:List (List PV)):Bool:=rows.all fun r=>Nat.beq r.length sz && r.all PV.flat1
def qUG (rows:List (List PV)):List (List Value):=rows.map fun r=>r.map PV.val1
theorem qXC {sz:Nat} {rows:List (List PV)} (h:qWD sz rows=true) {r:List PV} (hr:r ∈ rows):r.length=sz∧∀ p ∈ r,p.flat1=true:=by
 have:=List.all_eq_true.1 h r hr
 rw [vQJ] at this;exact ⟨vQU this.1,List.all_eq_true.1 this.2⟩
theorem rp_of_slc {F:Nat→Prop} {w:World} {sz c:Nat} {a:Option Addr} {rows:List (List PV)} (hs:qWD sz rows=true) (hcap:rows.length≤c) (hS:qJA sz a (qUG rows) w)
  (hF:∀ b off,a=some ⟨b,off,none⟩→rows ≠ []→F b):RP F w (.l rows) (.slice a rows.length c):=by
 cases rows with
 | nil=>exact .l0 a c
 | cons r0 rs =>
  obtain ⟨_,b,off,ha,hb,_⟩:=hS 0 _ (by simp [qUG]; rfl);subst ha;refine .l (r0 :: rs) b off _ c sz (fun j t=>(((r0 :: rs).getD j []).getD t .ni).val1) rfl hcap (fun r hr=>(qXC hs hr).1) (hF b off rfl (by simp)) (fun j t hj ht => ?_) (fun j r t p hj ht => ?_)
  ·have hr:(r0 :: rs)[j]? = some ((r0 :: rs)[j]'hj):=vQK hj;generalize (r0 :: rs)[j]'hj=r at hr;have hm:=qXC hs (vQW hr);have htl:t < r.length:=by omega
   have hp:r[t]? = some (r[t]'htl):=vQK htl;obtain ⟨_,b',off',ha',_,hc⟩:=hS j (r.map PV.val1) (by unfold qUG; rw [vQH,hr]; rfl);cases ha';have hc:=hc t ht;rw [vQH,hp,Option.map_some] at hc;have e:(((r0 :: rs).getD j []).getD t .ni)=r[t]'htl:=by
    rw [vZX,vZX,hr];simp only [Option.getD_some];rw [hp]; rfl
   simp only [e];exact ⟨by rw [← hc,Nat.add_assoc],(val1_rp (F:=F) (w:=w) (hm.2 _ (List.getElem_mem htl))).2⟩
  ·have hm:=qXC hs (vQW hj);have e:(((r0 :: rs).getD j []).getD t .ni)=p:=by
    rw [vZX,vZX,hj];simp only [Option.getD_some];rw [ht]; rfl
   simp only [e];exact (val1_rp (hm.2 p (vQW ht))).1
theorem slc_of_rp {F:Nat→Prop} {w:World} {sz:Nat} {rows:List (List PV)} {v:Value} (hs:qWD sz rows=true) (hF:∀ k,F k→k < w.heap.size) (h:RP F w (.l rows) v) :
  ∃ a c,v=.slice a rows.length c∧rows.length≤c∧qJA sz a (qUG rows) w∧∀ b off,a=some ⟨b,off,none⟩→rows ≠ []→F b:=by
 cases h with
 | l0 ad c=>exact ⟨ad,c,rfl,Nat.zero_le _,fun j r hj=>by simp [qUG] at hj,fun _ _ _ h=>absurd rfl h⟩
 | l _ b off n c sz' g hn hcap hl hf hc hh =>
  subst hn;refine ⟨_,c,rfl,hcap,fun j r hj => ?_,fun b' off' e _=>by cases e; exact hf⟩;unfold qUG at hj;rw [vQH] at hj;cases hr:rows[j]? with
  | none=>rw [hr] at hj; cases hj
  | some q =>
   rw [hr] at hj;cases hj;have hm:=qXC hs (vQW hr);have hjl:=(List.getElem?_eq_some_iff.1 hr).1;have e:sz'=sz:=by rw [← hl q (vQW hr),hm.1]
   subst e;refine ⟨by rw [List.length_map,hm.1],b,off,rfl,hF b hf,fun k hk => ?_⟩;have h1:=hc j k hjl hk;have hkl:k < q.length:=by omega
   have hp:q[k]? = some (q[k]'hkl):=vQK hkl;rw [Nat.add_assoc,h1.1,vQH,hp,Option.map_some]
   congr 1
   exact zWQ (hm.2 _ (List.getElem_mem hkl)) (hh j q k _ hr hp)
end Go.Rx
namespace Go.Rx
open Go.RowKit Go.Sx
def zVQ (L:List Int):PV:=.l (L.map fun x=>[.n .i64 x])
theorem intsP_flat (L:List Int):qWD 1 (L.map fun x=>[PV.n .i64 x])=true:=by
 unfold qWD;rw [List.all_map,List.all_eq_true];intro x _;rfl
theorem rp_of_ints {F:Nat→Prop} {w:World} {L:List Int} {a:Option Addr} {c:Nat} (h:IntsAt w w.heap.size (.slice a L.length c) L) (hc:L.length≤c) (hF:∀ k,k < w.heap.size→F k):RP F w (zVQ L) (.slice a L.length c):=by
 have e:(L.map fun x=>[PV.n .i64 x]).length=L.length:=by simp
 have key:qJA 1 a (qUG (L.map fun x=>[PV.n .i64 x])) w:=fun j r hj=>by
  obtain ⟨a',c',e',hh⟩:=h.slice;cases e';unfold qUG at hj;rw [vQH,vQH] at hj;cases hr:L[j]? with
  | none=>rw [hr] at hj; cases hj
  | some x =>
   rw [hr] at hj;cases hj;have hjl:=(List.getElem?_eq_some_iff.1 hr).1;obtain ⟨b,off,ha,hb,hq⟩:=hh j hjl;refine ⟨rfl,b,off,ha,hb,fun k hk => ?_⟩;have hk0:k=0:=by omega
   subst hk0;rw [Nat.mul_one,Nat.add_zero,hq,vZX,hr];rfl
 have:=rp_of_slc (F:=F) (c:=c) (intsP_flat L) (by rw [e]; exact hc) key (fun b off ha hne=>by
  obtain ⟨a',c',e',hh⟩:=h.slice;cases e';have h0:0 < L.length:=by
   cases L with
   | nil=>exact absurd rfl hne
   | cons x xs=>simp
  obtain ⟨b',off',ha',hb,_⟩:=hh 0 h0;rw [ha] at ha';cases ha';exact hF b hb)
 rw [e] at this;exact this
theorem rets_of_sndR {P:Program} {f:Nat} {ps:List PV} {x:PV} {w:World} {vals:List Value} (h:zY P f ps (.v x)) (hx:x.flat2=true) (ha:Al (RP (fun k=>k < w.heap.size) w) ps vals):Calls P f vals.toArray w (Rets x.val w) :=
 Calls.mono (h.2 w _ vals (fun k hk=>hk) ha) fun e w' ⟨v,F',he,hg,_,_,hr⟩=>⟨by rw [he,val_eq hx hr],hg⟩
theorem zXD {F:Nat→Prop} {w:World}:Al (RP F w) [] []:=⟨rfl,fun i p v h=>by simp at h⟩
theorem qUF {F:Nat→Prop} {w:World} {p:PV} {v:Value} {ps:List PV} {vs:List Value} (h:RP F w p v) (t:Al (RP F w) ps vs):Al (RP F w) (p :: ps) (v :: vs) :=
 ⟨by rw [vQX,vQX,t.1],fun i q u hq hu=>by
  cases i with
  | zero=>cases hq; cases hu; exact h
  | succ i=>exact t.2 i q u hq hu⟩
theorem uJ {F:Nat→Prop} {w:World} {p:PV} {ps:List PV} {vals:List Value} (h:Al (RP F w) (p :: ps) vals):∃ v vs,vals=v :: vs∧RP F w p v∧Al (RP F w) ps vs:=by
 cases vals with
 | nil=>have:=h.1; simp at this
 | cons v vs=>exact ⟨v,vs,rfl,h.2 0 p v rfl rfl,by have:=h.1; simpa using this,fun i q u hq hu=>h.2 (i + 1) q u hq hu⟩
theorem qYJ {F:Nat→Prop} {w:World} {vals:List Value} (h:Al (RP F w) [] vals):vals=[]:=by
 cases vals with
 | nil=>rfl
 | cons v vs=>have:=h.1; simp at this
theorem rp_parts {F:Nat→Prop} {w:World} {cs:List PV} {v:Value} (h:RP F w (.a cs) v):∃ vs:List Value,v=.agg vs.toArray∧Al (RP F w) cs vs:=by
 cases h with
 | a _ vs hl _ hh=>exact ⟨vs,rfl,hl,hh⟩
end Go.Rx
namespace Go.Rx
open Go.RowKit Go.Sx Go.ChangeShapes Go.WideShapes
inductive Sh where
 | i (k:IntKind)
 | b
 | s
 | l (row:List Sh)
inductive Fit:Sh→PV→Prop
 | i (k:IntKind) (x:Int) (h:(Lit.int k x).wf=true):Fit (.i k) (.n k x)
 | b (x:Bool):Fit .b (.b x)
 | s (x:ByteArray) (h:x.size≤maxLen):Fit .s (.s x)
 | l (row:List Sh) (n:Nat) (f:Nat→List PV) (hn:n≤maxLen) (hl:∀ j,j < n→(f j).length=row.length) (h:∀ j,j < n→∀ (i:Nat) sh p,row[i]? = some sh→(f j)[i]? = some p→Fit sh p):Fit (.l row) (.lf n f)
section
variable {P:Program} {w:World} {H:Type} {enc:TypeId × Value→H}
def Good (w:World) (shs:List Sh) (cs:List Value):Prop:=∃ ps:List PV,ps.length=shs.length∧(∀ (i:Nat) sh p,shs[i]? = some sh→ps[i]? = some p→Fit sh p)∧Al (RP (fun k=>k < w.heap.size) w) ps cs∧∀ v ∈ cs,v.oneCell'=true
theorem Good.one {sh:Sh} {p:PV} {v:Value} (h1:Fit sh p) (h2:RP (fun k=>k < w.heap.size) w p v) (h3:v.oneCell'=true):Good w [sh] [v] :=
 ⟨[p],rfl,(fun i s0 q hs hq=>by
  match i with
  | 0=>cases hs; cases hq; exact h1
  | i + 1=>cases hs),qUF h2 zXD,(fun u hu=>by obtain rfl:=List.mem_singleton.1 hu; exact h3)⟩
theorem Good.cat {r s:List Sh} {cs ds:List Value} (h1:Good w r cs) (h2:Good w s ds):Good w (r ++ s) (cs ++ ds):=by
 obtain ⟨p,a1,a2,a3,a4⟩:=h1;obtain ⟨q,b1,b2,b3,b4⟩:=h2;refine ⟨p ++ q,by simp [a1,b1],fun i sh x hs hx => ?_,a3.append b3,fun v hv => ?_⟩
 ·rcases Nat.lt_or_ge i r.length with hi | hi
  ·rw [List.getElem?_append_left hi] at hs;rw [List.getElem?_append_left (by omega)] at hx;exact a2 i sh x hs hx
  ·rw [List.getElem?_append_right hi] at hs;rw [List.getElem?_append_right (by omega),a1] at hx;exact b2 _ sh x hs hx
 ·rcases List.mem_append.1 hv with h | h
  ·exact a4 v h
  ·exact b4 v h
def Pieces (w:World):List (List Sh)→List Value→Prop
 | [],cs=>cs=[]
 | r :: l,cs=>Good w r (cs.take r.length)∧Pieces w l (cs.drop r.length)
theorem Pieces.good:∀ {l:List (List Sh)} {cs:List Value},Pieces w l cs→Good w l.flatten cs
 | [],cs,h=>by
  have:cs=[]:=h
  subst this;exact ⟨[],rfl,fun i sh p hs=>by simp at hs,zXD,fun v hv=>by cases hv⟩
 | r :: l,cs,h=>by
  have:=Good.cat h.1 h.2.good
  rw [List.take_append_drop] at this;exact this
end
end Go.Rx
namespace Go.Rx
open Go.RowKit Go.Sx
abbrev Cont:=Ex→St→Option (Ret × Mem)
abbrev yV:=St→Cont→Option (Ret × Mem)
def uG:Nat→Code→Code
 | 0,.seq x _=>x
 | _ + 1,.seq _ y=>y
 | 0,.cond _ x _=>x
 | _ + 1,.cond _ _ y=>y
 | _,.block _ x=>x
 | _,.scope x=>x
 | _,.loop x=>x
 | _,c=>c
def kZ (B:Code):List Nat→Code
 | []=>B
 | i :: p=>uG i (kZ B p)
def zJZ:List Nat→List Nat→Bool
 | [],[]=>true
 | x :: xs,y :: ys=>Nat.beq x y && zJZ xs ys
 | _,_=>false
theorem zZD:∀ {p q:List Nat},zJZ p q=true→p=q
 | [],[],_=>rfl
 | x :: xs,y :: ys,h=>by
  simp only [zJZ,vQJ] at h;rw [vQU h.1,zZD h.2]
 | [],_ :: _,h=>by cases h
 | _ :: _,[],h=>by cases h
def LF (N:Nat) (C:Cx) (cK:qYQ) (x:Code) (h:Hint) (K:Cont):Nat→St→Option (Ret × Mem)
 | 0,_=>none
 | n + 1,σ=>qJD N C cK x (fun e τ=>match e with
   | .normal=>LF N C cK x h K n (qZB h τ)
   | e=>K e (qQE h τ)) σ
def zXF (N:Nat) (C:Cx) (cK:qYQ) (x:Code) (S:yV):Prop:=∀ K σ r,S σ K=some r→LF N C cK x (C.T.hint C.me (zZ x)) K N σ=some r
theorem loopN_LF {N:Nat} {C:Cx} {cK:qYQ} {x:Code} {h:Hint} {K:Cont}:∀ (n:Nat) (σ:St),qWL (fun again σ=>qJD N C cK x (fun e σ=>match e with
   | .normal=>again σ
   | e=>K e (qQE h σ)) (qZB h σ)) n σ=LF N C cK x h K n (qZB h σ)
 | 0,_=>rfl
 | n + 1,σ=>by
  simp only [qWL,LF]
  congr 1
  funext e τ;cases e with
  | normal=>exact loopN_LF n τ
  | _=>rfl
def qVL (N:Nat) (C:Cx) (cK:qYQ) (LO:List Nat→Option yV):Code→List Nat→Cont→St→Option (Ret × Mem)
 | .skip,_,K,σ=>K .normal σ
 | .label _,_,K,σ=>K .normal σ
 | .scope x,p,K,σ=>qVL N C cK LO x (0 :: p) K σ
 | .ret,_,K,σ=>K .ret σ
 | .exit id,_,K,σ=>K (.exit id) σ
 | .region id ops d,_,K,σ=>preK C id (fun σ=>bif d then qWB C cK ops 0 ops.toList [] (K .normal) σ else zZX C cK ops ops.toList (K .normal) σ) σ
 | .seq x y,p,K,σ=>qVL N C cK LO x (0 :: p) (fun e σ=>match e with
   | .normal=>qVL N C cK LO y (1 :: p) K σ
   | e=>K e σ) σ
 | .cond c x y,p,K,σ=>(opv 1 σ c).bind fun v=>match v with
   | .v (.b t)=>bif t then qVL N C cK LO x (0 :: p) K σ else qVL N C cK LO y (1 :: p) K σ
   | _=>none
 | .block id x,p,K,σ=>qVL N C cK LO x (0 :: p) (fun e σ=>match e with
   | .exit id'=>bif Nat.beq id' id then K .normal σ else K (.exit id') σ
   | e=>K e σ) σ
 | .loop x,p,K,σ=>match LO p with
   | some S=>S (qZB (C.T.hint C.me (zZ x)) σ) K
   | none=>qWL (fun again σ=>qJD N C cK x (fun e σ=>match e with
     | .normal=>again σ
     | e=>K e (qQE (C.T.hint C.me (zZ x)) σ)) (qZB (C.T.hint C.me (zZ x)) σ)) N σ
 | _,_,_,_=>none
section
variable {C:Cx} {cK:qYQ} {r:Ret × Mem} {K0:Ret × Mem→Option (Ret × Mem)}
theorem qJQ {N:Nat} {LO:List Nat→Option yV} {B:Code} (hc:SndK C cK) (hL:∀ p S,LO p=some S→zXF N C cK (uG 0 (kZ B p)) S):∀ (c:Code) (p:List Nat) {K K':Cont} (hp:kZ B p=c) (hK:∀ e σ,K e σ=some r→Gets K0 r (K' e σ)) (σ:St),qVL N C cK LO c p K σ=some r→Gets K0 r (runC N C c K' σ)
 | .skip,p,K,K',hp,hK,σ,h=>hK _ _ h
 | .label _,p,K,K',hp,hK,σ,h=>hK _ _ h
 | .scope x,p,K,K',hp,hK,σ,h=>qJQ hc hL x (0 :: p) (by simp only [kZ,hp,uG]) hK σ h
 | .ret,p,K,K',hp,hK,σ,h=>hK _ _ h
 | .exit id,p,K,K',hp,hK,σ,h=>hK _ _ h
 | .region id ops d,p,K,K',hp,hK,σ,h=>by
  have h:=preK_eq.symm.trans h;refine Eq.mpr (congrArg (Gets K0 r) (preK_eq (F:=fun σ=>bif d then qZA C ops 0 ops.toList [] (K' .normal) σ else qXF C ops ops.toList (K' .normal) σ))) ?_;cases d with
  | true=>exact qJC hc (hK .normal) _ _ _ _ h
  | false=>exact qUX hc (hK .normal) _ _ h
 | .seq x y,p,K,K',hp,hK,σ,h=>by
  refine qJQ hc hL x (0 :: p) (by simp only [kZ,hp,uG]) (fun e τ hk => ?_) σ h;cases e with
  | normal=>exact qJQ hc hL y (1 :: p) (by simp only [kZ,hp,uG]) hK τ hk
  | _=>exact hK _ _ hk
 | .cond c x y,p,K,K',hp,hK,σ,h=>by
  simp only [qVL,vQQ] at h;obtain ⟨v,hv,h⟩:=h;simp only [runC,hv,vZV];split at h
  ·rename_i t;cases t with
   | true=>exact qJQ hc hL x (0 :: p) (by simp only [kZ,hp,uG]) hK σ h
   | false=>exact qJQ hc hL y (1 :: p) (by simp only [kZ,hp,uG]) hK σ h
  ·cases h
 | .block id x,p,K,K',hp,hK,σ,h=>by
  refine qJQ hc hL x (0 :: p) (by simp only [kZ,hp,uG]) (fun e τ hk => ?_) σ h;cases e with
  | exit id' =>
   simp only at hk ⊢;cases hb:Nat.beq id' id with
   | true=>rw [hb] at hk; exact hK _ _ hk
   | false=>rw [hb] at hk; exact hK _ _ hk
  | _=>exact hK _ _ hk
 | .loop x,p,K,K',hp,hK,σ,h=>by
  simp only [qVL] at h;simp only [runC];have h':qWL (fun again σ=>qJD N C cK x (fun e σ=>match e with
     | .normal=>again σ
     | e=>K e (qQE (C.T.hint C.me (zZ x)) σ)) (qZB (C.T.hint C.me (zZ x)) σ)) N σ=some r:=by
   cases hS:LO p with
   | none=>rw [hS] at h; exact h
   | some S =>
    rw [hS] at h
    have:=hL p S hS
    rw [hp] at this;rw [loopN_LF];exact this K _ r h
  refine qXQ (fun a a' ha τ hs => ?_) N σ h';refine qQG hc x (fun e υ hk => ?_) _ hs;cases e with
  | normal=>exact ha _ hk
  | _=>exact hK _ _ hk
 | .rangeFunc ..,p,K,K',hp,hK,σ,h=>by cases h
 | .goto _,p,K,K',hp,hK,σ,h=>by cases h
 | .refuse _,p,K,K',hp,hK,σ,h=>by cases h
end
def cxF (T:Tab) (ok:OrK) (N f n:Nat):Cx:=⟨T,qJG ok.orc (runF T ok.orc N),qYI T ok.orc (runF T ok.orc N),f,n⟩
def ckF (T:Tab) (ok:OrK) (N:Nat):qYQ:=zQX ok (zGC T ok N)
def qWH (T:Tab) (f:Nat):Code:=match T.fn f with
 | some fi=>fi.body
 | none=>.skip
def ntmF (T:Tab) (f:Nat):Nat:=match T.fn f with
 | some fi=>fi.ntmps
 | none=>0
def qWK (T:Tab) (ok:OrK) (LO:List Nat→Option yV) (N f:Nat) (ps:List PV):Option (Ret × Mem):=match T.fn f with
 | none=>none
 | some fi=>bif Nat.ble (ps.map HV.v).length fi.ntmps then qVL N (cxF T ok N f (ntmF T f)) (ckF T ok N) LO (qWH T f) [] (fun e σ=>(endK T [] fi.results e σ).bind fun r=>some (r.1,[])) ⟨initS 0 (ps.map .v),[]⟩ else none
theorem zVG {T:Tab} {ok:OrK} {N f n:Nat}:SndK (cxF T ok N f n) (ckF T ok N):=fun g qs K' r' hk=>by
 unfold ckF zQX at hk;show ∃ x,qJG ok.orc (runF T ok.orc N) g qs=some x∧K' x=some r';unfold qJG;cases ho:ok g with
 | some o =>
  rw [ho] at hk;simp only [vQQ] at hk;obtain ⟨x,hx,hk⟩:=hk;obtain ⟨h1,hk⟩:=qQ hk;exact ⟨x.2,by simp only [OrK.orc,ho,hx,vZV,h1,vYZ],hk⟩
 | none =>
  rw [ho] at hk;obtain ⟨x,M,hx,hk⟩:=qHU N g qs K' r' hk;have e:ok.orc.a g=none:=by simp only [OrK.orc,ho,Option.bind_none]
  exact ⟨x,by simp only [e,hx,vZV],hk⟩
def qZ (T:Tab) (f:Nat) (p:List Nat):Code:=uG 0 (kZ (qWH T f) p)
theorem uY {P:Program} {T:Tab} {ok:OrK} {LO:List Nat→Option yV} {N f:Nat} {ps:List PV} {r:Ret} (hT:TabOk P T) (hm:P.follows .mixedOrders=true) (hO:ok.Ok P)
  (hL:∀ p S,LO p=some S→zXF N (cxF T ok N f (ntmF T f)) (ckF T ok N) (qZ T f p) S) (h:qWK T ok LO N f ps=some (r,[])):zY P f ps r:=by
 refine qZI (N:=N + 1) hT hm hO.orc ?_;unfold qWK at h;split at h
 ·cases h
 ·rename_i fi hfi;obtain ⟨hb,h⟩:=qQ h;obtain ⟨q,h1,h2⟩:=qJQ (K0:=fun q=>some (q.1,[])) (K':=endK T [] fi.results) (B:=qWH T f) zVG hL (qWH T f) [] rfl (fun e σ hk=>by
   simp only [vQQ] at hk;exact hk) _ h
  cases h2;have eb:qWH T f=fi.body:=by unfold qWH; rw [hfi]
  have en:ntmF T f=fi.ntmps:=by unfold ntmF; rw [hfi]
  rw [eb,en] at h1;unfold run;simp only [runF,hfi,hb,vYZ];unfold cxF at h1;rw [h1];rfl
noncomputable def gSt (a b:St):Bool:=@decide (a=b) (vYQ _)
theorem zW (a:St):gSt a a=true:=@vYK _ (vYQ _) rfl
theorem yQB {a b:St} (h:gSt a b=true):a=b:=@vYU _ (vYQ _) h
noncomputable def kW (s:St) (R:Cont→Option (Ret × Mem)):yV:=fun σ K=>bif gSt σ s then R K else none
theorem qYZ {N:Nat} {C:Cx} {cK:qYQ} {x:Code} {s:St} {R:Cont→Option (Ret × Mem)} (h:∀ K r,R K=some r→LF N C cK x (C.T.hint C.me (zZ x)) K N s=some r):zXF N C cK x (kW s R):=fun K σ r hr=>by
 unfold kW at hr;obtain ⟨hg,hq⟩:=qQ hr;have e:=yQB hg;subst e;exact h K r hq
def qY (l:List (List Nat × yV)) (p:List Nat):Option yV:=match l with
 | []=>none
 | x :: xs=>bif zJZ x.1 p then some x.2 else qY xs p
theorem qQV {N:Nat} {C:Cx} {cK:qYQ} {L:List Nat→Code}:∀ {l:List (List Nat × yV)},AllP (fun x:List Nat × yV=>zXF N C cK (L x.1) x.2) l→∀ p S,qY l p=some S→zXF N C cK (L p) S
 | [],_,p,S,h=>by cases h
 | x :: xs,hl,p,S,h=>by
  simp only [qY] at h;cases hb:zJZ x.1 p with
  | true =>
   rw [hb] at h;simp only [vYZ,vQZ] at h;subst h
   have:=zZD hb
   subst this;exact hl.1
  | false =>
   rw [hb] at h;exact qQV hl.2 p S h
end Go.Rx
namespace Go.Rx
open Go.RowKit Go.Sx
theorem qKE {D:Nat→Prop} {G:World→Prop} {e sz cap k:Nat} {a:Option Addr} {ys:List Value} {w:World} (hd:qWA D G) (hG:G w) (hi:∀ w,G w→OwnF 0 e sz a cap k ys w):∀ ad,a=some ad→D ad.block:=by
 rintro ad rfl
 apply Classical.byContradiction;intro hn;obtain ⟨_,h1⟩:=hi w hG;rcases h1 with ⟨h1,_⟩ | ⟨g,cp,cur,hv,_,hb,_,_,hs,_⟩
 ·cases h1
 ·simp only [Value.slice.injEq,vQZ] at hv;obtain ⟨rfl,_,rfl⟩:=hv;have hlt:g < w.heap.size:=qZW hb;have hG':G { w with heap:=w.heap.setIfInBounds g (.cells (cur.push (.bool true)) e (0,0)) }:=hd w _ (fun k hk=>by
   have e:g ≠ k:=fun e=>hn (e ▸ hk)
   show (w.heap.setIfInBounds g _)[k]? = _;exact Array.getElem?_setIfInBounds_ne e) hG
  obtain ⟨_,h2⟩:=hi _ hG';rcases h2 with ⟨h2,_⟩ | ⟨g',cp',cur',hv',_,hb',_,_,hs',_⟩
  ·cases h2
  ·simp only [Value.slice.injEq,vQZ,Addr.mk.injEq] at hv';obtain ⟨⟨rfl,_⟩,_,rfl⟩:=hv';have hb2:(w.heap.setIfInBounds g (.cells (cur.push (.bool true)) e (0,0)))[g]? = some (.cells cur' e (0,0)):=hb';rw [Array.getElem?_setIfInBounds_self_of_lt hlt] at hb2;simp only [vQZ,Obj.cells.injEq] at hb2;rw [← hb2.1,Array.size_push,hs] at hs';omega
end Go.Rx

/- Part 3 of the texts behind the last one: rules and contracts. No condition. -/
import Derived.Test.YtklmegnpfhiibaaGreatBK2
open Option.some renaming injEq → vQZ
open Prod.mk renaming injEq → vQY
open Bool renaming and_eq_true → vQJ
open List renaming length_cons → vQX, mem_of_getElem? → vQW, mem_cons_of_mem → vQV, mem_cons_self → vQG, getElem?_take → vZU
open Nat renaming eq_of_beq_eq_true → vQU, lt_of_lt_of_le → vZZ, le_of_ble_eq_true → vZJ
open Array renaming getElem?_eq_getElem → vZY
namespace Go.Sx
open Go.RowKit
abbrev zUH:=List (Nat × (Nat→Prop) × (World→Prop))
def qVQ:zUH→Nat→Option ((Nat→Prop) × (World→Prop))
 | [],_=>none
 | (k,x) :: R,i=>bif Nat.beq k i then some x else qVQ R i
theorem zZL {R:zUH} {i:Nat} {x:(Nat→Prop) × (World→Prop)} (h:qVQ R i=some x):∃ k,(k,x) ∈ R:=by
 induction R with
 | nil=>cases h
 | cons y R ih =>
  obtain ⟨k,y⟩:=y;simp only [qVQ] at h;cases hb:Nat.beq k i with
  | true=>rw [hb] at h; simp at h; subst h; exact ⟨k,vQG⟩
  | false=>rw [hb] at h; simp at h; obtain ⟨k',hk⟩:=ih h; exact ⟨k',vQV _ hk⟩
def updR:zUH→Nat→(Nat→Prop)→(World→Prop)→Option zUH
 | [],_,_,_=>none
 | (k,x) :: R,i,D,F=>bif Nat.beq k i then some ((k,D,F) :: R) else qXD (k,x) (updR R i D F)
theorem updR_spec {R R':zUH} {i:Nat} {D:Nat→Prop} {F:World→Prop} (h:updR R i D F=some R'):∃ R1 R2 k x,R=R1 ++ (k,x) :: R2∧R'=R1 ++ (k,D,F) :: R2∧qVQ R i=some x:=by
 induction R generalizing R' with
 | nil=>cases h
 | cons y R ih =>
  obtain ⟨k,y⟩:=y;simp only [updR] at h;cases hb:Nat.beq k i with
  | true=>rw [hb] at h; simp at h; subst h; exact ⟨[],R,k,y,rfl,rfl,by simp [qVQ,hb]⟩
  | false =>
   rw [hb] at h;obtain ⟨R2,h2,rfl⟩:=kK h;obtain ⟨A,B,k',x,e1,e2,e3⟩:=ih h2;exact ⟨(k,y) :: A,B,k',x,by rw [e1]; rfl,by rw [e2]; rfl,by simp [qVQ,hb,e3]⟩
def Holds (w0:Base) (F:World→Prop):Prop:=∀ (H:Heap) (w:World),Knows w0 H w→F w
theorem holds_r {w0:Base} {id:Nat} {D:Nat→Prop} {F:World→Prop} (h:qVQ w0.R id=some (D,F)):Holds w0 F:=fun _ _ k=>by
 obtain ⟨j,hj⟩:=zZL h;exact (k.facts _ hj).holds
theorem Knows.forget {w1:World} {x:Nat × (Nat→Prop) × (World→Prop)} {R:zUH} {H:Heap} {w:World} (k:Knows ⟨w1,x :: R⟩ H w):Knows ⟨w1,R⟩ H w :=
 ⟨k.grow,k.has,k.nodup,fun y hy=>k.facts y (vQV _ hy),(List.pairwise_cons.1 k.apart).2⟩
theorem Holds.more {w0:Base} {F:World→Prop} (h:Holds w0 F) (x:Nat × (Nat→Prop) × (World→Prop)):Holds ⟨w0.w,x :: w0.R⟩ F:=fun H w k=>h H w k.forget
theorem Holds.imp {w0:Base} {F G:World→Prop} (h:Holds w0 F) (hi:∀ w,F w→G w):Holds w0 G:=fun H w k=>hi w (h H w k)
section
variable {P:Program} {n:Nat} {w0:Base} {ops:Array Oper} {Q:Exit→Act→World→Prop} {S:yY} {H:Heap}
variable {d:Nat} {ty:TypeId} {pos:String} {af:Array Edge} {g:Option (Nat × Bool)}
variable {f:FuncId} {xs:List Operand} {ats:Array TypeId} {vs:List Value} {rest:List Oper} {X:Type} {Φ:X→Prop} {V:X→Value} {F:X→World→Prop}
variable {B:Base} {b i0 i j:Nat} {sl:Value} {L:List Int}
def ownD (a:Option Addr):Nat→Prop:=fun k=>∃ ad,a=some ad∧ad.block=k
def OwnF (m:Nat) (e:TypeId) (size:Nat) (a:Option Addr) (cap k:Nat) (ys:List Value):World→Prop:=fun w=>w.ownsRow m e size (.slice a k cap) k ys
theorem zKY (m:Nat) (e:TypeId) (size:Nat) (a:Option Addr) (cap k:Nat) (ys:List Value):qWA (ownD a) (OwnF m e size a cap k ys):=fun w w' h hF=>by
 obtain ⟨h1,h2⟩:=hF;refine ⟨h1,?_⟩;rcases h2 with h2 | ⟨gg,cp,cur,hv,h3,h4,h5⟩
 ·exact .inl h2
 ·refine .inr ⟨gg,cp,cur,hv,h3,?_,h5⟩;simp only [Value.slice.injEq] at hv;rw [h gg ⟨_,hv.1,rfl⟩];exact h4
theorem doC_own {c:Code} (id:Nat) (e:TypeId) (size:Nat) (h:DoC P n ⟨w0.w,(id,ownD none,OwnF 0 e size none 0 0 []) :: w0.R⟩ Q c S H):DoC P n w0 Q c S H:=fun a w f k =>
 h a w f ⟨k.grow,k.has,k.nodup,fun x hx=>by
  rcases List.mem_cons.1 hx with rfl | hx
  ·exact ⟨zKY _ _ _ _ _ _ _,fun j ⟨_,hj,_⟩=>(by cases hj),World.ownsRow_nil _ _ _ _⟩
  ·exact k.facts x hx,List.Pairwise.cons (fun y _ j ⟨_,hj,_⟩=>by cases hj) k.apart⟩
def appB (P:Program) (t e size bytes:Nat):Bool :=
 match P.underlying t,P.info? e with
 | some (.slice e'),some i=>e' == e && i.size == size && i.bytes == bytes && Nat.blt 0 size && (match i.zero with | some z=>z.cells.size == size | none=>false)
 | _,_=>false
theorem qKB {w:World} {t e size bytes base:Nat} {ty:TypeId} (hB:appB P t e size bytes=true) {v:Value} {k:Nat} {ys:List Value} (hown:w.ownsRow base e size v k ys)
  {ad:Addr} {m c:Nat} {news:List Value} (hm:0 < m) (hl:news.length=m * size) (hnews:∀ j u,news[j]? = some u→w.cell? (ad.add j)=some u) (h1:∀ u ∈ news,u.oneCell'=true)
  (h63:k + m≤9223372036854775807) (hby:(k + m) * bytes≤140737488355328) (hbase:base≤w.heap.size) :
  ∃ gg cap w',(Builtin.append_ #[t,t] ty #[v,.slice (some ad) m c]).run P w=.ok (.slice (some ⟨gg,0,none⟩) (k + m) cap) w'∧w'.ownsRow base e size (.slice (some ⟨gg,0,none⟩) (k + m) cap) (k + m) (ys ++ news)∧w.grownBy w' v.ownBlock ∧
   (v.ownBlock=some gg ∨ w.heap.size≤gg):=by
 unfold appB at hB;cases hu:P.underlying t with
 | none=>simp [hu] at hB
 | some ds =>
  cases ds <;> simp [hu] at hB
  rename_i e';cases hi:P.info? e with
  | none=>simp [hi] at hB
  | some i =>
   simp [hi] at hB;obtain ⟨⟨⟨⟨rfl,h2⟩,h3⟩,h4⟩,h5⟩:=hB;cases hz:i.zero with
   | none=>simp [hz] at h5
   | some z =>
    simp [hz] at h5;have hmax:maxLen=9223372036854775807:=rfl;obtain ⟨v',w',hr,ho,hg,hiff⟩:=run_append_own (P:=P) w base t ty e' i z size bytes hu hi hz h2 h3 h5 h4 v k ys hown ad m c news hl hnews h1 (by omega) hby hbase;rcases ho.2 with ⟨rfl,h0⟩ | ⟨gg,cap,cur,rfl,hbg,hgg,_⟩
    ·omega
    ·refine ⟨gg,cap,w',hr,ho,hg,?_⟩;rcases Nat.lt_or_ge gg w.heap.size with hlt | hge
     ·left
      -- the block lay there before: it is the slice's own
      subst h2;rcases hown.2 with ⟨rfl,hk0⟩ | ⟨g0,cap0,cur0,rfl,hb0,hg0,hkc,hcm,hcs,htake⟩
      ·exfalso;have hr2:=run_append_nil (P:=P) w t ty e' i z hu hi hz ad m c news hl hnews hm (by omega) (by have:=hby; subst hk0; subst h3; rw [Nat.zero_add] at this; omega);rw [hr] at hr2;simp only [Result.ok.injEq,Value.slice.injEq,vQZ,Addr.mk.injEq] at hr2;omega
      ·by_cases hroom:k + m≤cap0
       ·have hfit:k * i.size + news.length≤cur0.size:=by rw [hl,hcs,← Nat.add_mul]; exact Nat.mul_le_mul_right _ hroom
        have hr2:=run_append_room (P:=P) w t ty e' i hu hi g0 k cap0 cur0 hg0 ad m c news hl hnews h1 hroom hfit;rw [hr] at hr2;simp only [Result.ok.injEq,Value.slice.injEq,vQZ,Addr.mk.injEq] at hr2;simp [Value.ownBlock,hr2.1.1.1]
       ·exfalso;have holds:∀ j u,ys[j]? = some u→w.cell? ((⟨g0,0,none⟩:Addr).add j)=some u:=hown.cells (g:=g0) rfl;subst h3;have hr2:=run_append_grow (P:=P) w t ty e' i z hu hi hz ⟨g0,0,none⟩ k cap0 ys hown.1 holds ad m c news hl hnews (by omega) (by omega) (growslice_fits (by omega) hby);rw [hr] at hr2;simp only [Result.ok.injEq,Value.slice.injEq,vQZ,Addr.mk.injEq] at hr2;omega
     ·exact .inr hge
theorem Knows.append {w w':World} {R':zUH} {id e size cap cap' k m gg:Nat} {a:Option Addr} {ys news:List Value} (hk:Knows w0 H w) (hR:qVQ w0.R id=some (ownD a,OwnF 0 e size a cap k ys))
  (ho:w'.ownsRow 0 e size (.slice (some ⟨gg,0,none⟩) (k + m) cap') (k + m) (ys ++ news)) (hg:w.grownBy w' (Value.slice a k cap).ownBlock)
  (hgg:(Value.slice a k cap).ownBlock=some gg ∨ w.heap.size≤gg) (hu:updR w0.R id (ownD (some ⟨gg,0,none⟩)) (OwnF 0 e size (some ⟨gg,0,none⟩) cap' (k + m) (ys ++ news))=some R'):Knows ⟨w0.w,R'⟩ H w':=by
 obtain ⟨R1,R2,kk,x,e1,e2,e3⟩:=updR_spec hu;rw [hR] at e3;cases e3;have hmem:(kk,ownD a,OwnF 0 e size a cap k ys) ∈ w0.R:=by rw [e1]; simp
 have hfa:=hk.facts _ hmem;have blk:∀ q,(Value.slice a k cap).ownBlock=some q→ownD a q:=fun q hq=>by
  cases a with
  | none=>simp [Value.ownBlock] at hq
  | some ad=>simp [Value.ownBlock] at hq; exact ⟨ad,rfl,hq⟩
 have hlow:∀ q,q < w.heap.size→¬ ownD a q→w'.heap[q]? = w.heap[q]?:=fun q hq hn=>hg.block q hq fun e=>hn (blk q e.symm)
 have hgt:gg < w'.heap.size:=by
  rcases ho.2 with ⟨h,_⟩ | ⟨g',c',cur,h,_,h4,_⟩
  ·simp at h
  ·simp only [Value.slice.injEq,vQZ,Addr.mk.injEq,and_true] at h;rw [h.1];exact qZW h4
 have hgm:w0.w.heap.size≤gg:=by
  rcases hgg with h | h
  ·exact (hfa.at' gg (blk gg h)).1
  ·exact Nat.le_trans hk.grow.size h
 have hap:=hk.apart;rw [e1] at hap;have hap1:=List.pairwise_append.1 hap;have hap2:=List.pairwise_cons.1 hap1.2.1
 -- the new block is none of another fact's
 have others:∀ y ∈ R1 ++ R2,¬ y.2.1 gg:=fun y hy hd=>by
  have hy0:y ∈ w0.R:=by
   rw [e1];rcases List.mem_append.1 hy with h | h
   ·exact List.mem_append_left _ h
   ·exact List.mem_append_right _ (vQV _ h)
  rcases hgg with h | h
  ·rcases List.mem_append.1 hy with h' | h'
   ·exact hap1.2.2 y h' _ vQG gg hd (blk gg h)
   ·exact hap2.1 y h' gg (blk gg h) hd
  ·have:=((hk.facts y hy0).at' gg hd).2.1
   omega
 have keepF:∀ y ∈ R1 ++ R2,RFact w0.w.heap.size H y.2.1 y.2.2 w':=fun y hy=>by
  have hy0:y ∈ w0.R:=by
   rw [e1];rcases List.mem_append.1 hy with h | h
   ·exact List.mem_append_left _ h
   ·exact List.mem_append_right _ (vQV _ h)
  obtain ⟨q1,q2,q3⟩:=hk.facts y hy0;refine ⟨q1,fun q hq=>⟨(q2 q hq).1,vZZ (q2 q hq).2.1 hg.size,(q2 q hq).2.2⟩,q1 w w' (fun q hq=>hlow q (q2 q hq).2.1 fun ho' => ?_) q3⟩;rcases List.mem_append.1 hy with h' | h'
  ·exact hap1.2.2 y h' _ vQG q hq ho'
  ·exact hap2.1 y h' q ho' hq
 refine ⟨⟨hg.os.trans hk.grow.os,hg.tape.trans hk.grow.tape,hg.output.trans hk.grow.output,Nat.le_trans hk.grow.size hg.size,fun q hq => ?_⟩,fun y hy=>⟨(hk.has y hy).1,?_⟩,hk.nodup,fun y hy => ?_,?_⟩
 ·have hq':q < w0.w.heap.size:=hq;rw [hlow q (vZZ hq' hk.grow.size) fun hd=>by have:=(hfa.at' q hd).1; omega];exact hk.grow.block q hq'
 ·rw [hlow _ (qZW (hk.has y hy).2) fun hd=>(hfa.at' _ hd).2.2 y hy rfl];exact (hk.has y hy).2
 ·rw [show (⟨w0.w,R'⟩:Base).R=R' from rfl,e2] at hy;rcases List.mem_append.1 hy with h | h
  ·exact keepF y (List.mem_append_left _ h)
  ·rcases List.mem_cons.1 h with rfl | h
   ·refine ⟨zKY _ _ _ _ _ _ _,fun q ⟨ad,had,hq⟩ => ?_,ho⟩;simp only [vQZ] at had;subst had;simp only at hq;subst hq;refine ⟨hgm,hgt,fun y hy e => ?_⟩;rcases hgg with h | h
    ·exact (hfa.at' gg (blk gg h)).2.2 y hy e
    ·have:=hk.lt y hy
     omega
   ·exact keepF y (List.mem_append_right _ h)
 ·show R'.Pairwise _;rw [e2];refine List.pairwise_append.2 ⟨hap1.1,List.pairwise_cons.2 ⟨fun y hy q ⟨ad,had,hq⟩ hd => ?_,hap2.2⟩,fun y hy z hz q hyq hzq => ?_⟩
  ·simp only [vQZ] at had;subst had;simp only at hq;subst hq;exact others y (List.mem_append_right _ hy) hd
  ·rcases List.mem_cons.1 hz with rfl | hz
   ·obtain ⟨ad,had,hq⟩:=hzq;simp only [vQZ] at had;subst had;simp only at hq;subst hq;exact others y (List.mem_append_left _ hy) hyq
   ·exact hap1.2.2 y hy z (vQV _ hz) q hyq hzq
theorem append_step {t e size bytes id cap k m b2 c2:Nat} {e2:TypeId} {a:Option Addr} {ys news:List Value} {x y:Operand} {act:Act} {w:World} (hB:appB P t e size bytes=true) (hR:qVQ w0.R id=some (ownD a,OwnF 0 e size a cap k ys))
  (hx:ev S x=some (.slice a k cap)) (hy:ev S y=some (.slice (some ⟨b2,0,none⟩) m c2)) (hblk:w.heap[b2]? = some (.cells news.toArray e2)) (hm:Nat.blt 0 m=true) (hl:Nat.beq news.length (m * size)=true) (h1:news.all Value.oneCell'=true)
  (h63:k + m≤9223372036854775807) (hby:(k + m) * bytes≤140737488355328) (fi:Fits n S act) (hk:Knows w0 H w)
  (hw:qZH ops S ⟨some d,.call ⟨.builtin .append,#[x,y],#[t,t]⟩,ty,pos,af,g⟩=some true) (hn:Nat.blt d n=true)
  (next:∀ a' cap' R' act' w',updR w0.R id (ownD a') (OwnF 0 e size a' cap' (k + m) (ys ++ news))=some R'→Fits n ((d,.slice a' (k + m) cap') :: S) act'→Knows ⟨w0.w,R'⟩ H w'→wpList P ops Q rest act' w') :
  wpList P ops Q (⟨some d,.call ⟨.builtin .append,#[x,y],#[t,t]⟩,ty,pos,af,g⟩ :: rest) act w:=by
 obtain ⟨kk,hmem⟩:=zZL hR;have hown:w.ownsRow 0 e size (.slice a k cap) k ys:=(hk.facts _ hmem).holds;have hl':=vQU hl;have hm':0 < m:=by simpa using hm
 obtain ⟨gg,cap',w',hr,ho,hg,hgg⟩:=qKB (P:=P) (ty:=ty) hB hown (ad:=⟨b2,0,none⟩) (c:=c2) hm' hl' (fun j u hu=>by
   rw [qYK,qVH hblk,Nat.zero_add]; exact hu) (fun u hu=>List.all_eq_true.1 h1 u hu) h63 hby (Nat.zero_le _)
 obtain ⟨R',hR'⟩:∃ R',updR w0.R id (ownD (some ⟨gg,0,none⟩)) (OwnF 0 e size (some ⟨gg,0,none⟩) cap' (k + m) (ys ++ news))=some R':=by
  have:∀ R:zUH,qVQ R id=some (ownD a,OwnF 0 e size a cap k ys)→∃ R',updR R id (ownD (some ⟨gg,0,none⟩)) (OwnF 0 e size (some ⟨gg,0,none⟩) cap' (k + m) (ys ++ news))=some R':=by
   intro R;induction R with
   | nil=>intro h; cases h
   | cons z R ih =>
    obtain ⟨q,z⟩:=z;intro h;simp only [qVQ] at h;simp only [updR];cases hb:Nat.beq q id with
    | true=>exact ⟨_,rfl⟩
    | false =>
     rw [hb] at h;obtain ⟨R2,h2⟩:=ih h;exact ⟨_,by simp only [h2,qXD]; rfl⟩
  exact this _ hR
 unfold wpList;rw [qZQ fi hw,if_pos rfl];refine .inl ?_;unfold Oper.wp;have hrun:(execOp act.eval ⟨some d,.call ⟨.builtin .append,#[x,y],#[t,t]⟩,ty,pos,af,g⟩).run P w=.ok (.value (.slice (some ⟨gg,0,none⟩) (k + m) cap')) w':=by
  simp [execOp,resolve,invoke,builtin,fi.ev hx,fi.ev hy,hr]
 rw [hrun];exact next _ _ R' _ _ hR' (fi.put hn _) (hk.append hR ho hg hgg hR')
theorem doL_append {t e size bytes id2 cap k m b2 c2:Nat} {e2:TypeId} {a:Option Addr} {ys news:List Value} {x y:Operand} (id:Nat) (hB:appB P t e size bytes=true) (hR:qVQ w0.R id=some (ownD a,OwnF 0 e size a cap k ys))
  (hx:ev S x=some (.slice a k cap)) (hy:ev S y=some (.slice (some ⟨b2,0,none⟩) m c2)) (hH:qUE H id2=some (b2,news,e2)) (hm:Nat.blt 0 m=true) (hl:Nat.beq news.length (m * size)=true) (h1:news.all Value.oneCell'=true)
  (h63:k + m≤9223372036854775807) (hby:(k + m) * bytes≤140737488355328)
  (hw:qZH ops S ⟨some d,.call ⟨.builtin .append,#[x,y],#[t,t]⟩,ty,pos,af,g⟩=some true) (hn:Nat.blt d n=true)
  (next:∀ a' cap' R',updR w0.R id (ownD a') (OwnF 0 e size a' cap' (k + m) (ys ++ news))=some R'→DoL P n ⟨w0.w,R'⟩ ops Q rest ((d,.slice a' (k + m) cap') :: S) H) :
  DoL P n w0 ops Q (⟨some d,.call ⟨.builtin .append,#[x,y],#[t,t]⟩,ty,pos,af,g⟩ :: rest) S H:=fun act w fi hk =>
 append_step hB hR hx hy (hk.at hH).2 hm hl h1 h63 hby fi hk hw hn fun a' cap' R' act' w' h2 h3 h4=>next a' cap' R' h2 act' w' h3 h4
def AllIn (S:yY):yY→Prop
 | []=>True
 | (t,v) :: r=>look S t=some v∧AllIn S r
theorem Fits.all {S':yY} {a:Act} (f:Fits n S a) (h:AllIn S S'):Fits n S' a:=by
 refine ⟨f.size,f.defers,fun t v ht=>f.has t v ?_⟩;induction S' with
 | nil=>cases ht
 | cons x S' ih =>
  obtain ⟨k,u⟩:=x;by_cases e:k=t
  ·subst e;rw [qQC] at ht;cases ht;exact h.1
  ·rw [qZU _ _ e] at ht;exact ih h.2 ht
def zXI (H:Heap):Heap→Prop
 | []=>True
 | (k,x) :: r=>qUE H k=some x∧zXI H r
theorem zKB {H:Heap} {i:Nat} {x:Nat × List Value × TypeId} (h:qUE H i=some x):(i,x) ∈ H:=by
 induction H with
 | nil=>cases h
 | cons y H ih =>
  obtain ⟨k,y⟩:=y;simp only [qUE] at h;cases hb:Nat.beq k i with
  | true =>
   rw [hb] at h; simp at h; subst h;rw [vQU hb];exact vQG
  | false=>rw [hb] at h; simp at h; exact vQV _ (ih h)
theorem heap_uniq:∀ {H:Heap},(H.map (·.2.1)).Nodup→∀ p ∈ H,∀ q ∈ H,p.2.1=q.2.1→p=q:=by
 intro H;induction H with
 | nil=>intro _ p hp; cases hp
 | cons z H ih =>
  intro nd p hp q hq e;rw [List.map_cons,List.nodup_cons] at nd;rcases List.mem_cons.1 hp with p1 | p1
  ·rcases List.mem_cons.1 hq with q1 | q1
   ·rw [p1,q1]
   ·exact absurd (List.mem_map.2 ⟨q,q1,by rw [← e,p1]⟩) nd.1
  ·rcases List.mem_cons.1 hq with q1 | q1
   ·exact absurd (List.mem_map.2 ⟨p,p1,by rw [e,q1]⟩) nd.1
   ·exact ih nd.2 p p1 q q1 e
def idsB:Heap→Bool
 | []=>true
 | (k,_) :: r => !(r.any fun x=>Nat.beq x.1 k) && idsB r
theorem Knows.all {w:World} {H':Heap} (k:Knows w0 H w) (h:zXI H H') (hp:idsB H'=true):Knows w0 H' w:=by
 have hm:∀ x ∈ H',qUE H x.1=some x.2:=by
  clear hp
  induction H' with
  | nil=>intro x hx; cases hx
  | cons z H' ih =>
   intro x hx;rcases List.mem_cons.1 hx with rfl | hx
   ·exact h.1
   ·exact ih h.2 x hx
 have nd:(H'.map (·.2.1)).Nodup:=by
  clear h
  induction H' with
  | nil=>exact List.nodup_nil
  | cons z H' ih =>
   obtain ⟨kz,z⟩:=z;simp only [idsB,vQJ,Bool.not_eq_true'] at hp;rw [List.map_cons,List.nodup_cons];refine ⟨fun hz => ?_,ih hp.2 fun x hx=>hm x (vQV _ hx)⟩;obtain ⟨y,hy,he⟩:=List.mem_map.1 hz;have h1:=zKB (hm _ vQG);have h2:=zKB (hm _ (vQV _ hy));have h3:=heap_uniq k.nodup _ h2 _ h1 he;have h4:y.1=kz:=congrArg Prod.fst h3;have h5:=List.any_eq_false.1 hp.1 y hy;rw [h4] at h5;simp at h5
 refine ⟨k.grow,fun x hx => ?_,nd,fun F hF=>(k.facts F hF).heap fun x hx => ?_,k.apart⟩
 ·obtain ⟨kx,b,cs,t⟩:=x;exact k.at (hm _ hx)
 ·obtain ⟨l,hl⟩:=qGG (hm x hx);exact .inl ⟨_,hl,rfl⟩
theorem AllIn.app {A C:yY} (h:AllIn S A) (h':AllIn S C):AllIn S (A ++ C):=by
 induction A with
 | nil=>exact h'
 | cons x A ih=>exact ⟨h.1,ih h.2⟩
theorem keepS_all {ks:List Nat} {S':yY} (h:zYZ ks S=some S'):AllIn S S':=by
 have hs:=qHC h
 -- each entry of a kept list is looked up as itself
 have own:∀ (ks:List Nat) (S S':yY),zYZ ks S=some S'→∀ A C t v,S'=A ++ (t,v) :: C→look S' t=some v:=by
  intro ks S;induction S generalizing ks with
  | nil=>intro S' h A C t v e; simp [zYZ] at h; subst h; simp at e
  | cons x S ih =>
   obtain ⟨k,u⟩:=x;intro S' h A C t v e;simp only [zYZ] at h;cases hb:ks.any (Nat.beq k) with
   | false=>rw [hb] at h; simp at h; exact ih ks S' h A C t v e
   | true =>
    rw [hb] at h;obtain ⟨S2,h2,rfl⟩:=kK h;cases A with
    | nil =>
     simp only [List.nil_append,List.cons.injEq,vQY] at e;obtain ⟨⟨rfl,rfl⟩,_⟩:=e;exact qQC _ _ _
    | cons y A =>
     simp only [List.cons_append,List.cons.injEq] at e;have h3:=ih _ S2 h2 A C t v e.2;have hne:k ≠ t:=fun hk=>by
      have:=(qHC h2 t v h3).2
      rw [List.mem_filter] at this;have h4:=this.2;rw [hk] at h4;simp at h4
     rw [qZU _ _ hne];exact h3
 have all:∀ C:yY,(∀ A,S'=A ++ C→AllIn S C):=by
  intro C;induction C with
  | nil=>intro _ _; trivial
  | cons x C ih =>
   intro A e;obtain ⟨t,v⟩:=x;exact ⟨(hs t v (own ks S S' h A C t v e)).1,ih (A ++ [(t,v)]) (by rw [e]; simp)⟩
 exact all S' [] rfl
def yJL {α:Type} (n:Nat) (μ:α→Nat) (I:α→Prop) (Wb:α→Base) (St:α→yY) (He:α→Heap) (a:α):Act→World→Prop:=fun act w=>∃ a',I a'∧μ a' < μ a∧Fits n (St a') act∧Knows (Wb a') (He a') w
theorem doC_loop {α:Type} {c:Code} {μ:α→Nat} {I:α→Prop} {Wb:α→Base} {St:α→yY} {He:α→Heap}
  (h:∀ a,I a→DoC P n (Wb a) (Exit.then (yJL n μ I Wb St He a) Q) c (St a) (He a)):∀ a,I a→DoC P n (Wb a) Q (.loop c) (St a) (He a):=by
 have key:∀ (N:Nat) (a:α),I a→μ a < N→∀ act w,Fits n (St a) act→Knows (Wb a) (He a) w→Code.rounds P c Q N act w:=by
  intro N;induction N with
  | zero=>intro a _ hlt; omega
  | succ N ih =>
   intro a ha hlt act w hf hk;rw [rounds_succ];refine wp_mono (h a ha act w hf hk) fun e act' w' hq => ?_
   cases e with
   | normal =>
    obtain ⟨a',h1,h2,h3,h4⟩:=hq;exact ih a' h1 (by omega) act' w' h3 h4
   | _=>exact hq
 exact fun a ha act w hf hk=>wp_loop_rounds (μ a + 1) (key (μ a + 1) a ha (by omega) act w hf hk)
theorem qHV {α:Type} {μ:α→Nat} {I:α→Prop} {Wb:α→Base} {St:α→yY} {He:α→Heap} {a:α} {w1:Base} (a':α) (hI:I a') (hμ:μ a' < μ a) (hb:w1=Wb a') (hS:AllIn S (St a')) (hH:zXI H (He a')) (hid:idsB (He a')=true) :
  qUY n w1 (Exit.then (yJL n μ I Wb St He a) Q) .normal S H:=fun act w f k=>by
 subst hb;exact ⟨a',hI,hμ,f.all hS,k.all hH hid⟩
theorem doC_sub {c:Code} {S':yY} {H':Heap} (hS:AllIn S S') (hH:zXI H H') (hid:idsB H'=true) (h:DoC P n w0 Q c S' H'):DoC P n w0 Q c S H:=fun a w f k=>h a w (f.all hS) (k.all hH hid)
def remH:Heap→Nat→Option Heap
 | [],_=>none
 | (k,x) :: H,i=>bif Nat.beq k i then some H else qXD (k,x) (remH H i)
theorem remH_spec {H H':Heap} {i:Nat} (h:remH H i=some H'):∃ A C x,H=A ++ (i,x) :: C∧H'=A ++ C∧qUE H i=some x:=by
 induction H generalizing H' with
 | nil=>cases h
 | cons y H ih =>
  obtain ⟨k,y⟩:=y;simp only [remH] at h;cases hb:Nat.beq k i with
  | true =>
   rw [hb] at h; simp at h; subst h
   have:=vQU hb
   subst this;exact ⟨[],H,y,rfl,rfl,by simp [qUE]⟩
  | false =>
   rw [hb] at h;obtain ⟨H2,h2,rfl⟩:=kK h;obtain ⟨A,C,x,e1,e2,e3⟩:=ih h2;exact ⟨(k,y) :: A,C,x,by rw [e1]; rfl,by rw [e2]; rfl,by simp [qUE,hb,e3]⟩
theorem Knows.toOwn {w:World} {H':Heap} {id bb len e size:Nat} {cs:List Value} (k:Knows w0 H w) (hH:qUE H id=some (bb,cs,e)) (hr:remH H id=some H') (hl:Nat.beq cs.length (len * size)=true) (hm:Nat.ble len 9223372036854775807=true) :
  Knows ⟨w0.w,(id,ownD (some ⟨bb,0,none⟩),OwnF 0 e size (some ⟨bb,0,none⟩) len len cs) :: w0.R⟩ H' w:=by
 obtain ⟨A,C,x,e1,e2,e3⟩:=remH_spec hr;rw [hH] at e3;cases e3;have hat:=k.at hH;have hsub:H'.Sublist H:=by rw [e1,e2]; exact List.Sublist.append_left (List.sublist_cons_self _ _) _
 have hno:∀ y ∈ H',y.2.1 ≠ bb:=fun y hy e=>by
  have nd:=k.nodup;rw [e1,List.map_append,List.map_cons] at nd;rw [e2] at hy;have h1:=List.nodup_append.1 nd;have h2:=List.nodup_cons.1 h1.2.1;rcases List.mem_append.1 hy with h | h
  ·exact h1.2.2 y.2.1 (List.mem_map.2 ⟨y,h,rfl⟩) bb vQG e
  ·exact h2.1 (List.mem_map.2 ⟨y,h,e⟩)
 have hl':=vQU hl;have hm':=vZJ hm;have hmax:maxLen=9223372036854775807:=rfl;refine ⟨k.grow,fun y hy=>k.has y (hsub.mem hy),(hsub.map _).nodup k.nodup,fun y hy => ?_,List.Pairwise.cons (fun y hy q ⟨ad,h1,h2⟩ hd => ?_) k.apart⟩
 ·rcases List.mem_cons.1 hy with rfl | hy
  ·refine ⟨zKY _ _ _ _ _ _ _,fun q ⟨ad,h1,h2⟩ => ?_,⟨hl',.inr ⟨bb,len,cs.toArray,rfl,Nat.zero_le _,hat.2,Nat.le_refl _,by omega,by simpa using hl',by rw [← hl']; simp⟩⟩⟩;simp only [vQZ] at h1;subst h1;simp only at h2;subst h2;exact ⟨hat.1,qZW hat.2,fun y hy e=>hno y hy e⟩
  ·exact (k.facts y hy).heap fun z hz=>.inl ⟨z,hsub.mem hz,rfl⟩
 ·simp only [vQZ] at h1;subst h1;simp only at h2;subst h2;exact ((k.facts y hy).at' _ hd).2.2 _ (zKB hH) rfl
theorem qWG {c:Code} {H':Heap} {bb e:Nat} {cs:List Value} (id len size:Nat) (hH:qUE H id=some (bb,cs,e)) (hr:remH H id=some H') (hl:Nat.beq cs.length (len * size)=true) (hm:Nat.ble len 9223372036854775807=true)
  (h:DoC P n ⟨w0.w,(id,ownD (some ⟨bb,0,none⟩),OwnF 0 e size (some ⟨bb,0,none⟩) len len cs) :: w0.R⟩ Q c S H'):DoC P n w0 Q c S H:=fun a w f k=>h a w f (k.toOwn hH hr hl hm)
theorem doC_loopK {α:Type} {c:Code} {Sf:yY} {Hf:Heap} (ks ids:List Nat) (μ:α→Nat) (I:α→Prop) (Wb:α→Base) (chg:α→yY) (chgH:α→Heap) (a0:α) (hK:zYZ ks S=some Sf) (_:zWI ids H=some Hf) (h0:I a0) (hb:w0=Wb a0) (hS:AllIn S (chg a0)) (hH:zXI H (chgH a0 ++ Hf)) (hid:idsB (chgH a0 ++ Hf)=true)
  (round:∀ a,I a→DoC P n (Wb a) (Exit.then (yJL n μ I Wb (fun x=>chg x ++ Sf) (fun x=>chgH x ++ Hf) a) Q) c (chg a ++ Sf) (chgH a ++ Hf)):DoC P n w0 Q (.loop c) S H:=by
 subst hb;exact doC_sub (AllIn.app hS (keepS_all hK)) hH hid (doC_loop round a0 h0)
theorem qZZ {w:World} {id:Nat} {D:Nat→Prop} {F:World→Prop} (k:Knows w0 H w) (h:qVQ w0.R id=some (D,F)):Told w0.w.heap.size F w:=by
 obtain ⟨j,hj⟩:=zZL h;obtain ⟨h1,h2,h3⟩:=k.facts _ hj;exact ⟨D,h1,fun q hq=>⟨(h2 q hq).1,(h2 q hq).2.1⟩,h3⟩
theorem Told.imp {m:Nat} {D:Nat→Prop} {F G:World→Prop} {w:World} (hD:qWA D G) (hb:∀ q,D q→m≤q∧q < w.heap.size) (h:G w):Told m G w:=⟨D,hD,hb,h⟩
end
end Go.Sx
namespace Go.Sx
open Go.RowKit
def qJA (sz:Nat) (a:Option Addr) (rows:List (List Value)) (w:World):Prop :=
 ∀ j r,rows[j]? = some r→r.length=sz∧∃ b off,a=some ⟨b,off,none⟩∧b < w.heap.size∧∀ k,k < sz→w.cell? ⟨b,off + j * sz + k,none⟩=r[k]?
theorem slc_grow {sz:Nat} {a:Option Addr} {rows:List (List Value)} {w w':World} (h:qJA sz a rows w) (g:Grow w w'):qJA sz a rows w':=fun j r hj=>by
 obtain ⟨h1,b,off,ha,hb,hc⟩:=h j r hj;exact ⟨h1,b,off,ha,vZZ hb g.size,fun k hk=>by rw [← hc k hk]; exact World.cell?_of_block (w:=w) (g.block b hb)⟩
theorem qYH {w0:Base} {sz:Nat} {a:Option Addr} {rows:List (List Value)} (h:qJA sz a rows w0.w):Holds w0 (qJA sz a rows):=fun _ _ k=>slc_grow h k.grow
theorem qXB {sz:Nat}:∀ (rows:List (List Value)),(∀ r ∈ rows,r.length=sz)→∀ j r,rows[j]? = some r→∀ k,k < sz→rows.flatten[j * sz + k]? = r[k]?
 | [],_,j,r,hj,_,_=>by simp at hj
 | q :: rows,hs,0,r,hj,k,hk=>by
  simp at hj;subst hj
  have:=hs q vQG
  simp only [List.flatten_cons,Nat.zero_mul,Nat.zero_add];rw [List.getElem?_append_left (by omega)]
 | q :: rows,hs,j + 1,r,hj,k,hk=>by
  simp only [List.getElem?_cons_succ] at hj;have hq:=hs q vQG
  have:=qXB rows (fun r hr=>hs r (vQV _ hr)) j r hj k hk
  simp only [List.flatten_cons];rw [List.getElem?_append_right (by rw [hq,Nat.add_mul]; omega),← this]
  congr 1
  rw [hq,Nat.add_mul];omega
theorem zKZ {m e sz cap:Nat} {a:Option Addr} {rows:List (List Value)} {w:World} (hs:∀ r ∈ rows,r.length=sz) (h:OwnF m e sz a cap rows.length rows.flatten w):qJA sz a rows w:=fun j r hj=>by
 have hlt:=(List.getElem?_eq_some_iff.1 hj).1;have hr:=hs r (vQW hj);refine ⟨hr,?_⟩;rcases h.2 with ⟨h1,h2⟩ | ⟨gg,cp,cur,hv,hm,hg,hc1,hc2,hcs,htake⟩
 ·omega
 ·simp only [Value.slice.injEq] at hv;refine ⟨gg,0,hv.1,qZW hg,fun k hk => ?_⟩;have hlt2:j * sz + k < rows.length * sz:=by
   have h1:=Nat.mul_le_mul_right sz (show j + 1≤rows.length by omega);rw [Nat.add_mul] at h1;omega
  rw [← qXB rows hs j r hj k hk,← htake,vZU,if_pos hlt2];simp [World.cell?,hg]
def pAt (a:Option Addr) (k:Nat):Value:=match a with
 | some ad=>.pointer (some ⟨ad.block,ad.off + k,none⟩)
 | none=>undef
section
variable {P:Program} {n:Nat} {w0:Base} {ops:Array Oper} {Q:Exit→Act→World→Prop} {S:yY} {H:Heap}
variable {d:Option Tmp} {ty:TypeId} {pos:String} {af:Array Edge} {g:Option (Nat × Bool)}
variable {sz:Nat} {a:Option Addr} {rows:List (List Value)} {r:List Value}
theorem opV_indexS {t e len cap j:Nat} {x y:Operand} {kd:IntKind} {i:Int} (hS:Holds w0 (qJA sz a rows)) (hA:slcB P t e sz=true) (hx:ev S x=some (.slice a len cap)) (hy:ev S y=some (.int kd i)) (hi:i=(j:Int)) (hj:rows[j]? = some r) (hl:j < len) :
  OpV P w0 S H ⟨d,.indexAddr t x y,ty,pos,af,g⟩ (pAt a (j * sz)) :=
 yG (by simp [yQ,Op.operands,hx,hy]) rfl fun w k=>by
  obtain ⟨_,b,off,rfl,_⟩:=hS H w k j r hj;subst hi;unfold slcB at hA;cases hu:P.underlying t with
  | none=>simp [hu] at hA
  | some ds =>
   cases ds <;> simp [hu] at hA
   rename_i e';obtain ⟨rfl,h2⟩:=hA;cases hinf:P.info? e' with
   | none=>simp [hinf] at h2
   | some inf =>
    simp [hinf] at h2;subst h2;simp [execOp,zQ hx,zQ hy,Instr.indexAt,asIntOf,run_underlying hu,hl,sizeOf,typeInfo,hinf,qYK,pAt]
theorem opV_loadS1 {t:TypeId} {x:Operand} {v:Value} (j o:Nat) (hS:Holds w0 (qJA sz a rows)) (hj:rows[j]? = some r) (hT:tyB P t false 1=true) (hx:ev S x=some (pAt a (j * sz + o))) (hv:r[o]? = some v):OpV P w0 S H ⟨d,.load t x,ty,pos,af,g⟩ v :=
 yG (by simp [yQ,Op.operands,hx]) rfl fun w kn=>by
  obtain ⟨hr,b,off,rfl,_,hc⟩:=hS H w kn j r hj;have ho:o < sz:=by rw [← hr]; exact (List.getElem?_eq_some_iff.1 hv).1
  have:=hc o ho
  rw [hv,Nat.add_assoc] at this;simp [execOp,zQ hx,pAt,Instr.loadAt,Instr.sureAddr,loadVar,qUH hT,this]
variable {X:Type} {Φ:X→Prop} {V:X→Value} {F:X→World→Prop}
end
end Go.Sx
namespace Go.Sx
open Go.RowKit
section
variable {P:Program} {n:Nat} {w0:Base} {ops:Array Oper} {Q:Exit→Act→World→Prop} {S:yY} {H:Heap}
variable {d:Nat} {ty:TypeId} {pos:String} {af:Array Edge} {g:Option (Nat × Bool)}
variable {X:Type} {Φ:X→Prop} {V:X→Value} {F:X→World→Prop}
variable {f:FuncId} {xs:List Operand} {ats:Array TypeId} {vs:List Value} {rest:List Oper} {G:qJW}
variable {σ:Type} {b:Nat→Prop} {w1:Base} {H0:Heap} {Wf:σ→Base} {Hf:σ→Heap} {es:List Nat} {K:σ→yY→qJW→Prop} {ix:Nat} {s s2:σ}
theorem Yields.mono {w:World} {T T':Pred} {r:Result Next} (h:Yields P w T r) (hT:∀ v w',Grow w w'→T v w'→T' v w'):Yields P w T' r:=by
 cases r with
 | ok x w' =>
  cases x <;> simp only [Yields] at h ⊢
  case value v=>exact ⟨h.1,hT v w' h.1 h.2⟩
  case skip=>exact ⟨h.1,hT undef w' h.1 h.2⟩
  case enter ff args=>exact ⟨h.1,h.2.mono fun e w'' ⟨v,h1,h2,h3⟩=>⟨v,h1,h2,hT v w'' (h.1.trans h2) h3⟩⟩
 | halt x w'=>simp only [Yields] at h
variable {tl:List Oper} {Fw:World→Prop}
variable {B:Base} {sb si:Nat} {sl:Value} {L:List Int}
end
end Go.Sx
namespace Go.Sx
open Go.RowKit
section
variable {P:Program} {n:Nat} {w0:Base} {ops:Array Oper} {Q:Exit→Act→World→Prop} {S:yY} {H:Heap}
variable {d:Nat} {ty:TypeId} {pos:String} {af:Array Edge} {g:Option (Nat × Bool)} {rest:List Oper}
theorem Knows.swap {w w':World} {R':zUH} {id:Nat} {D D':Nat→Prop} {F F':World→Prop} (hk:Knows w0 H w) (hR:qVQ w0.R id=some (D,F)) (hg:GrowB D w w') (hD:∀ q,D' q→D q)
  (hd:qWA D' F') (hF:F' w') (hu:updR w0.R id D' F'=some R'):Knows ⟨w0.w,R'⟩ H w':=by
 obtain ⟨R1,R2,kk,x,e1,e2,e3⟩:=updR_spec hu;rw [hR] at e3;cases e3;have hmem:(kk,D,F) ∈ w0.R:=by rw [e1]; simp
 have hfa:=hk.facts _ hmem;have hap:=hk.apart;rw [e1] at hap;have hap1:=List.pairwise_append.1 hap;have hap2:=List.pairwise_cons.1 hap1.2.1;have other:∀ y ∈ w0.R,(∀ q,y.2.1 q→¬ D q)→RFact w0.w.heap.size H y.2.1 y.2.2 w':=fun y hy hn=>by
  have hy2:=hk.facts y hy;exact ⟨hy2.dep,fun q hq=>⟨(hy2.at' q hq).1,vZZ (hy2.at' q hq).2.1 hg.size,(hy2.at' q hq).2.2⟩,hy2.dep w w' (fun q hq=>hg.block q (hy2.at' q hq).2.1 (hn q hq)) hy2.holds⟩
 refine ⟨⟨hg.os.trans hk.grow.os,hg.tape.trans hk.grow.tape,hg.output.trans hk.grow.output,Nat.le_trans hk.grow.size hg.size,fun q hq => ?_⟩,fun y hy => ?_,hk.nodup,fun y hy => ?_,?_⟩
 ·rw [hg.block q (vZZ hq hk.grow.size) fun h=>absurd (hfa.at' q h).1 (Nat.not_le_of_lt hq)];exact hk.grow.block q hq
 ·have h1:=hk.has y hy;exact ⟨h1.1,by rw [hg.block _ (qZW h1.2) fun h=>(hfa.at' _ h).2.2 y hy rfl]; exact h1.2⟩
 ·have hy':y ∈ R1 ++ (kk,D',F') :: R2:=by rw [← e2]; exact hy
  rcases List.mem_append.1 hy' with h | h
  ·exact other y (by rw [e1]; exact List.mem_append_left _ h) fun q hq=>hap1.2.2 y h _ vQG q hq
  ·rcases List.mem_cons.1 h with rfl | h
   ·exact ⟨hd,fun q hq=>⟨(hfa.at' q (hD q hq)).1,vZZ (hfa.at' q (hD q hq)).2.1 hg.size,(hfa.at' q (hD q hq)).2.2⟩,hF⟩
   ·exact other y (by rw [e1]; exact List.mem_append_right _ (vQV _ h)) fun q hq hD2=>hap2.1 y h q hD2 hq
 ·show R'.Pairwise _;rw [e2];refine List.pairwise_append.2 ⟨hap1.1,List.pairwise_cons.2 ⟨fun y hy q hq=>hap2.1 y hy q (hD q hq),hap2.2⟩,fun y hy z hz q hq => ?_⟩;rcases List.mem_cons.1 hz with rfl | hz
  ·exact fun h=>hap1.2.2 y hy _ vQG q hq (hD q h)
  ·exact hap1.2.2 y hy z (vQV _ hz) q hq
theorem run_newObj (w:World) (o:Obj):(newObj o).run P w=.ok w.heap.size (w.alloc o):=rfl
theorem run_getIter {w:World} {b p:Nat} {s:ByteArray} (h:w.heap[b]? = some (.stringIter s p)):(getObj b).run P w=.ok (.stringIter s p) w:=by
 unfold getObj;simp [Sem.run,h]
theorem run_setIter {w:World} {b p:Nat} {s:ByteArray} (o:Obj) (h:w.heap[b]? = some (.stringIter s p)):(setObj b o).run P w=.ok () { w with heap:=w.heap.setIfInBounds b o }:=by
 unfold setObj;simp [Sem.run,h]
theorem setObj_growB {w:World} {b:Nat} {o:Obj}:GrowB (· = b) w { w with heap:=w.heap.setIfInBounds b o } :=
 ⟨rfl,rfl,rfl,by simp,fun k _ hk=>by simp [Array.getElem?_setIfInBounds_ne (Ne.symm hk)]⟩
end
end Go.Sx
namespace Go.Sx
open Go.RowKit
theorem rows_len {sz:Nat}:∀ (rows:List (List Value)),(∀ r ∈ rows,r.length=sz)→rows.flatten.length=rows.length * sz
 | [],_=>by simp
 | r :: rows,h=>by
  rw [List.flatten_cons,List.length_append,h r vQG,rows_len rows fun x hx=>h x (vQV _ hx),vQX,Nat.add_mul];omega
theorem zJI {sz:Nat}:∀ (rows:List (List Value)) (j:Nat) (vs:List Value),(∀ r ∈ rows,r.length=sz)→j < rows.length→vs.length=sz →
  (rows.set j vs).flatten=rows.flatten.take (j * sz) ++ vs ++ rows.flatten.drop (j * sz + sz)
 | [],j,vs,_,hj,_=>by simp at hj
 | r :: rows,0,vs,h,_,hv=>by
  have hr:=h r vQG;simp only [List.set_cons_zero,List.flatten_cons,Nat.zero_mul,List.take_zero,List.nil_append,Nat.zero_add];rw [← hr,List.drop_left]
 | r :: rows,j + 1,vs,h,hj,hv=>by
  have hr:=h r vQG;have ih:=zJI rows j vs (fun x hx=>h x (vQV _ hx)) (by simpa using hj) hv;simp only [List.set_cons_succ,List.flatten_cons];rw [ih,show (j + 1) * sz=r.length + j * sz by rw [Nat.add_mul,hr]; omega,List.take_length_add_append,Nat.add_assoc,List.drop_length_add_append]
  simp
section
variable {P:Program} {n:Nat} {w0:Base} {ops:Array Oper} {Q:Exit→Act→World→Prop} {S:yY} {H:Heap}
variable {ty:TypeId} {pos:String} {af:Array Edge} {g:Option (Nat × Bool)} {rest:List Oper}
end
end Go.Sx
namespace Go.Sx
open Go.RowKit
theorem made_rows {zs:List Value} {sz m:Nat} (hz:zs.length=sz) (h0:0 < sz):madeCells zs.toArray (m * sz)=(List.replicate m zs).flatten.toArray:=by
 have hall:∀ r ∈ List.replicate m zs,r.length=sz:=fun r hr=>by rw [List.eq_of_mem_replicate hr,hz]
 have hlen:=rows_len (sz:=sz) (List.replicate m zs) hall;rw [List.length_replicate] at hlen;apply Array.ext
 ·rw [size_madeCells]; simp only [List.size_toArray]; exact hlen.symm
 ·intro k h1 h2;rw [size_madeCells] at h1;have hd:k / sz < m:=(Nat.div_lt_iff_lt_mul h0).2 h1;have hm:=Nat.mod_lt k h0;have hg:=qXB (sz:=sz) (List.replicate m zs) hall (k / sz) zs (by simp [hd]) (k % sz) hm;rw [show k / sz * sz + k % sz=k by rw [Nat.mul_comm]; exact Nat.div_add_mod k sz] at hg;have e1:(madeCells zs.toArray (m * sz))[k]? = zs[k % sz]?:=by
   simp only [madeCells,Array.getElem?_map,List.size_toArray,hz];rw [Array.getElem?_range,if_pos h1];simp [hz,hm]
  have e2:(List.replicate m zs).flatten.toArray[k]? = zs[k % sz]?:=by rw [List.getElem?_toArray]; exact hg
  have:=e1.trans e2.symm
  rw [vZY (by rw [size_madeCells]; exact h1),vZY h2] at this;exact Option.some.inj this
def qUU (P:Program) (t e sz bytes:Nat) (zs:List Value):Prop:=P.underlying t=some (.slice e)∧∃ i z,P.info? e=some i∧i.zero=some z∧i.size=sz∧i.bytes=bytes∧z.cells.toList=zs∧zs.length=sz∧0 < sz
section
variable {P:Program} {n:Nat} {w0:Base} {ops:Array Oper} {Q:Exit→Act→World→Prop} {S:yY} {H:Heap}
variable {d:Nat} {ty:TypeId} {pos:String} {af:Array Edge} {g:Option (Nat × Bool)} {rest:List Oper}
theorem qJI {t e sz bytes:Nat} {z:Value} (hA:appB P t e sz bytes=true) (hz:qQW P e z):qUU P t e sz bytes z.cells.toList:=by
 unfold appB at hA;unfold qQW at hz;cases hu:P.underlying t with
 | none=>simp [hu] at hA
 | some ds =>
  cases ds <;> simp [hu] at hA
  rename_i e';cases hi:P.info? e with
  | none=>simp [hi] at hA
  | some i =>
   simp only [hi] at hA hz;simp at hz;simp only [hz,vQJ,beq_iff_eq] at hA;obtain ⟨⟨⟨⟨rfl,h2⟩,h3⟩,h4⟩,h5⟩:=hA;exact ⟨hu,i,z,hi,hz,h2,h3,rfl,by simpa using h5,by simpa using h4⟩
end
end Go.Sx
namespace Go.Sx
open Go.RowKit
section
variable {P:Program} {n:Nat} {w0:Base} {ops:Array Oper} {Q:Exit→Act→World→Prop} {S:yY} {H:Heap}
variable {d:Nat} {ty:TypeId} {pos:String} {af:Array Edge} {g:Option (Nat × Bool)} {rest:List Oper}
theorem opV_neA {x y:Operand} {t t':TypeId} {dd:Option Tmp} {xs ys:List Value} (m:Nat) (hm:Nat.ble m 10000=true) (hT:aggB P t=true) (hx:ev S x=some (.agg xs.toArray)) (hy:ev S y=some (.agg ys.toArray)) (hcx:qZG P m t xs=true) (hcy:qZG P m t ys=true) :
  OpV P w0 S H ⟨dd,.binOp .neq t x y t',ty,pos,af,g⟩ (.bool (!eqCells xs ys)) :=
 yG (by simp [yQ,Op.operands,hx,hy]) rfl fun w _=>by
  simp only [aggB,vQJ,Bool.not_eq_true'] at hT;obtain ⟨k,hk⟩:∃ k,k + m=10000:=⟨10000 - m,by have:=vZJ hm; omega⟩
  have h1:=zUW (P:=P) k m t w xs ys hcx hcy;have e1:mkV P t xs=.agg xs.toArray:=by
   unfold mkV;cases hu:P.underlying t with
   | none=>simp [hu] at hT
   | some ds=>cases ds <;> simp [hu] at hT ⊢
  have e2:mkV P t ys=.agg ys.toArray:=by
   unfold mkV;cases hu:P.underlying t with
   | none=>simp [hu] at hT
   | some ds=>cases ds <;> simp [hu] at hT ⊢
  rw [e1,e2,hk] at h1;have h2:=run_eqGuard_agg w .neq t x y xs.toArray ys.toArray hT.2;have h3:=run_neq_struct (P:=P) w t xs.toArray ys.toArray;rw [h1] at h3;simp [execOp,zQ hx,zQ hy,h2,h3]
variable {X Y:Type} {Φ:X→Prop} {V:X→Value} {F:X→World→Prop} {Φ2:Y→Prop} {V2:Y→Value} {F2:Y→World→Prop} {G:qJW} {tl:List Oper} {Fw:World→Prop}
end
end Go.Sx

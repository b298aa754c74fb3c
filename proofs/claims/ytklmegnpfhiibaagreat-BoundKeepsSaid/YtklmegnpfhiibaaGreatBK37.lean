/- Part 37 of the texts behind the last one: rules and contracts. No condition. -/
import Derived.Test.YtklmegnpfhiibaaGreatBK36
open Option.some renaming injEq → vQZ
open Prod.mk renaming injEq → vQY
open Bool renaming and_eq_true → vQJ
open List renaming getElem?_take → vZU, getD_eq_getElem?_getD → vZX
open Classical renaming propDecidable → vYQ
open Go.IntKind renaming wrap → vYW
namespace Go.Proofs.YtklmegnpfhiibaaGreat.Yg
open Go.Rx Rt Go.Sx Go.RowKit Od Na Nb Nc Sn So Sq Xb Xc Ba Bb Xe Xf Xg Xh Xi Xk Xm Xr Xs Xu Xv Xw Ya Yc Ye
noncomputable def rsN (g:Gr) (a b:Int):Nat:=@dite Nat (g.np≤100∧g.ne≤500) (vYQ _) (fun h=>Classical.choose (zHL g a b h.1 h.2)) (fun _=>0)
noncomputable def rsV (g:Gr) (a b:Int):Nat→Int:=@dite (Nat→Int) (g.np≤100∧g.ne≤500) (vYQ _) (fun h=>Classical.choose (Classical.choose_spec (zHL g a b h.1 h.2))) (fun _ _=>0)
theorem snd_rs (g:Gr) (a b:Int) (h:g.np≤100∧g.ne≤500):zY Tryz.prog 16 [.a (gP g),.n .i64 a,.n .i64 b,.n .i64 2] (.v (.t [.a [.lf (rsN g a b) (fQ (rsV g a b)),.n .i64 (rsC g a b)],.b (rsF g a b)])):=by
 unfold rsN rsV;rw [dif_pos h,dif_pos h];exact Classical.choose_spec (Classical.choose_spec (zHL g a b h.1 h.2))
def isSm (ps:List PV):Prop:=zY Tryz.prog 18 ps (.v (.b true))
noncomputable def yZX:List PV→Option (Bool × Ret):=fun ps=>some (Go.Rx.gP (isSm ps),.v (.b true))
theorem ok_sm6:jH Tryz.prog 18 yZX:=fun ps r hh=>by
 unfold yZX at hh;simp only [vQZ,vQY] at hh;obtain ⟨hg,rfl⟩:=hh;exact Go.Rx.gP_spec hg
def pkR (qp:Nat) (qn:Nat→Nat) (qv:Nat→Nat→Int) (qe:Nat) (qd:Nat→Ed) (ol:Nat→Int):PV:=.t [.a [.lf qp (fP qn qv),.lf qe (fE qd)],.lf qp (fQ ol)]
def isPk (qp:Nat) (qn:Nat→Nat) (qv:Nat→Nat→Int) (qe:Nat) (qd:Nat→Ed) (ol:Nat→Int) (ps:List PV):Prop:=zY Tryz.prog 17 ps (.v (pkR qp qn qv qe qd ol))
noncomputable def o_pk (qp:Nat) (qn:Nat→Nat) (qv:Nat→Nat→Int) (qe:Nat) (qd:Nat→Ed) (ol:Nat→Int):List PV→Option (Bool × Ret):=fun ps=>some (Go.Rx.gP (isPk qp qn qv qe qd ol ps),.v (pkR qp qn qv qe qd ol))
theorem ok_pk {qp:Nat} {qn:Nat→Nat} {qv:Nat→Nat→Int} {qe:Nat} {qd:Nat→Ed} {ol:Nat→Int}:jH Tryz.prog 17 (o_pk qp qn qv qe qd ol):=fun ps r hh=>by
 unfold o_pk at hh;simp only [vQZ,vQY] at hh;obtain ⟨hg,rfl⟩:=hh;exact Go.Rx.gP_spec hg
def crs:Gr × Int × Int→Prop:=fun t=>match t with | (g,_,_)=>g.np≤100∧g.ne≤500
def ers:Gr × Int × Int→List PV:=fun t=>match t with | (g,a,b)=>[.a (gP g),.n .i64 a,.n .i64 b,.n .i64 2]
noncomputable def rrs:Gr × Int × Int→Ret:=fun t=>match t with | (g,a,b)=>.v (.t [.a [.lf (rsN g a b) (fQ (rsV g a b)),.n .i64 (rsC g a b)],.b (rsF g a b)])
def drs:List PV→Gr × Int × Int:=fun ps=>match ps with
 | [.a [.lf np pt,.lf ne ed],.n _ a,.n _ b,.n _ _]=>(⟨np,pt,ne,unFE ed⟩,a,b)
 | _=>(⟨0,fun _=>[],0,fun _=>unE []⟩,0,0)
noncomputable def o_rs:List PV→Option (Bool × Ret):=o_fm drs crs ers rrs
theorem ok_rs:jH Tryz.prog 16 o_rs:=qQD fun t h=>by
 obtain ⟨g,a,b⟩:=t;exact snd_rs g a b h
noncomputable def ork1 (N:Nat) (w1:Nat) (e1:Nat→Int) (w2:Nat) (e2:Nat→Int) (a b more:Int) (ja:Nat→J) (ma:Nat→Ms) (na ga:Nat) (tp:Nat) (tn:Nat→Nat) (tv:Nat→Nat→Int) (te:Nat) (ee:Nat→Ed) (qp:Nat) (qn:Nat→Nat) (qv:Nat→Nat→Int) (qe:Nat) (qd:Nat→Ed) (ol:Nat→Int):OrS:=orS [(6,o_cr [] (.v (.b true))),(7,o_cr [.lf w1 (fQ e1)] (.v (.a [.lf na (fJ ja),.lf ga (fM ma)]))),(8,o_cr [.a [.lf na (fJ ja),.lf ga (fM ma)],.lf w2 (fQ e2)] (.v (.a [.lf tp (fP tn tv),.lf te (fE ee)]))),(11,o_rn),(16,o_rs),(17,o_pk qp qn qv qe qd ol),(18,yZX)] []
noncomputable def hk1 (N:Nat) (w1:Nat) (e1:Nat→Int) (w2:Nat) (e2:Nat→Int) (a b more:Int) (ja:Nat→J) (ma:Nat→Ms) (na ga:Nat) (tp:Nat) (tn:Nat→Nat) (tv:Nat→Nat→Int) (te:Nat) (ee:Nat→Ed) (qp:Nat) (qn:Nat→Nat) (qv:Nat→Nat→Int) (qe:Nat) (qd:Nat→Ed) (ol:Nat→Int) (i:Int) (ux:Int) (vx:Int):St:=⟨[(12,.p 12 0),(13,.v (.n .i64 (a % (tp:Int)))),(14,.v (.n .i64 (b % (tp:Int)))),(15,.p 15 0),(17,.p 17 0),(18,.v (.lf qp (fQ ol))),(19,.v (.n .i64 ux)),(20,.v (.n .i64 vx)),(21,.v (.n .i64 i))],[(12,.blk [.v (.lf tp (fP tn tv)),.v (.lf te (fE ee))]),(15,.blk [.v (.lf (rsN (⟨tp,fP tn tv,te,ee⟩:Gr) (a % (tp:Int)) (b % (tp:Int))) (fun v=>[.n .i64 ((rsV (⟨tp,fP tn tv,te,ee⟩:Gr) (a % (tp:Int)) (b % (tp:Int))) v)])),.v (.n .i64 (rsC (⟨tp,fP tn tv,te,ee⟩:Gr) (a % (tp:Int)) (b % (tp:Int))))]),(17,.blk [.v (.lf qp (fP qn qv)),.v (.lf qe (fE qd))])]⟩
set_option maxRecDepth 100000 in
theorem rdk1 (G:St→Option (Ret × Mem)) (K:Cont) (N:Nat) (w1:Nat) (e1:Nat→Int) (w2:Nat) (e2:Nat→Int) (a b more:Int) (ja:Nat→J) (ma:Nat→Ms) (na ga:Nat) (tp:Nat) (tn:Nat→Nat) (tv:Nat→Nat→Int) (te:Nat) (ee:Nat→Ed) (qp:Nat) (qn:Nat→Nat) (qv:Nat→Nat→Int) (qe:Nat) (qd:Nat→Ed) (ol:Nat→Int) (i:Int) (ux:Int) (vx:Int):stpT Tf 4 (ork1 N w1 e1 w2 e2 a b more ja ma na ga tp tn tv te ee qp qn qv qe qd ol) (N + 10) [] [0,1,0,1,1,1,1,1,1,1,1,1] K G (hk1 N w1 e1 w2 e2 a b more ja ma na ga tp tn tv te ee qp qn qv qe qd ol i ux vx) =
 (bif (decide (i < (qp:Int))) then (bif (inB i qp) then (bif (decide ((ol (i).toNat) < 0)) then (K .ret ⟨[(10,.v (.b false)),(15,.p 15 0),(17,.p 17 0),(19,.v (.n .i64 ux)),(20,.v (.n .i64 vx))],[(15,.blk [.v (.lf (rsN (⟨tp,fP tn tv,te,ee⟩:Gr) (a % (tp:Int)) (b % (tp:Int))) (fun v=>[.n .i64 ((rsV (⟨tp,fP tn tv,te,ee⟩:Gr) (a % (tp:Int)) (b % (tp:Int))) v)])),.v (.n .i64 (rsC (⟨tp,fP tn tv,te,ee⟩:Gr) (a % (tp:Int)) (b % (tp:Int))))]),(17,.blk [.v (.lf qp (fP qn qv)),.v (.lf qe (fE qd))])]⟩)
 else (bif (inB i qp) then (bif (decide ((tp:Int)≤(ol (i).toNat))) then (K .ret ⟨[(10,.v (.b false)),(15,.p 15 0),(17,.p 17 0),(19,.v (.n .i64 ux)),(20,.v (.n .i64 vx))],[(15,.blk [.v (.lf (rsN (⟨tp,fP tn tv,te,ee⟩:Gr) (a % (tp:Int)) (b % (tp:Int))) (fun v=>[.n .i64 ((rsV (⟨tp,fP tn tv,te,ee⟩:Gr) (a % (tp:Int)) (b % (tp:Int))) v)])),.v (.n .i64 (rsC (⟨tp,fP tn tv,te,ee⟩:Gr) (a % (tp:Int)) (b % (tp:Int))))]),(17,.blk [.v (.lf qp (fP qn qv)),.v (.lf qe (fE qd))])]⟩)
 else (bif (inB i qp) then (bif (inB i qp) then (bif (inB (ol (i).toNat) tp) then (bif (Go.Rx.gP (isSm [.lf (qn (i).toNat) (fun w=>[.n .i64 (qv (i).toNat w)]),.lf (tn ((ol (i).toNat)).toNat) (fun w=>[.n .i64 (tv ((ol (i).toNat)).toNat w)])])) then (bif (inB i qp) then (bif (decide ((ol (i).toNat)=(a % (tp:Int)))) then (bif (inB i qp) then (bif (decide ((ol (i).toNat)=(b % (tp:Int)))) then (G (hk1 N w1 e1 w2 e2 a b more ja ma na ga tp tn tv te ee qp qn qv qe qd ol (vYW .i64 (i + 1)) i i))
 else (G (hk1 N w1 e1 w2 e2 a b more ja ma na ga tp tn tv te ee qp qn qv qe qd ol (vYW .i64 (i + 1)) i vx)))
 else none)
 else (bif (inB i qp) then (bif (decide ((ol (i).toNat)=(b % (tp:Int)))) then (G (hk1 N w1 e1 w2 e2 a b more ja ma na ga tp tn tv te ee qp qn qv qe qd ol (vYW .i64 (i + 1)) ux i))
 else (G (hk1 N w1 e1 w2 e2 a b more ja ma na ga tp tn tv te ee qp qn qv qe qd ol (vYW .i64 (i + 1)) ux vx)))
 else none))
 else none)
 else none)
 else none)
 else none)
 else none))
 else none))
 else none)
 else (K (.exit 0) ⟨[(15,.p 15 0),(17,.p 17 0),(19,.v (.n .i64 ux)),(20,.v (.n .i64 vx))],[(15,.blk [.v (.lf (rsN (⟨tp,fP tn tv,te,ee⟩:Gr) (a % (tp:Int)) (b % (tp:Int))) (fun v=>[.n .i64 ((rsV (⟨tp,fP tn tv,te,ee⟩:Gr) (a % (tp:Int)) (b % (tp:Int))) v)])),.v (.n .i64 (rsC (⟨tp,fP tn tv,te,ee⟩:Gr) (a % (tp:Int)) (b % (tp:Int))))]),(17,.blk [.v (.lf qp (fP qn qv)),.v (.lf qe (fE qd))])]⟩)):=by kernel_rfl
noncomputable def dck1 (w1:Nat) (e1:Nat→Int) (w2:Nat) (e2:Nat→Int) (a b more:Int) (ja:Nat→J) (ma:Nat→Ms) (na ga:Nat) (tp:Nat) (tn:Nat→Nat) (tv:Nat→Nat→Int) (te:Nat) (ee:Nat→Ed) (qp:Nat) (qn:Nat→Nat) (qv:Nat→Nat→Int) (qe:Nat) (qd:Nat→Ed) (ol:Nat→Int):(Int × Int × Int)→(Int × Int × Int) ⊕ (Nat × Int × Int × Int):=fun t=>match t with | (i,ux,vx)=>(bif (decide (i < (qp:Int))) then (bif (inB i qp) then (bif (decide ((ol (i).toNat) < 0)) then (.inr (0,(i,ux,vx))) else (bif (decide ((tp:Int)≤(ol (i).toNat))) then (.inr (0,(i,ux,vx))) else (bif (inB (ol (i).toNat) tp) then (bif (Go.Rx.gP (isSm [.lf (qn (i).toNat) (fun w=>[.n .i64 (qv (i).toNat w)]),.lf (tn ((ol (i).toNat)).toNat) (fun w=>[.n .i64 (tv ((ol (i).toNat)).toNat w)])])) then (bif (decide ((ol (i).toNat)=(a % (tp:Int)))) then (bif (decide ((ol (i).toNat)=(b % (tp:Int)))) then (.inl ((vYW .i64 (i + 1)),i,i)) else (.inl ((vYW .i64 (i + 1)),i,vx))) else (bif (decide ((ol (i).toNat)=(b % (tp:Int)))) then (.inl ((vYW .i64 (i + 1)),ux,i)) else (.inl ((vYW .i64 (i + 1)),ux,vx)))) else (.inr (2,(i,ux,vx)))) else (.inr (2,(i,ux,vx)))))) else (.inr (2,(i,ux,vx)))) else (.inr (1,(i,ux,vx))))
noncomputable def kxk1 (N:Nat) (w1:Nat) (e1:Nat→Int) (w2:Nat) (e2:Nat→Int) (a b more:Int) (ja:Nat→J) (ma:Nat→Ms) (na ga:Nat) (tp:Nat) (tn:Nat→Nat) (tv:Nat→Nat→Int) (te:Nat) (ee:Nat→Ed) (qp:Nat) (qn:Nat→Nat) (qv:Nat→Nat→Int) (qe:Nat) (qd:Nat→Ed) (ol:Nat→Int) (K:Cont) (w9:Nat × Int × Int × Int):Option (Ret × Mem):=bif Nat.beq w9.1 0 then (K .ret ⟨[(10,.v (.b false)),(15,.p 15 0),(17,.p 17 0),(19,.v (.n .i64 w9.2.2.1)),(20,.v (.n .i64 w9.2.2.2))],[(15,.blk [.v (.lf (rsN (⟨tp,fP tn tv,te,ee⟩:Gr) (a % (tp:Int)) (b % (tp:Int))) (fun v=>[.n .i64 ((rsV (⟨tp,fP tn tv,te,ee⟩:Gr) (a % (tp:Int)) (b % (tp:Int))) v)])),.v (.n .i64 (rsC (⟨tp,fP tn tv,te,ee⟩:Gr) (a % (tp:Int)) (b % (tp:Int))))]),(17,.blk [.v (.lf qp (fP qn qv)),.v (.lf qe (fE qd))])]⟩) else bif Nat.beq w9.1 1 then (K (.exit 0) ⟨[(15,.p 15 0),(17,.p 17 0),(19,.v (.n .i64 w9.2.2.1)),(20,.v (.n .i64 w9.2.2.2))],[(15,.blk [.v (.lf (rsN (⟨tp,fP tn tv,te,ee⟩:Gr) (a % (tp:Int)) (b % (tp:Int))) (fun v=>[.n .i64 ((rsV (⟨tp,fP tn tv,te,ee⟩:Gr) (a % (tp:Int)) (b % (tp:Int))) v)])),.v (.n .i64 (rsC (⟨tp,fP tn tv,te,ee⟩:Gr) (a % (tp:Int)) (b % (tp:Int))))]),(17,.blk [.v (.lf qp (fP qn qv)),.v (.lf qe (fE qd))])]⟩) else none
theorem wlk1 (K:Cont) (N:Nat) (w1:Nat) (e1:Nat→Int) (w2:Nat) (e2:Nat→Int) (a b more:Int) (ja:Nat→J) (ma:Nat→Ms) (na ga:Nat) (tp:Nat) (tn:Nat→Nat) (tv:Nat→Nat→Int) (te:Nat) (ee:Nat→Ed) (qp:Nat) (qn:Nat→Nat) (qv:Nat→Nat→Int) (qe:Nat) (qd:Nat→Ed) (ol:Nat→Int):∀ n9 (t:(Int × Int × Int)),LFT Tf 4 (ork1 N w1 e1 w2 e2 a b more ja ma na ga tp tn tv te ee qp qn qv qe qd ol) (N + 10) [] [0,1,0,1,1,1,1,1,1,1,1,1] K n9 (hk1 N w1 e1 w2 e2 a b more ja ma na ga tp tn tv te ee qp qn qv qe qd ol t.1 t.2.1 t.2.2)=(qG (dck1 w1 e1 w2 e2 a b more ja ma na ga tp tn tv te ee qp qn qv qe qd ol) n9 t).bind (kxk1 N w1 e1 w2 e2 a b more ja ma na ga tp tn tv te ee qp qn qv qe qd ol K):=fun n9 t=>by
 refine qYG (L:=LFT Tf 4 (ork1 N w1 e1 w2 e2 a b more ja ma na ga tp tn tv te ee qp qn qv qe qd ol) (N + 10) [] [0,1,0,1,1,1,1,1,1,1,1,1] K) (stp:=stpT Tf 4 (ork1 N w1 e1 w2 e2 a b more ja ma na ga tp tn tv te ee qp qn qv qe qd ol) (N + 10) [] [0,1,0,1,1,1,1,1,1,1,1,1] K) (fun _ _=>rfl) (fun _=>rfl) (fun t=>hk1 N w1 e1 w2 e2 a b more ja ma na ga tp tn tv te ee qp qn qv qe qd ol t.1 t.2.1 t.2.2) (fun _=>True) (dck1 w1 e1 w2 e2 a b more ja ma na ga tp tn tv te ee qp qn qv qe qd ol) (kxk1 N w1 e1 w2 e2 a b more ja ma na ga tp tn tv te ee qp qn qv qe qd ol K) (fun G t _ => ?_) (fun _ _ _ _=>trivial) n9 t trivial;obtain ⟨i,ux,vx⟩:=t;refine (rdk1 G K N w1 e1 w2 e2 a b more ja ma na ga tp tn tv te ee qp qn qv qe qd ol i ux vx).trans ?_;dsimp only [dck1];cases (decide (i < (qp:Int)))
 ·rfl
 ·cases (inB i qp)
  ·rfl
  ·cases (decide ((ol (i).toNat) < 0))
   ·cases (decide ((tp:Int)≤(ol (i).toNat)))
    ·cases (inB (ol (i).toNat) tp)
     ·rfl
     ·cases (Go.Rx.gP (isSm [.lf (qn (i).toNat) (fun w=>[.n .i64 (qv (i).toNat w)]),.lf (tn ((ol (i).toNat)).toNat) (fun w=>[.n .i64 (tv ((ol (i).toNat)).toNat w)])]))
      ·rfl
      ·cases (decide ((ol (i).toNat)=(a % (tp:Int))))
       ·cases (decide ((ol (i).toNat)=(b % (tp:Int))))
        ·rfl
        ·rfl
       ·cases (decide ((ol (i).toNat)=(b % (tp:Int))))
        ·rfl
        ·rfl
    ·rfl
   ·rfl
noncomputable def zHX (N:Nat) (w1:Nat) (e1:Nat→Int) (w2:Nat) (e2:Nat→Int) (a b more:Int) (ja:Nat→J) (ma:Nat→Ms) (na ga:Nat) (tp:Nat) (tn:Nat→Nat) (tv:Nat→Nat→Int) (te:Nat) (ee:Nat→Ed) (qp:Nat) (qn:Nat→Nat) (qv:Nat→Nat→Int) (qe:Nat) (qd:Nat→Ed) (ol:Nat→Int) (t:(Int × Int × Int)):Bool:=(qG (dck1 w1 e1 w2 e2 a b more ja ma na ga tp tn tv te ee qp qn qv qe qd ol) (N + 10) t).isSome
noncomputable def qHH (N:Nat) (w1:Nat) (e1:Nat→Int) (w2:Nat) (e2:Nat→Int) (a b more:Int) (ja:Nat→J) (ma:Nat→Ms) (na ga:Nat) (tp:Nat) (tn:Nat→Nat) (tv:Nat→Nat→Int) (te:Nat) (ee:Nat→Ed) (qp:Nat) (qn:Nat→Nat) (qv:Nat→Nat→Int) (qe:Nat) (qd:Nat→Ed) (ol:Nat→Int) (t:(Int × Int × Int)):Nat × Int × Int × Int:=(qG (dck1 w1 e1 w2 e2 a b more ja ma na ga tp tn tv te ee qp qn qv qe qd ol) (N + 10) t).getD (99,t)
theorem lwk1 (K:Cont) (N:Nat) (w1:Nat) (e1:Nat→Int) (w2:Nat) (e2:Nat→Int) (a b more:Int) (ja:Nat→J) (ma:Nat→Ms) (na ga:Nat) (tp:Nat) (tn:Nat→Nat) (tv:Nat→Nat→Int) (te:Nat) (ee:Nat→Ed) (qp:Nat) (qn:Nat→Nat) (qv:Nat→Nat→Int) (qe:Nat) (qd:Nat→Ed) (ol:Nat→Int) (t:(Int × Int × Int)) (hg:zHX N w1 e1 w2 e2 a b more ja ma na ga tp tn tv te ee qp qn qv qe qd ol t=true):LFT Tf 4 (ork1 N w1 e1 w2 e2 a b more ja ma na ga tp tn tv te ee qp qn qv qe qd ol) (N + 10) [] [0,1,0,1,1,1,1,1,1,1,1,1] K (N + 10) (hk1 N w1 e1 w2 e2 a b more ja ma na ga tp tn tv te ee qp qn qv qe qd ol t.1 t.2.1 t.2.2)=kxk1 N w1 e1 w2 e2 a b more ja ma na ga tp tn tv te ee qp qn qv qe qd ol K (qHH N w1 e1 w2 e2 a b more ja ma na ga tp tn tv te ee qp qn qv qe qd ol t):=by
 refine (wlk1 K N w1 e1 w2 e2 a b more ja ma na ga tp tn tv te ee qp qn qv qe qd ol (N + 10) t).trans ?_;unfold zHX at hg;unfold qHH;cases h:qG (dck1 w1 e1 w2 e2 a b more ja ma na ga tp tn tv te ee qp qn qv qe qd ol) (N + 10) t with
 | none=>rw [h] at hg; cases hg
 | some y=>rfl
structure PkO (tp:Nat) (tn:Nat→Nat) (tv:Nat→Nat→Int) (qp:Nat) (qn:Nat→Nat) (qv:Nat→Nat→Int) (ol:Nat→Int) (u0 v0 xu xv:Nat):Prop where
 q:qp≤50
 o:∀ i,i < qp→∃ j:Nat,j < tp∧ol i=(j:Int)∧isSm [.lf (qn i) (fun w=>[.n .i64 (qv i w)]),.lf (tn j) (fun w=>[.n .i64 (tv j w)])]
 x:xu < qp∧∀ i,i < qp→(ol i=(u0:Int) ↔ i=xu)
 y:xv < qp∧∀ i,i < qp→(ol i=(v0:Int) ↔ i=xv)
section
variable {w1:Nat} {e1:Nat→Int} {w2:Nat} {e2:Nat→Int} {a b more:Int} {ja:Nat→J} {ma:Nat→Ms} {na ga:Nat} {tp:Nat} {tn:Nat→Nat} {tv:Nat→Nat→Int} {te:Nat} {ee:Nat→Ed} {qp:Nat} {qn:Nat→Nat} {qv:Nat→Nat→Int} {qe:Nat} {qd:Nat→Ed} {ol:Nat→Int} {u0 v0 xu xv:Nat} (hu:a % (tp:Int)=(u0:Int)) (hv:b % (tp:Int)=(v0:Int)) (h:PkO tp tn tv qp qn qv ol u0 v0 xu xv)
include hu hv h
theorem yQG:∀ (d i M:Nat) (ux vx:Int),i + d=qp→d < M→(ux=if xu < i then (xu:Int) else -1)→(vx=if xv < i then (xv:Int) else -1)→qG (dck1 w1 e1 w2 e2 a b more ja ma na ga tp tn tv te ee qp qn qv qe qd ol) M ((i:Int),ux,vx)=some (1,(qp:Int),(xu:Int),(xv:Int))
 | _,_,0,_,_,_,h,_,_=>by omega
 | 0,i,M + 1,ux,vx,hd,_,h1,h2=>by
  obtain rfl:i=qp:=by omega
  rw [if_pos h.x.1] at h1;rw [if_pos h.y.1] at h2;subst h1 h2;rw [qG];dsimp only [dck1];rw [vYJ (show ¬ (i:Int) < (i:Int) by omega)];rfl
 | d + 1,i,M + 1,ux,vx,hd,hM,h1,h2=>by
  have hi:i < qp:=by omega
  have hq:=h.q;obtain ⟨j,j1,j2,j3⟩:=h.o i hi;have hx:=h.x.2 i hi;have hy:=h.y.2 i hi;rw [j2] at hx hy;rw [qG];dsimp only [dck1];simp only [toN,hu,hv,vYK (show (i:Int) < (qp:Int) by omega),zU hi,j2,vYJ (show ¬ (j:Int) < 0 by omega),vYJ (show ¬ (tp:Int)≤(j:Int) by omega),zU j1,Go.Rx.gP_of j3,vYZ,vYY,jG (show i < 1000000 by omega)];by_cases a1:i=xu
  ·have e1:=hx.2 a1;have n1:(i:Int)=if xu < i + 1 then (xu:Int) else -1:=by rw [if_pos (by omega)]; omega
   rw [vYK e1,vYZ];by_cases a2:i=xv
   ·have e2:=hy.2 a2;rw [vYK e2,vYZ];exact yQG d (i + 1) M _ _ (by omega) (by omega) n1 (by rw [if_pos (by omega)]; omega)
   ·rw [vYJ (fun e=>a2 (hy.1 e)),vYY];exact yQG d (i + 1) M _ _ (by omega) (by omega) n1 (by
     rw [h2];by_cases l:xv < i
     ·rw [if_pos l,if_pos (by omega)]
     ·rw [if_neg l,if_neg (by omega)])
  ·have n1:ux=if xu < i + 1 then (xu:Int) else -1:=by
    rw [h1];by_cases l:xu < i
    ·rw [if_pos l,if_pos (by omega)]
    ·rw [if_neg l,if_neg (by omega)]
   rw [vYJ (fun e=>a1 (hx.1 e)),vYY];by_cases a2:i=xv
   ·have e2:=hy.2 a2;rw [vYK e2,vYZ];exact yQG d (i + 1) M _ _ (by omega) (by omega) n1 (by rw [if_pos (by omega)]; omega)
   ·rw [vYJ (fun e=>a2 (hy.1 e)),vYY];exact yQG d (i + 1) M _ _ (by omega) (by omega) n1 (by
     rw [h2];by_cases l:xv < i
     ·rw [if_pos l,if_pos (by omega)]
     ·rw [if_neg l,if_neg (by omega)])
end
noncomputable def yYJ (N:Nat) (w1:Nat) (e1:Nat→Int) (w2:Nat) (e2:Nat→Int) (a b more:Int) (ja:Nat→J) (ma:Nat→Ms) (na ga:Nat) (tp:Nat) (tn:Nat→Nat) (tv:Nat→Nat→Int) (te:Nat) (ee:Nat→Ed) (qp:Nat) (qn:Nat→Nat) (qv:Nat→Nat→Int) (qe:Nat) (qd:Nat→Ed) (ol:Nat→Int):List (List Nat × yV):=[([0,1,0,1,1,1,1,1,1,1,1,1],sumF (fun t:(Int × Int × Int)=>(hk1 N w1 e1 w2 e2 a b more ja ma na ga tp tn tv te ee qp qn qv qe qd ol t.1 t.2.1 t.2.2)) (fun σ=>(slI σ 21,slI σ 19,slI σ 20)) (fun t K=>(bif zHX N w1 e1 w2 e2 a b more ja ma na ga tp tn tv te ee qp qn qv qe qd ol t then kxk1 N w1 e1 w2 e2 a b more ja ma na ga tp tn tv te ee qp qn qv qe qd ol K (qHH N w1 e1 w2 e2 a b more ja ma na ga tp tn tv te ee qp qn qv qe qd ol t) else none)))]
set_option maxRecDepth 100000 in
theorem pxlbk (N:Nat) (w1:Nat) (e1:Nat→Int) (w2:Nat) (e2:Nat→Int) (a b more:Int) (ja:Nat→J) (ma:Nat→Ms) (na ga:Nat) (tp:Nat) (tn:Nat→Nat) (tv:Nat→Nat→Int) (te:Nat) (ee:Nat→Ed) (qp:Nat) (qn:Nat→Nat) (qv:Nat→Nat→Int) (qe:Nat) (qd:Nat→Ed) (ol:Nat→Int):qQI Tf (ork1 N w1 e1 w2 e2 a b more ja ma na ga tp tn tv te ee qp qn qv qe qd ol) (qY (yYJ N w1 e1 w2 e2 a b more ja ma na ga tp tn tv te ee qp qn qv qe qd ol)) (N + 10) 4 [.lf w1 (fQ e1),.lf w2 (fQ e2),.n .i64 a,.n .i64 b,.n .i64 more] =
 (bif (g1 [.lf w1 (fQ e1)]) then (bif (g1 [.a [.lf na (fJ ja),.lf ga (fM ma)],.lf w2 (fQ e2)]) then (bif (gF1 crn ern (a,(tp:Int))) then (bif (gF1 crn ern (b,(tp:Int))) then (bif (gF1 crs ers ((⟨tp,fP tn tv,te,ee⟩:Gr),(a % (tp:Int)),(b % (tp:Int)))) then (bif (rsF (⟨tp,fP tn tv,te,ee⟩:Gr) (a % (tp:Int)) (b % (tp:Int))) then (bif (gF1 crn ern (more,3)) then (bif (gF1 crn ern (more,9000)) then (bif (Go.Rx.gP (isPk qp qn qv qe qd ol [.a [.lf na (fJ ja),.lf ga (fM ma)],.a [.lf tp (fP tn tv),.lf te (fE ee)],.n .i64 (a % (tp:Int)),.n .i64 (b % (tp:Int)),.n .i64 (vYW .i64 ((rsC (⟨tp,fP tn tv,te,ee⟩:Gr) (a % (tp:Int)) (b % (tp:Int))) + (vYW .i64 ((more % 3) * (more % 9000)))))])) then (bif (!decide ((qp:Int)=(qp:Int))) then some (.v (.b false),[])
 else (bif (gSt (hk1 N w1 e1 w2 e2 a b more ja ma na ga tp tn tv te ee qp qn qv qe qd ol 0 (-1) (-1)) (hk1 N w1 e1 w2 e2 a b more ja ma na ga tp tn tv te ee qp qn qv qe qd ol 0 (-1) (-1))) then (bif (zHX N w1 e1 w2 e2 a b more ja ma na ga tp tn tv te ee qp qn qv qe qd ol (0,(-1),(-1))) then (bif (Nat.beq (qHH N w1 e1 w2 e2 a b more ja ma na ga tp tn tv te ee qp qn qv qe qd ol (0,(-1),(-1))).1 0) then some (.v (.b false),[])
 else (bif (Nat.beq (qHH N w1 e1 w2 e2 a b more ja ma na ga tp tn tv te ee qp qn qv qe qd ol (0,(-1),(-1))).1 1) then (bif (gF1 crs ers ((⟨qp,fP qn qv,qe,qd⟩:Gr),((qHH N w1 e1 w2 e2 a b more ja ma na ga tp tn tv te ee qp qn qv qe qd ol (0,(-1),(-1))).2.2.1),((qHH N w1 e1 w2 e2 a b more ja ma na ga tp tn tv te ee qp qn qv qe qd ol (0,(-1),(-1))).2.2.2))) then (bif (rsF (⟨qp,fP qn qv,qe,qd⟩:Gr) ((qHH N w1 e1 w2 e2 a b more ja ma na ga tp tn tv te ee qp qn qv qe qd ol (0,(-1),(-1))).2.2.1) ((qHH N w1 e1 w2 e2 a b more ja ma na ga tp tn tv te ee qp qn qv qe qd ol (0,(-1),(-1))).2.2.2)) then (bif (g1 []) then (bif (decide ((rsC (⟨qp,fP qn qv,qe,qd⟩:Gr) ((qHH N w1 e1 w2 e2 a b more ja ma na ga tp tn tv te ee qp qn qv qe qd ol (0,(-1),(-1))).2.2.1) ((qHH N w1 e1 w2 e2 a b more ja ma na ga tp tn tv te ee qp qn qv qe qd ol (0,(-1),(-1))).2.2.2))=(rsC (⟨tp,fP tn tv,te,ee⟩:Gr) (a % (tp:Int)) (b % (tp:Int))))) then some (.v (.b true),[])
 else some (.v (.b false),[]))
 else none)
 else (bif (g1 []) then some (.v (.b false),[])
 else none))
 else none)
 else none))
 else none)
 else none))
 else none)
 else none)
 else none)
 else (bif (g1 []) then some (.v (.b true),[])
 else none))
 else none)
 else none)
 else none)
 else none)
 else none):=by kernel_rfl
theorem snd_lbk (N:Nat) (w1:Nat) (e1:Nat→Int) (w2:Nat) (e2:Nat→Int) (a b more:Int) (ja:Nat→J) (ma:Nat→Ms) (na ga:Nat) (tp:Nat) (tn:Nat→Nat) (tv:Nat→Nat→Int) (te:Nat) (ee:Nat→Ed) (qp:Nat) (qn:Nat→Nat) (qv:Nat→Nat→Int) (qe:Nat) (qd:Nat→Ed) (ol:Nat→Int) (hA:zY Tryz.prog 6 [] (.v (.b true))) (hR:zY Tryz.prog 7 [.lf w1 (fQ e1)] (.v (.a [.lf na (fJ ja),.lf ga (fM ma)]))) (hM:zY Tryz.prog 8 [.a [.lf na (fJ ja),.lf ga (fM ma)],.lf w2 (fQ e2)] (.v (.a [.lf tp (fP tn tv),.lf te (fE ee)]))) (ht:0 < tp∧tp≤100) (hte:te≤500) (hk:rsF (⟨tp,fP tn tv,te,ee⟩:Gr) (a % (tp:Int)) (b % (tp:Int))=true→∃ u0 v0 xu xv:Nat,a % (tp:Int)=(u0:Int)∧b % (tp:Int)=(v0:Int)∧PkO tp tn tv qp qn qv ol u0 v0 xu xv∧isPk qp qn qv qe qd ol [.a [.lf na (fJ ja),.lf ga (fM ma)],.a [.lf tp (fP tn tv),.lf te (fE ee)],.n .i64 (a % (tp:Int)),.n .i64 (b % (tp:Int)),.n .i64 (vYW .i64 ((rsC (⟨tp,fP tn tv,te,ee⟩:Gr) (a % (tp:Int)) (b % (tp:Int))) + (vYW .i64 ((more % 3) * (more % 9000)))))]∧qe≤500∧rsF (⟨qp,fP qn qv,qe,qd⟩:Gr) (xu:Int) (xv:Int)=true∧rsC (⟨qp,fP qn qv,qe,qd⟩:Gr) (xu:Int) (xv:Int)=rsC (⟨tp,fP tn tv,te,ee⟩:Gr) (a % (tp:Int)) (b % (tp:Int))) (hN:60≤N):zY Tryz.prog 4 [.lf w1 (fQ e1),.lf w2 (fQ e2),.n .i64 a,.n .i64 b,.n .i64 more] (.v (.b true)):=by
 refine qH (N:=(N + 10)) (LO:=qY (yYJ N w1 e1 w2 e2 a b more ja ma na ga tp tn tv te ee qp qn qv qe qd ol)) jY yH (jK (l:=[(6,o_cr [] (.v (.b true))),(7,o_cr [.lf w1 (fQ e1)] (.v (.a [.lf na (fJ ja),.lf ga (fM ma)]))),(8,o_cr [.a [.lf na (fJ ja),.lf ga (fM ma)],.lf w2 (fQ e2)] (.v (.a [.lf tp (fP tn tv),.lf te (fE ee)]))),(11,o_rn),(16,o_rs),(17,o_pk qp qn qv qe qd ol),(18,yZX)]) (m:=[]) ⟨qWW hA,qWW hR,qWW hM,Sn.ok_rn,ok_rs,ok_pk,ok_sm6,trivial⟩ trivial) (fun p S hp => ?_) ?_
 ·refine qX (L:=qZ Tf 4) (l:=(yYJ N w1 e1 w2 e2 a b more ja ma na ga tp tn tv te ee qp qn qv qe qd ol)) (show AllP _ (yYJ N w1 e1 w2 e2 a b more ja ma na ga tp tn tv te ee qp qn qv qe qd ol) from ⟨?_,trivial⟩) p S hp
  ·dsimp only;refine jQ (T:=Tf) (o:=(ork1 N w1 e1 w2 e2 a b more ja ma na ga tp tn tv te ee qp qn qv qe qd ol)) (f:=4) (LO:=qY []) (p:=[0,1,0,1,1,1,1,1,1,1,1,1]) jU ?_;intro t K r hr;obtain ⟨hg,hr⟩:=qQ hr
   skip
   exact (lwk1 K N w1 e1 w2 e2 a b more ja ma na ga tp tn tv te ee qp qn qv qe qd ol t hg).trans hr
 ·refine (pxlbk N w1 e1 w2 e2 a b more ja ma na ga tp tn tv te ee qp qn qv qe qd ol).trans ?_;simp only [g1_t,jV (C:=crn) (t:=(a,(tp:Int))) ⟨by omega,by omega⟩,jV (C:=crn) (t:=(b,(tp:Int))) ⟨by omega,by omega⟩,jV (C:=crn) (t:=(more,3)) ⟨by decide,by decide⟩,jV (C:=crn) (t:=(more,9000)) ⟨by decide,by decide⟩,jV (C:=crs) (t:=((⟨tp,fP tn tv,te,ee⟩:Gr),a % (tp:Int),b % (tp:Int))) ⟨ht.2,hte⟩,vYZ];cases hc:rsF (⟨tp,fP tn tv,te,ee⟩:Gr) (a % (tp:Int)) (b % (tp:Int)) with
  | false=>rfl
  | true =>
   obtain ⟨u0,v0,xu,xv,k1,k2,k3,k4,k5,k6,k7⟩:=hk hc;have hq:=k3.q;have e:=yQG (w1:=w1) (e1:=e1) (w2:=w2) (e2:=e2) (more:=more) (ja:=ja) (ma:=ma) (na:=na) (ga:=ga) (te:=te) (ee:=ee) (qe:=qe) (qd:=qd) k1 k2 k3 qp 0 (N + 10) (-1) (-1) (by omega) (by omega) (by rw [if_neg (by omega)]) (by rw [if_neg (by omega)]);have e:qG (dck1 w1 e1 w2 e2 a b more ja ma na ga tp tn tv te ee qp qn qv qe qd ol) (N + 10) (0,-1,-1)=some (1,(qp:Int),(xu:Int),(xv:Int)):=e;have o1:zHX N w1 e1 w2 e2 a b more ja ma na ga tp tn tv te ee qp qn qv qe qd ol (0,-1,-1)=true:=by unfold zHX; rw [e]; rfl
   have o2:qHH N w1 e1 w2 e2 a b more ja ma na ga tp tn tv te ee qp qn qv qe qd ol (0,-1,-1)=(1,(qp:Int),(xu:Int),(xv:Int)):=by unfold qHH; rw [e]; rfl
   simp only [Go.Rx.gP_of k4,decide_true,Bool.not_true,zW,o1,o2,Nat.beq_refl,vYZ,vYY,jV (C:=crs) (t:=((⟨qp,fP qn qv,qe,qd⟩:Gr),(xu:Int),(xv:Int))) ⟨show qp≤100 by omega,k5⟩,k6,k7];rfl
end Go.Proofs.YtklmegnpfhiibaaGreat.Yg
namespace Go.Proofs.YtklmegnpfhiibaaGreat.Yh
open Go.Rx Rt Go.Sx Go.RowKit Od Na Nb Nc Sn So Sq Xb Xc Ba Bb Xe Xf Xg Xh Xi Xk Xm Xn Xp Xr Xs Xu Xv Xw Ya Yc Ye Yf Yg
theorem best_ge {c more:Int} (_:0≤c∧c≤109951162777600):c≤vYW .i64 (c + vYW .i64 ((more % 3) * (more % 9000))):=by
 have h1:=Int.emod_nonneg more (show (3:Int) ≠ 0 by omega);have h2:=Int.emod_lt_of_pos more (show (0:Int) < 3 by omega);have h3:=Int.emod_nonneg more (show (9000:Int) ≠ 0 by omega);have h4:=Int.emod_lt_of_pos more (show (0:Int) < 9000 by omega);generalize more % 3=x at h1 h2;generalize more % 9000=y at h3 h4;have h5:0≤x * y:=Int.mul_nonneg h1 h3;have h6:x * y≤3 * 9000:=Int.mul_le_mul (by omega) (by omega) h3 (by omega);rw [zV (x:=x * y) (by omega),zV (x:=c + x * y) (by omega)];omega
theorem rs_bd {g:Gr} {a b:Nat} (hp:g.np≤100) (hn:g.ne≤500) (h:rsF g (a:Int) (b:Int)=true):0≤rsC g (a:Int) (b:Int)∧rsC g (a:Int) (b:Int)≤109951162777600:=by
 obtain ⟨hw,ha,hb,_⟩:=rs_t hp hn h;have h1:=h;unfold rsF at h1;simp only [vQJ,Bool.not_eq_true',decide_eq_false_iff_not] at h1;have h2:=h1.2;rw [toN] at h2;have h3:=zGQ (m:=2) hw hp hn hb ha (by omega);unfold rsC;rw [h,vYZ,toN];exact ⟨by omega,h3.1⟩
section
variable {js:Nat→J} {ms:Nat→Ms} {n m:Nat} {tp te:Nat} {tn:Nat→Nat} {tv:Nat→Nat→Int} {ee:Nat→Ed} {u0 v0:Nat} {best:Int}
noncomputable abbrev xT (js:Nat→J) (ms:Nat→Ms) (n m tp:Nat) (tn:Nat→Nat) (tv:Nat→Nat→Int) (u0 v0:Nat) (best:Int):=prT (usF js ms n m tn tv (u0:Int) (v0:Int) best) tn tv tp
noncomputable abbrev xU (js:Nat→J) (ms:Nat→Ms) (n m tp:Nat) (tn:Nat→Nat) (tv:Nat→Nat→Int) (te:Nat) (ee:Nat→Ed) (u0 v0:Nat) (best:Int):=prU (xT js ms n m tp tn tv u0 v0 best).1 ee te
theorem pk_ex (hv:vmB js ms n m tp tn tv te ee=true) (_:tp≤50) (he:te≤500) (ho:∀ i,i < te→OkE (ee i)) (hc:rsF ⟨tp,fP tn tv,te,ee⟩ (u0:Int) (v0:Int)=true) (hb:rsC ⟨tp,fP tn tv,te,ee⟩ (u0:Int) (v0:Int)≤best) :
  ∃ (qp:Nat) (qn:Nat→Nat) (qv:Nat→Nat→Int) (qe:Nat) (qd:Nat→Ed) (ol:Nat→Int) (xu xv:Nat),PkO tp tn tv qp qn qv ol u0 v0 xu xv∧isPk qp qn qv qe qd ol [.a [.lf n (fJ js),.lf m (fM ms)],.a [.lf tp (fP tn tv),.lf te (fE ee)],.n .i64 (u0:Int),.n .i64 (v0:Int),.n .i64 best]∧qe≤500∧rsF ⟨qp,fP qn qv,qe,qd⟩ (xu:Int) (xv:Int)=true∧rsC ⟨qp,fP qn qv,qe,qd⟩ (xu:Int) (xv:Int)=rsC ⟨tp,fP tn tv,te,ee⟩ (u0:Int) (v0:Int):=by
 obtain ⟨hw,hu,hv0,hl⟩:=rs_t (show (⟨tp,fP tn tv,te,ee⟩:Gr).np≤100 from (by show tp≤100; omega)) he hc;have hu:u0 < tp:=hu;have hv0:v0 < tp:=hv0;have hus:=fun j hj=>us_iff (a:=u0) (b:=v0) (best:=best) hv hu hv0 (j:=j) hj
 have hPI:=prT_PI (usF js ms n m tn tv (u0:Int) (v0:Int) best) tn tv tp;have hEI:=prU_EI (xT js ms n m tp tn tv u0 v0 best).1 ee te;have hPG:PG tp te ee (usF js ms n m tn tv (u0:Int) (v0:Int) best) (xT js ms n m tp tn tv u0 v0 best).1 (fun v=>unE ((xU js ms n m tp tn tv te ee u0 v0 best).2 v)):=⟨hPI.nu,fun v hv=>by
  obtain ⟨j,h1,h2,h3,h4⟩:=hEI.e v hv;exact ⟨j,h1,h2,h3,by rw [show (xU js ms n m tp tn tv te ee u0 v0 best).2 v=_ from h4]; rfl⟩⟩
 obtain ⟨s1,s2,hL⟩:=hPG.least (pt:=fP (fun i=>tn ((xT js ms n m tp tn tv u0 v0 best).2.2.1 i).toNat) (fun i=>tv ((xT js ms n m tp tn tv u0 v0 best).2.2.1 i).toNat)) hv hu hv0 hus hl hb;have hW:=hPG.wf (pt:=fP (fun i=>tn ((xT js ms n m tp tn tv u0 v0 best).2.2.1 i).toNat) (fun i=>tv ((xT js ms n m tp tn tv u0 v0 best).2.2.1 i).toNat)) hv (by omega) (by omega);have l1:=qVV (usF js ms n m tn tv (u0:Int) (v0:Int) best) tp;have l2:=qVV (kpE (xT js ms n m tp tn tv u0 v0 best).1 ee) te;have c1:=qUZ s1 hu;have c2:=qUZ s2 hv0;have num:∀ w,w < tp→usF js ms n m tn tv (u0:Int) (v0:Int) best w=true→∀ i,i < cntU (usF js ms n m tn tv (u0:Int) (v0:Int) best) tp→((xT js ms n m tp tn tv u0 v0 best).2.2.1 i=(w:Int) ↔ i=cntU (usF js ms n m tn tv (u0:Int) (v0:Int) best) w):=fun w _ hsw i hi=>by
  obtain ⟨j,_,h2,h3,h4,_⟩:=hPI.ol i hi;rw [show (xT js ms n m tp tn tv u0 v0 best).2.2.1 i=(j:Int) from h4];refine ⟨fun e => ?_,fun e => ?_⟩
  ·obtain rfl:j=w:=by omega
   exact h3.symm
  ·have:=qGE h2 hsw (by omega)
   omega
 obtain ⟨r1,r2⟩:=rs_of (g:=g1 tp te ee (usF js ms n m tn tv (u0:Int) (v0:Int) best) (xT js ms n m tp tn tv u0 v0 best).1 (fP (fun i=>tn ((xT js ms n m tp tn tv u0 v0 best).2.2.1 i).toNat) (fun i=>tv ((xT js ms n m tp tn tv u0 v0 best).2.2.1 i).toNat)) (fun v=>unE ((xU js ms n m tp tn tv te ee u0 v0 best).2 v))) hW (show cntU _ _≤100 by omega) (show cntU _ _≤500 by omega) c1 c2 hL;refine ⟨_,_,_,_,_,(xT js ms n m tp tn tv u0 v0 best).2.2.1,_,_,⟨by omega,fun i hi => ?_,⟨c1,num u0 hu s1⟩,⟨c2,num v0 hv0 s2⟩⟩,?_,?_,r1,r2⟩
 ·obtain ⟨j,h1,h2,h3,h4,_⟩:=hPI.ol i hi;have h4:(xT js ms n m tp tn tv u0 v0 best).2.2.1 i=(j:Int):=h4;refine ⟨j,h1,h4,?_⟩;show isSm [.lf (tn ((xT js ms n m tp tn tv u0 v0 best).2.2.1 i).toNat) (fQ (tv ((xT js ms n m tp tn tv u0 v0 best).2.2.1 i).toNat)),.lf (tn j) (fQ (tv j))];rw [h4,toN];have hk:=qUI (zJG hv j h1);exact snd_s6w (tn j) (tv j) (by omega)
 ·have hd:=wk_D hv hv0 hl.1.choose_spec;have hs:=zVA hv hu hv0;have hB:prB js ms n m tp tn tv te ee (u0:Int) (v0:Int) best=true:=by
   unfold prB;rw [hv,vYK (show 0≤(u0:Int)∧(u0:Int) < (tp:Int) by omega),vYK (show 0≤(v0:Int)∧(v0:Int) < (tp:Int) by omega),toN,toN,vYJ (show ¬ best < dE js ms n m tn tv u0 v0 by omega)];rfl
  have h:=snd_pr0 (tp + te + 1) js ms n m tp tn tv te ee (u0:Int) (v0:Int) best (by omega) (by omega) (by omega) ho;rw [hB,vYZ] at h;unfold prV prR at h;rw [hPI.q,hPI.r,hEI.s] at h;refine qKV (Same.t (xs:=[_,_]) (ys:=[_,_]) ⟨Same.a (xs:=[_,_]) (ys:=[_,_]) ⟨qXV fun i hi => ?_,qXV fun i hi => ?_,trivial⟩,Same.refl _,trivial⟩) h
  ·obtain ⟨j,_,_,_,h4,h5⟩:=hPI.ol i hi;refine h5.trans ?_;show _=[PV.lf (tn ((xT js ms n m tp tn tv u0 v0 best).2.2.1 i).toNat) (fQ (tv ((xT js ms n m tp tn tv u0 v0 best).2.2.1 i).toNat))];rw [show (xT js ms n m tp tn tv u0 v0 best).2.2.1 i=(j:Int) from h4,toN]
  ·obtain ⟨j,_,_,_,h4⟩:=hEI.e i hi;refine h4.trans ?_;show _=edP (unE ((xU js ms n m tp tn tv te ee u0 v0 best).2 i));rw [show (xU js ms n m tp tn tv te ee u0 v0 best).2 i=_ from h4];rfl
 ·show cntU _ _≤500;omega
end
theorem snd_bkee (hA:zY Tryz.prog 6 [] (.v (.b true))) (l:List Int) (hl:l.length≤9223372036854775807) (lm:List Int) (hm:lm.length≤9223372036854775807) (a b more:Int):zY Tryz.prog 4 [zVQ l,zVQ lm,.n .i64 a,.n .i64 b,.n .i64 more] (.v (.b true)):=by
 have hr:=(rbF_ok (t:=(l.length,0,iqOf l)) ⟨Nat.zero_le _,hl⟩).1;obtain ⟨h0,hlim⟩:=rob_chk hr;have hn3:1≤(rbF (l.length,0,iqOf l)).2.2.1∧(rbF (l.length,0,iqOf l)).2.2.1≤3:=hr.2.1;obtain ⟨tp,te,tn,tv,ee,⟨t1,t2,t3,t4,t5⟩,hM⟩:=rm_ex (rbF (l.length,0,iqOf l)).1 (rbF (l.length,0,iqOf l)).2.1 (rbF (l.length,0,iqOf l)).2.2.1 (rbF (l.length,0,iqOf l)).2.2.2.1 lm.length (iqOf lm) hm h0 (by omega) hlim;have a1:=Int.emod_nonneg a (show (tp:Int) ≠ 0 by omega);have b1:=Int.emod_nonneg b (show (tp:Int) ≠ 0 by omega);obtain ⟨u0,hu⟩:∃ k:Nat,a % (tp:Int)=(k:Int):=⟨(a % (tp:Int)).toNat,by omega⟩
 obtain ⟨v0,hv⟩:∃ k:Nat,b % (tp:Int)=(k:Int):=⟨(b % (tp:Int)).toNat,by omega⟩
 refine qYY (fun F w vals h=>Sames.al (xs:=[zVQ l,zVQ lm,.n .i64 a,.n .i64 b,.n .i64 more]) (ys:=[.lf l.length (fQ (iqOf l)),.lf lm.length (fQ (iqOf lm)),.n .i64 a,.n .i64 b,.n .i64 more]) ⟨ints_same l,ints_same lm,fun _ _ _ h=>h,fun _ _ _ h=>h,fun _ _ _ h=>h,trivial⟩ h) ?_;have base:=fun qp qn qv qe qd ol=>snd_lbk 60 _ _ _ _ a b more _ _ _ _ tp tn tv te ee qp qn qv qe qd ol hA (snd_Rob l.length (iqOf l) hl) hM ⟨t1,by omega⟩ (by omega)
 by_cases hc:rsF ⟨tp,fP tn tv,te,ee⟩ (u0:Int) (v0:Int)=true
 ·obtain ⟨qp,qn,qv,qe,qd,ol,xu,xv,k1,k2,k3,k4,k5⟩:=pk_ex t4 (by omega) (by omega) t5 hc (best_ge (more:=more) (rs_bd (show tp≤100 by omega) (show te≤500 by omega) hc));refine base qp qn qv qe qd ol (fun _=>⟨u0,v0,xu,xv,hu,hv,k1,?_,k3,k4,?_⟩) (by omega)
  ·rw [hu,hv]; exact k2
  ·rw [hu,hv]; exact k5
 ·refine base 0 (fun _=>0) (fun _ _=>0) 0 ee (fun _=>0) (fun h=>absurd (by rw [hu,hv] at h; exact h) hc) (by omega)
end Go.Proofs.YtklmegnpfhiibaaGreat.Yh
namespace Go.Rx
open Go.RowKit Go.Sx Go.ChangeShapes Go.WideShapes
section
variable {P:Program} {W:World} {H:Type} {enc:TypeId × Value→H}
def zVH (W:World) (v:Value) (L:List Int):Prop:=RP (fun k=>k < W.heap.size) W (zVQ L) v∧L.length≤9223372036854775807∧∀ x ∈ L,In64 x
theorem open_rp {t e:TypeId} {v:Value} {d:DataW H} {p:List MemPlace} (ht:P.underlying t=some (.slice e)) (he:P.underlying e=some (.int .i64)) (hc:P.cellsOf e=1)
  {r:Reach} {base:Nat} (hv:Value.okWide P W r base t v) (h:DataW.Trod enc P W 0 (fun _=>true) true t v d p):∃ L:List Int,zVH W v L:=by
 obtain ⟨a,l,c,rfl⟩:=slice_of ht hv;obtain ⟨fuel,h⟩:=h;have h':DataW.trod enc P W 0 (fun _=>true) true fuel t [.slice a l c]=some (d,p):=h;rcases open_ints ht he hc h' with ⟨h1,_⟩ | ⟨a',len,cap,zs,h1,_,hlc,hcap,hz,_,hcell,hwf⟩
 ·simp at h1;obtain ⟨rfl,rfl,rfl⟩:=h1;exact ⟨[],.l0 none 0,by simp,fun x hx=>by cases hx⟩
 ·simp at h1;obtain ⟨rfl,rfl,rfl⟩:=h1;simp only [if_true] at hz;have hlen:(zs.take l).length=l:=by simp; omega
  have hI:IntsAt W W.heap.size (.slice (some a') l c) (zs.take l):=⟨by have:maxLen=9223372036854775807:=rfl; omega,some a',c,by rw [hlen],fun j hj=>by
   rw [hlen] at hj;have h0:=hcell 0 (by omega);have hj':=hcell j (by omega);have hsp:a'.spot=none:=by
    have e:a'.add 0=a':=by simp [Addr.add]
    rw [e] at h0;unfold World.cell? at h0;cases hb:W.heap[a'.block]? with
    | none=>simp [hb] at h0
    | some o=>cases o <;> simp [hb] at h0; exact h0.1
   obtain ⟨bb,off,sp⟩:=a';simp only at hsp;subst hsp;rw [qYK] at hj';refine ⟨bb,off,rfl,?_,?_⟩
   ·unfold World.cell? at hj';cases hb:W.heap[bb]? with
    | none=>simp [hb] at hj'
    | some o=>exact qZW hb
   ·rw [hj'];simp [vZX,vZU,hj]⟩
  refine ⟨zs.take l,?_,hI.1,fun x hx => ?_⟩
  ·have:=rp_of_ints (F:=fun k=>k < W.heap.size) (w:=W) (L:=zs.take l) (a:=some a') (c:=c) (by rw [hlen]; exact hI) (by rw [hlen]; exact hlc) fun k hk=>hk
   rw [hlen] at this;exact this
  ·have:=hwf x (List.mem_of_mem_take hx)
   simpa [Lit.wf,IntKind.has,IntKind.min,IntKind.max,IntKind.signed,IntKind.bits,In64] using this
end
end Go.Rx
namespace Go.Proofs.YtklmegnpfhiibaaGreat
open Go.Rx Go.Sx Go.RowKit Od Nb Xe Xm Yh
theorem wBoundKeeps (v0:Value) (L0:List Int) (v1:Value) (L1:List Int) (a2:Int) (a3:Int) (a4:Int) (W:World) (h0:zVH W v0 L0) (h1:zVH W v1 L1):Calls Tryz.prog 4 #[v0,v1,.int .i64 a2,.int .i64 a3,.int .i64 a4] W (Rets (.bool true) W) :=
 rets_of_sndR (Yh.snd_bkee Ag.call L0 h0.2.1 L1 h1.2.1 a2 a3 a4) rfl (qUF h0.1 (qUF h1.1 (qUF (.n _ _) (qUF (.n _ _) (qUF (.n _ _) zXD)))))
end Go.Proofs.YtklmegnpfhiibaaGreat

/- Part 39 of the texts behind the last one: rules and contracts. No condition. -/
import Derived.Test.YtklmegnpfhiibaaGreatBU38
open Option renaming bind_eq_some_iff → vQQ
open Option.some renaming injEq → vQZ
open Prod.mk renaming injEq → vQY
open Bool renaming and_eq_true → vQJ
open List renaming getElem?_eq_getElem → vQK, mem_cons_of_mem → vQV, mem_cons_self → vQG, getElem?_map → vQH, drop_zero → vYZ
open Nat renaming eq_of_beq_eq_true → vQU, le_of_ble_eq_true → vZJ
open Classical renaming propDecidable → vYQ
open Go.IntKind renaming wrap → vYV
namespace Go.Proofs.YtklmegnpfhiibaaGreat.Xx
open Go.Rx Rt Go.Sx Go.RowKit Od Na Nb Nc Sn So Sq Xb Xc Bb Xe Xf Xg Xh Xi Xk Xm Xn Xo Xp Xq Xr Xs Xu Xv Xw
def qJK (ps:List PV):Prop:=∃ b:Bool,zQ Tryz.prog 13 ps (.v (.b b))∧zQ Tryz.prog 14 ps (.v (.b b))
noncomputable def vB (ps:List PV):Bool:=@dite Bool (qJK ps) (vYQ _) (fun h=>Classical.choose h) (fun _=>false)
theorem vB_ok {ps:List PV} (h:qJK ps):zQ Tryz.prog 13 ps (.v (.b (vB ps)))∧zQ Tryz.prog 14 ps (.v (.b (vB ps))):=by
 unfold vB;rw [dif_pos h];exact Classical.choose_spec h
noncomputable def o_vb:List PV→Option (Bool × Ret):=fun ps=>some (Go.Rx.gP (qJK ps),.v (.b (vB ps)))
theorem ok_vb1:kU Tryz.prog 13 o_vb:=fun ps r hh=>by
 unfold o_vb at hh;simp only [vQZ,vQY] at hh;obtain ⟨hg,rfl⟩:=hh;exact (vB_ok (Go.Rx.gP_spec hg)).1
theorem ok_vb2:kU Tryz.prog 14 o_vb:=fun ps r hh=>by
 unfold o_vb at hh;simp only [vQZ,vQY] at hh;obtain ⟨hg,rfl⟩:=hh;exact (vB_ok (Go.Rx.gP_spec hg)).2
def isPr (ps:List PV):Prop:=zQ Tryz.prog 15 ps (.v (.b true))
noncomputable def o_pr:List PV→Option (Bool × Ret):=fun ps=>some (Go.Rx.gP (isPr ps),.v (.b true))
theorem ok_pr:kU Tryz.prog 15 o_pr:=fun ps r hh=>by
 unfold o_pr at hh;simp only [vQZ,vQY] at hh;obtain ⟨hg,rfl⟩:=hh;exact Go.Rx.gP_spec hg
noncomputable def orlbp (js:Nat→J) (ms:Nat→Ms) (n m:Nat) (np:Nat) (pn:Nat→Nat) (pv:Nat→Nat→Int) (ne:Nat) (ed:Nat→Ed) (_:Nat) (_:Nat→Int) (_:Nat) (_:Nat→Int) (_:Nat) (_:Nat→Int) (a b best:Int) (w1:Nat) (e1:Nat→Int) (w2:Nat) (e2:Nat→Int) (w3:Nat) (e3:Nat→Int) (_:Int) (ja:Nat→J) (ma:Nat→Ms) (na ga:Nat) (tp:Nat) (tn:Nat→Nat) (tv:Nat→Nat→Int) (te:Nat) (ee:Nat→Ed) (qo:Nat→Int):OrS:=orS [(6,o_cr [] (.v (.b true))),(7,o_cr [.lf w1 (fQ e1)] (.v (.a [.lf na (fJ ja),.lf ga (fM ma)]))),(8,o_cr [.a [.lf na (fJ ja),.lf ga (fM ma)],.lf w2 (fQ e2)] (.v (.a [.lf tp (fP tn tv),.lf te (fE ee)]))),(12,o_cr [.a [.lf na (fJ ja),.lf ga (fM ma)],.lf w3 (fQ e3)] (.v (.lf na (fQ qo)))),(11,o_rn),(10,o_dr ja ma na ga),(13,o_vb),(14,o_vb),(15,o_pr)] []
noncomputable def yZA (js:Nat→J) (ms:Nat→Ms) (n m:Nat) (np:Nat) (pn:Nat→Nat) (pv:Nat→Nat→Int) (ne:Nat) (ed:Nat→Ed) (_:Nat) (_:Nat→Int) (_:Nat) (_:Nat→Int) (_:Nat) (_:Nat→Int) (a b best:Int) (_:Nat) (_:Nat→Int) (_:Nat) (_:Nat→Int) (_:Nat) (_:Nat→Int) (_:Int) (_:Nat→J) (_:Nat→Ms) (_ _:Nat) (tp:Nat) (tn:Nat→Nat) (tv:Nat→Nat→Int) (_:Nat) (_:Nat→Ed) (_:Nat→Int):List (List Nat × yW):=[]
set_option maxRecDepth 100000 in
theorem pxlbp (js:Nat→J) (ms:Nat→Ms) (n m:Nat) (np:Nat) (pn:Nat→Nat) (pv:Nat→Nat→Int) (ne:Nat) (ed:Nat→Ed) (ka:Nat) (qa:Nat→Int) (kb:Nat) (qb:Nat→Int) (kc:Nat) (qc:Nat→Int) (a b best:Int) (w1:Nat) (e1:Nat→Int) (w2:Nat) (e2:Nat→Int) (w3:Nat) (e3:Nat→Int) (more:Int) (ja:Nat→J) (ma:Nat→Ms) (na ga:Nat) (tp:Nat) (tn:Nat→Nat) (tv:Nat→Nat→Int) (te:Nat) (ee:Nat→Ed) (qo:Nat→Int):qQU Tf (orlbp js ms n m np pn pv ne ed ka qa kb qb kc qc a b best w1 e1 w2 e2 w3 e3 more ja ma na ga tp tn tv te ee qo) (qJ (yZA js ms n m np pn pv ne ed ka qa kb qb kc qc a b best w1 e1 w2 e2 w3 e3 more ja ma na ga tp tn tv te ee qo)) 60 3 [.a [.lf n (fJ js),.lf m (fM ms)],.a [.lf np (fP pn pv),.lf ne (fE ed)],.lf ka (fQ qa),.lf kb (fQ qb),.lf kc (fQ qc),.n .i64 a,.n .i64 b,.n .i64 best,.lf w1 (fQ e1),.lf w2 (fQ e2),.lf w3 (fQ e3),.n .i64 more] =
 (bif (decide ((np:Int)≤30)) then (bif (decide ((ne:Int)≤60)) then (bif (decide (12 < (n:Int))) then (bif (g1 []) then some (.v (.b true),[])
 else none)
 else (bif (g1 [.lf w1 (fQ e1)]) then (bif (g1 [.a [.lf na (fJ ja),.lf ga (fM ma)],.lf w2 (fQ e2)]) then (bif (gF1 crn ern (a,(tp:Int))) then (bif (gF1 crn ern (b,(tp:Int))) then (bif (inB (a % (tp:Int)) tp) then (bif (inB (b % (tp:Int)) tp) then (bif (gF1 (cdr ja ma na ga) (edr ja ma na ga) ((tv ((a % (tp:Int))).toNat),(tv ((b % (tp:Int))).toNat),(tn ((a % (tp:Int))).toNat),(tn ((b % (tp:Int))).toNat))) then (bif (gF1 crn ern (more,40001)) then (bif (g1 [.a [.lf na (fJ ja),.lf ga (fM ma)],.lf w3 (fQ e3)]) then (bif (g1 []) then (bif (Go.Rx.gP (qJK [.a [.lf n (fJ js),.lf m (fM ms)],.lf ka (fQ qa),.lf kb (fQ qb),.lf kc (fQ qc),.n .i64 best])) then (bif (vB [.a [.lf n (fJ js),.lf m (fM ms)],.lf ka (fQ qa),.lf kb (fQ qb),.lf kc (fQ qc),.n .i64 best]) then (bif (Go.Rx.gP (qJK [.a [.lf n (fJ js),.lf m (fM ms)],.lf ka (fQ qa),.lf kb (fQ qb),.lf kc (fQ qc),.n .i64 best])) then (bif (vB [.a [.lf n (fJ js),.lf m (fM ms)],.lf ka (fQ qa),.lf kb (fQ qb),.lf kc (fQ qc),.n .i64 best]) then (bif (inB (a % (tp:Int)) tp) then (bif (inB (b % (tp:Int)) tp) then (bif (Go.Rx.gP (qJK [.a [.lf na (fJ ja),.lf ga (fM ma)],.lf (tn ((a % (tp:Int))).toNat) (fun w=>[.n .i64 (tv ((a % (tp:Int))).toNat w)]),.lf (tn ((b % (tp:Int))).toNat) (fun w=>[.n .i64 (tv ((b % (tp:Int))).toNat w)]),.lf na (fQ qo),.n .i64 (vYV .i64 ((dsQ ja ma (tv ((a % (tp:Int))).toNat) (tv ((b % (tp:Int))).toNat) na ga (tn ((a % (tp:Int))).toNat) (tn ((b % (tp:Int))).toNat)) + (vYV .i64 ((more % 40001) - 2000))))])) then (bif (vB [.a [.lf na (fJ ja),.lf ga (fM ma)],.lf (tn ((a % (tp:Int))).toNat) (fun w=>[.n .i64 (tv ((a % (tp:Int))).toNat w)]),.lf (tn ((b % (tp:Int))).toNat) (fun w=>[.n .i64 (tv ((b % (tp:Int))).toNat w)]),.lf na (fQ qo),.n .i64 (vYV .i64 ((dsQ ja ma (tv ((a % (tp:Int))).toNat) (tv ((b % (tp:Int))).toNat) na ga (tn ((a % (tp:Int))).toNat) (tn ((b % (tp:Int))).toNat)) + (vYV .i64 ((more % 40001) - 2000))))]) then (bif (inB (a % (tp:Int)) tp) then (bif (inB (b % (tp:Int)) tp) then (bif (Go.Rx.gP (qJK [.a [.lf na (fJ ja),.lf ga (fM ma)],.lf (tn ((a % (tp:Int))).toNat) (fun w=>[.n .i64 (tv ((a % (tp:Int))).toNat w)]),.lf (tn ((b % (tp:Int))).toNat) (fun w=>[.n .i64 (tv ((b % (tp:Int))).toNat w)]),.lf na (fQ qo),.n .i64 (vYV .i64 ((dsQ ja ma (tv ((a % (tp:Int))).toNat) (tv ((b % (tp:Int))).toNat) na ga (tn ((a % (tp:Int))).toNat) (tn ((b % (tp:Int))).toNat)) + (vYV .i64 ((more % 40001) - 2000))))])) then (bif (vB [.a [.lf na (fJ ja),.lf ga (fM ma)],.lf (tn ((a % (tp:Int))).toNat) (fun w=>[.n .i64 (tv ((a % (tp:Int))).toNat w)]),.lf (tn ((b % (tp:Int))).toNat) (fun w=>[.n .i64 (tv ((b % (tp:Int))).toNat w)]),.lf na (fQ qo),.n .i64 (vYV .i64 ((dsQ ja ma (tv ((a % (tp:Int))).toNat) (tv ((b % (tp:Int))).toNat) na ga (tn ((a % (tp:Int))).toNat) (tn ((b % (tp:Int))).toNat)) + (vYV .i64 ((more % 40001) - 2000))))]) then (bif (inB (a % (tp:Int)) tp) then (bif (Go.Rx.gP (qJK [.a [.lf na (fJ ja),.lf ga (fM ma)],.lf ka (fQ qa),.lf na (fQ qo),.lf (tn ((a % (tp:Int))).toNat) (fun w=>[.n .i64 (tv ((a % (tp:Int))).toNat w)]),.n .i64 best])) then (bif (vB [.a [.lf na (fJ ja),.lf ga (fM ma)],.lf ka (fQ qa),.lf na (fQ qo),.lf (tn ((a % (tp:Int))).toNat) (fun w=>[.n .i64 (tv ((a % (tp:Int))).toNat w)]),.n .i64 best]) then (bif (inB (a % (tp:Int)) tp) then (bif (Go.Rx.gP (qJK [.a [.lf na (fJ ja),.lf ga (fM ma)],.lf ka (fQ qa),.lf na (fQ qo),.lf (tn ((a % (tp:Int))).toNat) (fun w=>[.n .i64 (tv ((a % (tp:Int))).toNat w)]),.n .i64 best])) then (bif (vB [.a [.lf na (fJ ja),.lf ga (fM ma)],.lf ka (fQ qa),.lf na (fQ qo),.lf (tn ((a % (tp:Int))).toNat) (fun w=>[.n .i64 (tv ((a % (tp:Int))).toNat w)]),.n .i64 best]) then (bif (Go.Rx.gP (isPr [.a [.lf n (fJ js),.lf m (fM ms)],.a [.lf np (fP pn pv),.lf ne (fE ed)],.n .i64 a,.n .i64 b,.n .i64 best])) then (bif (Go.Rx.gP (isPr [.a [.lf na (fJ ja),.lf ga (fM ma)],.a [.lf tp (fP tn tv),.lf te (fE ee)],.n .i64 (a % (tp:Int)),.n .i64 (b % (tp:Int)),.n .i64 (vYV .i64 ((dsQ ja ma (tv ((a % (tp:Int))).toNat) (tv ((b % (tp:Int))).toNat) na ga (tn ((a % (tp:Int))).toNat) (tn ((b % (tp:Int))).toNat)) + (vYV .i64 ((more % 40001) - 2000))))])) then (bif (Go.Rx.gP (isPr [.a [.lf na (fJ ja),.lf ga (fM ma)],.a [.lf tp (fP tn tv),.lf te (fE ee)],.n .i64 (a % (tp:Int)),.n .i64 (b % (tp:Int)),.n .i64 best])) then some (.v (.b true),[])
 else none)
 else none)
 else none)
 else some (.v (.b false),[]))
 else none)
 else none)
 else (bif (inB (a % (tp:Int)) tp) then (bif (Go.Rx.gP (qJK [.a [.lf na (fJ ja),.lf ga (fM ma)],.lf ka (fQ qa),.lf na (fQ qo),.lf (tn ((a % (tp:Int))).toNat) (fun w=>[.n .i64 (tv ((a % (tp:Int))).toNat w)]),.n .i64 best])) then (bif (vB [.a [.lf na (fJ ja),.lf ga (fM ma)],.lf ka (fQ qa),.lf na (fQ qo),.lf (tn ((a % (tp:Int))).toNat) (fun w=>[.n .i64 (tv ((a % (tp:Int))).toNat w)]),.n .i64 best]) then some (.v (.b false),[])
 else (bif (Go.Rx.gP (isPr [.a [.lf n (fJ js),.lf m (fM ms)],.a [.lf np (fP pn pv),.lf ne (fE ed)],.n .i64 a,.n .i64 b,.n .i64 best])) then (bif (Go.Rx.gP (isPr [.a [.lf na (fJ ja),.lf ga (fM ma)],.a [.lf tp (fP tn tv),.lf te (fE ee)],.n .i64 (a % (tp:Int)),.n .i64 (b % (tp:Int)),.n .i64 (vYV .i64 ((dsQ ja ma (tv ((a % (tp:Int))).toNat) (tv ((b % (tp:Int))).toNat) na ga (tn ((a % (tp:Int))).toNat) (tn ((b % (tp:Int))).toNat)) + (vYV .i64 ((more % 40001) - 2000))))])) then (bif (Go.Rx.gP (isPr [.a [.lf na (fJ ja),.lf ga (fM ma)],.a [.lf tp (fP tn tv),.lf te (fE ee)],.n .i64 (a % (tp:Int)),.n .i64 (b % (tp:Int)),.n .i64 best])) then some (.v (.b true),[])
 else none)
 else none)
 else none))
 else none)
 else none))
 else none)
 else none)
 else some (.v (.b false),[]))
 else none)
 else none)
 else none)
 else (bif (inB (a % (tp:Int)) tp) then (bif (inB (b % (tp:Int)) tp) then (bif (Go.Rx.gP (qJK [.a [.lf na (fJ ja),.lf ga (fM ma)],.lf (tn ((a % (tp:Int))).toNat) (fun w=>[.n .i64 (tv ((a % (tp:Int))).toNat w)]),.lf (tn ((b % (tp:Int))).toNat) (fun w=>[.n .i64 (tv ((b % (tp:Int))).toNat w)]),.lf na (fQ qo),.n .i64 (vYV .i64 ((dsQ ja ma (tv ((a % (tp:Int))).toNat) (tv ((b % (tp:Int))).toNat) na ga (tn ((a % (tp:Int))).toNat) (tn ((b % (tp:Int))).toNat)) + (vYV .i64 ((more % 40001) - 2000))))])) then (bif (vB [.a [.lf na (fJ ja),.lf ga (fM ma)],.lf (tn ((a % (tp:Int))).toNat) (fun w=>[.n .i64 (tv ((a % (tp:Int))).toNat w)]),.lf (tn ((b % (tp:Int))).toNat) (fun w=>[.n .i64 (tv ((b % (tp:Int))).toNat w)]),.lf na (fQ qo),.n .i64 (vYV .i64 ((dsQ ja ma (tv ((a % (tp:Int))).toNat) (tv ((b % (tp:Int))).toNat) na ga (tn ((a % (tp:Int))).toNat) (tn ((b % (tp:Int))).toNat)) + (vYV .i64 ((more % 40001) - 2000))))]) then some (.v (.b false),[])
 else (bif (inB (a % (tp:Int)) tp) then (bif (Go.Rx.gP (qJK [.a [.lf na (fJ ja),.lf ga (fM ma)],.lf ka (fQ qa),.lf na (fQ qo),.lf (tn ((a % (tp:Int))).toNat) (fun w=>[.n .i64 (tv ((a % (tp:Int))).toNat w)]),.n .i64 best])) then (bif (vB [.a [.lf na (fJ ja),.lf ga (fM ma)],.lf ka (fQ qa),.lf na (fQ qo),.lf (tn ((a % (tp:Int))).toNat) (fun w=>[.n .i64 (tv ((a % (tp:Int))).toNat w)]),.n .i64 best]) then (bif (inB (a % (tp:Int)) tp) then (bif (Go.Rx.gP (qJK [.a [.lf na (fJ ja),.lf ga (fM ma)],.lf ka (fQ qa),.lf na (fQ qo),.lf (tn ((a % (tp:Int))).toNat) (fun w=>[.n .i64 (tv ((a % (tp:Int))).toNat w)]),.n .i64 best])) then (bif (vB [.a [.lf na (fJ ja),.lf ga (fM ma)],.lf ka (fQ qa),.lf na (fQ qo),.lf (tn ((a % (tp:Int))).toNat) (fun w=>[.n .i64 (tv ((a % (tp:Int))).toNat w)]),.n .i64 best]) then (bif (Go.Rx.gP (isPr [.a [.lf n (fJ js),.lf m (fM ms)],.a [.lf np (fP pn pv),.lf ne (fE ed)],.n .i64 a,.n .i64 b,.n .i64 best])) then (bif (Go.Rx.gP (isPr [.a [.lf na (fJ ja),.lf ga (fM ma)],.a [.lf tp (fP tn tv),.lf te (fE ee)],.n .i64 (a % (tp:Int)),.n .i64 (b % (tp:Int)),.n .i64 (vYV .i64 ((dsQ ja ma (tv ((a % (tp:Int))).toNat) (tv ((b % (tp:Int))).toNat) na ga (tn ((a % (tp:Int))).toNat) (tn ((b % (tp:Int))).toNat)) + (vYV .i64 ((more % 40001) - 2000))))])) then (bif (Go.Rx.gP (isPr [.a [.lf na (fJ ja),.lf ga (fM ma)],.a [.lf tp (fP tn tv),.lf te (fE ee)],.n .i64 (a % (tp:Int)),.n .i64 (b % (tp:Int)),.n .i64 best])) then some (.v (.b true),[])
 else none)
 else none)
 else none)
 else some (.v (.b false),[]))
 else none)
 else none)
 else (bif (inB (a % (tp:Int)) tp) then (bif (Go.Rx.gP (qJK [.a [.lf na (fJ ja),.lf ga (fM ma)],.lf ka (fQ qa),.lf na (fQ qo),.lf (tn ((a % (tp:Int))).toNat) (fun w=>[.n .i64 (tv ((a % (tp:Int))).toNat w)]),.n .i64 best])) then (bif (vB [.a [.lf na (fJ ja),.lf ga (fM ma)],.lf ka (fQ qa),.lf na (fQ qo),.lf (tn ((a % (tp:Int))).toNat) (fun w=>[.n .i64 (tv ((a % (tp:Int))).toNat w)]),.n .i64 best]) then some (.v (.b false),[])
 else (bif (Go.Rx.gP (isPr [.a [.lf n (fJ js),.lf m (fM ms)],.a [.lf np (fP pn pv),.lf ne (fE ed)],.n .i64 a,.n .i64 b,.n .i64 best])) then (bif (Go.Rx.gP (isPr [.a [.lf na (fJ ja),.lf ga (fM ma)],.a [.lf tp (fP tn tv),.lf te (fE ee)],.n .i64 (a % (tp:Int)),.n .i64 (b % (tp:Int)),.n .i64 (vYV .i64 ((dsQ ja ma (tv ((a % (tp:Int))).toNat) (tv ((b % (tp:Int))).toNat) na ga (tn ((a % (tp:Int))).toNat) (tn ((b % (tp:Int))).toNat)) + (vYV .i64 ((more % 40001) - 2000))))])) then (bif (Go.Rx.gP (isPr [.a [.lf na (fJ ja),.lf ga (fM ma)],.a [.lf tp (fP tn tv),.lf te (fE ee)],.n .i64 (a % (tp:Int)),.n .i64 (b % (tp:Int)),.n .i64 best])) then some (.v (.b true),[])
 else none)
 else none)
 else none))
 else none)
 else none))
 else none)
 else none))
 else none)
 else none)
 else none))
 else none)
 else none)
 else none)
 else some (.v (.b false),[]))
 else none)
 else (bif (Go.Rx.gP (qJK [.a [.lf n (fJ js),.lf m (fM ms)],.lf ka (fQ qa),.lf kb (fQ qb),.lf kc (fQ qc),.n .i64 best])) then (bif (vB [.a [.lf n (fJ js),.lf m (fM ms)],.lf ka (fQ qa),.lf kb (fQ qb),.lf kc (fQ qc),.n .i64 best]) then some (.v (.b false),[])
 else (bif (inB (a % (tp:Int)) tp) then (bif (inB (b % (tp:Int)) tp) then (bif (Go.Rx.gP (qJK [.a [.lf na (fJ ja),.lf ga (fM ma)],.lf (tn ((a % (tp:Int))).toNat) (fun w=>[.n .i64 (tv ((a % (tp:Int))).toNat w)]),.lf (tn ((b % (tp:Int))).toNat) (fun w=>[.n .i64 (tv ((b % (tp:Int))).toNat w)]),.lf na (fQ qo),.n .i64 (vYV .i64 ((dsQ ja ma (tv ((a % (tp:Int))).toNat) (tv ((b % (tp:Int))).toNat) na ga (tn ((a % (tp:Int))).toNat) (tn ((b % (tp:Int))).toNat)) + (vYV .i64 ((more % 40001) - 2000))))])) then (bif (vB [.a [.lf na (fJ ja),.lf ga (fM ma)],.lf (tn ((a % (tp:Int))).toNat) (fun w=>[.n .i64 (tv ((a % (tp:Int))).toNat w)]),.lf (tn ((b % (tp:Int))).toNat) (fun w=>[.n .i64 (tv ((b % (tp:Int))).toNat w)]),.lf na (fQ qo),.n .i64 (vYV .i64 ((dsQ ja ma (tv ((a % (tp:Int))).toNat) (tv ((b % (tp:Int))).toNat) na ga (tn ((a % (tp:Int))).toNat) (tn ((b % (tp:Int))).toNat)) + (vYV .i64 ((more % 40001) - 2000))))]) then (bif (inB (a % (tp:Int)) tp) then (bif (inB (b % (tp:Int)) tp) then (bif (Go.Rx.gP (qJK [.a [.lf na (fJ ja),.lf ga (fM ma)],.lf (tn ((a % (tp:Int))).toNat) (fun w=>[.n .i64 (tv ((a % (tp:Int))).toNat w)]),.lf (tn ((b % (tp:Int))).toNat) (fun w=>[.n .i64 (tv ((b % (tp:Int))).toNat w)]),.lf na (fQ qo),.n .i64 (vYV .i64 ((dsQ ja ma (tv ((a % (tp:Int))).toNat) (tv ((b % (tp:Int))).toNat) na ga (tn ((a % (tp:Int))).toNat) (tn ((b % (tp:Int))).toNat)) + (vYV .i64 ((more % 40001) - 2000))))])) then (bif (vB [.a [.lf na (fJ ja),.lf ga (fM ma)],.lf (tn ((a % (tp:Int))).toNat) (fun w=>[.n .i64 (tv ((a % (tp:Int))).toNat w)]),.lf (tn ((b % (tp:Int))).toNat) (fun w=>[.n .i64 (tv ((b % (tp:Int))).toNat w)]),.lf na (fQ qo),.n .i64 (vYV .i64 ((dsQ ja ma (tv ((a % (tp:Int))).toNat) (tv ((b % (tp:Int))).toNat) na ga (tn ((a % (tp:Int))).toNat) (tn ((b % (tp:Int))).toNat)) + (vYV .i64 ((more % 40001) - 2000))))]) then (bif (inB (a % (tp:Int)) tp) then (bif (Go.Rx.gP (qJK [.a [.lf na (fJ ja),.lf ga (fM ma)],.lf ka (fQ qa),.lf na (fQ qo),.lf (tn ((a % (tp:Int))).toNat) (fun w=>[.n .i64 (tv ((a % (tp:Int))).toNat w)]),.n .i64 best])) then (bif (vB [.a [.lf na (fJ ja),.lf ga (fM ma)],.lf ka (fQ qa),.lf na (fQ qo),.lf (tn ((a % (tp:Int))).toNat) (fun w=>[.n .i64 (tv ((a % (tp:Int))).toNat w)]),.n .i64 best]) then (bif (inB (a % (tp:Int)) tp) then (bif (Go.Rx.gP (qJK [.a [.lf na (fJ ja),.lf ga (fM ma)],.lf ka (fQ qa),.lf na (fQ qo),.lf (tn ((a % (tp:Int))).toNat) (fun w=>[.n .i64 (tv ((a % (tp:Int))).toNat w)]),.n .i64 best])) then (bif (vB [.a [.lf na (fJ ja),.lf ga (fM ma)],.lf ka (fQ qa),.lf na (fQ qo),.lf (tn ((a % (tp:Int))).toNat) (fun w=>[.n .i64 (tv ((a % (tp:Int))).toNat w)]),.n .i64 best]) then (bif (Go.Rx.gP (isPr [.a [.lf n (fJ js),.lf m (fM ms)],.a [.lf np (fP pn pv),.lf ne (fE ed)],.n .i64 a,.n .i64 b,.n .i64 best])) then (bif (Go.Rx.gP (isPr [.a [.lf na (fJ ja),.lf ga (fM ma)],.a [.lf tp (fP tn tv),.lf te (fE ee)],.n .i64 (a % (tp:Int)),.n .i64 (b % (tp:Int)),.n .i64 (vYV .i64 ((dsQ ja ma (tv ((a % (tp:Int))).toNat) (tv ((b % (tp:Int))).toNat) na ga (tn ((a % (tp:Int))).toNat) (tn ((b % (tp:Int))).toNat)) + (vYV .i64 ((more % 40001) - 2000))))])) then (bif (Go.Rx.gP (isPr [.a [.lf na (fJ ja),.lf ga (fM ma)],.a [.lf tp (fP tn tv),.lf te (fE ee)],.n .i64 (a % (tp:Int)),.n .i64 (b % (tp:Int)),.n .i64 best])) then some (.v (.b true),[])
 else none)
 else none)
 else none)
 else some (.v (.b false),[]))
 else none)
 else none)
 else (bif (inB (a % (tp:Int)) tp) then (bif (Go.Rx.gP (qJK [.a [.lf na (fJ ja),.lf ga (fM ma)],.lf ka (fQ qa),.lf na (fQ qo),.lf (tn ((a % (tp:Int))).toNat) (fun w=>[.n .i64 (tv ((a % (tp:Int))).toNat w)]),.n .i64 best])) then (bif (vB [.a [.lf na (fJ ja),.lf ga (fM ma)],.lf ka (fQ qa),.lf na (fQ qo),.lf (tn ((a % (tp:Int))).toNat) (fun w=>[.n .i64 (tv ((a % (tp:Int))).toNat w)]),.n .i64 best]) then some (.v (.b false),[])
 else (bif (Go.Rx.gP (isPr [.a [.lf n (fJ js),.lf m (fM ms)],.a [.lf np (fP pn pv),.lf ne (fE ed)],.n .i64 a,.n .i64 b,.n .i64 best])) then (bif (Go.Rx.gP (isPr [.a [.lf na (fJ ja),.lf ga (fM ma)],.a [.lf tp (fP tn tv),.lf te (fE ee)],.n .i64 (a % (tp:Int)),.n .i64 (b % (tp:Int)),.n .i64 (vYV .i64 ((dsQ ja ma (tv ((a % (tp:Int))).toNat) (tv ((b % (tp:Int))).toNat) na ga (tn ((a % (tp:Int))).toNat) (tn ((b % (tp:Int))).toNat)) + (vYV .i64 ((more % 40001) - 2000))))])) then (bif (Go.Rx.gP (isPr [.a [.lf na (fJ ja),.lf ga (fM ma)],.a [.lf tp (fP tn tv),.lf te (fE ee)],.n .i64 (a % (tp:Int)),.n .i64 (b % (tp:Int)),.n .i64 best])) then some (.v (.b true),[])
 else none)
 else none)
 else none))
 else none)
 else none))
 else none)
 else none)
 else some (.v (.b false),[]))
 else none)
 else none)
 else none)
 else (bif (inB (a % (tp:Int)) tp) then (bif (inB (b % (tp:Int)) tp) then (bif (Go.Rx.gP (qJK [.a [.lf na (fJ ja),.lf ga (fM ma)],.lf (tn ((a % (tp:Int))).toNat) (fun w=>[.n .i64 (tv ((a % (tp:Int))).toNat w)]),.lf (tn ((b % (tp:Int))).toNat) (fun w=>[.n .i64 (tv ((b % (tp:Int))).toNat w)]),.lf na (fQ qo),.n .i64 (vYV .i64 ((dsQ ja ma (tv ((a % (tp:Int))).toNat) (tv ((b % (tp:Int))).toNat) na ga (tn ((a % (tp:Int))).toNat) (tn ((b % (tp:Int))).toNat)) + (vYV .i64 ((more % 40001) - 2000))))])) then (bif (vB [.a [.lf na (fJ ja),.lf ga (fM ma)],.lf (tn ((a % (tp:Int))).toNat) (fun w=>[.n .i64 (tv ((a % (tp:Int))).toNat w)]),.lf (tn ((b % (tp:Int))).toNat) (fun w=>[.n .i64 (tv ((b % (tp:Int))).toNat w)]),.lf na (fQ qo),.n .i64 (vYV .i64 ((dsQ ja ma (tv ((a % (tp:Int))).toNat) (tv ((b % (tp:Int))).toNat) na ga (tn ((a % (tp:Int))).toNat) (tn ((b % (tp:Int))).toNat)) + (vYV .i64 ((more % 40001) - 2000))))]) then some (.v (.b false),[])
 else (bif (inB (a % (tp:Int)) tp) then (bif (Go.Rx.gP (qJK [.a [.lf na (fJ ja),.lf ga (fM ma)],.lf ka (fQ qa),.lf na (fQ qo),.lf (tn ((a % (tp:Int))).toNat) (fun w=>[.n .i64 (tv ((a % (tp:Int))).toNat w)]),.n .i64 best])) then (bif (vB [.a [.lf na (fJ ja),.lf ga (fM ma)],.lf ka (fQ qa),.lf na (fQ qo),.lf (tn ((a % (tp:Int))).toNat) (fun w=>[.n .i64 (tv ((a % (tp:Int))).toNat w)]),.n .i64 best]) then (bif (inB (a % (tp:Int)) tp) then (bif (Go.Rx.gP (qJK [.a [.lf na (fJ ja),.lf ga (fM ma)],.lf ka (fQ qa),.lf na (fQ qo),.lf (tn ((a % (tp:Int))).toNat) (fun w=>[.n .i64 (tv ((a % (tp:Int))).toNat w)]),.n .i64 best])) then (bif (vB [.a [.lf na (fJ ja),.lf ga (fM ma)],.lf ka (fQ qa),.lf na (fQ qo),.lf (tn ((a % (tp:Int))).toNat) (fun w=>[.n .i64 (tv ((a % (tp:Int))).toNat w)]),.n .i64 best]) then (bif (Go.Rx.gP (isPr [.a [.lf n (fJ js),.lf m (fM ms)],.a [.lf np (fP pn pv),.lf ne (fE ed)],.n .i64 a,.n .i64 b,.n .i64 best])) then (bif (Go.Rx.gP (isPr [.a [.lf na (fJ ja),.lf ga (fM ma)],.a [.lf tp (fP tn tv),.lf te (fE ee)],.n .i64 (a % (tp:Int)),.n .i64 (b % (tp:Int)),.n .i64 (vYV .i64 ((dsQ ja ma (tv ((a % (tp:Int))).toNat) (tv ((b % (tp:Int))).toNat) na ga (tn ((a % (tp:Int))).toNat) (tn ((b % (tp:Int))).toNat)) + (vYV .i64 ((more % 40001) - 2000))))])) then (bif (Go.Rx.gP (isPr [.a [.lf na (fJ ja),.lf ga (fM ma)],.a [.lf tp (fP tn tv),.lf te (fE ee)],.n .i64 (a % (tp:Int)),.n .i64 (b % (tp:Int)),.n .i64 best])) then some (.v (.b true),[])
 else none)
 else none)
 else none)
 else some (.v (.b false),[]))
 else none)
 else none)
 else (bif (inB (a % (tp:Int)) tp) then (bif (Go.Rx.gP (qJK [.a [.lf na (fJ ja),.lf ga (fM ma)],.lf ka (fQ qa),.lf na (fQ qo),.lf (tn ((a % (tp:Int))).toNat) (fun w=>[.n .i64 (tv ((a % (tp:Int))).toNat w)]),.n .i64 best])) then (bif (vB [.a [.lf na (fJ ja),.lf ga (fM ma)],.lf ka (fQ qa),.lf na (fQ qo),.lf (tn ((a % (tp:Int))).toNat) (fun w=>[.n .i64 (tv ((a % (tp:Int))).toNat w)]),.n .i64 best]) then some (.v (.b false),[])
 else (bif (Go.Rx.gP (isPr [.a [.lf n (fJ js),.lf m (fM ms)],.a [.lf np (fP pn pv),.lf ne (fE ed)],.n .i64 a,.n .i64 b,.n .i64 best])) then (bif (Go.Rx.gP (isPr [.a [.lf na (fJ ja),.lf ga (fM ma)],.a [.lf tp (fP tn tv),.lf te (fE ee)],.n .i64 (a % (tp:Int)),.n .i64 (b % (tp:Int)),.n .i64 (vYV .i64 ((dsQ ja ma (tv ((a % (tp:Int))).toNat) (tv ((b % (tp:Int))).toNat) na ga (tn ((a % (tp:Int))).toNat) (tn ((b % (tp:Int))).toNat)) + (vYV .i64 ((more % 40001) - 2000))))])) then (bif (Go.Rx.gP (isPr [.a [.lf na (fJ ja),.lf ga (fM ma)],.a [.lf tp (fP tn tv),.lf te (fE ee)],.n .i64 (a % (tp:Int)),.n .i64 (b % (tp:Int)),.n .i64 best])) then some (.v (.b true),[])
 else none)
 else none)
 else none))
 else none)
 else none))
 else none)
 else none))
 else none)
 else none)
 else none))
 else none)
 else none)
 else none))
 else none))
 else none)
 else none)
 else none)
 else none)
 else none)
 else none)
 else none)
 else none)
 else none)
 else none)
 else none))
 else (bif (g1 []) then some (.v (.b true),[])
 else none))
 else (bif (g1 []) then some (.v (.b true),[])
 else none)):=by kernel_rfl
theorem snd_lbp (js:Nat→J) (ms:Nat→Ms) (n m:Nat) (np:Nat) (pn:Nat→Nat) (pv:Nat→Nat→Int) (ne:Nat) (ed:Nat→Ed) (ka:Nat) (qa:Nat→Int) (kb:Nat) (qb:Nat→Int) (kc:Nat) (qc:Nat→Int) (a b best:Int) (w1:Nat) (e1:Nat→Int) (w2:Nat) (e2:Nat→Int) (w3:Nat) (e3:Nat→Int) (more:Int) (ja:Nat→J) (ma:Nat→Ms) (na ga:Nat) (tp:Nat) (tn:Nat→Nat) (tv:Nat→Nat→Int) (te:Nat) (ee:Nat→Ed) (qo:Nat→Int) (hA:zQ Tryz.prog 6 [] (.v (.b true))) (hR:zQ Tryz.prog 7 [.lf w1 (fQ e1)] (.v (.a [.lf na (fJ ja),.lf ga (fM ma)]))) (hM:zQ Tryz.prog 8 [.a [.lf na (fJ ja),.lf ga (fM ma)],.lf w2 (fQ e2)] (.v (.a [.lf tp (fP tn tv),.lf te (fE ee)]))) (hC:zQ Tryz.prog 12 [.a [.lf na (fJ ja),.lf ga (fM ma)],.lf w3 (fQ e3)] (.v (.lf na (fQ qo)))) (_:0 < tp∧tp≤1000) (hn2:∀ j,j < tp→tn j≤50) (hte:te≤8192) (hee:∀ i,i < te→OkE (ee i)) (hed:∀ i,i < ne→OkE (ed i)):zQ Tryz.prog 3 [.a [.lf n (fJ js),.lf m (fM ms)],.a [.lf np (fP pn pv),.lf ne (fE ed)],.lf ka (fQ qa),.lf kb (fQ qb),.lf kc (fQ qc),.n .i64 a,.n .i64 b,.n .i64 best,.lf w1 (fQ e1),.lf w2 (fQ e2),.lf w3 (fQ e3),.n .i64 more] (.v (.b true)):=by
 refine qV (N:=60) (LO:=qJ (yZA js ms n m np pn pv ne ed ka qa kb qb kc qc a b best w1 e1 w2 e2 w3 e3 more ja ma na ga tp tn tv te ee qo)) jY jQ (jK (l:=[(6,o_cr [] (.v (.b true))),(7,o_cr [.lf w1 (fQ e1)] (.v (.a [.lf na (fJ ja),.lf ga (fM ma)]))),(8,o_cr [.a [.lf na (fJ ja),.lf ga (fM ma)],.lf w2 (fQ e2)] (.v (.a [.lf tp (fP tn tv),.lf te (fE ee)]))),(12,o_cr [.a [.lf na (fJ ja),.lf ga (fM ma)],.lf w3 (fQ e3)] (.v (.lf na (fQ qo)))),(11,o_rn),(10,o_dr ja ma na ga),(13,o_vb),(14,o_vb),(15,o_pr)]) (m:=[]) ⟨qXG hA,qXG hR,qXG hM,qXG hC,Sn.ok_rn,zGI ja ma na ga,ok_vb1,ok_vb2,ok_pr,trivial⟩ trivial) (fun p S hp => ?_) ?_
 ·refine qW (L:=qY Tf 3) (l:=(yZA js ms n m np pn pv ne ed ka qa kb qb kc qc a b best w1 e1 w2 e2 w3 e3 more ja ma na ga tp tn tv te ee qo)) (show AllP _ (yZA js ms n m np pn pv ne ed ka qa kb qb kc qc a b best w1 e1 w2 e2 w3 e3 more ja ma na ga tp tn tv te ee qo) from trivial) p S hp
 ·refine (pxlbp js ms n m np pn pv ne ed ka qa kb qb kc qc a b best w1 e1 w2 e2 w3 e3 more ja ma na ga tp tn tv te ee qo).trans ?_;have v0:qJK [.a [.lf n (fJ js),.lf m (fM ms)],.lf ka (fQ qa),.lf kb (fQ qb),.lf kc (fQ qc),.n .i64 best]:=⟨_,zJD js ms qa qb qc n m ka kb kc best,zQC js ms qa qb qc n m ka kb kc best⟩
  have v1:qJK [.a [.lf na (fJ ja),.lf ga (fM ma)],.lf (tn ((a % (tp:Int))).toNat) (fun w=>[.n .i64 (tv ((a % (tp:Int))).toNat w)]),.lf (tn ((b % (tp:Int))).toNat) (fun w=>[.n .i64 (tv ((b % (tp:Int))).toNat w)]),.lf na (fQ qo),.n .i64 (vYV .i64 ((dsQ ja ma (tv ((a % (tp:Int))).toNat) (tv ((b % (tp:Int))).toNat) na ga (tn ((a % (tp:Int))).toNat) (tn ((b % (tp:Int))).toNat)) + (vYV .i64 ((more % 40001) - 2000))))]:=⟨_,zJD ja ma (tv (a % (tp:Int)).toNat) (tv (b % (tp:Int)).toNat) qo na ga (tn (a % (tp:Int)).toNat) (tn (b % (tp:Int)).toNat) na (vYV .i64 ((dsQ ja ma (tv (a % (tp:Int)).toNat) (tv (b % (tp:Int)).toNat) na ga (tn (a % (tp:Int)).toNat) (tn (b % (tp:Int)).toNat)) + (vYV .i64 ((more % 40001) - 2000)))),zQC ja ma (tv (a % (tp:Int)).toNat) (tv (b % (tp:Int)).toNat) qo na ga (tn (a % (tp:Int)).toNat) (tn (b % (tp:Int)).toNat) na (vYV .i64 ((dsQ ja ma (tv (a % (tp:Int)).toNat) (tv (b % (tp:Int)).toNat) na ga (tn (a % (tp:Int)).toNat) (tn (b % (tp:Int)).toNat)) + (vYV .i64 ((more % 40001) - 2000))))⟩
  have v2:qJK [.a [.lf na (fJ ja),.lf ga (fM ma)],.lf ka (fQ qa),.lf na (fQ qo),.lf (tn ((a % (tp:Int))).toNat) (fun w=>[.n .i64 (tv ((a % (tp:Int))).toNat w)]),.n .i64 best]:=⟨_,zJD ja ma qa qo (tv (a % (tp:Int)).toNat) na ga ka na (tn (a % (tp:Int)).toNat) best,zQC ja ma qa qo (tv (a % (tp:Int)).toNat) na ga ka na (tn (a % (tp:Int)).toNat) best⟩
  have p1:isPr [.a [.lf na (fJ ja),.lf ga (fM ma)],.a [.lf tp (fP tn tv),.lf te (fE ee)],.n .i64 (a % (tp:Int)),.n .i64 (b % (tp:Int)),.n .i64 (vYV .i64 ((dsQ ja ma (tv ((a % (tp:Int))).toNat) (tv ((b % (tp:Int))).toNat) na ga (tn ((a % (tp:Int))).toNat) (tn ((b % (tp:Int))).toNat)) + (vYV .i64 ((more % 40001) - 2000))))]:=zXI ja ma na ga tp tn tv te ee (a % (tp:Int)) (b % (tp:Int)) (vYV .i64 ((dsQ ja ma (tv (a % (tp:Int)).toNat) (tv (b % (tp:Int)).toNat) na ga (tn (a % (tp:Int)).toNat) (tn (b % (tp:Int)).toNat)) + (vYV .i64 ((more % 40001) - 2000)))) (by omega) hte hee;have p2:isPr [.a [.lf na (fJ ja),.lf ga (fM ma)],.a [.lf tp (fP tn tv),.lf te (fE ee)],.n .i64 (a % (tp:Int)),.n .i64 (b % (tp:Int)),.n .i64 best]:=zXI ja ma na ga tp tn tv te ee (a % (tp:Int)) (b % (tp:Int)) best (by omega) hte hee;have a1:=Int.emod_nonneg a (show (tp:Int) ≠ 0 by omega);have a2:=Int.emod_lt_of_pos a (show 0 < (tp:Int) by omega);have b1:=Int.emod_nonneg b (show (tp:Int) ≠ 0 by omega);have b2:=Int.emod_lt_of_pos b (show 0 < (tp:Int) by omega);by_cases c1:(np:Int)≤30
  ·by_cases c2:(ne:Int)≤60
   ·by_cases c3:12 < (n:Int)
    ·simp only [vYU c1,vYU c2,vYU c3,g1_t,vYY,vYJ]
    ·have p0:isPr [.a [.lf n (fJ js),.lf m (fM ms)],.a [.lf np (fP pn pv),.lf ne (fE ed)],.n .i64 a,.n .i64 b,.n .i64 best]:=zXI js ms n m np pn pv ne ed a b best (by omega) (by omega) hed;simp only [vYU c1,vYU c2,vYK c3,g1_t,jW (C:=crn) (t:=(a,(tp:Int))) ⟨by omega,by omega⟩,jW (C:=crn) (t:=(b,(tp:Int))) ⟨by omega,by omega⟩,jW (C:=crn) (t:=(more,40001)) ⟨by decide,by decide⟩,qUL a1 a2,qUL b1 b2,jW (C:=cdr ja ma na ga) (t:=(tv (a % (tp:Int)).toNat,tv (b % (tp:Int)).toNat,tn (a % (tp:Int)).toNat,tn (b % (tp:Int)).toNat)) ⟨hn2 _ (by omega),hn2 _ (by omega)⟩,Go.Rx.gP_of v0,Go.Rx.gP_of v1,Go.Rx.gP_of v2,Go.Rx.gP_of p0,Go.Rx.gP_of p1,Go.Rx.gP_of p2,vYY];cases vB [.a [.lf n (fJ js),.lf m (fM ms)],.lf ka (fQ qa),.lf kb (fQ qb),.lf kc (fQ qc),.n .i64 best] <;> cases vB [.a [.lf na (fJ ja),.lf ga (fM ma)],.lf (tn ((a % (tp:Int))).toNat) (fun w=>[.n .i64 (tv ((a % (tp:Int))).toNat w)]),.lf (tn ((b % (tp:Int))).toNat) (fun w=>[.n .i64 (tv ((b % (tp:Int))).toNat w)]),.lf na (fQ qo),.n .i64 (vYV .i64 ((dsQ ja ma (tv ((a % (tp:Int))).toNat) (tv ((b % (tp:Int))).toNat) na ga (tn ((a % (tp:Int))).toNat) (tn ((b % (tp:Int))).toNat)) + (vYV .i64 ((more % 40001) - 2000))))] <;> cases vB [.a [.lf na (fJ ja),.lf ga (fM ma)],.lf ka (fQ qa),.lf na (fQ qo),.lf (tn ((a % (tp:Int))).toNat) (fun w=>[.n .i64 (tv ((a % (tp:Int))).toNat w)]),.n .i64 best] <;> rfl
   ·simp only [vYU c1,vYK c2,g1_t,vYY,vYJ]
  ·simp only [vYK c1,g1_t,vYY,vYJ]
end Go.Proofs.YtklmegnpfhiibaaGreat.Xx
namespace Go.Rx
open Go.RowKit Go.Sx Go.ChangeShapes Go.WideShapes
inductive FitB:Sh→PV→Prop
 | i (k:IntKind) (x:Int) (h:(Lit.int k x).wf=true):FitB (.i k) (.n k x)
 | b (x:Bool):FitB .b (.b x)
 | s (x:ByteArray) (h:x.size≤maxLen):FitB .s (.s x)
 | l (row:List Sh) (n:Nat) (f:Nat→List PV) (hn:n≤maxLen) (hB:n * (8 * row.length)≤reachBytes) (hl:∀ j,j < n→(f j).length=row.length) (h:∀ j,j < n→∀ (i:Nat) sh p,row[i]? = some sh→(f j)[i]? = some p→FitB sh p):FitB (.l row) (.lf n f)
def shTB (P:Program):Nat→TypeId→Option (List Sh)
 | 0,_=>none
 | g + 1,t=>match P.underlying t with
  | some (.int k)=>some [.i k]
  | some .bool=>some [.b]
  | some .string=>some [.s]
  | some (.slice e)=>(shTB P g e).bind fun r=>bif Nat.beq (P.cellsOf e) r.length && Nat.blt 0 r.length && Nat.ble (8 * r.length) (P.bytesOf e) then some [.l r] else none
  | some (.array n e)=>(shTB P g e).bind fun r=>bif Nat.beq (P.cellsOf e) r.length && Nat.beq (P.cellsOf t) (sumL (List.replicate n r)) then some (List.replicate n r).flatten else none
  | some (.struct fs)=>(mapO (fun f:Field=>(shTB P g f.type).bind fun r=>bif Nat.beq (P.cellsOf f.type) r.length then some (f.offset,r) else none) fs.toList).bind fun l =>
    bif zYH l 0 && Nat.beq (P.cellsOf t) (sumL (l.map (·.2))) then some (l.map (·.2)).flatten else none
  | _=>none
theorem zWW {H:Type} {P:Program} {e:TypeId} {y:Nat}:∀ {l:List (DataW H)} {d:DataW H},d ∈ l→y ∈ d.weights P e→y ∈ DataW.weightsAll P e l
 | d0 :: l,d,hd,hy=>by
  unfold DataW.weightsAll;rcases List.mem_cons.1 hd with rfl | h
  ·exact List.mem_append_left _ hy
  ·exact List.mem_append_right _ (zWW h hy)
theorem mem_each {H:Type} {P:Program} {y:Nat}:∀ {ts:List TypeId} {l:List (DataW H)} {i:Nat} {t:TypeId} {d:DataW H},ts[i]? = some t→l[i]? = some d→y ∈ d.weights P t→y ∈ DataW.weightsEach P ts l
 | [],_,i,_,_,h,_,_=>by simp at h
 | _ :: _,[],i,_,_,_,h,_=>by simp at h
 | t0 :: ts,d0 :: l,0,t,d,h1,h2,hy=>by
  simp only [List.getElem?_cons_zero,vQZ] at h1 h2;subst h1; subst h2;unfold DataW.weightsEach;exact List.mem_append_left _ hy
 | t0 :: ts,d0 :: l,i + 1,t,d,h1,h2,hy=>by
  simp only [List.getElem?_cons_succ] at h1 h2;unfold DataW.weightsEach;exact List.mem_append_right _ (mem_each h1 h2 hy)
section
variable {P:Program} {w:World} {H:Type} {enc:TypeId × Value→H}
def GoodB (w:World) (shs:List Sh) (cs:List Value):Prop:=∃ ps:List PV,ps.length=shs.length∧(∀ (i:Nat) sh p,shs[i]? = some sh→ps[i]? = some p→FitB sh p)∧Al (RP (fun k=>k < w.heap.size) w) ps cs∧∀ v ∈ cs,v.oneCell'=true
theorem GoodB.one {sh:Sh} {p:PV} {v:Value} (h1:FitB sh p) (h2:RP (fun k=>k < w.heap.size) w p v) (h3:v.oneCell'=true):GoodB w [sh] [v] :=
 ⟨[p],rfl,(fun i s0 q hs hq=>by
  match i with
  | 0=>cases hs; cases hq; exact h1
  | i + 1=>cases hs),qQJ h2 qVU,(fun u hu=>by obtain rfl:=List.mem_singleton.1 hu; exact h3)⟩
theorem GoodB.cat {r s:List Sh} {cs ds:List Value} (h1:GoodB w r cs) (h2:GoodB w s ds):GoodB w (r ++ s) (cs ++ ds):=by
 obtain ⟨p,a1,a2,a3,a4⟩:=h1;obtain ⟨q,b1,b2,b3,b4⟩:=h2;refine ⟨p ++ q,by simp [a1,b1],fun i sh x hs hx => ?_,a3.append b3,fun v hv => ?_⟩
 ·rcases Nat.lt_or_ge i r.length with hi | hi
  ·rw [List.getElem?_append_left hi] at hs;rw [List.getElem?_append_left (by omega)] at hx;exact a2 i sh x hs hx
  ·rw [List.getElem?_append_right hi] at hs;rw [List.getElem?_append_right (by omega),a1] at hx;exact b2 _ sh x hs hx
 ·rcases List.mem_append.1 hv with h | h
  ·exact a4 v h
  ·exact b4 v h
def PiecesB (w:World):List (List Sh)→List Value→Prop
 | [],cs=>cs=[]
 | r :: l,cs=>GoodB w r (cs.take r.length)∧PiecesB w l (cs.drop r.length)
theorem PiecesB.good:∀ {l:List (List Sh)} {cs:List Value},PiecesB w l cs→GoodB w l.flatten cs
 | [],cs,h=>by
  have:cs=[]:=h
  subst this;exact ⟨[],rfl,fun i sh p hs=>by simp at hs,qVU,fun v hv=>by cases hv⟩
 | r :: l,cs,h=>by
  have:=GoodB.cat h.1 h.2.good
  rw [List.take_append_drop] at this;exact this
theorem pieces_arrB {r:List Sh}:∀ (n:Nat) (cs:List Value),cs.length=sumL (List.replicate n r)→(∀ i,i < n→GoodB w r ((cs.drop (i * r.length)).take r.length))→PiecesB w (List.replicate n r) cs
 | 0,cs,hl,_=>by
  have:cs.length=0:=hl
  exact List.length_eq_zero_iff.1 this
 | n + 1,cs,hl,h=>by
  have hl':cs.length=r.length + sumL (List.replicate n r):=hl;refine ⟨by have:=h 0 (by omega); simpa using this,pieces_arrB n _ (by rw [List.length_drop]; omega) fun i hi => ?_⟩
  have:=h (i + 1) (by omega)
  rw [List.drop_drop];rw [show r.length + i * r.length=(i + 1) * r.length by rw [Nat.add_mul]; omega];exact this
theorem pieces_strB:∀ (l:List (Nat × List Sh)) (a:Nat) (cs:List Value),zYH l a=true→(cs.drop a).length=sumL (l.map (·.2))→(∀ x ∈ l,GoodB w x.2 ((cs.drop x.1).take x.2.length))→PiecesB w (l.map (·.2)) (cs.drop a)
 | [],a,cs,_,hl,_=>List.length_eq_zero_iff.1 hl
 | x :: l,a,cs,hc,hl,h=>by
  simp only [zYH,vQJ] at hc;have e:=vQU hc.1;have hl':(cs.drop a).length=x.2.length + sumL (l.map (·.2)):=hl;rw [List.length_drop] at hl';have h0:=h x vQG;rw [e] at h0;refine ⟨h0,?_⟩;show PiecesB w (l.map (·.2)) ((cs.drop a).drop x.2.length);rw [List.drop_drop];exact pieces_strB l (a + x.2.length) cs hc.2 (by rw [List.length_drop]; omega) fun y hy=>h y (vQV _ hy)
theorem zQB {sp:Nat→Bool} {held:Bool}:∀ (fuel:Nat) (t:TypeId) (cs:List Value) (x:DataW H × List MemPlace) (g:Nat) (shs:List Sh),DataW.trod enc P w 0 sp held fuel t cs=some x→shTB P g t=some shs→(∀ y ∈ DataW.weights P t x.1,y≤reachBytes)→GoodB w shs cs
 | 0,t,cs,x,g,shs,h,_,_=>by simp [DataW.trod] at h
 | fuel + 1,t,cs,x,0,shs,h,hs,_=>by cases hs
 | fuel + 1,t,cs,x,g + 1,shs,h,hs,hw=>by
  unfold shTB at hs;split at hs
  ·rename_i k hu;cases hs;obtain ⟨n,rfl,_,hwf⟩:=DataW.trod_int hu h;exact GoodB.one (.i _ _ hwf) (.n _ _) rfl
  ·rename_i hu;cases hs;obtain ⟨b,rfl,_⟩:=DataW.trod_bool hu h;exact GoodB.one (.b _) (.b _) rfl
  ·rename_i hu;cases hs;obtain ⟨s,rfl,_,hs⟩:=DataW.trod_string hu h;exact GoodB.one (.s _ hs) (.s _) rfl
  ·rename_i e hu;simp only [vQQ] at hs;obtain ⟨r,hr,hs⟩:=hs;obtain ⟨hb,hs⟩:=qZ hs;cases hs;simp only [vQJ,Nat.blt_eq] at hb;have hk:=vQU hb.1.1;have hr0:=hb.1.2;have h8:=vZJ hb.2;rcases DataW.trod_slice hu h with ⟨rfl,_⟩ | ⟨a,len,cap,elems,rest,n,hf,rfl,rfl,_,hl,hm,hel,hcell,_,_⟩
   ·exact GoodB.one (.l r 0 (fun _=>[]) (Nat.zero_le _) (by rw [Nat.zero_mul]; exact Nat.zero_le _) (fun j hj=>by omega) (fun j hj=>by omega)) (.lf 0 _ _ (.l0 _ _)) rfl
   ·obtain rfl:n=fuel:=by omega
    have hwe:DataW.weights P t (.slice (elems.map (·.1)) (rest.map (·.1)))=((elems.map (·.1)).length + (rest.map (·.1)).length) * P.bytesOf e :: (DataW.weightsAll P e (elems.map (·.1)) ++ DataW.weightsAll P e (rest.map (·.1))):=by
     unfold DataW.weights;rw [hu]
    replace hw:∀ y ∈ DataW.weights P t (.slice (elems.map (·.1)) (rest.map (·.1))),y≤reachBytes:=hw
    rw [hwe] at hw;have hB:len * (8 * r.length)≤reachBytes:=by
     have h0:=hw _ vQG;rw [List.length_map,List.length_map,hel] at h0;exact Nat.le_trans (Nat.mul_le_mul (Nat.le_add_right _ _) h8) h0
    have each:∀ i,∃ y:List PV × List Value,i < len→w.cells? 0 (a.add (i * r.length)) r.length=some y.2∧y.1.length=r.length∧(∀ (j:Nat) sh p,r[j]? = some sh→y.1[j]? = some p→FitB sh p)∧Al (RP (fun k=>k < w.heap.size) w) y.1 y.2∧∀ v ∈ y.2,v.oneCell'=true:=fun i=>by
     by_cases hi:i < len
     ·have hc:=hcell i hi;have he:elems[i]? = some (elems[i]'(by omega)):=vQK (by omega);rw [he,vQQ] at hc;obtain ⟨cs',h1,h2⟩:=hc;rw [hk] at h1;obtain ⟨ps,b1,b2,b3,b4⟩:=zQB n e cs' _ g r h2 hr (fun y hy=>hw y (vQV _ (List.mem_append_left _ (zWW (List.mem_map.2 ⟨_,List.getElem_mem (show i < elems.length by omega),rfl⟩) hy))));exact ⟨(ps,cs'),fun _=>⟨h1,b1,b2,b3,b4⟩⟩
     ·exact ⟨([],[]),fun h=>absurd h hi⟩
    obtain ⟨f,hf2⟩:=Classical.axiomOfChoice each;refine GoodB.one (.l r len (fun j=>(f j).1) (by omega) hB (fun j hj=>(hf2 j hj).2.1) (fun j hj=>(hf2 j hj).2.2.1)) (.lf len _ _ ?_) rfl;rcases Nat.eq_zero_or_pos len with h0 | hpos
    ·subst h0;exact .l0 _ _
    ·have hsome:∀ j t,j < len→t < r.length→w.cell? ((a.add (j * r.length)).add t)=(f j).2[t]?:=fun j t hj ht=>(World.cells?_some (hf2 j hj).1).2.2 t ht
     have hlen2:∀ j,j < len→(f j).2.length=r.length:=fun j hj=>(World.cells?_some (hf2 j hj).1).2.1
     have h00:=hsome 0 0 hpos hr0;have hg:(f 0).2[0]? = some ((f 0).2[0]'(by rw [hlen2 0 hpos]; exact hr0)):=vQK _;rw [hg] at h00;have hsp:a.spot=none:=by
      have e:(a.add (0 * r.length)).add 0=a:=by simp [Addr.add]
      rw [e] at h00;unfold World.cell? at h00;cases hb:w.heap[a.block]? with
      | none=>simp [hb] at h00
      | some o=>cases o <;> simp [hb] at h00; exact h00.1
     obtain ⟨bb,off,sp'⟩:=a;simp only at hsp;subst hsp;have hbb:bb < w.heap.size:=by
      rw [kG,kG] at h00;unfold World.cell? at h00;cases hb:w.heap[bb]? with
      | none=>simp [hb] at h00
      | some o=>exact qQC hb
     refine .l _ bb off len cap r.length (fun j t=>((f j).2[t]?).getD (.bool false)) (by simp) hl (fun q hq => ?_) hbb (fun j t hj ht => ?_) (fun j q t p hq hp => ?_)
     ·obtain ⟨j,hj,rfl⟩:=List.mem_map.1 hq;exact (hf2 j (List.mem_range.1 hj)).2.1
     ·have h1:=hsome j t hj ht;have hg2:(f j).2[t]? = some ((f j).2[t]'(by rw [hlen2 j hj]; exact ht)):=vQK _;rw [kG,kG,hg2,Nat.add_assoc] at h1;rw [hg2];exact ⟨h1,(hf2 j hj).2.2.2.2 _ (List.getElem_mem _)⟩
     ·have hj:j < len:=by have:=(List.getElem?_eq_some_iff.1 hq).1; simpa using this
      rw [vQH,List.getElem?_range hj] at hq;cases hq;have htl:=(List.getElem?_eq_some_iff.1 hp).1;have hg2:(f j).2[t]? = some ((f j).2[t]'(by rw [hlen2 j hj,← (hf2 j hj).2.1]; exact htl)):=vQK _
      have:=(hf2 j hj).2.2.2.1.2 t p _ hp hg2
      rw [hg2];exact this
  ·rename_i n e hu;simp only [vQQ] at hs;obtain ⟨r,hr,hs⟩:=hs;obtain ⟨hb,hs⟩:=qZ hs;cases hs;simp only [vQJ] at hb;have hk:=vQU hb.1;have hk2:=vQU hb.2;obtain ⟨xs,m,hf,rfl,hl,hxl,hall⟩:=DataW.trod_array hu h;have hwe:DataW.weights P t (.agg (xs.map (·.1)))=DataW.weightsAll P e (xs.map (·.1)):=by
    unfold DataW.weights;rw [hu]
   replace hw:∀ y ∈ DataW.weights P t (.agg (xs.map (·.1))),y≤reachBytes:=hw
   rw [hwe] at hw;obtain rfl:m=fuel:=by omega
   refine (pieces_arrB n cs (hl.trans hk2) fun i hi => ?_).good;have h1:=hall i hi;have he:xs[i]? = some (xs[i]'(by omega)):=vQK (by omega);rw [he,hk] at h1;exact zQB m e _ _ g r h1 hr (fun y hy=>hw y (zWW (List.mem_map.2 ⟨_,List.getElem_mem (show i < xs.length by omega),rfl⟩) hy))
  ·rename_i fs hu;simp only [vQQ] at hs;obtain ⟨l,hlm,hs⟩:=hs;obtain ⟨hb,hs⟩:=qZ hs;cases hs;simp only [vQJ] at hb;have hk2:=vQU hb.2;obtain ⟨xs,m,hf,rfl,hl,hxl,hall⟩:=DataW.trod_struct hu h;have hwe:DataW.weights P t (.agg (xs.map (·.1)))=DataW.weightsEach P (fs.toList.map (·.type)) (xs.map (·.1)):=by
    unfold DataW.weights;rw [hu]
   replace hw:∀ y ∈ DataW.weights P t (.agg (xs.map (·.1))),y≤reachBytes:=hw
   rw [hwe] at hw;obtain rfl:m=fuel:=by omega
   have hm:=yZ hlm
   have:=pieces_strB (w:=w) l 0 cs hb.1 (by rw [vYZ]; exact hl.trans hk2) fun y hy=>by
    obtain ⟨i,hi⟩:=List.mem_iff_getElem?.1 hy;have hil:=(List.getElem?_eq_some_iff.1 hi).1;have hl2:i < fs.toList.length:=by rw [hm.1]; exact hil
    have hfi:fs.toList[i]? = some (fs.toList[i]'hl2):=vQK hl2;have h1:=hm.2 i _ y hfi hi;have hfi0:=hfi;generalize fs.toList[i]'hl2=fd at hfi hfi0 h1;simp only [vQQ] at h1;obtain ⟨r,hr,h1⟩:=h1;obtain ⟨hb1,h1⟩:=qZ h1;cases h1;have hk:=vQU hb1;have h2:=hall i fd (by simpa using hfi);have he:xs[i]? = some (xs[i]'(by simp at hxl hl2; omega)):=vQK _;rw [he,hk] at h2;exact zQB m fd.type _ _ g r h2 hr (fun y hy=>hw y (mem_each (i:=i) (by rw [vQH,hfi0]; rfl) (by rw [vQH,he]; rfl) hy))
   rw [vYZ] at this;exact this.good
  ·cases hs
end
section
variable {P:Program} {W:World} {H:Type} {enc:TypeId × Value→H}
def FitsB (row:List Sh) (ps:List PV):Prop:=ps.length=row.length∧∀ (i:Nat) sh p,row[i]? = some sh→ps[i]? = some p→FitB sh p
theorem FitsB.cons {s0:Sh} {row:List Sh} {ps:List PV} (h:FitsB (s0 :: row) ps):∃ p qs,ps=p :: qs∧FitB s0 p∧FitsB row qs:=by
 cases ps with
 | nil=>have:=h.1; simp at this
 | cons p qs=>exact ⟨p,qs,rfl,h.2 0 s0 p rfl rfl,by have:=h.1; simpa using this,fun i sh q h1 h2=>h.2 (i + 1) sh q h1 h2⟩
theorem FitsB.nil {ps:List PV} (h:FitsB [] ps):ps=[]:=List.eq_nil_of_length_eq_zero h.1
theorem FitB.int {k:IntKind} {p:PV} (h:FitB (.i k) p):∃ x,p=.n k x∧(Lit.int k x).wf=true:=by cases h with | i k x h=>exact ⟨x,rfl,h⟩
theorem FitB.str {p:PV} (h:FitB .s p):∃ x,p=.s x:=by cases h with | s x h=>exact ⟨x,rfl⟩
theorem FitB.slc {row:List Sh} {p:PV} (h:FitB (.l row) p):∃ n f,p=.lf n f∧n * (8 * row.length)≤reachBytes∧∀ j,j < n→FitsB row (f j):=by
 cases h with
 | l row n f hn hB hl h=>exact ⟨n,f,rfl,hB,fun j hj=>⟨hl j hj,h j hj⟩⟩
theorem open_strB {t:TypeId} {fs:Array Field} {v:Value} {d:DataW H} {p:List MemPlace} {g:Nat} {row:List Sh} (ht:P.underlying t=some (.struct fs)) {r:Reach} {base:Nat} (hv:Value.okWide P W r base t v)
  (h:DataW.Trod enc P W 0 (fun _=>true) true t v d p) (hs:shTB P g t=some row) (hw:∀ y ∈ DataW.weights P t d,y≤reachBytes):∃ ps,RP (fun k=>k < W.heap.size) W (.a ps) v∧FitsB row ps:=by
 have hcs:∃ cs,v=.agg cs:=by
  unfold Value.okWide at hv;cases v <;> simp [ht] at hv
  exact ⟨_,rfl⟩
 obtain ⟨cs,rfl⟩:=hcs;obtain ⟨fuel,h⟩:=h;obtain ⟨ps,h1,h2,h3,h4⟩:=zQB fuel t _ _ g row h hs hw;exact ⟨ps,.a ps cs.toList h3.1 h4 h3.2,h1,h2⟩
end
end Go.Rx
namespace Go.Proofs.YtklmegnpfhiibaaGreat.Xy
open Go.Rx Rt Go.Sx Go.RowKit Go.ChangeShapes Go.WideShapes Od Na Nb Nc Sn So Sq Xb Xc Bb Xe Xf Xg Xh Xi Xk Xm Xn Xo Xp Xq Xr Xs Xu Xv Xw Xx
def shJ:List Sh:=[.s,.i .i64,.i .i64,.i .i64,.i .i64,.i .i64,.i .i64,.i .i64,.i .i64,.i .i64,.i .i64,.i .i64]
theorem row_J {ps:List PV} (h:Fits shJ ps):∃ a:J,ps=jp a:=by
 unfold shJ at h;obtain ⟨p0,q0,rfl,f0,h⟩:=h.cons;obtain ⟨p1,q1,rfl,f1,h⟩:=h.cons;obtain ⟨p2,q2,rfl,f2,h⟩:=h.cons;obtain ⟨p3,q3,rfl,f3,h⟩:=h.cons;obtain ⟨p4,q4,rfl,f4,h⟩:=h.cons;obtain ⟨p5,q5,rfl,f5,h⟩:=h.cons;obtain ⟨p6,q6,rfl,f6,h⟩:=h.cons;obtain ⟨p7,q7,rfl,f7,h⟩:=h.cons;obtain ⟨p8,q8,rfl,f8,h⟩:=h.cons;obtain ⟨p9,q9,rfl,f9,h⟩:=h.cons;obtain ⟨p10,q10,rfl,f10,h⟩:=h.cons;obtain ⟨p11,q11,rfl,f11,h⟩:=h.cons;obtain rfl:=h.nil;obtain ⟨x0,rfl⟩:=f0.str;obtain ⟨x1,rfl,_⟩:=f1.int;obtain ⟨x2,rfl,_⟩:=f2.int;obtain ⟨x3,rfl,_⟩:=f3.int;obtain ⟨x4,rfl,_⟩:=f4.int;obtain ⟨x5,rfl,_⟩:=f5.int;obtain ⟨x6,rfl,_⟩:=f6.int;obtain ⟨x7,rfl,_⟩:=f7.int;obtain ⟨x8,rfl,_⟩:=f8.int;obtain ⟨x9,rfl,_⟩:=f9.int;obtain ⟨x10,rfl,_⟩:=f10.int;obtain ⟨x11,rfl,_⟩:=f11.int;exact ⟨⟨x0,x1,x2,⟨x3,x4,x5⟩,x6,x7,x8,x9,x10,x11⟩,rfl⟩
def shM:List Sh:=[.i .i64,.i .i64,.i .i64,.i .i64,.i .i64]
theorem row_M {ps:List PV} (h:Fits shM ps):∃ a:Ms,ps=mp a:=by
 unfold shM at h;obtain ⟨p0,q0,rfl,f0,h⟩:=h.cons;obtain ⟨p1,q1,rfl,f1,h⟩:=h.cons;obtain ⟨p2,q2,rfl,f2,h⟩:=h.cons;obtain ⟨p3,q3,rfl,f3,h⟩:=h.cons;obtain ⟨p4,q4,rfl,f4,h⟩:=h.cons;obtain rfl:=h.nil;obtain ⟨x0,rfl,_⟩:=f0.int;obtain ⟨x1,rfl,_⟩:=f1.int;obtain ⟨x2,rfl,_⟩:=f2.int;obtain ⟨x3,rfl,_⟩:=f3.int;obtain ⟨x4,rfl,_⟩:=f4.int;exact ⟨⟨x0,x1,⟨x2,x3,x4⟩⟩,rfl⟩
section
variable {W:World} {H:Type} {enc:TypeId × Value→H} {r:Reach} {base:Nat} {v:Value} {d:DataW H} {p:List MemPlace}
abbrev RW (W:World):PV→Value→Prop:=RP (fun k=>k < W.heap.size) W
theorem shT_r:shT Tryz.prog 8 25=some [.l shJ,.l shM]:=by kernel_rfl
set_option maxRecDepth 100000 in
theorem open_robot (hv:Value.okWide Tryz.prog W r base 25 v) (h:DataW.Trod enc Tryz.prog W 0 (fun _=>true) true 25 v d p):∃ (js:Nat→J) (ms:Nat→Ms) (n m:Nat),RW W (.a [.lf n (fJ js),.lf m (fM ms)]) v:=by
 obtain ⟨ps,hr,hf⟩:=open_str Tryz.underlying25 hv h shT_r;obtain ⟨p1,ps,rfl,f1,hf⟩:=hf.cons;obtain ⟨p2,ps,rfl,f2,hf⟩:=hf.cons;obtain rfl:=hf.nil;obtain ⟨n,f,rfl,g1⟩:=f1.slc;obtain ⟨m,g,rfl,g2⟩:=f2.slc;obtain ⟨js,hj⟩:∃ js:Nat→J,∀ j,j < n→f j=fJ js j:=by
  have each:∀ j,∃ a:J,j < n→f j=jp a:=fun j=>by
   by_cases hj:j < n
   ·obtain ⟨a,ha⟩:=row_J (g1 j hj); exact ⟨a,fun _=>ha⟩
   ·exact ⟨⟨ByteArray.empty,0,0,⟨0,0,0⟩,0,0,0,0,0,0⟩,fun h=>absurd h hj⟩
  obtain ⟨js,hjs⟩:=Classical.axiomOfChoice each;exact ⟨js,hjs⟩
 obtain ⟨ms,hm⟩:∃ ms:Nat→Ms,∀ j,j < m→g j=fM ms j:=by
  have each:∀ j,∃ a:Ms,j < m→g j=mp a:=fun j=>by
   by_cases hj:j < m
   ·obtain ⟨a,ha⟩:=row_M (g2 j hj); exact ⟨a,fun _=>ha⟩
   ·exact ⟨⟨0,0,⟨0,0,0⟩⟩,fun h=>absurd h hj⟩
  obtain ⟨ms,hms⟩:=Classical.axiomOfChoice each;exact ⟨ms,hms⟩
 have s:Sames [.lf n f,.lf m g] [.lf n (fJ js),.lf m (fM ms)]:=⟨qYB hj,qYB hm,trivial⟩
 exact ⟨js,ms,n,m,Same.a s _ _ _ hr⟩
end
def shI:List Sh:=[.i .i64]
def shP:List Sh:=[.l shI]
def shV:List Sh:=[.i .i64,.i .i64,.i .i64]
def shPc:List Sh:=[.i .i64,.i .i64,.l shV]
def shE:List Sh:=[.i .i64,.i .i64,.i .i64,.i .i64,.i .i64,.l shPc,.i .i64,.i .i64,.l shV,.i .i64,.l shI,.l shI]
theorem rb_I {ps:List PV} (h:FitsB shI ps):isI ps:=by
 unfold shI at h;obtain ⟨p0,q0,rfl,f0,h⟩:=h.cons;obtain rfl:=h.nil;obtain ⟨x0,rfl,_⟩:=f0.int;exact ⟨x0,rfl⟩
theorem rb_V {ps:List PV} (h:FitsB shV ps):isV ps:=by
 unfold shV at h;obtain ⟨p0,q0,rfl,f0,h⟩:=h.cons;obtain ⟨p1,q1,rfl,f1,h⟩:=h.cons;obtain ⟨p2,q2,rfl,f2,h⟩:=h.cons;obtain rfl:=h.nil;obtain ⟨x0,rfl,_⟩:=f0.int;obtain ⟨x1,rfl,_⟩:=f1.int;obtain ⟨x2,rfl,_⟩:=f2.int;exact ⟨x0,x1,x2,rfl⟩
theorem rb_C {ps:List PV} (h:FitsB shPc ps):∃ c:Pc,isPc ps c:=by
 unfold shPc at h;obtain ⟨p0,q0,rfl,f0,h⟩:=h.cons;obtain ⟨p1,q1,rfl,f1,h⟩:=h.cons;obtain ⟨p2,q2,rfl,f2,h⟩:=h.cons;obtain rfl:=h.nil;obtain ⟨x0,rfl,_⟩:=f0.int;obtain ⟨x1,rfl,_⟩:=f1.int;obtain ⟨k,f,rfl,b,hf⟩:=f2.slc;refine ⟨⟨x0,x1,k,f⟩,rfl,?_,fun t ht=>rb_V (hf t ht)⟩;have b':k * (8 * 3)≤reachBytes:=b;unfold reachBytes at b';show k * 24≤281474976710656;omega
theorem rb_E {ps:List PV} (h:FitsB shE ps):∃ e:Ed,ps=edP e∧OkE e:=by
 unfold shE at h;obtain ⟨p0,q0,rfl,f0,h⟩:=h.cons;obtain ⟨p1,q1,rfl,f1,h⟩:=h.cons;obtain ⟨p2,q2,rfl,f2,h⟩:=h.cons;obtain ⟨p3,q3,rfl,f3,h⟩:=h.cons;obtain ⟨p4,q4,rfl,f4,h⟩:=h.cons;obtain ⟨p5,q5,rfl,f5,h⟩:=h.cons;obtain ⟨p6,q6,rfl,f6,h⟩:=h.cons;obtain ⟨p7,q7,rfl,f7,h⟩:=h.cons;obtain ⟨p8,q8,rfl,f8,h⟩:=h.cons;obtain ⟨p9,q9,rfl,f9,h⟩:=h.cons;obtain ⟨p10,q10,rfl,f10,h⟩:=h.cons;obtain ⟨p11,q11,rfl,f11,h⟩:=h.cons;obtain rfl:=h.nil;obtain ⟨x0,rfl,_⟩:=f0.int;obtain ⟨x1,rfl,_⟩:=f1.int;obtain ⟨x2,rfl,_⟩:=f2.int;obtain ⟨x3,rfl,_⟩:=f3.int;obtain ⟨x4,rfl,_⟩:=f4.int;obtain ⟨n5,x5,rfl,b5,g5⟩:=f5.slc;obtain ⟨x6,rfl,_⟩:=f6.int;obtain ⟨x7,rfl,_⟩:=f7.int;obtain ⟨n8,x8,rfl,b8,g8⟩:=f8.slc;obtain ⟨x9,rfl,_⟩:=f9.int;obtain ⟨n10,x10,rfl,b10,g10⟩:=f10.slc;obtain ⟨n11,x11,rfl,b11,g11⟩:=f11.slc;refine ⟨⟨x0,x1,x2,x3,x4,x6,x7,x9,n5,x5,n8,x8,n10,x10,n11,x11⟩,rfl,⟨fun j hj=>rb_C (g5 j hj),?_,⟨?_,fun j hj=>rb_V (g8 j hj)⟩,⟨?_,fun j hj=>rb_I (g10 j hj)⟩,⟨?_,fun j hj=>rb_I (g11 j hj)⟩⟩⟩
 ·have b:n5 * (8 * 3)≤reachBytes:=b5;unfold reachBytes at b;show n5 * 40≤281474976710656;omega
 ·have b:n8 * (8 * 3)≤reachBytes:=b8;unfold reachBytes at b;show n8 * 24≤281474976710656;omega
 ·have b:n10 * (8 * 1)≤reachBytes:=b10;unfold reachBytes at b;show n10 * 8≤281474976710656;omega
 ·have b:n11 * (8 * 1)≤reachBytes:=b11;unfold reachBytes at b;show n11 * 8≤281474976710656;omega
theorem yJG {α:Type} (a0:α) {n:Nat} {f:Nat→List PV} {R:List PV→α→Prop} (h:∀ j,j < n→∃ a,R (f j) a):∃ g:Nat→α,∀ j,j < n→R (f j) (g j):=by
 have each:∀ j,∃ a:α,j < n→R (f j) a:=fun j=>by
  by_cases hj:j < n
  ·obtain ⟨a,ha⟩:=h j hj; exact ⟨a,fun _=>ha⟩
  ·exact ⟨a0,fun h=>absurd h hj⟩
 obtain ⟨g,hg⟩:=Classical.axiomOfChoice each;exact ⟨g,hg⟩
theorem rb_P {ps:List PV} (h:FitsB shP ps):∃ a:Nat × (Nat→Int),Sames ps [.lf a.1 (fQ a.2)]:=by
 unfold shP at h;obtain ⟨p0,q0,rfl,f0,h⟩:=h.cons;obtain rfl:=h.nil;obtain ⟨k,f,rfl,_,hf⟩:=f0.slc;obtain ⟨q,hq⟩:=yJG (0:Int) (R:=fun ps z=>ps=[PV.n .i64 z]) fun j hj=>rb_I (hf j hj)
 exact ⟨(k,q),qYB (g:=fQ q) hq,trivial⟩
section
variable {W:World} {H:Type} {enc:TypeId × Value→H} {r:Reach} {base:Nat} {v:Value} {d:DataW H} {p:List MemPlace}
theorem shT_g:shTB Tryz.prog 9 29=some [.l shP,.l shE]:=by kernel_rfl
set_option maxRecDepth 100000 in
theorem open_gr (hv:Value.okWide Tryz.prog W r base 29 v) (h:DataW.Trod enc Tryz.prog W 0 (fun _=>true) true 29 v d p) (hw:∀ y ∈ DataW.weights Tryz.prog 29 d,y≤reachBytes):∃ (np:Nat) (pn:Nat→Nat) (pv:Nat→Nat→Int) (ne:Nat) (ed:Nat→Ed),(∀ i,i < ne→OkE (ed i))∧RP (fun k=>k < W.heap.size) W (.a [.lf np (fP pn pv),.lf ne (fE ed)]) v:=by
 obtain ⟨ps,hr,hf⟩:=open_strB Tryz.underlying29 hv h shT_g hw;obtain ⟨p1,ps,rfl,f1,hf⟩:=hf.cons;obtain ⟨p2,ps,rfl,f2,hf⟩:=hf.cons;obtain rfl:=hf.nil;obtain ⟨n,f,rfl,_,g1⟩:=f1.slc;obtain ⟨m,k,rfl,_,g2⟩:=f2.slc;obtain ⟨pt,hp⟩:=yJG ((0,z0):Nat × (Nat→Int)) (R:=fun ps a=>Sames ps [.lf a.1 (fQ a.2)]) fun j hj=>rb_P (g1 j hj)
 obtain ⟨ed,he⟩:=yJG (unE []) (R:=fun ps z=>ps=edP z∧OkE z) fun j hj=>rb_E (g2 j hj)
 have s:Sames [.lf n f,.lf m k] [.lf n (fP (fun j=>(pt j).1) (fun j=>(pt j).2)),.lf m (fE ed)]:=⟨same_lfS hp,qYB fun j hj=>(he j hj).1,trivial⟩
 exact ⟨n,fun j=>(pt j).1,fun j=>(pt j).2,m,ed,fun i hi=>(he i hi).2,Same.a s _ _ _ hr⟩
end
theorem snd_bpru (hA:zQ Tryz.prog 6 [] (.v (.b true))) (js:Nat→J) (ms:Nat→Ms) (n m:Nat) (np:Nat) (pn:Nat→Nat) (pv:Nat→Nat→Int) (ne:Nat) (ed:Nat→Ed) (hed:∀ i,i < ne→OkE (ed i)) (lp:List Int) (_:lp.length≤9223372036854775807) (lq:List Int) (_:lq.length≤9223372036854775807) (lx:List Int) (_:lx.length≤9223372036854775807) (a b best:Int) (l:List Int) (hl:l.length≤9223372036854775807) (lm:List Int) (hm:lm.length≤9223372036854775807) (lo:List Int) (ho:lo.length≤9223372036854775807) (more:Int):zQ Tryz.prog 3 [.a [.lf n (fJ js),.lf m (fM ms)],.a [.lf np (fP pn pv),.lf ne (fE ed)],qVH lp,qVH lq,qVH lx,.n .i64 a,.n .i64 b,.n .i64 best,qVH l,qVH lm,qVH lo,.n .i64 more] (.v (.b true)):=by
 have hr:=(rbF_ok (t:=(l.length,0,iqOf l)) ⟨Nat.zero_le _,hl⟩).1;obtain ⟨h0,hlim⟩:=rob_chk hr;have hn3:1≤(rbF (l.length,0,iqOf l)).2.2.1∧(rbF (l.length,0,iqOf l)).2.2.1≤3:=hr.2.1;obtain ⟨tp,te,tn,tv,ee,⟨t1,t2,t3,t4,t5⟩,hM⟩:=rm_ex (rbF (l.length,0,iqOf l)).1 (rbF (l.length,0,iqOf l)).2.1 (rbF (l.length,0,iqOf l)).2.2.1 (rbF (l.length,0,iqOf l)).2.2.2.1 lm.length (iqOf lm) hm h0 (by omega) hlim;obtain ⟨qo,_,hC⟩:=cfg_ex lo.length (iqOf lo) (rbF (l.length,0,iqOf l)).1 (rbF (l.length,0,iqOf l)).2.1 (rbF (l.length,0,iqOf l)).2.2.1 (rbF (l.length,0,iqOf l)).2.2.2.1 ho (by omega) hlim;refine qZY (fun F w vals h=>Sames.al (xs:=[.a [.lf n (fJ js),.lf m (fM ms)],.a [.lf np (fP pn pv),.lf ne (fE ed)],qVH lp,qVH lq,qVH lx,.n .i64 a,.n .i64 b,.n .i64 best,qVH l,qVH lm,qVH lo,.n .i64 more]) (ys:=[.a [.lf n (fJ js),.lf m (fM ms)],.a [.lf np (fP pn pv),.lf ne (fE ed)],.lf lp.length (fQ (iqOf lp)),.lf lq.length (fQ (iqOf lq)),.lf lx.length (fQ (iqOf lx)),.n .i64 a,.n .i64 b,.n .i64 best,.lf l.length (fQ (iqOf l)),.lf lm.length (fQ (iqOf lm)),.lf lo.length (fQ (iqOf lo)),.n .i64 more]) ⟨fun _ _ _ h=>h,fun _ _ _ h=>h,qXJ lp,qXJ lq,qXJ lx,fun _ _ _ h=>h,fun _ _ _ h=>h,fun _ _ _ h=>h,qXJ l,qXJ lm,qXJ lo,fun _ _ _ h=>h,trivial⟩ h) ?_;exact snd_lbp js ms n m np pn pv ne ed _ _ _ _ _ _ a b best _ _ _ _ _ _ more _ _ _ _ tp tn tv te ee qo hA (snd_Rob _ _ hl) hM hC ⟨t1,by omega⟩ (fun j hj=>by have:=qKF (zHY t4 j hj); omega) (by omega) t5 hed
end Go.Proofs.YtklmegnpfhiibaaGreat.Xy

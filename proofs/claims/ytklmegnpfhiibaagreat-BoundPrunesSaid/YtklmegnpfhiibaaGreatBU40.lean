/- Part 40 of the texts behind the last one: rules and contracts. No condition. -/
import Derived.Test.YtklmegnpfhiibaaGreatBU39
open List renaming getElem?_take → vZU, getD_eq_getElem?_getD → vZX
namespace Go.Rx
open Go.RowKit Go.Sx Go.ChangeShapes Go.WideShapes
section
variable {P:Program} {W:World} {H:Type} {enc:TypeId × Value→H}
def qVD (W:World) (v:Value) (L:List Int):Prop:=RP (fun k=>k < W.heap.size) W (qVH L) v∧L.length≤9223372036854775807∧∀ x ∈ L,In64 x
theorem qHC {t e:TypeId} {v:Value} {d:DataW H} {p:List MemPlace} (ht:P.underlying t=some (.slice e)) (he:P.underlying e=some (.int .i64)) (hc:P.cellsOf e=1)
  {r:Reach} {base:Nat} (hv:Value.okWide P W r base t v) (h:DataW.Trod enc P W 0 (fun _=>true) true t v d p):∃ L:List Int,qVD W v L:=by
 obtain ⟨a,l,c,rfl⟩:=slice_of ht hv;obtain ⟨fuel,h⟩:=h;have h':DataW.trod enc P W 0 (fun _=>true) true fuel t [.slice a l c]=some (d,p):=h;rcases open_ints ht he hc h' with ⟨h1,_⟩ | ⟨a',len,cap,zs,h1,_,hlc,hcap,hz,_,hcell,hwf⟩
 ·simp at h1;obtain ⟨rfl,rfl,rfl⟩:=h1;exact ⟨[],.l0 none 0,by simp,fun x hx=>by cases hx⟩
 ·simp at h1;obtain ⟨rfl,rfl,rfl⟩:=h1;simp only [if_true] at hz;have hlen:(zs.take l).length=l:=by simp; omega
  have hI:IntsAt W W.heap.size (.slice (some a') l c) (zs.take l):=⟨by have:maxLen=9223372036854775807:=rfl; omega,some a',c,by rw [hlen],fun j hj=>by
   rw [hlen] at hj;have h0:=hcell 0 (by omega);have hj':=hcell j (by omega);have hsp:a'.spot=none:=by
    have e:a'.add 0=a':=by simp [Addr.add]
    rw [e] at h0;unfold World.cell? at h0;cases hb:W.heap[a'.block]? with
    | none=>simp [hb] at h0
    | some o=>cases o <;> simp [hb] at h0; exact h0.1
   obtain ⟨bb,off,sp⟩:=a';simp only at hsp;subst hsp;rw [kG] at hj';refine ⟨bb,off,rfl,?_,?_⟩
   ·unfold World.cell? at hj';cases hb:W.heap[bb]? with
    | none=>simp [hb] at hj'
    | some o=>exact qQC hb
   ·rw [hj'];simp [vZX,vZU,hj]⟩
  refine ⟨zs.take l,?_,hI.1,fun x hx => ?_⟩
  ·have:=rp_of_ints (F:=fun k=>k < W.heap.size) (w:=W) (L:=zs.take l) (a:=some a') (c:=c) (by rw [hlen]; exact hI) (by rw [hlen]; exact hlc) fun k hk=>hk
   rw [hlen] at this;exact this
  ·have:=hwf x (List.mem_of_mem_take hx)
   simpa [Lit.wf,IntKind.has,IntKind.min,IntKind.max,IntKind.signed,IntKind.bits,In64] using this
end
end Go.Rx
namespace Go.Proofs.YtklmegnpfhiibaaGreat
open Go.Rx Go.Sx Go.RowKit Od Nb Bb Xe Xm
theorem wBoundPrunes (v0:Value) (js0:Nat→J) (ms0:Nat→Ms) (n0 m0:Nat) (v1:Value) (np1:Nat) (pn1:Nat→Nat) (pv1:Nat→Nat→Int) (ne1:Nat) (ed1:Nat→Ed) (o1:∀ i,i < ne1→OkE (ed1 i)) (v2:Value) (L2:List Int) (v3:Value) (L3:List Int) (v4:Value) (L4:List Int) (a5:Int) (a6:Int) (a7:Int) (v8:Value) (L8:List Int) (v9:Value) (L9:List Int) (v10:Value) (L10:List Int) (a11:Int) (W:World) (h0:RP (fun k=>k < W.heap.size) W (.a [.lf n0 (fJ js0),.lf m0 (fM ms0)]) v0) (h1:RP (fun k=>k < W.heap.size) W (.a [.lf np1 (fP pn1 pv1),.lf ne1 (fE ed1)]) v1) (h2:qVD W v2 L2) (h3:qVD W v3 L3) (h4:qVD W v4 L4) (h8:qVD W v8 L8) (h9:qVD W v9 L9) (h10:qVD W v10 L10):Calls Tryz.prog 3 #[v0,v1,v2,v3,v4,.int .i64 a5,.int .i64 a6,.int .i64 a7,v8,v9,v10,.int .i64 a11] W (Rets (.bool true) W) :=
 rets_of_sndR (Xy.snd_bpru Ag.call js0 ms0 n0 m0 np1 pn1 pv1 ne1 ed1 o1 L2 h2.2.1 L3 h3.2.1 L4 h4.2.1 a5 a6 a7 L8 h8.2.1 L9 h9.2.1 L10 h10.2.1 a11) rfl (qQJ h0 (qQJ h1 (qQJ h2.1 (qQJ h3.1 (qQJ h4.1 (qQJ (.n _ _) (qQJ (.n _ _) (qQJ (.n _ _) (qQJ h8.1 (qQJ h9.1 (qQJ h10.1 (qQJ (.n _ _) qVU))))))))))))
end Go.Proofs.YtklmegnpfhiibaaGreat

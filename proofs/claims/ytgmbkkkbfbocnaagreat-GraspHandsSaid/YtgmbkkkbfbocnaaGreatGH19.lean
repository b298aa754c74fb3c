/- Part 19 of the texts behind the last one: rules and contracts. No condition. -/
import Derived.Test.YtgmbkkkbfbocnaaGreatGH18
open List renaming getElem?_take → vZV, getD_eq_getElem?_getD → vZG
namespace Go.Rx
open Go.RowKit Go.Sx Go.ChangeShapes Go.WideShapes
section
variable {P:Program} {W:World} {H:Type} {enc:TypeId × Value→H}
def zXX (W:World) (v:Value) (L:List Int):Prop:=RP (fun k=>k < W.heap.size) W (zUB L) v∧L.length≤9223372036854775807∧∀ x ∈ L,In64 x
theorem zGX {t e:TypeId} {v:Value} {d:DataW H} {p:List MemPlace} (ht:P.underlying t=some (.slice e)) (he:P.underlying e=some (.int .i64)) (hc:P.cellsOf e=1)
  {r:Reach} {base:Nat} (hv:Value.okWide P W r base t v) (h:DataW.Trod enc P W 0 (fun _=>true) true t v d p):∃ L:List Int,zXX W v L:=by
 obtain ⟨a,l,c,rfl⟩:=kZQ ht hv;obtain ⟨fuel,h⟩:=h;have h':DataW.trod enc P W 0 (fun _=>true) true fuel t [.slice a l c]=some (d,p):=h;rcases open_ints ht he hc h' with ⟨h1,_⟩ | ⟨a',len,cap,zs,h1,_,hlc,hcap,hz,_,hcell,hwf⟩
 ·simp at h1;obtain ⟨rfl,rfl,rfl⟩:=h1;exact ⟨[],.l0 none 0,by simp,fun x hx=>by cases hx⟩
 ·simp at h1;obtain ⟨rfl,rfl,rfl⟩:=h1;simp only [if_true] at hz;have hlen:(zs.take l).length=l:=by simp; omega
  have hI:IntsAt W W.heap.size (.slice (some a') l c) (zs.take l):=⟨by have:maxLen=9223372036854775807:=rfl; omega,some a',c,by rw [hlen],fun j hj=>by
   rw [hlen] at hj;have h0:=hcell 0 (by omega);have hj':=hcell j (by omega);have hsp:a'.spot=none:=by
    have e:a'.add 0=a':=by simp [Addr.add]
    rw [e] at h0;unfold World.cell? at h0;cases hb:W.heap[a'.block]? with
    | none=>simp [hb] at h0
    | some o=>cases o <;> simp [hb] at h0; exact h0.1
   obtain ⟨bb,off,sp⟩:=a';simp only at hsp;subst hsp;rw [qYF] at hj';refine ⟨bb,off,rfl,?_,?_⟩
   ·unfold World.cell? at hj';cases hb:W.heap[bb]? with
    | none=>simp [hb] at hj'
    | some o=>exact qZU hb
   ·rw [hj'];simp [vZG,vZV,hj]⟩
  refine ⟨zs.take l,?_,hI.1,fun x hx => ?_⟩
  ·have:=jZW (F:=fun k=>k < W.heap.size) (w:=W) (L:=zs.take l) (a:=some a') (c:=c) (by rw [hlen]; exact hI) (by rw [hlen]; exact hlc) fun k hk=>hk
   rw [hlen] at this;exact this
  ·have:=hwf x (List.mem_of_mem_take hx)
   simpa [Lit.wf,IntKind.has,IntKind.min,IntKind.max,IntKind.signed,IntKind.bits,In64] using this
end
end Go.Rx
namespace Go.Proofs.YtgmbkkkbfbocnaaGreat
open Go.Rx Go.Sx Go.RowKit Od Nb Nx Ga Ha Hc
theorem yKB (v0:Value) (ws0:Wsp) (o0:okW ws0) (a1:Int) (a2:Int) (v3:Value) (L3:List Int) (v4:Value) (L4:List Int) (v5:Value) (L5:List Int) (v6:Value) (L6:List Int) (a7:Int) (a8:Int) (a9:Int) (W:World) (h0:RP (fun k=>k < W.heap.size) W (.a (wP ws0)) v0) (h3:zXX W v3 L3) (h4:zXX W v4 L4) (h5:zXX W v5 L5) (h6:zXX W v6 L6):Calls Tryz.prog 6 #[v0,.int .i64 a1,.int .i64 a2,v3,v4,v5,v6,.int .i64 a7,.int .i64 a8,.int .i64 a9] W (Rets (.bool true) W) :=
 qWC (Hu.snd_law Ag.call ws0 o0 a1 a2 L3 h3.2.1 L4 h4.2.1 L5 h5.2.1 L6 h6.2.1 a7 a8 a9) rfl (qZF h0 (qZF (.n _ _) (qZF (.n _ _) (qZF h3.1 (qZF h4.1 (qZF h5.1 (qZF h6.1 (qZF (.n _ _) (qZF (.n _ _) (qZF (.n _ _) qGQ))))))))))
end Go.Proofs.YtgmbkkkbfbocnaaGreat

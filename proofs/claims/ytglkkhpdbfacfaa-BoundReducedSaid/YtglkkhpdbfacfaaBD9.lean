/- The law BoundReduced.
No condition. -/
import Derived.Test.YtglkkhpdbfacfaaBD8
import Derived.Test.YtglkkhpdbfacfaaRows
namespace Go.Proofs.Ytglkkhpdbfacfaa.boundReduced
open Go.ChangeShapes Go.WideShapes Go.ChangeAt Go.RowKit Go.Sx
theorem own:ownKnob Try.prog.godebug=none:=by kernel_rfl
theorem laid:laidOutB Try.prog=true:=by kernel_rfl

set_option maxRecDepth 100000 in
theorem yUD (os:Os) (started:os.Started) (H:Type) (enc:TypeId × Value→H) :
  ReturnsInHanded {} Try.checked os 6 .any (Rows.boundReducedSpec.pre6 enc Try.prog Try.f6 Rows.boundReducedRow.domain false) (Rows.boundReducedSpec.post enc Try.prog Try.f6 false true false false):=by
 refine returnsInHanded_of_change (C:=Try.checked) own started (by kernel_rfl) Try.func6
  (ChangeSpec.witness6 (enc:=enc) (C:=Try.checked) false ⟨#[],#[.int .i64 0,.int .i64 0],[]⟩ 8 (by kernel_rfl) (by kernel_rfl) (by kernel_rfl) (by kernel_rfl)) ?_
 intro W base args ds gs before hval0 hW hcnd _;have hval:∀ (j:Nat) t v,Try.f6.params[j]? = some t→args[j]? = some v→Value.okWide Try.prog W .any base t v:=hval0;have hW':=hW;obtain ⟨p,q,hA0,hV,rfl,hfz,hnd⟩:=hW;have hA:DataW.TrodAll enc Try.prog W 0 (fun _=>true) true Try.f6.params.toList args.toList ds p:=hA0;rw [Try.params6] at hA hval;obtain ⟨v0,vs0,d0,ds0,p0,q0,hargs,rfl,rfl,h0,r0⟩:=trodAll_cons hA;obtain ⟨v1,vs1,d1,ds1,p1,q1,rfl,rfl,rfl,h1,r1⟩:=trodAll_cons r0;obtain ⟨rfl,rfl,rfl⟩:=trodAll_nil r1;obtain rfl:args=#[v0,v1]:=by cases args; simp_all
 obtain ⟨rfl,rfl⟩:=trodVars_none hV;obtain ⟨a0,rfl,w0⟩:=zYF Try.underlying3 (hval 0 3 v0 rfl rfl);obtain ⟨a1,rfl,w1⟩:=zYF Try.underlying3 (hval 1 3 v1 rfl rfl);refine (qWK a0 a1 W ).mono fun e W' ⟨he,hg⟩ => ?_
 subst he;exact ⟨_,rfl,yQK hW' rfl laid (by kernel_rfl) rfl rfl rfl rfl Try.underlying4 hg⟩

theorem named:Try.pinned.checked.prog.funcNamed Rows.boundReducedRow.func=some 6:=by kernel_rfl
theorem yXU:Try.pinned.checked.prog.inPlace 6=Rows.boundReducedRow.inPlace:=by kernel_rfl
theorem yXK:Try.pinned.checked.prog.unfollowed 6=Rows.boundReducedRow.unfollowed:=by kernel_rfl
theorem yXJ:Try.pinned.checked.prog.recurses 6=Rows.boundReducedRow.recurses:=by kernel_rfl
theorem yXY:Try.pinned.checked.prog.varsNamed 6=Rows.boundReducedRow.named:=by kernel_rfl
theorem yXA:joinedFacts Try.pinned.checked.prog 6 Try.f6 Rows.boundReducedSpec Rows.boundReducedRow=true:=by
 unfold joinedFacts;rw [yXU,yXK,yXJ,yXY]
 kernel_rfl
theorem inst:Func.isInstance Try.pinned.checked.prog Try.f6 Rows.boundReducedRow.origin Rows.boundReducedRow.targs:=vYY (by kernel_rfl)
theorem wrap:Func.isWrapper Try.pinned.checked.prog Try.f6 Rows.boundReducedRow.wrapper Rows.boundReducedRow.mainSum:=by
 unfold Func.isWrapper; first | (rw [if_pos (by decide +kernel)]; kernel_rfl) | (rw [if_neg (by decide +kernel)]; exact ⟨rfl,rfl⟩)
theorem proved:Rows.BoundReducedSaid :=
 OpenClaim.holds_of_wide 6 Try.f6 rfl rfl rfl rfl rfl rfl rfl ⟨rfl,rfl,rfl,rfl,rfl⟩ rfl rfl rfl rfl rfl named Try.func6 yXA inst wrap
  (fun os started H enc _=>yUD os started H enc)
#print axioms proved
end Go.Proofs.Ytglkkhpdbfacfaa.boundReduced

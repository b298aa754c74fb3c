/- The law BoundRatios.
No condition. -/
import Derived.Test.YtglkkhpdbfacfaaBR8
import Derived.Test.YtglkkhpdbfacfaaRows
namespace Go.Proofs.Ytglkkhpdbfacfaa.boundRatios
open Go.ChangeShapes Go.WideShapes Go.ChangeAt Go.RowKit Go.Sx
theorem own:ownKnob Try.prog.godebug=none:=by kernel_rfl
theorem laid:laidOutB Try.prog=true:=by kernel_rfl

set_option maxRecDepth 100000 in
theorem yUE (os:Os) (started:os.Started) (H:Type) (enc:TypeId × Value→H) :
  ReturnsInHanded {} Try.checked os 4 .any (Rows.boundRatiosSpec.pre6 enc Try.prog Try.f4 Rows.boundRatiosRow.domain false) (Rows.boundRatiosSpec.post enc Try.prog Try.f4 false true false false):=by
 refine returnsInHanded_of_change (C:=Try.checked) own started (by kernel_rfl) Try.func4
  (ChangeSpec.witness6 (enc:=enc) (C:=Try.checked) false ⟨#[],#[.int .i64 0,.int .i64 0,.int .i64 0,.int .i64 0,.int .i64 0],[]⟩ 8 (by kernel_rfl) (by kernel_rfl) (by kernel_rfl) (by kernel_rfl)) ?_
 intro W base args ds gs before hval0 hW hcnd _;have hval:∀ (j:Nat) t v,Try.f4.params[j]? = some t→args[j]? = some v→Value.okWide Try.prog W .any base t v:=hval0;have hW':=hW;obtain ⟨p,q,hA0,hV,rfl,hfz,hnd⟩:=hW;have hA:DataW.TrodAll enc Try.prog W 0 (fun _=>true) true Try.f4.params.toList args.toList ds p:=hA0;rw [Try.params4] at hA hval;obtain ⟨v0,vs0,d0,ds0,p0,q0,hargs,rfl,rfl,h0,r0⟩:=trodAll_cons hA;obtain ⟨v1,vs1,d1,ds1,p1,q1,rfl,rfl,rfl,h1,r1⟩:=trodAll_cons r0;obtain ⟨v2,vs2,d2,ds2,p2,q2,rfl,rfl,rfl,h2,r2⟩:=trodAll_cons r1;obtain ⟨v3,vs3,d3,ds3,p3,q3,rfl,rfl,rfl,h3,r3⟩:=trodAll_cons r2;obtain ⟨v4,vs4,d4,ds4,p4,q4,rfl,rfl,rfl,h4,r4⟩:=trodAll_cons r3;obtain ⟨rfl,rfl,rfl⟩:=trodAll_nil r4;obtain rfl:args=#[v0,v1,v2,v3,v4]:=by cases args; simp_all
 obtain ⟨rfl,rfl⟩:=trodVars_none hV;obtain ⟨a0,rfl,w0⟩:=qYX Try.underlying2 (hval 0 2 v0 rfl rfl);obtain ⟨a1,rfl,w1⟩:=qYX Try.underlying2 (hval 1 2 v1 rfl rfl);obtain ⟨a2,rfl,w2⟩:=qYX Try.underlying3 (hval 2 3 v2 rfl rfl);obtain ⟨a3,rfl,w3⟩:=qYX Try.underlying3 (hval 3 3 v3 rfl rfl);obtain ⟨a4,rfl,w4⟩:=qYX Try.underlying3 (hval 4 3 v4 rfl rfl);refine (qGQ a0 a1 a2 a3 a4 W ).mono fun e W' ⟨he,hg⟩ => ?_
 subst he;exact ⟨_,rfl,yQX hW' rfl laid (by kernel_rfl) rfl rfl rfl rfl Try.underlying4 hg⟩

theorem named:Try.pinned.checked.prog.funcNamed Rows.boundRatiosRow.func=some 4:=by kernel_rfl
theorem yXU:Try.pinned.checked.prog.inPlace 4=Rows.boundRatiosRow.inPlace:=by kernel_rfl
theorem yXK:Try.pinned.checked.prog.unfollowed 4=Rows.boundRatiosRow.unfollowed:=by kernel_rfl
theorem yXJ:Try.pinned.checked.prog.recurses 4=Rows.boundRatiosRow.recurses:=by kernel_rfl
theorem yXY:Try.pinned.checked.prog.varsNamed 4=Rows.boundRatiosRow.named:=by kernel_rfl
theorem yXA:joinedFacts Try.pinned.checked.prog 4 Try.f4 Rows.boundRatiosSpec Rows.boundRatiosRow=true:=by
 unfold joinedFacts;rw [yXU,yXK,yXJ,yXY]
 kernel_rfl
theorem inst:Func.isInstance Try.pinned.checked.prog Try.f4 Rows.boundRatiosRow.origin Rows.boundRatiosRow.targs:=vYY (by kernel_rfl)
theorem wrap:Func.isWrapper Try.pinned.checked.prog Try.f4 Rows.boundRatiosRow.wrapper Rows.boundRatiosRow.mainSum:=by
 unfold Func.isWrapper; first | (rw [if_pos (by decide +kernel)]; kernel_rfl) | (rw [if_neg (by decide +kernel)]; exact ⟨rfl,rfl⟩)
theorem proved:Rows.BoundRatiosSaid :=
 OpenClaim.holds_of_wide 4 Try.f4 rfl rfl rfl rfl rfl rfl rfl ⟨rfl,rfl,rfl,rfl,rfl⟩ rfl rfl rfl rfl rfl named Try.func4 yXA inst wrap
  (fun os started H enc _=>yUE os started H enc)
#print axioms proved
end Go.Proofs.Ytglkkhpdbfacfaa.boundRatios

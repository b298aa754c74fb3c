/- BoundEither: Exactly one of Potentials and Separate returns true; the greatest bound is the cost of the shortest route; the proof of a separation is accepted.
No condition. -/
import Derived.Test.YtglkkhpdbfacfaaBE14
import Derived.Test.YtglkkhpdbfacfaaRows
namespace Go.Proofs.Ytglkkhpdbfacfaa.boundEither
open Go.ChangeShapes Go.WideShapes Go.ChangeAt Go.RowKit Go.Sx Go.Rx
theorem own:ownKnob Try.prog.godebug=none:=by kernel_rfl
theorem laid:laidOutB Try.prog=true:=by kernel_rfl

set_option maxRecDepth 100000 in
theorem jWD (os:Os) (started:os.Started) (H:Type) (enc:TypeId × Value→H) :
  ReturnsInHanded {} Try.checked os 8 .any (Rows.boundEitherSpec.pre6 enc Try.prog Try.f8 Rows.boundEitherRow.domain false) (Rows.boundEitherSpec.post enc Try.prog Try.f8 false true false false):=by
 have e6:Rows.boundEitherSpec.pre6 enc Try.prog Try.f8 Rows.boundEitherRow.domain false=(fun w args=>(Rows.boundEitherSpec.pre enc Try.prog Try.f8 Rows.boundEitherRow.domain false w args∧True)∧sizedMet enc Try.prog Try.f8 (OpenSpec.ofChange Rows.boundEitherSpec) false w args):=by
  funext w args;simp only [ChangeSpec.pre6,and_true]
 rw [e6];refine returnsInHanded_of_change_and (C:=Try.checked) (X:=fun _ _=>True) (fun _ _ _ _ _=>trivial) own started (by kernel_rfl) Try.func8
  (let ⟨w,t,i,h1,h2,h3,h4,h5,h6⟩:=(ChangeSpec.witness6 (enc:=enc) (C:=Try.checked) false ⟨#[],#[.slice none 0 0,.int .i64 0,.int .i64 0],[]⟩ 8 (by kernel_rfl) (by kernel_rfl) (by kernel_rfl) (by kernel_rfl)); ⟨w,t,i,h1,h2,h3,h4,⟨⟨h5.1,trivial⟩,h5.2⟩,h6⟩) ?_
 intro W base args ds gs before hval0 hW hcnd hwt _ _;have hval:∀ (j:Nat) t v,Try.f8.params[j]? = some t→args[j]? = some v→Value.okWide Try.prog W .any base t v:=hval0;have hW':=hW;obtain ⟨p,q,hA0,hV,rfl,hfz,hnd⟩:=hW;have hA:DataW.TrodAll enc Try.prog W 0 (fun _=>true) true Try.f8.params.toList args.toList ds p:=hA0;rw [Try.params8] at hA hval hwt;obtain ⟨v0,vs0,d0,ds0,p0,q0,hargs,rfl,rfl,h0,r0⟩:=trodAll_cons hA;obtain ⟨v1,vs1,d1,ds1,p1,q1,rfl,rfl,rfl,h1,r1⟩:=trodAll_cons r0;obtain ⟨v2,vs2,d2,ds2,p2,q2,rfl,rfl,rfl,h2,r2⟩:=trodAll_cons r1;obtain ⟨rfl,rfl,rfl⟩:=trodAll_nil r2;obtain rfl:args=#[v0,v1,v2]:=by cases args; simp_all
 obtain ⟨rfl,rfl⟩:=trodVars_none hV;obtain ⟨L0,hI0⟩:=jZL Try.underlying27 Try.underlying3 (by kernel_rfl) (hval 0 27 v0 rfl rfl) h0;obtain ⟨a1,rfl,w1⟩:=zGZ Try.underlying3 (hval 1 3 v1 rfl rfl);obtain ⟨a2,rfl,w2⟩:=zGZ Try.underlying3 (hval 2 3 v2 rfl rfl);refine (zJZ v0 L0 a1 a2 W hI0 ).mono fun e W' ⟨he,hg⟩ => ?_
 subst he;exact ⟨_,rfl,yVI hW' rfl laid (by kernel_rfl) rfl rfl rfl rfl Try.underlying4 hg⟩

theorem named:Try.pinned.checked.prog.funcNamed Rows.boundEitherRow.func=some 8:=by kernel_rfl
theorem jVC:Try.pinned.checked.prog.inPlace 8=Rows.boundEitherRow.inPlace:=by kernel_rfl
theorem jVB:Try.pinned.checked.prog.unfollowed 8=Rows.boundEitherRow.unfollowed:=by kernel_rfl
theorem jVA:Try.pinned.checked.prog.recurses 8=Rows.boundEitherRow.recurses:=by kernel_rfl
theorem jVH:Try.pinned.checked.prog.varsNamed 8=Rows.boundEitherRow.named:=by kernel_rfl
theorem jGZ:joinedFacts Try.pinned.checked.prog 8 Try.f8 Rows.boundEitherSpec Rows.boundEitherRow=true:=by
 unfold joinedFacts;rw [jVC,jVB,jVA,jVH]
 kernel_rfl
theorem inst:Func.isInstance Try.pinned.checked.prog Try.f8 Rows.boundEitherRow.origin Rows.boundEitherRow.targs:=vYK (by kernel_rfl)
theorem wrap:Func.isWrapper Try.pinned.checked.prog Try.f8 Rows.boundEitherRow.wrapper Rows.boundEitherRow.mainSum:=by
 unfold Func.isWrapper; first | (rw [if_pos (by decide +kernel)]; kernel_rfl) | (rw [if_neg (by decide +kernel)]; exact ⟨rfl,rfl⟩)
theorem proved:Rows.BoundEitherSaid :=
 OpenClaim.holds_of_wide 8 Try.f8 rfl rfl rfl rfl rfl rfl rfl ⟨rfl,rfl,rfl,rfl,rfl⟩ rfl rfl rfl rfl rfl named Try.func8 jGZ inst wrap
  (fun os started H enc _=>jWD os started H enc)
#print axioms proved
end Go.Proofs.Ytglkkhpdbfacfaa.boundEither

/- BoundSeparates: Separate and CheckSeparate return what the chapter specifies, for arbitrary arguments, for made roadmaps, and for sides with a change.
No condition. -/
import Derived.Test.YtglkkhpdbfacfaaBX13
import Derived.Test.YtglkkhpdbfacfaaRows
namespace Go.Proofs.Ytglkkhpdbfacfaa.boundSeparates
open Go.ChangeShapes Go.WideShapes Go.ChangeAt Go.RowKit Go.Sx Go.Rx
theorem own:ownKnob Try.prog.godebug=none:=by kernel_rfl
theorem laid:laidOutB Try.prog=true:=by kernel_rfl

set_option maxRecDepth 100000 in
theorem jWY (os:Os) (started:os.Started) (H:Type) (enc:TypeId × Value→H) :
  ReturnsInHanded {} Try.checked os 7 .any (Rows.boundSeparatesSpec.pre6 enc Try.prog Try.f7 Rows.boundSeparatesRow.domain false) (Rows.boundSeparatesSpec.post enc Try.prog Try.f7 false true false false):=by
 have e6:Rows.boundSeparatesSpec.pre6 enc Try.prog Try.f7 Rows.boundSeparatesRow.domain false=(fun w args=>(Rows.boundSeparatesSpec.pre enc Try.prog Try.f7 Rows.boundSeparatesRow.domain false w args∧True)∧sizedMet enc Try.prog Try.f7 (OpenSpec.ofChange Rows.boundSeparatesSpec) false w args):=by
  funext w args;simp only [ChangeSpec.pre6,and_true]
 rw [e6];refine returnsInHanded_of_change_and (C:=Try.checked) (X:=fun _ _=>True) (fun _ _ _ _ _=>trivial) own started (by kernel_rfl) Try.func7
  (let ⟨w,t,i,h1,h2,h3,h4,h5,h6⟩:=(ChangeSpec.witness6 (enc:=enc) (C:=Try.checked) false ⟨#[],#[.agg #[.slice none 0 0,.slice none 0 0],.int .i64 0,.int .i64 0,.slice none 0 0,.slice none 0 0,.int .i64 0],[]⟩ 8 (by kernel_rfl) (by kernel_rfl) (by kernel_rfl) (by kernel_rfl)); ⟨w,t,i,h1,h2,h3,h4,⟨⟨h5.1,trivial⟩,h5.2⟩,h6⟩) ?_
 intro W base args ds gs before hval0 hW hcnd hwt _ _;have hval:∀ (j:Nat) t v,Try.f7.params[j]? = some t→args[j]? = some v→Value.okWide Try.prog W .any base t v:=hval0;have hW':=hW;obtain ⟨p,q,hA0,hV,rfl,hfz,hnd⟩:=hW;have hA:DataW.TrodAll enc Try.prog W 0 (fun _=>true) true Try.f7.params.toList args.toList ds p:=hA0;rw [Try.params7] at hA hval hwt;obtain ⟨v0,vs0,d0,ds0,p0,q0,hargs,rfl,rfl,h0,r0⟩:=trodAll_cons hA;obtain ⟨v1,vs1,d1,ds1,p1,q1,rfl,rfl,rfl,h1,r1⟩:=trodAll_cons r0;obtain ⟨v2,vs2,d2,ds2,p2,q2,rfl,rfl,rfl,h2,r2⟩:=trodAll_cons r1;obtain ⟨v3,vs3,d3,ds3,p3,q3,rfl,rfl,rfl,h3,r3⟩:=trodAll_cons r2;obtain ⟨v4,vs4,d4,ds4,p4,q4,rfl,rfl,rfl,h4,r4⟩:=trodAll_cons r3;obtain ⟨v5,vs5,d5,ds5,p5,q5,rfl,rfl,rfl,h5,r5⟩:=trodAll_cons r4;obtain ⟨rfl,rfl,rfl⟩:=trodAll_nil r5;obtain rfl:args=#[v0,v1,v2,v3,v4,v5]:=by cases args; simp_all
 obtain ⟨rfl,rfl⟩:=trodVars_none hV;obtain ⟨g0,hI0⟩:=Cf.open_gr (hval 0 25 v0 rfl rfl) h0;obtain ⟨a1,rfl,w1⟩:=zZA Try.underlying3 (hval 1 3 v1 rfl rfl);obtain ⟨a2,rfl,w2⟩:=zZA Try.underlying3 (hval 2 3 v2 rfl rfl);obtain ⟨n3,q3,hI3⟩:=Cq.open_bls (hval 3 47 v3 rfl rfl) h3;obtain ⟨L4,hI4⟩:=jZU Try.underlying27 Try.underlying3 (by kernel_rfl) (hval 4 27 v4 rfl rfl) h4;obtain ⟨a5,rfl,w5⟩:=zZA Try.underlying3 (hval 5 3 v5 rfl rfl);refine (qVB v0 g0 a1 a2 v3 n3 q3 v4 L4 a5 W hI0 hI3 hI4 ).mono fun e W' ⟨he,hg⟩ => ?_
 subst he;exact ⟨_,rfl,yVV hW' rfl laid (by kernel_rfl) rfl rfl rfl rfl Try.underlying4 hg⟩

theorem named:Try.pinned.checked.prog.funcNamed Rows.boundSeparatesRow.func=some 7:=by kernel_rfl
theorem jVZ:Try.pinned.checked.prog.inPlace 7=Rows.boundSeparatesRow.inPlace:=by kernel_rfl
theorem jVQ:Try.pinned.checked.prog.unfollowed 7=Rows.boundSeparatesRow.unfollowed:=by kernel_rfl
theorem jWL:Try.pinned.checked.prog.recurses 7=Rows.boundSeparatesRow.recurses:=by kernel_rfl
theorem jWI:Try.pinned.checked.prog.varsNamed 7=Rows.boundSeparatesRow.named:=by kernel_rfl
theorem jVV:joinedFacts Try.pinned.checked.prog 7 Try.f7 Rows.boundSeparatesSpec Rows.boundSeparatesRow=true:=by
 unfold joinedFacts;rw [jVZ,jVQ,jWL,jWI]
 kernel_rfl
theorem inst:Func.isInstance Try.pinned.checked.prog Try.f7 Rows.boundSeparatesRow.origin Rows.boundSeparatesRow.targs:=vYK (by kernel_rfl)
theorem wrap:Func.isWrapper Try.pinned.checked.prog Try.f7 Rows.boundSeparatesRow.wrapper Rows.boundSeparatesRow.mainSum:=by
 unfold Func.isWrapper; first | (rw [if_pos (by decide +kernel)]; kernel_rfl) | (rw [if_neg (by decide +kernel)]; exact ⟨rfl,rfl⟩)
theorem proved:Rows.BoundSeparatesSaid :=
 OpenClaim.holds_of_wide 7 Try.f7 rfl rfl rfl rfl rfl rfl rfl ⟨rfl,rfl,rfl,rfl,rfl⟩ rfl rfl rfl rfl rfl named Try.func7 jVV inst wrap
  (fun os started H enc _=>jWY os started H enc)
#print axioms proved
end Go.Proofs.Ytglkkhpdbfacfaa.boundSeparates

/- GraspSlack: When an object is taken, each of its points moves by no more than the slack permits.
No condition. -/
import Derived.Test.YtmeldddgjfocdaaGreatGL19
import Derived.Test.YtmeldddgjfocdaaGreatRows
namespace Go.Proofs.YtmeldddgjfocdaaGreat.graspSlack
open Go.ChangeShapes Go.WideShapes Go.ChangeAt Go.RowKit Go.Sx Go.Rx
theorem own:ownKnob Tryz.prog.godebug=none:=by kernel_rfl
theorem laid:laidOutB Tryz.prog=true:=by kernel_rfl

set_option maxRecDepth 100000 in
theorem xVB (os:Os) (started:os.Started) (H:Type) (enc:TypeId × Value→H) :
  ReturnsInHanded {} Tryz.checked os 10 .any (Rows.graspSlackSpec.pre6 enc Tryz.prog Tryz.f10 Rows.graspSlackRow.domain false) (Rows.graspSlackSpec.post enc Tryz.prog Tryz.f10 false true false false):=by
 have e6:Rows.graspSlackSpec.pre6 enc Tryz.prog Tryz.f10 Rows.graspSlackRow.domain false=(fun w args=>(Rows.graspSlackSpec.pre enc Tryz.prog Tryz.f10 Rows.graspSlackRow.domain false w args∧True)∧sizedMet enc Tryz.prog Tryz.f10 (OpenSpec.ofChange Rows.graspSlackSpec) false w args):=by
  funext w args;simp only [ChangeSpec.pre6,and_true]
 rw [e6];refine returnsInHanded_of_change_and (C:=Tryz.checked) (X:=fun _ _=>True) (fun _ _ _ _ _=>trivial) own started (by kernel_rfl) Tryz.func10
  (let ⟨w,t,i,h1,h2,h3,h4,h5,h6⟩:=(ChangeSpec.witness6 (enc:=enc) (C:=Tryz.checked) false ⟨#[],#[.slice none 0 0,.slice none 0 0,.int .i64 0,.int .i64 0,.int .i64 0],[]⟩ 8 (by kernel_rfl) (by kernel_rfl) (by kernel_rfl) (by kernel_rfl)); ⟨w,t,i,h1,h2,h3,h4,⟨⟨h5.1,trivial⟩,h5.2⟩,h6⟩) ?_
 intro W base args ds gs before hval0 hW hcnd hwt _ _;have hval:∀ (j:Nat) t v,Tryz.f10.params[j]? = some t→args[j]? = some v→Value.okWide Tryz.prog W .any base t v:=hval0;have hW':=hW;obtain ⟨p,q,hA0,hV,rfl,hfz,hnd⟩:=hW;have hA:DataW.TrodAll enc Tryz.prog W 0 (fun _=>true) true Tryz.f10.params.toList args.toList ds p:=hA0;rw [Tryz.params10] at hA hval hwt;obtain ⟨v0,vs0,d0,ds0,p0,q0,hargs,rfl,rfl,h0,r0⟩:=trodAll_cons hA;obtain ⟨v1,vs1,d1,ds1,p1,q1,rfl,rfl,rfl,h1,r1⟩:=trodAll_cons r0;obtain ⟨v2,vs2,d2,ds2,p2,q2,rfl,rfl,rfl,h2,r2⟩:=trodAll_cons r1;obtain ⟨v3,vs3,d3,ds3,p3,q3,rfl,rfl,rfl,h3,r3⟩:=trodAll_cons r2;obtain ⟨v4,vs4,d4,ds4,p4,q4,rfl,rfl,rfl,h4,r4⟩:=trodAll_cons r3;obtain ⟨rfl,rfl,rfl⟩:=trodAll_nil r4;obtain rfl:args=#[v0,v1,v2,v3,v4]:=by cases args; simp_all
 obtain ⟨rfl,rfl⟩:=trodVars_none hV;obtain ⟨L0,hI0⟩:=jWU Tryz.underlying31 Tryz.underlying3 (by kernel_rfl) (hval 0 31 v0 rfl rfl) h0;obtain ⟨L1,hI1⟩:=jWU Tryz.underlying31 Tryz.underlying3 (by kernel_rfl) (hval 1 31 v1 rfl rfl) h1;obtain ⟨a2,rfl,w2⟩:=zHG Tryz.underlying3 (hval 2 3 v2 rfl rfl);obtain ⟨a3,rfl,w3⟩:=zHG Tryz.underlying3 (hval 3 3 v3 rfl rfl);obtain ⟨a4,rfl,w4⟩:=zHG Tryz.underlying3 (hval 4 3 v4 rfl rfl);refine (yUE v0 L0 v1 L1 a2 a3 a4 W hI0 hI1 ).mono fun e W' ⟨he,hg⟩ => ?_
 subst he;exact ⟨_,rfl,kGJ hW' rfl laid (by kernel_rfl) rfl rfl rfl rfl Tryz.underlying4 hg⟩

theorem named:Tryz.pinned.checked.prog.funcNamed Rows.graspSlackRow.func=some 10:=by kernel_rfl
theorem xGX:Tryz.pinned.checked.prog.inPlace 10=Rows.graspSlackRow.inPlace:=by kernel_rfl
theorem xGU:Tryz.pinned.checked.prog.unfollowed 10=Rows.graspSlackRow.unfollowed:=by kernel_rfl
theorem xGK:Tryz.pinned.checked.prog.recurses 10=Rows.graspSlackRow.recurses:=by kernel_rfl
theorem xGJ:Tryz.pinned.checked.prog.varsNamed 10=Rows.graspSlackRow.named:=by kernel_rfl
theorem xHJ:joinedFacts Tryz.pinned.checked.prog 10 Tryz.f10 Rows.graspSlackSpec Rows.graspSlackRow=true:=by
 unfold joinedFacts;rw [xGX,xGU,xGK,xGJ]
 kernel_rfl
theorem inst:Func.isInstance Tryz.pinned.checked.prog Tryz.f10 Rows.graspSlackRow.origin Rows.graspSlackRow.targs:=vJZ (by kernel_rfl)
theorem wrap:Func.isWrapper Tryz.pinned.checked.prog Tryz.f10 Rows.graspSlackRow.wrapper Rows.graspSlackRow.mainSum:=by
 unfold Func.isWrapper; first | (rw [if_pos (by decide +kernel)]; kernel_rfl) | (rw [if_neg (by decide +kernel)]; exact ⟨rfl,rfl⟩)
theorem proved:Rows.GraspSlackSaid :=
 OpenClaim.holds_of_wide 10 Tryz.f10 rfl rfl rfl rfl rfl rfl rfl ⟨rfl,rfl,rfl,rfl,rfl⟩ rfl rfl rfl rfl rfl named Tryz.func10 xHJ inst wrap
  (fun os started H enc _=>xVB os started H enc)
#print axioms proved
end Go.Proofs.YtmeldddgjfocdaaGreat.graspSlack

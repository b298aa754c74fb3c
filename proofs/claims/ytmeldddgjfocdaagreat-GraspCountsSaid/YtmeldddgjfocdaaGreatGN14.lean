/- GraspCounts: The scene of every valid mode is valid, has the robot and the shapes of the workspace first, and then as many shapes as the objects have.
No condition. -/
import Derived.Test.YtmeldddgjfocdaaGreatGN13
import Derived.Test.YtmeldddgjfocdaaGreatRows
namespace Go.Proofs.YtmeldddgjfocdaaGreat.graspCounts
open Go.ChangeShapes Go.WideShapes Go.ChangeAt Go.RowKit Go.Sx Go.Rx
theorem own:ownKnob Tryz.prog.godebug=none:=by kernel_rfl
theorem laid:laidOutB Tryz.prog=true:=by kernel_rfl

set_option maxRecDepth 100000 in
theorem jVW (os:Os) (started:os.Started) (H:Type) (enc:TypeId × Value→H) :
  ReturnsInHanded {} Tryz.checked os 9 .any (Rows.graspCountsSpec.pre6 enc Tryz.prog Tryz.f9 Rows.graspCountsRow.domain false) (Rows.graspCountsSpec.post enc Tryz.prog Tryz.f9 false true false false):=by
 have e6:Rows.graspCountsSpec.pre6 enc Tryz.prog Tryz.f9 Rows.graspCountsRow.domain false=(fun w args=>(Rows.graspCountsSpec.pre enc Tryz.prog Tryz.f9 Rows.graspCountsRow.domain false w args∧True)∧sizedMet enc Tryz.prog Tryz.f9 (OpenSpec.ofChange Rows.graspCountsSpec) false w args):=by
  funext w args;simp only [ChangeSpec.pre6,and_true]
 rw [e6];refine returnsInHanded_of_change_and (C:=Tryz.checked) (X:=fun _ _=>True) (fun _ _ _ _ _=>trivial) own started (by kernel_rfl) Tryz.func9
  (let ⟨w,t,i,h1,h2,h3,h4,h5,h6⟩:=(ChangeSpec.witness6 (enc:=enc) (C:=Tryz.checked) false ⟨#[],#[.slice none 0 0,.slice none 0 0],[]⟩ 8 (by kernel_rfl) (by kernel_rfl) (by kernel_rfl) (by kernel_rfl)); ⟨w,t,i,h1,h2,h3,h4,⟨⟨h5.1,trivial⟩,h5.2⟩,h6⟩) ?_
 intro W base args ds gs before hval0 hW hcnd hwt _ _;have hval:∀ (j:Nat) t v,Tryz.f9.params[j]? = some t→args[j]? = some v→Value.okWide Tryz.prog W .any base t v:=hval0;have hW':=hW;obtain ⟨p,q,hA0,hV,rfl,hfz,hnd⟩:=hW;have hA:DataW.TrodAll enc Tryz.prog W 0 (fun _=>true) true Tryz.f9.params.toList args.toList ds p:=hA0;rw [Tryz.params9] at hA hval hwt;obtain ⟨v0,vs0,d0,ds0,p0,q0,hargs,rfl,rfl,h0,r0⟩:=trodAll_cons hA;obtain ⟨v1,vs1,d1,ds1,p1,q1,rfl,rfl,rfl,h1,r1⟩:=trodAll_cons r0;obtain ⟨rfl,rfl,rfl⟩:=trodAll_nil r1;obtain rfl:args=#[v0,v1]:=by cases args; simp_all
 obtain ⟨rfl,rfl⟩:=trodVars_none hV;obtain ⟨L0,hI0⟩:=yZJ Tryz.underlying31 Tryz.underlying3 (by kernel_rfl) (hval 0 31 v0 rfl rfl) h0;obtain ⟨L1,hI1⟩:=yZJ Tryz.underlying31 Tryz.underlying3 (by kernel_rfl) (hval 1 31 v1 rfl rfl) h1;refine (zZQ v0 L0 v1 L1 W hI0 hI1 ).mono fun e W' ⟨he,hg⟩ => ?_
 subst he;exact ⟨_,rfl,yVE hW' rfl laid (by kernel_rfl) rfl rfl rfl rfl Tryz.underlying4 hg⟩

theorem named:Tryz.pinned.checked.prog.funcNamed Rows.graspCountsRow.func=some 9:=by kernel_rfl
theorem jVD:Tryz.pinned.checked.prog.inPlace 9=Rows.graspCountsRow.inPlace:=by kernel_rfl
theorem jVC:Tryz.pinned.checked.prog.unfollowed 9=Rows.graspCountsRow.unfollowed:=by kernel_rfl
theorem jVB:Tryz.pinned.checked.prog.recurses 9=Rows.graspCountsRow.recurses:=by kernel_rfl
theorem jVA:Tryz.pinned.checked.prog.varsNamed 9=Rows.graspCountsRow.named:=by kernel_rfl
theorem jGU:joinedFacts Tryz.pinned.checked.prog 9 Tryz.f9 Rows.graspCountsSpec Rows.graspCountsRow=true:=by
 unfold joinedFacts;rw [jVD,jVC,jVB,jVA]
 kernel_rfl
theorem inst:Func.isInstance Tryz.pinned.checked.prog Tryz.f9 Rows.graspCountsRow.origin Rows.graspCountsRow.targs:=vYK (by kernel_rfl)
theorem wrap:Func.isWrapper Tryz.pinned.checked.prog Tryz.f9 Rows.graspCountsRow.wrapper Rows.graspCountsRow.mainSum:=by
 unfold Func.isWrapper; first | (rw [if_pos (by decide +kernel)]; kernel_rfl) | (rw [if_neg (by decide +kernel)]; exact ⟨rfl,rfl⟩)
theorem proved:Rows.GraspCountsSaid :=
 OpenClaim.holds_of_wide 9 Tryz.f9 rfl rfl rfl rfl rfl rfl rfl ⟨rfl,rfl,rfl,rfl,rfl⟩ rfl rfl rfl rfl rfl named Tryz.func9 jGU inst wrap
  (fun os started H enc _=>jVW os started H enc)
#print axioms proved
end Go.Proofs.YtmeldddgjfocdaaGreat.graspCounts

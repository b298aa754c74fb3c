/- GraspScenes: Valid and Scene return what the chapter specifies, for arbitrary modes and for made ones.
No condition. -/
import Derived.Test.YtgmbkkkbfbocnaaGreatGS19
import Derived.Test.YtgmbkkkbfbocnaaGreatRows
namespace Go.Proofs.YtgmbkkkbfbocnaaGreat.graspScenes
open Go.ChangeShapes Go.WideShapes Go.ChangeAt Go.RowKit Go.Sx Go.Rx
theorem own:ownKnob Tryz.prog.godebug=none:=by kernel_rfl
theorem laid:laidOutB Tryz.prog=true:=by kernel_rfl

set_option maxRecDepth 100000 in
theorem xKQ (os:Os) (started:os.Started) (H:Type) (enc:TypeId × Value→H) :
  ReturnsInHanded {} Tryz.checked os 5 .any (Rows.graspScenesSpec.pre6 enc Tryz.prog Tryz.f5 Rows.graspScenesRow.domain false) (Rows.graspScenesSpec.post enc Tryz.prog Tryz.f5 false true false false):=by
 have e6:Rows.graspScenesSpec.pre6 enc Tryz.prog Tryz.f5 Rows.graspScenesRow.domain false=(fun w args=>(Rows.graspScenesSpec.pre enc Tryz.prog Tryz.f5 Rows.graspScenesRow.domain false w args∧True)∧sizedMet enc Tryz.prog Tryz.f5 (OpenSpec.ofChange Rows.graspScenesSpec) false w args):=by
  funext w args;simp only [ChangeSpec.pre6,and_true]
 rw [e6];refine returnsInHanded_of_change_and (C:=Tryz.checked) (X:=fun _ _=>True) (fun _ _ _ _ _=>trivial) own started (by kernel_rfl) Tryz.func5
  (let ⟨w,t,i,h1,h2,h3,h4,h5,h6⟩:=(ChangeSpec.witness6 (enc:=enc) (C:=Tryz.checked) false ⟨#[],#[.agg #[.slice none 0 0,.slice none 0 0,.slice none 0 0,.slice none 0 0,.slice none 0 0,.slice none 0 0,.slice none 0 0,.slice none 0 0,.int .i64 0],.agg #[.slice none 0 0],.slice none 0 0,.slice none 0 0,.int .i64 0,.int .i64 0],[]⟩ 8 (by kernel_rfl) (by kernel_rfl) (by kernel_rfl) (by kernel_rfl)); ⟨w,t,i,h1,h2,h3,h4,⟨⟨h5.1,trivial⟩,h5.2⟩,h6⟩) ?_
 intro W base args ds gs before hval0 hW hcnd hwt _ _;have hval:∀ (j:Nat) t v,Tryz.f5.params[j]? = some t→args[j]? = some v→Value.okWide Tryz.prog W .any base t v:=hval0;have hW':=hW;obtain ⟨p,q,hA0,hV,rfl,hfz,hnd⟩:=hW;have hA:DataW.TrodAll enc Tryz.prog W 0 (fun _=>true) true Tryz.f5.params.toList args.toList ds p:=hA0;rw [Tryz.params5] at hA hval hwt;obtain ⟨v0,vs0,d0,ds0,p0,q0,hargs,rfl,rfl,h0,r0⟩:=trodAll_cons hA;obtain ⟨v1,vs1,d1,ds1,p1,q1,rfl,rfl,rfl,h1,r1⟩:=trodAll_cons r0;obtain ⟨v2,vs2,d2,ds2,p2,q2,rfl,rfl,rfl,h2,r2⟩:=trodAll_cons r1;obtain ⟨v3,vs3,d3,ds3,p3,q3,rfl,rfl,rfl,h3,r3⟩:=trodAll_cons r2;obtain ⟨v4,vs4,d4,ds4,p4,q4,rfl,rfl,rfl,h4,r4⟩:=trodAll_cons r3;obtain ⟨v5,vs5,d5,ds5,p5,q5,rfl,rfl,rfl,h5,r5⟩:=trodAll_cons r4;obtain ⟨rfl,rfl,rfl⟩:=trodAll_nil r5;obtain rfl:args=#[v0,v1,v2,v3,v4,v5]:=by cases args; simp_all
 obtain ⟨rfl,rfl⟩:=trodVars_none hV;obtain ⟨ws0,o0,hI0⟩:=Hp.open_wsp (hval 0 42 v0 rfl rfl) h0 (fun x hx=>vJZ (List.all_eq_true.1 hwt x (by
  show x ∈ DataW.weightsEach Tryz.prog (42 :: 50 :: 31 :: 31 :: 3 :: 3 :: _) (d0 :: d1 :: d2 :: d3 :: d4 :: d5 :: _);simp only [DataW.weightsEach,List.mem_append];exact .inl hx)))
 obtain ⟨k1,q1,hI1⟩:=Hp.open_mode (hval 1 50 v1 rfl rfl) h1;obtain ⟨L2,hI2⟩:=jUB Tryz.underlying31 Tryz.underlying3 (by kernel_rfl) (hval 2 31 v2 rfl rfl) h2;obtain ⟨L3,hI3⟩:=jUB Tryz.underlying31 Tryz.underlying3 (by kernel_rfl) (hval 3 31 v3 rfl rfl) h3;obtain ⟨a4,rfl,w4⟩:=yVI Tryz.underlying3 (hval 4 3 v4 rfl rfl);obtain ⟨a5,rfl,w5⟩:=yVI Tryz.underlying3 (hval 5 3 v5 rfl rfl);refine (yQV v0 ws0 o0 v1 k1 q1 v2 L2 v3 L3 a4 a5 W hI0 hI1 hI2 hI3 ).mono fun e W' ⟨he,hg⟩ => ?_
 subst he;exact ⟨_,rfl,kXE hW' rfl laid (by kernel_rfl) rfl rfl rfl rfl Tryz.underlying4 hg⟩

theorem named:Tryz.pinned.checked.prog.funcNamed Rows.graspScenesRow.func=some 5:=by kernel_rfl
theorem xKV:Tryz.pinned.checked.prog.inPlace 5=Rows.graspScenesRow.inPlace:=by kernel_rfl
theorem xKW:Tryz.pinned.checked.prog.unfollowed 5=Rows.graspScenesRow.unfollowed:=by kernel_rfl
theorem xKX:Tryz.pinned.checked.prog.recurses 5=Rows.graspScenesRow.recurses:=by kernel_rfl
theorem xKU:Tryz.pinned.checked.prog.varsNamed 5=Rows.graspScenesRow.named:=by kernel_rfl
theorem xUY:joinedFacts Tryz.pinned.checked.prog 5 Tryz.f5 Rows.graspScenesSpec Rows.graspScenesRow=true:=by
 unfold joinedFacts;rw [xKV,xKW,xKX,xKU]
 kernel_rfl
theorem inst:Func.isInstance Tryz.pinned.checked.prog Tryz.f5 Rows.graspScenesRow.origin Rows.graspScenesRow.targs:=vJZ (by kernel_rfl)
theorem wrap:Func.isWrapper Tryz.pinned.checked.prog Tryz.f5 Rows.graspScenesRow.wrapper Rows.graspScenesRow.mainSum:=by
 unfold Func.isWrapper; first | (rw [if_pos (by decide +kernel)]; kernel_rfl) | (rw [if_neg (by decide +kernel)]; exact ⟨rfl,rfl⟩)
theorem proved:Rows.GraspScenesSaid :=
 OpenClaim.holds_of_wide 5 Tryz.f5 rfl rfl rfl rfl rfl rfl rfl ⟨rfl,rfl,rfl,rfl,rfl⟩ rfl rfl rfl rfl rfl named Tryz.func5 xUY inst wrap
  (fun os started H enc _=>xKQ os started H enc)
#print axioms proved
end Go.Proofs.YtgmbkkkbfbocnaaGreat.graspScenes

/- GraspChecks: Check returns the specified error, for arbitrary workspaces, for made ones, and for made ones with a change.
No condition. -/
import Derived.Test.YtgmbkkkbfbocnaaGreatGC19
import Derived.Test.YtgmbkkkbfbocnaaGreatRows
namespace Go.Proofs.YtgmbkkkbfbocnaaGreat.graspChecks
open Go.ChangeShapes Go.WideShapes Go.ChangeAt Go.RowKit Go.Sx Go.Rx
theorem own:ownKnob Tryz.prog.godebug=none:=by kernel_rfl
theorem laid:laidOutB Tryz.prog=true:=by kernel_rfl

set_option maxRecDepth 100000 in
theorem lifted (os:Os) (started:os.Started) (H:Type) (enc:TypeId × Value→H) :
  ReturnsInHanded {} Tryz.checked os 4 .any (Rows.graspChecksSpec.pre6 enc Tryz.prog Tryz.f4 Rows.graspChecksRow.domain false) (Rows.graspChecksSpec.post enc Tryz.prog Tryz.f4 false true false false):=by
 have e6:Rows.graspChecksSpec.pre6 enc Tryz.prog Tryz.f4 Rows.graspChecksRow.domain false=(fun w args=>(Rows.graspChecksSpec.pre enc Tryz.prog Tryz.f4 Rows.graspChecksRow.domain false w args∧True)∧sizedMet enc Tryz.prog Tryz.f4 (OpenSpec.ofChange Rows.graspChecksSpec) false w args):=by
  funext w args;simp only [ChangeSpec.pre6,and_true]
 rw [e6];refine returnsInHanded_of_change_and (C:=Tryz.checked) (X:=fun _ _=>True) (fun _ _ _ _ _=>trivial) own started (by kernel_rfl) Tryz.func4
  (let ⟨w,t,i,h1,h2,h3,h4,h5,h6⟩:=(ChangeSpec.witness6 (enc:=enc) (C:=Tryz.checked) false ⟨#[],#[.agg #[.slice none 0 0,.slice none 0 0,.slice none 0 0,.slice none 0 0,.slice none 0 0,.slice none 0 0,.slice none 0 0,.slice none 0 0,.int .i64 0],.slice none 0 0,.int .i64 0,.int .i64 0],[]⟩ 8 (by kernel_rfl) (by kernel_rfl) (by kernel_rfl) (by kernel_rfl)); ⟨w,t,i,h1,h2,h3,h4,⟨⟨h5.1,trivial⟩,h5.2⟩,h6⟩) ?_
 intro W base args ds gs before hval0 hW hcnd hwt _ _;have hval:∀ (j:Nat) t v,Tryz.f4.params[j]? = some t→args[j]? = some v→Value.okWide Tryz.prog W .any base t v:=hval0;have hW':=hW;obtain ⟨p,q,hA0,hV,rfl,hfz,hnd⟩:=hW;have hA:DataW.TrodAll enc Tryz.prog W 0 (fun _=>true) true Tryz.f4.params.toList args.toList ds p:=hA0;rw [Tryz.params4] at hA hval hwt;obtain ⟨v0,vs0,d0,ds0,p0,q0,hargs,rfl,rfl,h0,r0⟩:=trodAll_cons hA;obtain ⟨v1,vs1,d1,ds1,p1,q1,rfl,rfl,rfl,h1,r1⟩:=trodAll_cons r0;obtain ⟨v2,vs2,d2,ds2,p2,q2,rfl,rfl,rfl,h2,r2⟩:=trodAll_cons r1;obtain ⟨v3,vs3,d3,ds3,p3,q3,rfl,rfl,rfl,h3,r3⟩:=trodAll_cons r2;obtain ⟨rfl,rfl,rfl⟩:=trodAll_nil r3;obtain rfl:args=#[v0,v1,v2,v3]:=by cases args; simp_all
 obtain ⟨rfl,rfl⟩:=trodVars_none hV;obtain ⟨ws0,o0,hI0⟩:=Hp.open_wsp (hval 0 42 v0 rfl rfl) h0 (fun x hx=>vJZ (List.all_eq_true.1 hwt x (by
  show x ∈ DataW.weightsEach Tryz.prog (42 :: 31 :: 3 :: 3 :: _) (d0 :: d1 :: d2 :: d3 :: _);simp only [DataW.weightsEach,List.mem_append];exact .inl hx)))
 obtain ⟨L1,hI1⟩:=open_rp Tryz.underlying31 Tryz.underlying3 (by kernel_rfl) (hval 1 31 v1 rfl rfl) h1;obtain ⟨a2,rfl,w2⟩:=open_i64 Tryz.underlying3 (hval 2 3 v2 rfl rfl);obtain ⟨a3,rfl,w3⟩:=open_i64 Tryz.underlying3 (hval 3 3 v3 rfl rfl);refine (wGraspChecks v0 ws0 o0 v1 L1 a2 a3 W hI0 hI1 ).mono fun e W' ⟨he,hg⟩ => ?_
 subst he;exact ⟨_,rfl,law_post hW' rfl laid (by kernel_rfl) rfl rfl rfl rfl Tryz.underlying4 hg⟩

theorem named:Tryz.pinned.checked.prog.funcNamed Rows.graspChecksRow.func=some 4:=by kernel_rfl
theorem facts1:Tryz.pinned.checked.prog.inPlace 4=Rows.graspChecksRow.inPlace:=by kernel_rfl
theorem facts2:Tryz.pinned.checked.prog.unfollowed 4=Rows.graspChecksRow.unfollowed:=by kernel_rfl
theorem facts3:Tryz.pinned.checked.prog.recurses 4=Rows.graspChecksRow.recurses:=by kernel_rfl
theorem facts4:Tryz.pinned.checked.prog.varsNamed 4=Rows.graspChecksRow.named:=by kernel_rfl
theorem closed:joinedFacts Tryz.pinned.checked.prog 4 Tryz.f4 Rows.graspChecksSpec Rows.graspChecksRow=true:=by
 unfold joinedFacts;rw [facts1,facts2,facts3,facts4]
 kernel_rfl
theorem inst:Func.isInstance Tryz.pinned.checked.prog Tryz.f4 Rows.graspChecksRow.origin Rows.graspChecksRow.targs:=vJZ (by kernel_rfl)
theorem wrap:Func.isWrapper Tryz.pinned.checked.prog Tryz.f4 Rows.graspChecksRow.wrapper Rows.graspChecksRow.mainSum:=by
 unfold Func.isWrapper; first | (rw [if_pos (by decide +kernel)]; kernel_rfl) | (rw [if_neg (by decide +kernel)]; exact ⟨rfl,rfl⟩)
theorem proved:Rows.GraspChecksSaid :=
 OpenClaim.holds_of_wide 4 Tryz.f4 rfl rfl rfl rfl rfl rfl rfl ⟨rfl,rfl,rfl,rfl,rfl⟩ rfl rfl rfl rfl rfl named Tryz.func4 closed inst wrap
  (fun os started H enc _=>lifted os started H enc)
#print axioms proved
end Go.Proofs.YtgmbkkkbfbocnaaGreat.graspChecks

/- KinematicsLinks: Links and Points return the specified results for arbitrary arguments and for valid ones.
No condition. -/
import Derived.Test.YtgmbkkkbfbocnaaGreatKL38
import Derived.Test.YtgmbkkkbfbocnaaGreatRows
namespace Go.Proofs.YtgmbkkkbfbocnaaGreat.kinematicsLinks
open Go.ChangeShapes Go.WideShapes Go.ChangeAt Go.RowKit Go.Sx Go.Rx
theorem own:ownKnob Tryz.prog.godebug=none:=by kernel_rfl
theorem laid:laidOutB Tryz.prog=true:=by kernel_rfl

set_option maxRecDepth 100000 in
theorem lifted (os:Os) (started:os.Started) (H:Type) (enc:TypeId × Value→H) :
  ReturnsInHanded {} Tryz.checked os 3 .any (Rows.kinematicsLinksSpec.pre6 enc Tryz.prog Tryz.f3 Rows.kinematicsLinksRow.domain false) (Rows.kinematicsLinksSpec.post enc Tryz.prog Tryz.f3 false true false false):=by
 have e6:Rows.kinematicsLinksSpec.pre6 enc Tryz.prog Tryz.f3 Rows.kinematicsLinksRow.domain false=(fun w args=>(Rows.kinematicsLinksSpec.pre enc Tryz.prog Tryz.f3 Rows.kinematicsLinksRow.domain false w args∧True)∧sizedMet enc Tryz.prog Tryz.f3 (OpenSpec.ofChange Rows.kinematicsLinksSpec) false w args):=by
  funext w args;simp only [ChangeSpec.pre6,and_true]
 rw [e6];refine returnsInHanded_of_change_and (C:=Tryz.checked) (X:=fun _ _=>True) (fun _ _ _ _ _=>trivial) own started (by kernel_rfl) Tryz.func3
  (let ⟨w,t,i,h1,h2,h3,h4,h5,h6⟩:=(ChangeSpec.witness6 (enc:=enc) (C:=Tryz.checked) false ⟨#[],#[.agg #[.slice none 0 0,.slice none 0 0,.slice none 0 0,.slice none 0 0],.slice none 0 0,.slice none 0 0,.slice none 0 0],[]⟩ 8 (by kernel_rfl) (by kernel_rfl) (by kernel_rfl) (by kernel_rfl)); ⟨w,t,i,h1,h2,h3,h4,⟨⟨h5.1,trivial⟩,h5.2⟩,h6⟩) ?_
 intro W base args ds gs before hval0 hW hcnd hwt _ _;have hval:∀ (j:Nat) t v,Tryz.f3.params[j]? = some t→args[j]? = some v→Value.okWide Tryz.prog W .any base t v:=hval0;have hW':=hW;obtain ⟨p,q,hA0,hV,rfl,hfz,hnd⟩:=hW;have hA:DataW.TrodAll enc Tryz.prog W 0 (fun _=>true) true Tryz.f3.params.toList args.toList ds p:=hA0;rw [Tryz.params3] at hA hval hwt;obtain ⟨v0,vs0,d0,ds0,p0,q0,hargs,rfl,rfl,h0,r0⟩:=trodAll_cons hA;obtain ⟨v1,vs1,d1,ds1,p1,q1,rfl,rfl,rfl,h1,r1⟩:=trodAll_cons r0;obtain ⟨v2,vs2,d2,ds2,p2,q2,rfl,rfl,rfl,h2,r2⟩:=trodAll_cons r1;obtain ⟨v3,vs3,d3,ds3,p3,q3,rfl,rfl,rfl,h3,r3⟩:=trodAll_cons r2;obtain ⟨rfl,rfl,rfl⟩:=trodAll_nil r3;obtain rfl:args=#[v0,v1,v2,v3]:=by cases args; simp_all
 obtain ⟨rfl,rfl⟩:=trodVars_none hV;obtain ⟨js0,ms0,sh0,sk0,n0,m0,c0,dk0,hI0⟩:=Gi.open_scene (hval 0 29 v0 rfl rfl) h0;obtain ⟨bx1,k1,hI1⟩:=Gi.open_ivs (hval 1 30 v1 rfl rfl) h1;obtain ⟨L2,hI2⟩:=open_rp Tryz.underlying31 Tryz.underlying3 (by kernel_rfl) (hval 2 31 v2 rfl rfl) h2;obtain ⟨L3,hI3⟩:=open_rp Tryz.underlying31 Tryz.underlying3 (by kernel_rfl) (hval 3 31 v3 rfl rfl) h3;have hK1:k1≤8796093021952:=Gi.ivs_len h1 hI1 (fun x hx=>vJZ (List.all_eq_true.1 hwt x (by
  show x ∈ DataW.weightsEach Tryz.prog (29 :: 30 :: 31 :: 31 :: _) (d0 :: d1 :: d2 :: d3 :: _);simp only [DataW.weightsEach,List.mem_append];exact .inr (.inl hx))))
 refine (wKinematicsLinks v0 js0 ms0 sh0 sk0 n0 m0 c0 dk0 v1 bx1 k1 v2 L2 v3 L3 W hI0 hI1 hI2 hI3 hK1).mono fun e W' ⟨he,hg⟩ => ?_
 subst he;exact ⟨_,rfl,law_post hW' rfl laid (by kernel_rfl) rfl rfl rfl rfl Tryz.underlying4 hg⟩

theorem named:Tryz.pinned.checked.prog.funcNamed Rows.kinematicsLinksRow.func=some 3:=by kernel_rfl
theorem facts1:Tryz.pinned.checked.prog.inPlace 3=Rows.kinematicsLinksRow.inPlace:=by kernel_rfl
theorem facts2:Tryz.pinned.checked.prog.unfollowed 3=Rows.kinematicsLinksRow.unfollowed:=by kernel_rfl
theorem facts3:Tryz.pinned.checked.prog.recurses 3=Rows.kinematicsLinksRow.recurses:=by kernel_rfl
theorem facts4:Tryz.pinned.checked.prog.varsNamed 3=Rows.kinematicsLinksRow.named:=by kernel_rfl
theorem closed:joinedFacts Tryz.pinned.checked.prog 3 Tryz.f3 Rows.kinematicsLinksSpec Rows.kinematicsLinksRow=true:=by
 unfold joinedFacts;rw [facts1,facts2,facts3,facts4]
 kernel_rfl
theorem inst:Func.isInstance Tryz.pinned.checked.prog Tryz.f3 Rows.kinematicsLinksRow.origin Rows.kinematicsLinksRow.targs:=vJZ (by kernel_rfl)
theorem wrap:Func.isWrapper Tryz.pinned.checked.prog Tryz.f3 Rows.kinematicsLinksRow.wrapper Rows.kinematicsLinksRow.mainSum:=by
 unfold Func.isWrapper; first | (rw [if_pos (by decide +kernel)]; kernel_rfl) | (rw [if_neg (by decide +kernel)]; exact ⟨rfl,rfl⟩)
theorem proved:Rows.KinematicsLinksSaid :=
 OpenClaim.holds_of_wide 3 Tryz.f3 rfl rfl rfl rfl rfl rfl rfl ⟨rfl,rfl,rfl,rfl,rfl⟩ rfl rfl rfl rfl rfl named Tryz.func3 closed inst wrap
  (fun os started H enc _=>lifted os started H enc)
#print axioms proved
end Go.Proofs.YtgmbkkkbfbocnaaGreat.kinematicsLinks

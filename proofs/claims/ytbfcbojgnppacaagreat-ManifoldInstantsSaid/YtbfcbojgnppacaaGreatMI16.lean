/- ManifoldInstants: If a tube is accepted, the constraints hold at every dyadic instant of the motion; if a refutation is, they are broken somewhere.
No condition. -/
import Derived.Test.YtbfcbojgnppacaaGreatMI15
import Derived.Test.YtbfcbojgnppacaaGreatRows
namespace Go.Proofs.YtbfcbojgnppacaaGreat.manifoldInstants
open Go.ChangeShapes Go.WideShapes Go.ChangeAt Go.RowKit Go.Sx Go.Rx
theorem own:ownKnob Tryz.prog.godebug=none:=by kernel_rfl
theorem laid:laidOutB Tryz.prog=true:=by kernel_rfl

set_option maxRecDepth 100000 in
theorem lifted (os:Os) (started:os.Started) (H:Type) (enc:TypeId × Value→H) :
  ReturnsInHanded {} Tryz.checked os 5 .any (Rows.manifoldInstantsSpec.pre6 enc Tryz.prog Tryz.f5 Rows.manifoldInstantsRow.domain false) (Rows.manifoldInstantsSpec.post enc Tryz.prog Tryz.f5 false true false false):=by
 refine returnsInHanded_of_change (C:=Tryz.checked) own started (by kernel_rfl) Tryz.func5
  (ChangeSpec.witness6 (enc:=enc) (C:=Tryz.checked) false ⟨#[],#[.slice none 0 0,.slice none 0 0,.slice none 0 0,.slice none 0 0,.int .i64 0,.int .i64 0,.int .i64 0],[]⟩ 8 (by kernel_rfl) (by kernel_rfl) (by kernel_rfl) (by kernel_rfl)) ?_
 intro W base args ds gs before hval0 hW hcnd _;have hval:∀ (j:Nat) t v,Tryz.f5.params[j]? = some t→args[j]? = some v→Value.okWide Tryz.prog W .any base t v:=hval0;have hW':=hW;obtain ⟨p,q,hA0,hV,rfl,hfz,hnd⟩:=hW;have hA:DataW.TrodAll enc Tryz.prog W 0 (fun _=>true) true Tryz.f5.params.toList args.toList ds p:=hA0;rw [Tryz.params5] at hA hval;obtain ⟨v0,vs0,d0,ds0,p0,q0,hargs,rfl,rfl,h0,r0⟩:=trodAll_cons hA;obtain ⟨v1,vs1,d1,ds1,p1,q1,rfl,rfl,rfl,h1,r1⟩:=trodAll_cons r0;obtain ⟨v2,vs2,d2,ds2,p2,q2,rfl,rfl,rfl,h2,r2⟩:=trodAll_cons r1;obtain ⟨v3,vs3,d3,ds3,p3,q3,rfl,rfl,rfl,h3,r3⟩:=trodAll_cons r2;obtain ⟨v4,vs4,d4,ds4,p4,q4,rfl,rfl,rfl,h4,r4⟩:=trodAll_cons r3;obtain ⟨v5,vs5,d5,ds5,p5,q5,rfl,rfl,rfl,h5,r5⟩:=trodAll_cons r4;obtain ⟨v6,vs6,d6,ds6,p6,q6,rfl,rfl,rfl,h6,r6⟩:=trodAll_cons r5;obtain ⟨rfl,rfl,rfl⟩:=trodAll_nil r6;obtain rfl:args=#[v0,v1,v2,v3,v4,v5,v6]:=by cases args; simp_all
 obtain ⟨rfl,rfl⟩:=trodVars_none hV;obtain ⟨L0,hI0⟩:=zVE Tryz.underlying28 Tryz.underlying3 (by kernel_rfl) (hval 0 28 v0 rfl rfl) h0;obtain ⟨L1,hI1⟩:=zVE Tryz.underlying28 Tryz.underlying3 (by kernel_rfl) (hval 1 28 v1 rfl rfl) h1;obtain ⟨L2,hI2⟩:=zVE Tryz.underlying28 Tryz.underlying3 (by kernel_rfl) (hval 2 28 v2 rfl rfl) h2;obtain ⟨L3,hI3⟩:=zVE Tryz.underlying28 Tryz.underlying3 (by kernel_rfl) (hval 3 28 v3 rfl rfl) h3;obtain ⟨a4,rfl,w4⟩:=zVF Tryz.underlying3 (hval 4 3 v4 rfl rfl);obtain ⟨a5,rfl,w5⟩:=zVF Tryz.underlying3 (hval 5 3 v5 rfl rfl);obtain ⟨a6,rfl,w6⟩:=zVF Tryz.underlying3 (hval 6 3 v6 rfl rfl);refine (wManifoldInstants v0 L0 v1 L1 v2 L2 v3 L3 a4 a5 a6 W hI0 hI1 hI2 hI3).mono fun e W' ⟨he,hg⟩ => ?_
 subst he;exact ⟨_,rfl,law_post hW' rfl laid (by kernel_rfl) rfl rfl rfl rfl Tryz.underlying4 hg⟩

theorem named:Tryz.pinned.checked.prog.funcNamed Rows.manifoldInstantsRow.func=some 5:=by kernel_rfl
theorem facts1:Tryz.pinned.checked.prog.inPlace 5=Rows.manifoldInstantsRow.inPlace:=by kernel_rfl
theorem facts2:Tryz.pinned.checked.prog.unfollowed 5=Rows.manifoldInstantsRow.unfollowed:=by kernel_rfl
theorem facts3:Tryz.pinned.checked.prog.recurses 5=Rows.manifoldInstantsRow.recurses:=by kernel_rfl
theorem facts4:Tryz.pinned.checked.prog.varsNamed 5=Rows.manifoldInstantsRow.named:=by kernel_rfl
theorem closed:joinedFacts Tryz.pinned.checked.prog 5 Tryz.f5 Rows.manifoldInstantsSpec Rows.manifoldInstantsRow=true:=by
 unfold joinedFacts;rw [facts1,facts2,facts3,facts4]
 kernel_rfl
theorem inst:Func.isInstance Tryz.pinned.checked.prog Tryz.f5 Rows.manifoldInstantsRow.origin Rows.manifoldInstantsRow.targs:=vJZ (by kernel_rfl)
theorem wrap:Func.isWrapper Tryz.pinned.checked.prog Tryz.f5 Rows.manifoldInstantsRow.wrapper Rows.manifoldInstantsRow.mainSum:=by
 unfold Func.isWrapper; first | (rw [if_pos (by decide +kernel)]; kernel_rfl) | (rw [if_neg (by decide +kernel)]; exact ⟨rfl,rfl⟩)
theorem proved:Rows.ManifoldInstantsSaid :=
 OpenClaim.holds_of_wide 5 Tryz.f5 rfl rfl rfl rfl rfl rfl rfl ⟨rfl,rfl,rfl,rfl,rfl⟩ rfl rfl rfl rfl rfl named Tryz.func5 closed inst wrap
  (fun os started H enc _=>lifted os started H enc)
#print axioms proved
end Go.Proofs.YtbfcbojgnppacaaGreat.manifoldInstants

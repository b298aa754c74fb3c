/- ManifoldProves: Prove returns the specified result for arbitrary arguments and for motions of a robot.
No condition. -/
import Derived.Test.YtfcofnclgajfeaaGreatPV15
import Derived.Test.YtfcofnclgajfeaaGreatRows
namespace Go.Proofs.YtfcofnclgajfeaaGreat.manifoldProves
open Go.ChangeShapes Go.WideShapes Go.ChangeAt Go.RowKit Go.Sx Go.Rx
theorem own:ownKnob Tryz.prog.godebug=none:=by kernel_rfl
theorem laid:laidOutB Tryz.prog=true:=by kernel_rfl

set_option maxRecDepth 100000 in
theorem lifted (os:Os) (started:os.Started) (H:Type) (enc:TypeId × Value→H) :
  ReturnsInHanded {} Tryz.checked os 3 .any (Rows.manifoldProvesSpec.pre6 enc Tryz.prog Tryz.f3 Rows.manifoldProvesRow.domain false) (Rows.manifoldProvesSpec.post enc Tryz.prog Tryz.f3 false true false false):=by
 refine returnsInHanded_of_change (C:=Tryz.checked) own started (by kernel_rfl) Tryz.func3
  (ChangeSpec.witness6 (enc:=enc) (C:=Tryz.checked) false ⟨#[],#[.agg #[.slice none 0 0,.slice none 0 0],.slice none 0 0,.slice none 0 0,.slice none 0 0,.int .i64 0,.slice none 0 0,.slice none 0 0,.slice none 0 0,.slice none 0 0,.int .i64 0],[]⟩ 8 (by kernel_rfl) (by kernel_rfl) (by kernel_rfl) (by kernel_rfl)) ?_
 intro W base args ds gs before hval0 hW hcnd _;have hval:∀ (j:Nat) t v,Tryz.f3.params[j]? = some t→args[j]? = some v→Value.okWide Tryz.prog W .any base t v:=hval0;have hW':=hW;obtain ⟨p,q,hA0,hV,rfl,hfz,hnd⟩:=hW;have hA:DataW.TrodAll enc Tryz.prog W 0 (fun _=>true) true Tryz.f3.params.toList args.toList ds p:=hA0;rw [Tryz.params3] at hA hval;obtain ⟨v0,vs0,d0,ds0,p0,q0,hargs,rfl,rfl,h0,r0⟩:=trodAll_cons hA;obtain ⟨v1,vs1,d1,ds1,p1,q1,rfl,rfl,rfl,h1,r1⟩:=trodAll_cons r0;obtain ⟨v2,vs2,d2,ds2,p2,q2,rfl,rfl,rfl,h2,r2⟩:=trodAll_cons r1;obtain ⟨v3,vs3,d3,ds3,p3,q3,rfl,rfl,rfl,h3,r3⟩:=trodAll_cons r2;obtain ⟨v4,vs4,d4,ds4,p4,q4,rfl,rfl,rfl,h4,r4⟩:=trodAll_cons r3;obtain ⟨v5,vs5,d5,ds5,p5,q5,rfl,rfl,rfl,h5,r5⟩:=trodAll_cons r4;obtain ⟨v6,vs6,d6,ds6,p6,q6,rfl,rfl,rfl,h6,r6⟩:=trodAll_cons r5;obtain ⟨v7,vs7,d7,ds7,p7,q7,rfl,rfl,rfl,h7,r7⟩:=trodAll_cons r6;obtain ⟨v8,vs8,d8,ds8,p8,q8,rfl,rfl,rfl,h8,r8⟩:=trodAll_cons r7;obtain ⟨v9,vs9,d9,ds9,p9,q9,rfl,rfl,rfl,h9,r9⟩:=trodAll_cons r8;obtain ⟨rfl,rfl,rfl⟩:=trodAll_nil r9;obtain rfl:args=#[v0,v1,v2,v3,v4,v5,v6,v7,v8,v9]:=by cases args; simp_all
 obtain ⟨rfl,rfl⟩:=trodVars_none hV;obtain ⟨js0,ms0,n0,m0,hI0⟩:=Ni.open_robot (hval 0 25 v0 rfl rfl) h0;obtain ⟨cs1,c1,hI1⟩:=Ni.open_cons (hval 1 26 v1 rfl rfl) h1;obtain ⟨L2,hI2⟩:=zYQ Tryz.underlying27 Tryz.underlying2 (by kernel_rfl) (hval 2 27 v2 rfl rfl) h2;obtain ⟨L3,hI3⟩:=zYQ Tryz.underlying27 Tryz.underlying2 (by kernel_rfl) (hval 3 27 v3 rfl rfl) h3;obtain ⟨a4,rfl,w4⟩:=open_i64 Tryz.underlying3 (hval 4 3 v4 rfl rfl);obtain ⟨L5,hI5⟩:=zYQ Tryz.underlying28 Tryz.underlying3 (by kernel_rfl) (hval 5 28 v5 rfl rfl) h5;obtain ⟨L6,hI6⟩:=zYQ Tryz.underlying28 Tryz.underlying3 (by kernel_rfl) (hval 6 28 v6 rfl rfl) h6;obtain ⟨L7,hI7⟩:=zYQ Tryz.underlying28 Tryz.underlying3 (by kernel_rfl) (hval 7 28 v7 rfl rfl) h7;obtain ⟨L8,hI8⟩:=zYQ Tryz.underlying28 Tryz.underlying3 (by kernel_rfl) (hval 8 28 v8 rfl rfl) h8;obtain ⟨a9,rfl,w9⟩:=open_i64 Tryz.underlying3 (hval 9 3 v9 rfl rfl);refine (wManifoldProves v0 js0 ms0 n0 m0 v1 cs1 c1 v2 L2 v3 L3 a4 v5 L5 v6 L6 v7 L7 v8 L8 a9 W hI0 hI1 hI2 hI3 hI5 hI6 hI7 hI8).mono fun e W' ⟨he,hg⟩ => ?_
 subst he;exact ⟨_,rfl,law_post hW' rfl laid (by kernel_rfl) rfl rfl rfl rfl Tryz.underlying4 hg⟩

theorem named:Tryz.pinned.checked.prog.funcNamed Rows.manifoldProvesRow.func=some 3:=by kernel_rfl
theorem facts1:Tryz.pinned.checked.prog.inPlace 3=Rows.manifoldProvesRow.inPlace:=by kernel_rfl
theorem facts2:Tryz.pinned.checked.prog.unfollowed 3=Rows.manifoldProvesRow.unfollowed:=by kernel_rfl
theorem facts3:Tryz.pinned.checked.prog.recurses 3=Rows.manifoldProvesRow.recurses:=by kernel_rfl
theorem facts4:Tryz.pinned.checked.prog.varsNamed 3=Rows.manifoldProvesRow.named:=by kernel_rfl
theorem closed:joinedFacts Tryz.pinned.checked.prog 3 Tryz.f3 Rows.manifoldProvesSpec Rows.manifoldProvesRow=true:=by
 unfold joinedFacts;rw [facts1,facts2,facts3,facts4]
 kernel_rfl
theorem inst:Func.isInstance Tryz.pinned.checked.prog Tryz.f3 Rows.manifoldProvesRow.origin Rows.manifoldProvesRow.targs:=vJZ (by kernel_rfl)
theorem wrap:Func.isWrapper Tryz.pinned.checked.prog Tryz.f3 Rows.manifoldProvesRow.wrapper Rows.manifoldProvesRow.mainSum:=by
 unfold Func.isWrapper; first | (rw [if_pos (by decide +kernel)]; kernel_rfl) | (rw [if_neg (by decide +kernel)]; exact ⟨rfl,rfl⟩)
theorem proved:Rows.ManifoldProvesSaid :=
 OpenClaim.holds_of_wide 3 Tryz.f3 rfl rfl rfl rfl rfl rfl rfl ⟨rfl,rfl,rfl,rfl,rfl⟩ rfl rfl rfl rfl rfl named Tryz.func3 closed inst wrap
  (fun os started H enc _=>lifted os started H enc)
#print axioms proved
end Go.Proofs.YtfcofnclgajfeaaGreat.manifoldProves

/- BoundPrunes: Useful and Prune return what the chapter specifies, for arbitrary arguments and for roadmaps of a robot.
No condition. -/
import Derived.Test.YtklmegnpfhiibaaGreatBU40
import Derived.Test.YtklmegnpfhiibaaGreatRows
namespace Go.Proofs.YtklmegnpfhiibaaGreat.boundPrunes
open Go.ChangeShapes Go.WideShapes Go.ChangeAt Go.RowKit Go.Sx Go.Rx
theorem own:ownKnob Tryz.prog.godebug=none:=by kernel_rfl
theorem laid:laidOutB Tryz.prog=true:=by kernel_rfl

set_option maxRecDepth 100000 in
theorem lifted (os:Os) (started:os.Started) (H:Type) (enc:TypeId × Value→H) :
  ReturnsInHanded {} Tryz.checked os 3 .any (Rows.boundPrunesSpec.pre6 enc Tryz.prog Tryz.f3 Rows.boundPrunesRow.domain false) (Rows.boundPrunesSpec.post enc Tryz.prog Tryz.f3 false true false false):=by
 have e6:Rows.boundPrunesSpec.pre6 enc Tryz.prog Tryz.f3 Rows.boundPrunesRow.domain false=(fun w args=>(Rows.boundPrunesSpec.pre enc Tryz.prog Tryz.f3 Rows.boundPrunesRow.domain false w args∧True)∧sizedMet enc Tryz.prog Tryz.f3 (OpenSpec.ofChange Rows.boundPrunesSpec) false w args):=by
  funext w args;simp only [ChangeSpec.pre6,and_true]
 rw [e6];refine returnsInHanded_of_change_and (C:=Tryz.checked) (X:=fun _ _=>True) (fun _ _ _ _ _=>trivial) own started (by kernel_rfl) Tryz.func3
  (let ⟨w,t,i,h1,h2,h3,h4,h5,h6⟩:=(ChangeSpec.witness6 (enc:=enc) (C:=Tryz.checked) false ⟨#[],#[.agg #[.slice none 0 0,.slice none 0 0],.agg #[.slice none 0 0,.slice none 0 0],.slice none 0 0,.slice none 0 0,.slice none 0 0,.int .i64 0,.int .i64 0,.int .i64 0,.slice none 0 0,.slice none 0 0,.slice none 0 0,.int .i64 0],[]⟩ 8 (by kernel_rfl) (by kernel_rfl) (by kernel_rfl) (by kernel_rfl)); ⟨w,t,i,h1,h2,h3,h4,⟨⟨h5.1,trivial⟩,h5.2⟩,h6⟩) ?_
 intro W base args ds gs before hval0 hW hcnd hwt _ _;have hval:∀ (j:Nat) t v,Tryz.f3.params[j]? = some t→args[j]? = some v→Value.okWide Tryz.prog W .any base t v:=hval0;have hW':=hW;obtain ⟨p,q,hA0,hV,rfl,hfz,hnd⟩:=hW;have hA:DataW.TrodAll enc Tryz.prog W 0 (fun _=>true) true Tryz.f3.params.toList args.toList ds p:=hA0;rw [Tryz.params3] at hA hval hwt;obtain ⟨v0,vs0,d0,ds0,p0,q0,hargs,rfl,rfl,h0,r0⟩:=trodAll_cons hA;obtain ⟨v1,vs1,d1,ds1,p1,q1,rfl,rfl,rfl,h1,r1⟩:=trodAll_cons r0;obtain ⟨v2,vs2,d2,ds2,p2,q2,rfl,rfl,rfl,h2,r2⟩:=trodAll_cons r1;obtain ⟨v3,vs3,d3,ds3,p3,q3,rfl,rfl,rfl,h3,r3⟩:=trodAll_cons r2;obtain ⟨v4,vs4,d4,ds4,p4,q4,rfl,rfl,rfl,h4,r4⟩:=trodAll_cons r3;obtain ⟨v5,vs5,d5,ds5,p5,q5,rfl,rfl,rfl,h5,r5⟩:=trodAll_cons r4;obtain ⟨v6,vs6,d6,ds6,p6,q6,rfl,rfl,rfl,h6,r6⟩:=trodAll_cons r5;obtain ⟨v7,vs7,d7,ds7,p7,q7,rfl,rfl,rfl,h7,r7⟩:=trodAll_cons r6;obtain ⟨v8,vs8,d8,ds8,p8,q8,rfl,rfl,rfl,h8,r8⟩:=trodAll_cons r7;obtain ⟨v9,vs9,d9,ds9,p9,q9,rfl,rfl,rfl,h9,r9⟩:=trodAll_cons r8;obtain ⟨v10,vs10,d10,ds10,p10,q10,rfl,rfl,rfl,h10,r10⟩:=trodAll_cons r9;obtain ⟨v11,vs11,d11,ds11,p11,q11,rfl,rfl,rfl,h11,r11⟩:=trodAll_cons r10;obtain ⟨rfl,rfl,rfl⟩:=trodAll_nil r11;obtain rfl:args=#[v0,v1,v2,v3,v4,v5,v6,v7,v8,v9,v10,v11]:=by cases args; simp_all
 obtain ⟨rfl,rfl⟩:=trodVars_none hV;obtain ⟨js0,ms0,n0,m0,hI0⟩:=Xy.open_robot (hval 0 25 v0 rfl rfl) h0;obtain ⟨np1,pn1,pv1,ne1,ed1,o1,hI1⟩:=Xy.open_gr (hval 1 29 v1 rfl rfl) h1 (fun x hx=>vYX (List.all_eq_true.1 hwt x (by
  show x ∈ DataW.weightsEach Tryz.prog (25 :: 29 :: 30 :: 30 :: 30 :: 3 :: 3 :: 2 :: 31 :: 31 :: 31 :: 3 :: _) (d0 :: d1 :: d2 :: d3 :: d4 :: d5 :: d6 :: d7 :: d8 :: d9 :: d10 :: d11 :: _);simp only [DataW.weightsEach,List.mem_append];exact .inr (.inl hx))))
 obtain ⟨L2,hI2⟩:=qHC Tryz.underlying30 Tryz.underlying2 (by kernel_rfl) (hval 2 30 v2 rfl rfl) h2;obtain ⟨L3,hI3⟩:=qHC Tryz.underlying30 Tryz.underlying2 (by kernel_rfl) (hval 3 30 v3 rfl rfl) h3;obtain ⟨L4,hI4⟩:=qHC Tryz.underlying30 Tryz.underlying2 (by kernel_rfl) (hval 4 30 v4 rfl rfl) h4;obtain ⟨a5,rfl,w5⟩:=zZQ Tryz.underlying3 (hval 5 3 v5 rfl rfl);obtain ⟨a6,rfl,w6⟩:=zZQ Tryz.underlying3 (hval 6 3 v6 rfl rfl);obtain ⟨a7,rfl,w7⟩:=zZQ Tryz.underlying2 (hval 7 2 v7 rfl rfl);obtain ⟨L8,hI8⟩:=qHC Tryz.underlying31 Tryz.underlying3 (by kernel_rfl) (hval 8 31 v8 rfl rfl) h8;obtain ⟨L9,hI9⟩:=qHC Tryz.underlying31 Tryz.underlying3 (by kernel_rfl) (hval 9 31 v9 rfl rfl) h9;obtain ⟨L10,hI10⟩:=qHC Tryz.underlying31 Tryz.underlying3 (by kernel_rfl) (hval 10 31 v10 rfl rfl) h10;obtain ⟨a11,rfl,w11⟩:=zZQ Tryz.underlying3 (hval 11 3 v11 rfl rfl);refine (wBoundPrunes v0 js0 ms0 n0 m0 v1 np1 pn1 pv1 ne1 ed1 o1 v2 L2 v3 L3 v4 L4 a5 a6 a7 v8 L8 v9 L9 v10 L10 a11 W hI0 hI1 hI2 hI3 hI4 hI8 hI9 hI10 ).mono fun e W' ⟨he,hg⟩ => ?_
 subst he;exact ⟨_,rfl,law_post hW' rfl laid (by kernel_rfl) rfl rfl rfl rfl Tryz.underlying4 hg⟩

theorem named:Tryz.pinned.checked.prog.funcNamed Rows.boundPrunesRow.func=some 3:=by kernel_rfl
theorem facts1:Tryz.pinned.checked.prog.inPlace 3=Rows.boundPrunesRow.inPlace:=by kernel_rfl
theorem facts2:Tryz.pinned.checked.prog.unfollowed 3=Rows.boundPrunesRow.unfollowed:=by kernel_rfl
theorem facts3:Tryz.pinned.checked.prog.recurses 3=Rows.boundPrunesRow.recurses:=by kernel_rfl
theorem facts4:Tryz.pinned.checked.prog.varsNamed 3=Rows.boundPrunesRow.named:=by kernel_rfl
theorem closed:joinedFacts Tryz.pinned.checked.prog 3 Tryz.f3 Rows.boundPrunesSpec Rows.boundPrunesRow=true:=by
 unfold joinedFacts;rw [facts1,facts2,facts3,facts4]
 kernel_rfl
theorem inst:Func.isInstance Tryz.pinned.checked.prog Tryz.f3 Rows.boundPrunesRow.origin Rows.boundPrunesRow.targs:=vYX (by kernel_rfl)
theorem wrap:Func.isWrapper Tryz.pinned.checked.prog Tryz.f3 Rows.boundPrunesRow.wrapper Rows.boundPrunesRow.mainSum:=by
 unfold Func.isWrapper; first | (rw [if_pos (by decide +kernel)]; kernel_rfl) | (rw [if_neg (by decide +kernel)]; exact ⟨rfl,rfl⟩)
theorem proved:Rows.BoundPrunesSaid :=
 OpenClaim.holds_of_wide 3 Tryz.f3 rfl rfl rfl rfl rfl rfl rfl ⟨rfl,rfl,rfl,rfl,rfl⟩ rfl rfl rfl rfl rfl named Tryz.func3 closed inst wrap
  (fun os started H enc _=>lifted os started H enc)
#print axioms proved
end Go.Proofs.YtklmegnpfhiibaaGreat.boundPrunes

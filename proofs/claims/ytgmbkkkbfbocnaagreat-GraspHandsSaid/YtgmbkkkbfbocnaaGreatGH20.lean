/- GraspHands: At returns what the chapter specifies, for arbitrary arguments, for sliding hands, and for hands of other robots.
No condition. -/
import Derived.Test.YtgmbkkkbfbocnaaGreatGH19
import Derived.Test.YtgmbkkkbfbocnaaGreatRows
namespace Go.Proofs.YtgmbkkkbfbocnaaGreat.graspHands
open Go.ChangeShapes Go.WideShapes Go.ChangeAt Go.RowKit Go.Sx Go.Rx
theorem own:ownKnob Tryz.prog.godebug=none:=by kernel_rfl
theorem laid:laidOutB Tryz.prog=true:=by kernel_rfl

set_option maxRecDepth 100000 in
theorem xZG (os:Os) (started:os.Started) (H:Type) (enc:TypeId × Value→H) :
  ReturnsInHanded {} Tryz.checked os 6 .any (Rows.graspHandsSpec.pre6 enc Tryz.prog Tryz.f6 Rows.graspHandsRow.domain false) (Rows.graspHandsSpec.post enc Tryz.prog Tryz.f6 false true false false):=by
 have e6:Rows.graspHandsSpec.pre6 enc Tryz.prog Tryz.f6 Rows.graspHandsRow.domain false=(fun w args=>(Rows.graspHandsSpec.pre enc Tryz.prog Tryz.f6 Rows.graspHandsRow.domain false w args∧True)∧sizedMet enc Tryz.prog Tryz.f6 (OpenSpec.ofChange Rows.graspHandsSpec) false w args):=by
  funext w args;simp only [ChangeSpec.pre6,and_true]
 rw [e6];refine returnsInHanded_of_change_and (C:=Tryz.checked) (X:=fun _ _=>True) (fun _ _ _ _ _=>trivial) own started (by kernel_rfl) Tryz.func6
  (let ⟨w,t,i,h1,h2,h3,h4,h5,h6⟩:=(ChangeSpec.witness6 (enc:=enc) (C:=Tryz.checked) false ⟨#[],#[.agg #[.slice none 0 0,.slice none 0 0,.slice none 0 0,.slice none 0 0,.slice none 0 0,.slice none 0 0,.slice none 0 0,.slice none 0 0,.int .i64 0],.int .i64 0,.int .i64 0,.slice none 0 0,.slice none 0 0,.slice none 0 0,.slice none 0 0,.int .i64 0,.int .i64 0,.int .i64 0],[]⟩ 8 (by kernel_rfl) (by kernel_rfl) (by kernel_rfl) (by kernel_rfl)); ⟨w,t,i,h1,h2,h3,h4,⟨⟨h5.1,trivial⟩,h5.2⟩,h6⟩) ?_
 intro W base args ds gs before hval0 hW hcnd hwt _ _;have hval:∀ (j:Nat) t v,Tryz.f6.params[j]? = some t→args[j]? = some v→Value.okWide Tryz.prog W .any base t v:=hval0;have hW':=hW;obtain ⟨p,q,hA0,hV,rfl,hfz,hnd⟩:=hW;have hA:DataW.TrodAll enc Tryz.prog W 0 (fun _=>true) true Tryz.f6.params.toList args.toList ds p:=hA0;rw [Tryz.params6] at hA hval hwt;obtain ⟨v0,vs0,d0,ds0,p0,q0,hargs,rfl,rfl,h0,r0⟩:=trodAll_cons hA;obtain ⟨v1,vs1,d1,ds1,p1,q1,rfl,rfl,rfl,h1,r1⟩:=trodAll_cons r0;obtain ⟨v2,vs2,d2,ds2,p2,q2,rfl,rfl,rfl,h2,r2⟩:=trodAll_cons r1;obtain ⟨v3,vs3,d3,ds3,p3,q3,rfl,rfl,rfl,h3,r3⟩:=trodAll_cons r2;obtain ⟨v4,vs4,d4,ds4,p4,q4,rfl,rfl,rfl,h4,r4⟩:=trodAll_cons r3;obtain ⟨v5,vs5,d5,ds5,p5,q5,rfl,rfl,rfl,h5,r5⟩:=trodAll_cons r4;obtain ⟨v6,vs6,d6,ds6,p6,q6,rfl,rfl,rfl,h6,r6⟩:=trodAll_cons r5;obtain ⟨v7,vs7,d7,ds7,p7,q7,rfl,rfl,rfl,h7,r7⟩:=trodAll_cons r6;obtain ⟨v8,vs8,d8,ds8,p8,q8,rfl,rfl,rfl,h8,r8⟩:=trodAll_cons r7;obtain ⟨v9,vs9,d9,ds9,p9,q9,rfl,rfl,rfl,h9,r9⟩:=trodAll_cons r8;obtain ⟨rfl,rfl,rfl⟩:=trodAll_nil r9;obtain rfl:args=#[v0,v1,v2,v3,v4,v5,v6,v7,v8,v9]:=by cases args; simp_all
 obtain ⟨rfl,rfl⟩:=trodVars_none hV;obtain ⟨ws0,o0,hI0⟩:=Hp.open_wsp (hval 0 42 v0 rfl rfl) h0 (fun x hx=>vJZ (List.all_eq_true.1 hwt x (by
  show x ∈ DataW.weightsEach Tryz.prog (42 :: 3 :: 3 :: 54 :: 31 :: 31 :: 31 :: 3 :: 3 :: 3 :: _) (d0 :: d1 :: d2 :: d3 :: d4 :: d5 :: d6 :: d7 :: d8 :: d9 :: _);simp only [DataW.weightsEach,List.mem_append];exact .inl hx)))
 obtain ⟨a1,rfl,w1⟩:=qHV Tryz.underlying3 (hval 1 3 v1 rfl rfl);obtain ⟨a2,rfl,w2⟩:=qHV Tryz.underlying3 (hval 2 3 v2 rfl rfl);obtain ⟨L3,hI3⟩:=zGX Tryz.underlying54 Tryz.underlying2 (by kernel_rfl) (hval 3 54 v3 rfl rfl) h3;obtain ⟨L4,hI4⟩:=zGX Tryz.underlying31 Tryz.underlying3 (by kernel_rfl) (hval 4 31 v4 rfl rfl) h4;obtain ⟨L5,hI5⟩:=zGX Tryz.underlying31 Tryz.underlying3 (by kernel_rfl) (hval 5 31 v5 rfl rfl) h5;obtain ⟨L6,hI6⟩:=zGX Tryz.underlying31 Tryz.underlying3 (by kernel_rfl) (hval 6 31 v6 rfl rfl) h6;obtain ⟨a7,rfl,w7⟩:=qHV Tryz.underlying3 (hval 7 3 v7 rfl rfl);obtain ⟨a8,rfl,w8⟩:=qHV Tryz.underlying3 (hval 8 3 v8 rfl rfl);obtain ⟨a9,rfl,w9⟩:=qHV Tryz.underlying3 (hval 9 3 v9 rfl rfl);refine (yKB v0 ws0 o0 a1 a2 v3 L3 v4 L4 v5 L5 v6 L6 a7 a8 a9 W hI0 hI3 hI4 hI5 hI6 ).mono fun e W' ⟨he,hg⟩ => ?_
 subst he;exact ⟨_,rfl,kUF hW' rfl laid (by kernel_rfl) rfl rfl rfl rfl Tryz.underlying4 hg⟩

theorem named:Tryz.pinned.checked.prog.funcNamed Rows.graspHandsRow.func=some 6:=by kernel_rfl
theorem xYK:Tryz.pinned.checked.prog.inPlace 6=Rows.graspHandsRow.inPlace:=by kernel_rfl
theorem xYJ:Tryz.pinned.checked.prog.unfollowed 6=Rows.graspHandsRow.unfollowed:=by kernel_rfl
theorem xYY:Tryz.pinned.checked.prog.recurses 6=Rows.graspHandsRow.recurses:=by kernel_rfl
theorem xYZ:Tryz.pinned.checked.prog.varsNamed 6=Rows.graspHandsRow.named:=by kernel_rfl
theorem xYI:joinedFacts Tryz.pinned.checked.prog 6 Tryz.f6 Rows.graspHandsSpec Rows.graspHandsRow=true:=by
 unfold joinedFacts;rw [xYK,xYJ,xYY,xYZ]
 kernel_rfl
theorem inst:Func.isInstance Tryz.pinned.checked.prog Tryz.f6 Rows.graspHandsRow.origin Rows.graspHandsRow.targs:=vJZ (by kernel_rfl)
theorem wrap:Func.isWrapper Tryz.pinned.checked.prog Tryz.f6 Rows.graspHandsRow.wrapper Rows.graspHandsRow.mainSum:=by
 unfold Func.isWrapper; first | (rw [if_pos (by decide +kernel)]; kernel_rfl) | (rw [if_neg (by decide +kernel)]; exact ⟨rfl,rfl⟩)
theorem proved:Rows.GraspHandsSaid :=
 OpenClaim.holds_of_wide 6 Tryz.f6 rfl rfl rfl rfl rfl rfl rfl ⟨rfl,rfl,rfl,rfl,rfl⟩ rfl rfl rfl rfl rfl named Tryz.func6 xYI inst wrap
  (fun os started H enc _=>xZG os started H enc)
#print axioms proved
end Go.Proofs.YtgmbkkkbfbocnaaGreat.graspHands

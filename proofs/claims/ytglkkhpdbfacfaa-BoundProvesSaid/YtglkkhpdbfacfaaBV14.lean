/- BoundProves: If potentials are accepted for a bound, no walk along edges that are not refuted costs less.
No condition. -/
import Derived.Test.YtglkkhpdbfacfaaBV13
import Derived.Test.YtglkkhpdbfacfaaRows
namespace Go.Proofs.Ytglkkhpdbfacfaa.boundProves
open Go.ChangeShapes Go.WideShapes Go.ChangeAt Go.RowKit Go.Sx Go.Rx
theorem own:ownKnob Try.prog.godebug=none:=by kernel_rfl
theorem laid:laidOutB Try.prog=true:=by kernel_rfl

set_option maxRecDepth 100000 in
theorem jKE (os:Os) (started:os.Started) (H:Type) (enc:TypeId × Value→H) :
  ReturnsInHanded {} Try.checked os 5 .any (Rows.boundProvesSpec.pre6 enc Try.prog Try.f5 Rows.boundProvesRow.domain false) (Rows.boundProvesSpec.post enc Try.prog Try.f5 false true false false):=by
 have e6:Rows.boundProvesSpec.pre6 enc Try.prog Try.f5 Rows.boundProvesRow.domain false=(fun w args=>(Rows.boundProvesSpec.pre enc Try.prog Try.f5 Rows.boundProvesRow.domain false w args∧True)∧sizedMet enc Try.prog Try.f5 (OpenSpec.ofChange Rows.boundProvesSpec) false w args):=by
  funext w args;simp only [ChangeSpec.pre6,and_true]
 rw [e6];refine returnsInHanded_of_change_and (C:=Try.checked) (X:=fun _ _=>True) (fun _ _ _ _ _=>trivial) own started (by kernel_rfl) Try.func5
  (let ⟨w,t,i,h1,h2,h3,h4,h5,h6⟩:=(ChangeSpec.witness6 (enc:=enc) (C:=Try.checked) false ⟨#[],#[.slice none 0 0,.slice none 0 0,.int .i64 0,.int .i64 0,.slice none 0 0,.int .i64 0,.int .i64 0],[]⟩ 8 (by kernel_rfl) (by kernel_rfl) (by kernel_rfl) (by kernel_rfl)); ⟨w,t,i,h1,h2,h3,h4,⟨⟨h5.1,trivial⟩,h5.2⟩,h6⟩) ?_
 intro W base args ds gs before hval0 hW hcnd hwt _ _;have hval:∀ (j:Nat) t v,Try.f5.params[j]? = some t→args[j]? = some v→Value.okWide Try.prog W .any base t v:=hval0;have hW':=hW;obtain ⟨p,q,hA0,hV,rfl,hfz,hnd⟩:=hW;have hA:DataW.TrodAll enc Try.prog W 0 (fun _=>true) true Try.f5.params.toList args.toList ds p:=hA0;rw [Try.params5] at hA hval hwt;obtain ⟨v0,vs0,d0,ds0,p0,q0,hargs,rfl,rfl,h0,r0⟩:=trodAll_cons hA;obtain ⟨v1,vs1,d1,ds1,p1,q1,rfl,rfl,rfl,h1,r1⟩:=trodAll_cons r0;obtain ⟨v2,vs2,d2,ds2,p2,q2,rfl,rfl,rfl,h2,r2⟩:=trodAll_cons r1;obtain ⟨v3,vs3,d3,ds3,p3,q3,rfl,rfl,rfl,h3,r3⟩:=trodAll_cons r2;obtain ⟨v4,vs4,d4,ds4,p4,q4,rfl,rfl,rfl,h4,r4⟩:=trodAll_cons r3;obtain ⟨v5,vs5,d5,ds5,p5,q5,rfl,rfl,rfl,h5,r5⟩:=trodAll_cons r4;obtain ⟨v6,vs6,d6,ds6,p6,q6,rfl,rfl,rfl,h6,r6⟩:=trodAll_cons r5;obtain ⟨rfl,rfl,rfl⟩:=trodAll_nil r6;obtain rfl:args=#[v0,v1,v2,v3,v4,v5,v6]:=by cases args; simp_all
 obtain ⟨rfl,rfl⟩:=trodVars_none hV;obtain ⟨L0,hI0⟩:=yZA Try.underlying27 Try.underlying3 (by kernel_rfl) (hval 0 27 v0 rfl rfl) h0;obtain ⟨L1,hI1⟩:=yZA Try.underlying27 Try.underlying3 (by kernel_rfl) (hval 1 27 v1 rfl rfl) h1;obtain ⟨a2,rfl,w2⟩:=qWH Try.underlying3 (hval 2 3 v2 rfl rfl);obtain ⟨a3,rfl,w3⟩:=qWH Try.underlying3 (hval 3 3 v3 rfl rfl);obtain ⟨n4,q4,o4,hI4⟩:=Cl.open_lst (hval 4 26 v4 rfl rfl) h4 (fun x hx=>vYK (List.all_eq_true.1 hwt x (by
  show x ∈ DataW.weightsEach Try.prog (27 :: 27 :: 3 :: 3 :: 26 :: 3 :: 3 :: _) (d0 :: d1 :: d2 :: d3 :: d4 :: d5 :: d6 :: _);simp only [DataW.weightsEach,List.mem_append];exact .inr (.inr (.inr (.inr (.inl hx)))))))
 obtain ⟨a5,rfl,w5⟩:=qWH Try.underlying3 (hval 5 3 v5 rfl rfl);obtain ⟨a6,rfl,w6⟩:=qWH Try.underlying3 (hval 6 3 v6 rfl rfl);refine (zZD v0 L0 v1 L1 a2 a3 v4 n4 q4 o4 a5 a6 W hI0 hI1 hI4 ).mono fun e W' ⟨he,hg⟩ => ?_
 subst he;exact ⟨_,rfl,yWW hW' rfl laid (by kernel_rfl) rfl rfl rfl rfl Try.underlying4 hg⟩

theorem named:Try.pinned.checked.prog.funcNamed Rows.boundProvesRow.func=some 5:=by kernel_rfl
theorem jUG:Try.pinned.checked.prog.inPlace 5=Rows.boundProvesRow.inPlace:=by kernel_rfl
theorem jUV:Try.pinned.checked.prog.unfollowed 5=Rows.boundProvesRow.unfollowed:=by kernel_rfl
theorem jUW:Try.pinned.checked.prog.recurses 5=Rows.boundProvesRow.recurses:=by kernel_rfl
theorem jUX:Try.pinned.checked.prog.varsNamed 5=Rows.boundProvesRow.named:=by kernel_rfl
theorem jUF:joinedFacts Try.pinned.checked.prog 5 Try.f5 Rows.boundProvesSpec Rows.boundProvesRow=true:=by
 unfold joinedFacts;rw [jUG,jUV,jUW,jUX]
 kernel_rfl
theorem inst:Func.isInstance Try.pinned.checked.prog Try.f5 Rows.boundProvesRow.origin Rows.boundProvesRow.targs:=vYK (by kernel_rfl)
theorem wrap:Func.isWrapper Try.pinned.checked.prog Try.f5 Rows.boundProvesRow.wrapper Rows.boundProvesRow.mainSum:=by
 unfold Func.isWrapper; first | (rw [if_pos (by decide +kernel)]; kernel_rfl) | (rw [if_neg (by decide +kernel)]; exact ⟨rfl,rfl⟩)
theorem proved:Rows.BoundProvesSaid :=
 OpenClaim.holds_of_wide 5 Try.f5 rfl rfl rfl rfl rfl rfl rfl ⟨rfl,rfl,rfl,rfl,rfl⟩ rfl rfl rfl rfl rfl named Try.func5 jUF inst wrap
  (fun os started H enc _=>jKE os started H enc)
#print axioms proved
end Go.Proofs.Ytglkkhpdbfacfaa.boundProves

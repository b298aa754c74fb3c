/- BoundPotentials: Potentials and Check return what the chapter specifies, for arbitrary arguments, for made roadmaps, and for potentials with a change.
No condition. -/
import Derived.Test.YtglkkhpdbfacfaaBP13
import Derived.Test.YtglkkhpdbfacfaaRows
namespace Go.Proofs.Ytglkkhpdbfacfaa.boundPotentials
open Go.ChangeShapes Go.WideShapes Go.ChangeAt Go.RowKit Go.Sx Go.Rx
theorem own:ownKnob Try.prog.godebug=none:=by kernel_rfl
theorem laid:laidOutB Try.prog=true:=by kernel_rfl

set_option maxRecDepth 100000 in
theorem jXY (os:Os) (started:os.Started) (H:Type) (enc:TypeId × Value→H) :
  ReturnsInHanded {} Try.checked os 3 .any (Rows.boundPotentialsSpec.pre6 enc Try.prog Try.f3 Rows.boundPotentialsRow.domain false) (Rows.boundPotentialsSpec.post enc Try.prog Try.f3 false true false false):=by
 have e6:Rows.boundPotentialsSpec.pre6 enc Try.prog Try.f3 Rows.boundPotentialsRow.domain false=(fun w args=>(Rows.boundPotentialsSpec.pre enc Try.prog Try.f3 Rows.boundPotentialsRow.domain false w args∧True)∧sizedMet enc Try.prog Try.f3 (OpenSpec.ofChange Rows.boundPotentialsSpec) false w args):=by
  funext w args;simp only [ChangeSpec.pre6,and_true]
 rw [e6];refine returnsInHanded_of_change_and (C:=Try.checked) (X:=fun _ _=>True) (fun _ _ _ _ _=>trivial) own started (by kernel_rfl) Try.func3
  (let ⟨w,t,i,h1,h2,h3,h4,h5,h6⟩:=(ChangeSpec.witness6 (enc:=enc) (C:=Try.checked) false ⟨#[],#[.agg #[.slice none 0 0,.slice none 0 0],.int .i64 0,.int .i64 0,.int .i64 0,.slice none 0 0,.slice none 0 0,.int .i64 0,.int .i64 0],[]⟩ 8 (by kernel_rfl) (by kernel_rfl) (by kernel_rfl) (by kernel_rfl)); ⟨w,t,i,h1,h2,h3,h4,⟨⟨h5.1,trivial⟩,h5.2⟩,h6⟩) ?_
 intro W base args ds gs before hval0 hW hcnd hwt _ _;have hval:∀ (j:Nat) t v,Try.f3.params[j]? = some t→args[j]? = some v→Value.okWide Try.prog W .any base t v:=hval0;have hW':=hW;obtain ⟨p,q,hA0,hV,rfl,hfz,hnd⟩:=hW;have hA:DataW.TrodAll enc Try.prog W 0 (fun _=>true) true Try.f3.params.toList args.toList ds p:=hA0;rw [Try.params3] at hA hval hwt;obtain ⟨v0,vs0,d0,ds0,p0,q0,hargs,rfl,rfl,h0,r0⟩:=trodAll_cons hA;obtain ⟨v1,vs1,d1,ds1,p1,q1,rfl,rfl,rfl,h1,r1⟩:=trodAll_cons r0;obtain ⟨v2,vs2,d2,ds2,p2,q2,rfl,rfl,rfl,h2,r2⟩:=trodAll_cons r1;obtain ⟨v3,vs3,d3,ds3,p3,q3,rfl,rfl,rfl,h3,r3⟩:=trodAll_cons r2;obtain ⟨v4,vs4,d4,ds4,p4,q4,rfl,rfl,rfl,h4,r4⟩:=trodAll_cons r3;obtain ⟨v5,vs5,d5,ds5,p5,q5,rfl,rfl,rfl,h5,r5⟩:=trodAll_cons r4;obtain ⟨v6,vs6,d6,ds6,p6,q6,rfl,rfl,rfl,h6,r6⟩:=trodAll_cons r5;obtain ⟨v7,vs7,d7,ds7,p7,q7,rfl,rfl,rfl,h7,r7⟩:=trodAll_cons r6;obtain ⟨rfl,rfl,rfl⟩:=trodAll_nil r7;obtain rfl:args=#[v0,v1,v2,v3,v4,v5,v6,v7]:=by cases args; simp_all
 obtain ⟨rfl,rfl⟩:=trodVars_none hV;obtain ⟨g0,hI0⟩:=Cf.open_gr (hval 0 25 v0 rfl rfl) h0;obtain ⟨a1,rfl,w1⟩:=qKC Try.underlying3 (hval 1 3 v1 rfl rfl);obtain ⟨a2,rfl,w2⟩:=qKC Try.underlying3 (hval 2 3 v2 rfl rfl);obtain ⟨a3,rfl,w3⟩:=qKC Try.underlying2 (hval 3 2 v3 rfl rfl);obtain ⟨L4,hI4⟩:=yZH Try.underlying26 Try.underlying2 (by kernel_rfl) (hval 4 26 v4 rfl rfl) h4;obtain ⟨L5,hI5⟩:=yZH Try.underlying27 Try.underlying3 (by kernel_rfl) (hval 5 27 v5 rfl rfl) h5;obtain ⟨a6,rfl,w6⟩:=qKC Try.underlying3 (hval 6 3 v6 rfl rfl);obtain ⟨a7,rfl,w7⟩:=qKC Try.underlying3 (hval 7 3 v7 rfl rfl);refine (qWJ v0 g0 a1 a2 a3 v4 L4 v5 L5 a6 a7 W hI0 hI4 hI5 ).mono fun e W' ⟨he,hg⟩ => ?_
 subst he;exact ⟨_,rfl,yWA hW' rfl laid (by kernel_rfl) rfl rfl rfl rfl Try.underlying4 hg⟩

theorem named:Try.pinned.checked.prog.funcNamed Rows.boundPotentialsRow.func=some 3:=by kernel_rfl
theorem jXL:Try.pinned.checked.prog.inPlace 3=Rows.boundPotentialsRow.inPlace:=by kernel_rfl
theorem jXI:Try.pinned.checked.prog.unfollowed 3=Rows.boundPotentialsRow.unfollowed:=by kernel_rfl
theorem jXF:Try.pinned.checked.prog.recurses 3=Rows.boundPotentialsRow.recurses:=by kernel_rfl
theorem jXE:Try.pinned.checked.prog.varsNamed 3=Rows.boundPotentialsRow.named:=by kernel_rfl
theorem jWU:joinedFacts Try.pinned.checked.prog 3 Try.f3 Rows.boundPotentialsSpec Rows.boundPotentialsRow=true:=by
 unfold joinedFacts;rw [jXL,jXI,jXF,jXE]
 kernel_rfl
theorem inst:Func.isInstance Try.pinned.checked.prog Try.f3 Rows.boundPotentialsRow.origin Rows.boundPotentialsRow.targs:=vYK (by kernel_rfl)
theorem wrap:Func.isWrapper Try.pinned.checked.prog Try.f3 Rows.boundPotentialsRow.wrapper Rows.boundPotentialsRow.mainSum:=by
 unfold Func.isWrapper; first | (rw [if_pos (by decide +kernel)]; kernel_rfl) | (rw [if_neg (by decide +kernel)]; exact ⟨rfl,rfl⟩)
theorem proved:Rows.BoundPotentialsSaid :=
 OpenClaim.holds_of_wide 3 Try.f3 rfl rfl rfl rfl rfl rfl rfl ⟨rfl,rfl,rfl,rfl,rfl⟩ rfl rfl rfl rfl rfl named Try.func3 jWU inst wrap
  (fun os started H enc _=>jXY os started H enc)
#print axioms proved
end Go.Proofs.Ytglkkhpdbfacfaa.boundPotentials

/- Pruning keeps the least cost.
No condition. -/
import Derived.Test.YtklmegnpfhiibaaGreatBK37
import Derived.Test.YtklmegnpfhiibaaGreatRows
namespace Go.Proofs.YtklmegnpfhiibaaGreat.boundKeeps
open Go.ChangeShapes Go.WideShapes Go.ChangeAt Go.RowKit Go.Sx Go.Rx
theorem own:ownKnob Tryz.prog.godebug=none:=by kernel_rfl
theorem laid:laidOutB Tryz.prog=true:=by kernel_rfl

set_option maxRecDepth 100000 in
theorem lifted (os:Os) (started:os.Started) (H:Type) (enc:TypeId × Value→H) :
  ReturnsInHanded {} Tryz.checked os 4 .any (Rows.boundKeepsSpec.pre6 enc Tryz.prog Tryz.f4 Rows.boundKeepsRow.domain false) (Rows.boundKeepsSpec.post enc Tryz.prog Tryz.f4 false true false false):=by
 refine returnsInHanded_of_change (C:=Tryz.checked) own started (by kernel_rfl) Tryz.func4
  (ChangeSpec.witness6 (enc:=enc) (C:=Tryz.checked) false ⟨#[],#[.slice none 0 0,.slice none 0 0,.int .i64 0,.int .i64 0,.int .i64 0],[]⟩ 8 (by kernel_rfl) (by kernel_rfl) (by kernel_rfl) (by kernel_rfl)) ?_
 intro W base args ds gs before hval0 hW hcnd _;have hval:∀ (j:Nat) t v,Tryz.f4.params[j]? = some t→args[j]? = some v→Value.okWide Tryz.prog W .any base t v:=hval0;have hW':=hW;obtain ⟨p,q,hA0,hV,rfl,hfz,hnd⟩:=hW;have hA:DataW.TrodAll enc Tryz.prog W 0 (fun _=>true) true Tryz.f4.params.toList args.toList ds p:=hA0;rw [Tryz.params4] at hA hval;obtain ⟨v0,vs0,d0,ds0,p0,q0,hargs,rfl,rfl,h0,r0⟩:=trodAll_cons hA;obtain ⟨v1,vs1,d1,ds1,p1,q1,rfl,rfl,rfl,h1,r1⟩:=trodAll_cons r0;obtain ⟨v2,vs2,d2,ds2,p2,q2,rfl,rfl,rfl,h2,r2⟩:=trodAll_cons r1;obtain ⟨v3,vs3,d3,ds3,p3,q3,rfl,rfl,rfl,h3,r3⟩:=trodAll_cons r2;obtain ⟨v4,vs4,d4,ds4,p4,q4,rfl,rfl,rfl,h4,r4⟩:=trodAll_cons r3;obtain ⟨rfl,rfl,rfl⟩:=trodAll_nil r4;obtain rfl:args=#[v0,v1,v2,v3,v4]:=by cases args; simp_all
 obtain ⟨rfl,rfl⟩:=trodVars_none hV;obtain ⟨L0,hI0⟩:=open_rp Tryz.underlying31 Tryz.underlying3 (by kernel_rfl) (hval 0 31 v0 rfl rfl) h0;obtain ⟨L1,hI1⟩:=open_rp Tryz.underlying31 Tryz.underlying3 (by kernel_rfl) (hval 1 31 v1 rfl rfl) h1;obtain ⟨a2,rfl,w2⟩:=zKK Tryz.underlying3 (hval 2 3 v2 rfl rfl);obtain ⟨a3,rfl,w3⟩:=zKK Tryz.underlying3 (hval 3 3 v3 rfl rfl);obtain ⟨a4,rfl,w4⟩:=zKK Tryz.underlying3 (hval 4 3 v4 rfl rfl);refine (wBoundKeeps v0 L0 v1 L1 a2 a3 a4 W hI0 hI1).mono fun e W' ⟨he,hg⟩ => ?_
 subst he;exact ⟨_,rfl,law_post hW' rfl laid (by kernel_rfl) rfl rfl rfl rfl Tryz.underlying4 hg⟩

theorem named:Tryz.pinned.checked.prog.funcNamed Rows.boundKeepsRow.func=some 4:=by kernel_rfl
theorem facts1:Tryz.pinned.checked.prog.inPlace 4=Rows.boundKeepsRow.inPlace:=by kernel_rfl
theorem facts2:Tryz.pinned.checked.prog.unfollowed 4=Rows.boundKeepsRow.unfollowed:=by kernel_rfl
theorem facts3:Tryz.pinned.checked.prog.recurses 4=Rows.boundKeepsRow.recurses:=by kernel_rfl
theorem facts4:Tryz.pinned.checked.prog.varsNamed 4=Rows.boundKeepsRow.named:=by kernel_rfl
theorem closed:joinedFacts Tryz.pinned.checked.prog 4 Tryz.f4 Rows.boundKeepsSpec Rows.boundKeepsRow=true:=by
 unfold joinedFacts;rw [facts1,facts2,facts3,facts4]
 kernel_rfl
theorem inst:Func.isInstance Tryz.pinned.checked.prog Tryz.f4 Rows.boundKeepsRow.origin Rows.boundKeepsRow.targs:=vYU (by kernel_rfl)
theorem wrap:Func.isWrapper Tryz.pinned.checked.prog Tryz.f4 Rows.boundKeepsRow.wrapper Rows.boundKeepsRow.mainSum:=by
 unfold Func.isWrapper; first | (rw [if_pos (by decide +kernel)]; kernel_rfl) | (rw [if_neg (by decide +kernel)]; exact ⟨rfl,rfl⟩)
theorem proved:Rows.BoundKeepsSaid :=
 OpenClaim.holds_of_wide 4 Tryz.f4 rfl rfl rfl rfl rfl rfl rfl ⟨rfl,rfl,rfl,rfl,rfl⟩ rfl rfl rfl rfl rfl named Tryz.func4 closed inst wrap
  (fun os started H enc _=>lifted os started H enc)
#print axioms proved
end Go.Proofs.YtklmegnpfhiibaaGreat.boundKeeps

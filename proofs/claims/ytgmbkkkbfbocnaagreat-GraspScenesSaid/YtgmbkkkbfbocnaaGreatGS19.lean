/- Part 19 of the texts behind the last one: rules and contracts. No condition. -/
import Derived.Test.YtgmbkkkbfbocnaaGreatGS18
open List renaming getElem?_take → vZV, getD_eq_getElem?_getD → vZG, mem_cons → vYZ
namespace Go.Proofs.YtgmbkkkbfbocnaaGreat.Hp
open Go.Rx Rt Go.Sx Go.RowKit Go.ChangeShapes Go.WideShapes Od Na Nb Nc Nx Ga Gi Ha Hc
theorem xVU {ps:List PV} (h:FitsB shJ ps):∃ a:J,ps=jp a:=by
 unfold shJ at h;obtain ⟨p0,q0,rfl,f0,h⟩:=h.cons;obtain ⟨p1,q1,rfl,f1,h⟩:=h.cons;obtain ⟨p2,q2,rfl,f2,h⟩:=h.cons;obtain ⟨p3,q3,rfl,f3,h⟩:=h.cons;obtain ⟨p4,q4,rfl,f4,h⟩:=h.cons;obtain ⟨p5,q5,rfl,f5,h⟩:=h.cons;obtain ⟨p6,q6,rfl,f6,h⟩:=h.cons;obtain ⟨p7,q7,rfl,f7,h⟩:=h.cons;obtain ⟨p8,q8,rfl,f8,h⟩:=h.cons;obtain ⟨p9,q9,rfl,f9,h⟩:=h.cons;obtain ⟨p10,q10,rfl,f10,h⟩:=h.cons;obtain ⟨p11,q11,rfl,f11,h⟩:=h.cons;obtain rfl:=h.nil;obtain ⟨x0,rfl⟩:=f0.str;obtain ⟨x1,rfl,_⟩:=f1.int;obtain ⟨x2,rfl,_⟩:=f2.int;obtain ⟨x3,rfl,_⟩:=f3.int;obtain ⟨x4,rfl,_⟩:=f4.int;obtain ⟨x5,rfl,_⟩:=f5.int;obtain ⟨x6,rfl,_⟩:=f6.int;obtain ⟨x7,rfl,_⟩:=f7.int;obtain ⟨x8,rfl,_⟩:=f8.int;obtain ⟨x9,rfl,_⟩:=f9.int;obtain ⟨x10,rfl,_⟩:=f10.int;obtain ⟨x11,rfl,_⟩:=f11.int;exact ⟨⟨x0,x1,x2,⟨x3,x4,x5⟩,x6,x7,x8,x9,x10,x11⟩,rfl⟩
theorem xVJ {ps:List PV} (h:FitsB shM ps):∃ a:Ms,ps=mp a:=by
 unfold shM at h;obtain ⟨p0,q0,rfl,f0,h⟩:=h.cons;obtain ⟨p1,q1,rfl,f1,h⟩:=h.cons;obtain ⟨p2,q2,rfl,f2,h⟩:=h.cons;obtain ⟨p3,q3,rfl,f3,h⟩:=h.cons;obtain ⟨p4,q4,rfl,f4,h⟩:=h.cons;obtain rfl:=h.nil;obtain ⟨x0,rfl,_⟩:=f0.int;obtain ⟨x1,rfl,_⟩:=f1.int;obtain ⟨x2,rfl,_⟩:=f2.int;obtain ⟨x3,rfl,_⟩:=f3.int;obtain ⟨x4,rfl,_⟩:=f4.int;exact ⟨⟨x0,x1,⟨x2,x3,x4⟩⟩,rfl⟩
theorem uHH {ps:List PV} (h:FitsB shZ ps):∃ a:Z3,ps=zP a:=by
 unfold shZ at h;obtain ⟨p0,q0,rfl,f0,h⟩:=h.cons;obtain ⟨p1,q1,rfl,f1,h⟩:=h.cons;obtain ⟨p2,q2,rfl,f2,h⟩:=h.cons;obtain rfl:=h.nil;obtain ⟨x0,rfl,_⟩:=f0.int;obtain ⟨x1,rfl,_⟩:=f1.int;obtain ⟨x2,rfl,_⟩:=f2.int;exact ⟨⟨x0,x1,x2⟩,rfl⟩
theorem xVK {ps:List PV} (h:FitsB shK ps):∃ a:Skp,ps=kP a:=by
 unfold shK at h;obtain ⟨p0,q0,rfl,f0,h⟩:=h.cons;obtain ⟨p1,q1,rfl,f1,h⟩:=h.cons;obtain rfl:=h.nil;obtain ⟨x0,rfl,_⟩:=f0.int;obtain ⟨x1,rfl,_⟩:=f1.int;exact ⟨⟨x0,x1⟩,rfl⟩
def shH:List Sh:=[.i .i64,.i .i64,.i .i64,.i .i64]
def shO:List Sh:=[.s,.l shS]
def shI:List Sh:=[.i .i64]
def shG:List Sh:=[.i .i64,.i .i64,.l shI]
theorem xVW {ps:List PV} (h:FitsB shH ps):∃ a:Hnd,ps=hP a:=by
 unfold shH at h;obtain ⟨p0,q0,rfl,f0,h⟩:=h.cons;obtain ⟨p1,q1,rfl,f1,h⟩:=h.cons;obtain ⟨p2,q2,rfl,f2,h⟩:=h.cons;obtain ⟨p3,q3,rfl,f3,h⟩:=h.cons;obtain rfl:=h.nil;obtain ⟨x0,rfl,_⟩:=f0.int;obtain ⟨x1,rfl,_⟩:=f1.int;obtain ⟨x2,rfl,_⟩:=f2.int;obtain ⟨x3,rfl,_⟩:=f3.int;exact ⟨⟨x0,⟨x1,x2,x3⟩⟩,rfl⟩
theorem xVX {ps:List PV} (h:FitsB shI ps):∃ a:Int,ps=(fun x=>[PV.n .i64 x]) a:=by
 unfold shI at h;obtain ⟨p0,q0,rfl,f0,h⟩:=h.cons;obtain rfl:=h.nil;obtain ⟨x0,rfl,_⟩:=f0.int;exact ⟨x0,rfl⟩
theorem uHA {ps:List PV} (h:FitsB shS ps):∃ s:Shp,Sames ps (sP s):=by
 unfold shS at h;obtain ⟨p0,q0,rfl,f0,h⟩:=h.cons;obtain ⟨p1,q1,rfl,f1,h⟩:=h.cons;obtain ⟨p2,q2,rfl,f2,h⟩:=h.cons;obtain rfl:=h.nil;obtain ⟨x0,rfl,_⟩:=f0.int;obtain ⟨x1,rfl,_⟩:=f1.int;obtain ⟨n,f,rfl,_,hr⟩:=f2.slc;obtain ⟨pts,hp⟩:=zZC (⟨0,0,0⟩:Z3) (R:=fun ps z=>ps=zP z) fun j hj=>uHH (hr j hj)
 exact ⟨⟨x0,x1,n,pts⟩,Same.refl _,Same.refl _,qUY hp,trivial⟩
theorem xVY {ps:List PV} (h:FitsB shO ps):∃ o:ObT,o.ns≤8796093021952∧Sames ps (oP o):=by
 unfold shO at h;obtain ⟨p0,q0,rfl,f0,h⟩:=h.cons;obtain ⟨p1,q1,rfl,f1,h⟩:=h.cons;obtain rfl:=h.nil;obtain ⟨x0,rfl⟩:=f0.str;obtain ⟨n,f,rfl,hB,hr⟩:=f1.slc;obtain ⟨shs,hp⟩:=zZC (⟨0,0,0,fun _=>⟨0,0,0⟩⟩:Shp) (R:=fun ps z=>Sames ps (sP z)) fun j hj=>uHA (hr j hj)
 refine ⟨⟨x0,n,shs⟩,?_,Same.refl _,zYD hp,trivial⟩;have hB':n * (8 * 3)≤reachBytes:=hB;unfold reachBytes at hB';show n≤_;omega
theorem xVV {ps:List PV} (h:FitsB shG ps):∃ g:Grp,Sames ps (gPv g):=by
 unfold shG at h;obtain ⟨p0,q0,rfl,f0,h⟩:=h.cons;obtain ⟨p1,q1,rfl,f1,h⟩:=h.cons;obtain ⟨p2,q2,rfl,f2,h⟩:=h.cons;obtain rfl:=h.nil;obtain ⟨x0,rfl,_⟩:=f0.int;obtain ⟨x1,rfl,_⟩:=f1.int;obtain ⟨n,f,rfl,_,hr⟩:=f2.slc;obtain ⟨cf,hp⟩:=zZC (0:Int) (R:=fun ps z=>ps=[PV.n .i64 z]) fun j hj=>xVX (hr j hj)
 exact ⟨⟨x0,x1,n,cf⟩,Same.refl _,Same.refl _,qUY hp,trivial⟩
theorem rowI {ps:List PV} (h:Fits shI ps):∃ a:Int,ps=[PV.n .i64 a]:=by
 unfold shI at h;obtain ⟨p0,q0,rfl,f0,h⟩:=h.cons;obtain rfl:=h.nil;obtain ⟨x0,rfl,_⟩:=f0.int;exact ⟨x0,rfl⟩
section
variable {W:World} {H:Type} {enc:TypeId × Value→H} {r:Reach} {base:Nat} {v:Value} {d:DataW H} {p:List MemPlace}
theorem xWE:shTB Tryz.prog 9 42=some [.l shJ,.l shM,.l shS,.l shK,.l shO,.l shZ,.l shH,.l shG,.i .i64]:=by kernel_rfl
theorem xWF:shT Tryz.prog 9 50=some [.l shI]:=by kernel_rfl
set_option maxRecDepth 100000 in
theorem open_wsp (hv:Value.okWide Tryz.prog W r base 42 v) (h:DataW.Trod enc Tryz.prog W 0 (fun _=>true) true 42 v d p) (hw:∀ y ∈ DataW.weights Tryz.prog 42 d,y≤reachBytes):∃ ws:Wsp,okW ws∧RW W (.a (wP ws)) v:=by
 obtain ⟨ps,hr,hf⟩:=jUA Tryz.underlying42 hv h xWE hw;obtain ⟨p1,ps,rfl,f1,hf⟩:=hf.cons;obtain ⟨p2,ps,rfl,f2,hf⟩:=hf.cons;obtain ⟨p3,ps,rfl,f3,hf⟩:=hf.cons;obtain ⟨p4,ps,rfl,f4,hf⟩:=hf.cons;obtain ⟨p5,ps,rfl,f5,hf⟩:=hf.cons;obtain ⟨p6,ps,rfl,f6,hf⟩:=hf.cons;obtain ⟨p7,ps,rfl,f7,hf⟩:=hf.cons;obtain ⟨p8,ps,rfl,f8,hf⟩:=hf.cons;obtain ⟨p9,ps,rfl,f9,hf⟩:=hf.cons;obtain rfl:=hf.nil;obtain ⟨n,f,rfl,_,g1⟩:=f1.slc;obtain ⟨m,g,rfl,_,g2⟩:=f2.slc;obtain ⟨c,a,rfl,_,g3⟩:=f3.slc;obtain ⟨d,b,rfl,_,g4⟩:=f4.slc;obtain ⟨no,fo,rfl,_,g5⟩:=f5.slc;obtain ⟨np,fp,rfl,_,g6⟩:=f6.slc;obtain ⟨nh,fh,rfl,_,g7⟩:=f7.slc;obtain ⟨ng,fg,rfl,_,g8⟩:=f8.slc;obtain ⟨sl,rfl,_⟩:=f9.int;obtain ⟨js,hj⟩:=zZC (⟨ByteArray.empty,0,0,⟨0,0,0⟩,0,0,0,0,0,0⟩:J) (R:=fun ps z=>ps=jp z) fun j hj=>xVU (g1 j hj)
 obtain ⟨ms,hm⟩:=zZC (⟨0,0,⟨0,0,0⟩⟩:Ms) (R:=fun ps z=>ps=mp z) fun j hj=>xVJ (g2 j hj)
 obtain ⟨sh,hs⟩:=zZC (⟨0,0,0,fun _=>⟨0,0,0⟩⟩:Shp) (R:=fun ps z=>Sames ps (sP z)) fun j hj=>uHA (g3 j hj)
 obtain ⟨sk,hk⟩:=zZC (⟨0,0⟩:Skp) (R:=fun ps z=>ps=kP z) fun j hj=>xVK (g4 j hj)
 obtain ⟨ob,ho⟩:=zZC (⟨ByteArray.empty,0,fun _=>⟨0,0,0,fun _=>⟨0,0,0⟩⟩⟩:ObT) (R:=fun ps (z:ObT)=>z.ns≤8796093021952∧Sames ps (oP z)) fun j hj=>xVY (g5 j hj)
 obtain ⟨pl,hp⟩:=zZC (⟨0,0,0⟩:Z3) (R:=fun ps z=>ps=zP z) fun j hj=>uHH (g6 j hj)
 obtain ⟨hd,hh⟩:=zZC (⟨0,⟨0,0,0⟩⟩:Hnd) (R:=fun ps z=>ps=hP z) fun j hj=>xVW (g7 j hj)
 obtain ⟨gr,hg⟩:=zZC (⟨0,0,0,fun _=>0⟩:Grp) (R:=fun ps z=>Sames ps (gPv z)) fun j hj=>xVV (g8 j hj)
 have s:Sames [.lf n f,.lf m g,.lf c a,.lf d b,.lf no fo,.lf np fp,.lf nh fh,.lf ng fg,.n .i64 sl] [.lf n (fJ js),.lf m (fM ms),.lf c (fS sh),.lf d (fK sk),.lf no (fO ob),.lf np (fZ pl),.lf nh (fH hd),.lf ng (fG gr),.n .i64 sl]:=⟨qUY hj,qUY hm,zYD hs,qUY hk,zYD fun j hj=>(ho j hj).2,qUY hp,qUY hh,zYD hg,Same.refl _,trivial⟩
 exact ⟨⟨js,ms,sh,sk,n,m,c,d,ob,pl,hd,gr,no,np,nh,ng,sl⟩,fun i hi=>(ho i hi).1,Same.a s _ _ _ hr⟩
set_option maxRecDepth 100000 in
theorem open_mode (hv:Value.okWide Tryz.prog W r base 50 v) (h:DataW.Trod enc Tryz.prog W 0 (fun _=>true) true 50 v d p):∃ (k:Nat) (q:Nat→Int),RW W (.a [.lf k (fQ q)]) v:=by
 obtain ⟨ps,hr,hf⟩:=kJZ Tryz.underlying50 hv h xWF;obtain ⟨p1,ps,rfl,f1,hf⟩:=hf.cons;obtain rfl:=hf.nil;obtain ⟨n,f,rfl,g1⟩:=f1.slc;obtain ⟨q,hq⟩:=zZC (0:Int) (R:=fun ps z=>ps=[PV.n .i64 z]) fun j hj=>rowI (g1 j hj)
 have s:Sames [.lf n f] [.lf n (fQ q)]:=⟨qUY hq,trivial⟩
 exact ⟨n,q,Same.a s _ _ _ hr⟩
end
end Go.Proofs.YtgmbkkkbfbocnaaGreat.Hp
namespace Go.Proofs.YtgmbkkkbfbocnaaGreat.Ag
open Go.Rx Rt
theorem cl94:yK Tryz.prog 94 [.l []] (.v (.l [])):=zJX (uW (N:=60) yX zW qJZ (by kernel_rfl)) (qHU (e:=128) (sz:=5) (uW (N:=60) yX zW qJZ (by kernel_rfl)))
theorem cl96:yK Tryz.prog 96 [.l []] (.v (.l [])):=zJX (uW (N:=60) yX zW qJZ (by kernel_rfl)) (qHU (e:=86) (sz:=2) (uW (N:=60) yX zW qJZ (by kernel_rfl)))
noncomputable def tC:Known:=[(94,[([.l []],.v (.l []))]),(96,[([.l []],.v (.l []))])]
theorem okC:Known.Ok Tryz.prog tC:=by
 intro x hx y hy;simp only [tC,vYZ,List.not_mem_nil,or_false] at hx;rcases hx with rfl | rfl
 ·simp only [vYZ,List.not_mem_nil,or_false] at hy;subst hy;exact cl94
 ·simp only [vYZ,List.not_mem_nil,or_false] at hy;subst hy;exact cl96
noncomputable def k100:List (List PV × Ret):=[([.n .i32 97],.v (.b true)),
 ([.n .i32 98],.v (.b true)),
 ([.n .i32 111],.v (.b true))]
noncomputable def t100:Known:=(100,k100) :: tC
theorem fJV:Known.Ok Tryz.prog t100:=Known.add yX zW (okC) (N:=60) (by kernel_rfl)
noncomputable def k53:List (List PV × Ret):=[([.s (ByteArray.mk #[97])],.v (.b true)),
 ([.s (ByteArray.mk #[98])],.v (.b true)),
 ([.s (ByteArray.mk #[111])],.v (.b true))]
noncomputable def t53:Known:=(53,k53) :: t100
theorem ok53:Known.Ok Tryz.prog t53:=Known.add yX zW (fJV) (N:=60) (by kernel_rfl)
noncomputable def k164:List (List PV × Ret):=[([.a [.l [[.s (ByteArray.mk #[97]),.n .i64 4,.n .i64 (-1),.n .i64 0,.n .i64 0,.n .i64 0,.n .i64 0,.n .i64 64,.n .i64 1,.n .i64 65536,.n .i64 65536,.n .i64 65536],[.s (ByteArray.mk #[98]),.n .i64 5,.n .i64 0,.n .i64 0,.n .i64 0,.n .i64 0,.n .i64 0,.n .i64 64,.n .i64 1,.n .i64 65536,.n .i64 65536,.n .i64 65536]],.l []],.s (ByteArray.mk #[97])],.v (.n .i64 0)),
 ([.a [.l [[.s (ByteArray.mk #[97]),.n .i64 4,.n .i64 (-1),.n .i64 0,.n .i64 0,.n .i64 0,.n .i64 0,.n .i64 64,.n .i64 1,.n .i64 65536,.n .i64 65536,.n .i64 65536],[.s (ByteArray.mk #[98]),.n .i64 5,.n .i64 0,.n .i64 0,.n .i64 0,.n .i64 0,.n .i64 0,.n .i64 64,.n .i64 1,.n .i64 65536,.n .i64 65536,.n .i64 65536]],.l []],.s (ByteArray.mk #[98])],.v (.n .i64 1))]
noncomputable def t164:Known:=(164,k164) :: t53
theorem fYG:Known.Ok Tryz.prog t164:=Known.add yX zW (ok53) (N:=60) (by kernel_rfl)
noncomputable def k165:List (List PV × Ret):=[([.a [.n .i64 0,.n .i64 0,.n .i64 0]],.v (.b false))]
noncomputable def t165:Known:=(165,k165) :: t164
theorem fYV:Known.Ok Tryz.prog t165:=Known.add yX zW (fYG) (N:=60) (by kernel_rfl)
noncomputable def k166:List (List PV × Ret):=[([.n .i64 4],.v (.n .i64 4194304)),
 ([.n .i64 5],.v (.n .i64 4194304))]
noncomputable def t166:Known:=(166,k166) :: t165
theorem fYW:Known.Ok Tryz.prog t166:=Known.add yX zW (fYV) (N:=60) (by kernel_rfl)
noncomputable def k167:List (List PV × Ret):=[([.n .i64 1,.n .i64 1024],.v (.b true)),
 ([.n .i64 65536,.n .i64 1048576],.v (.b true)),
 ([.n .i64 65536,.n .i64 1099511627776],.v (.b true))]
noncomputable def t167:Known:=(167,k167) :: t166
theorem fYX:Known.Ok Tryz.prog t167:=Known.add yX zW (fYW) (N:=60) (by kernel_rfl)
noncomputable def k136:List (List PV × Ret):=[([.a [.l [[.s (ByteArray.mk #[97]),.n .i64 4,.n .i64 (-1),.n .i64 0,.n .i64 0,.n .i64 0,.n .i64 0,.n .i64 64,.n .i64 1,.n .i64 65536,.n .i64 65536,.n .i64 65536],[.s (ByteArray.mk #[98]),.n .i64 5,.n .i64 0,.n .i64 0,.n .i64 0,.n .i64 0,.n .i64 0,.n .i64 64,.n .i64 1,.n .i64 65536,.n .i64 65536,.n .i64 65536]],.l []],.n .i64 0],.v (.n .i64 0)),
 ([.a [.l [[.s (ByteArray.mk #[97]),.n .i64 4,.n .i64 (-1),.n .i64 0,.n .i64 0,.n .i64 0,.n .i64 0,.n .i64 64,.n .i64 1,.n .i64 65536,.n .i64 65536,.n .i64 65536],[.s (ByteArray.mk #[98]),.n .i64 5,.n .i64 0,.n .i64 0,.n .i64 0,.n .i64 0,.n .i64 0,.n .i64 64,.n .i64 1,.n .i64 65536,.n .i64 65536,.n .i64 65536]],.l []],.n .i64 1],.v (.n .i64 0))]
noncomputable def t136:Known:=(136,k136) :: t167
theorem fYL:Known.Ok Tryz.prog t136:=Known.add yX zW (fYX) (N:=60) (by kernel_rfl)
noncomputable def k85:List (List PV × Ret):=[([.a [.l [[.s (ByteArray.mk #[97]),.n .i64 4,.n .i64 (-1),.n .i64 0,.n .i64 0,.n .i64 0,.n .i64 0,.n .i64 64,.n .i64 1,.n .i64 65536,.n .i64 65536,.n .i64 65536],[.s (ByteArray.mk #[98]),.n .i64 5,.n .i64 0,.n .i64 0,.n .i64 0,.n .i64 0,.n .i64 0,.n .i64 64,.n .i64 1,.n .i64 65536,.n .i64 65536,.n .i64 65536]],.l []]],.v (.n .i64 0))]
noncomputable def t85:Known:=(85,k85) :: t136
theorem ok85:Known.Ok Tryz.prog t85:=Known.add yX zW (fYL) (N:=60) (by kernel_rfl)
noncomputable def k50:List (List PV × Ret):=[([.a [.l [[.s (ByteArray.mk #[97]),.n .i64 4,.n .i64 (-1),.n .i64 0,.n .i64 0,.n .i64 0,.n .i64 0,.n .i64 64,.n .i64 1,.n .i64 65536,.n .i64 65536,.n .i64 65536],[.s (ByteArray.mk #[98]),.n .i64 5,.n .i64 0,.n .i64 0,.n .i64 0,.n .i64 0,.n .i64 0,.n .i64 64,.n .i64 1,.n .i64 65536,.n .i64 65536,.n .i64 65536]],.l [],.l [],.l []]],.v (.n .i64 0))]
noncomputable def t50:Known:=(50,k50) :: t85
theorem ok50:Known.Ok Tryz.prog t50:=Known.add yX zW (ok85) (N:=60) (by kernel_rfl)
noncomputable def k99:List (List PV × Ret):=[([.a [.n .i64 16,.n .i64 0,.n .i64 0]],.v (.b true)),
 ([.a [.n .i64 32,.n .i64 8,.n .i64 0]],.v (.b true)),
 ([.a [.n .i64 0,.n .i64 0,.n .i64 0]],.v (.b true)),
 ([.a [.n .i64 1,.n .i64 2,.n .i64 3]],.v (.b true))]
noncomputable def t99:Known:=(99,k99) :: t50
theorem ok99:Known.Ok Tryz.prog t99:=Known.add yX zW (ok50) (N:=60) (by kernel_rfl)
noncomputable def k51:List (List PV × Ret):=[([.a [.l [[.s (ByteArray.mk #[97]),.n .i64 4,.n .i64 (-1),.n .i64 0,.n .i64 0,.n .i64 0,.n .i64 0,.n .i64 64,.n .i64 1,.n .i64 65536,.n .i64 65536,.n .i64 65536],[.s (ByteArray.mk #[98]),.n .i64 5,.n .i64 0,.n .i64 0,.n .i64 0,.n .i64 0,.n .i64 0,.n .i64 64,.n .i64 1,.n .i64 65536,.n .i64 65536,.n .i64 65536]],.l [],.l [],.l [],.l [[.s (ByteArray.mk #[111]),.l [[.n .i64 0,.n .i64 1,.l [[.n .i64 1,.n .i64 2,.n .i64 3]]]]]],.l [[.n .i64 16,.n .i64 0,.n .i64 0],[.n .i64 32,.n .i64 8,.n .i64 0]],.l [[.n .i64 1,.n .i64 0,.n .i64 0,.n .i64 0]],.l [],.n .i64 0]],.v (.b true))]
noncomputable def t51:Known:=(51,k51) :: t99
theorem ok51:Known.Ok Tryz.prog t51:=Known.add yX zW (ok99) (N:=60) (by kernel_rfl)
noncomputable def k103:List (List PV × Ret):=[([.a [.n .i64 0,.n .i64 1,.l [[.n .i64 1,.n .i64 2,.n .i64 3]]]],.v (.b true))]
noncomputable def t103:Known:=(103,k103) :: t51
theorem fJW:Known.Ok Tryz.prog t103:=Known.add yX zW (ok51) (N:=60) (by kernel_rfl)
noncomputable def k55:List (List PV × Ret):=[([.a [.s (ByteArray.mk #[111]),.l [[.n .i64 0,.n .i64 1,.l [[.n .i64 1,.n .i64 2,.n .i64 3]]]]]],.v (.b true))]
noncomputable def t55:Known:=(55,k55) :: t103
theorem ok55:Known.Ok Tryz.prog t55:=Known.add yX zW (fJW) (N:=60) (by kernel_rfl)
noncomputable def k16:List (List PV × Ret):=[([.a [.l [[.s (ByteArray.mk #[97]),.n .i64 4,.n .i64 (-1),.n .i64 0,.n .i64 0,.n .i64 0,.n .i64 0,.n .i64 64,.n .i64 1,.n .i64 65536,.n .i64 65536,.n .i64 65536],[.s (ByteArray.mk #[98]),.n .i64 5,.n .i64 0,.n .i64 0,.n .i64 0,.n .i64 0,.n .i64 0,.n .i64 64,.n .i64 1,.n .i64 65536,.n .i64 65536,.n .i64 65536]],.l [],.l [],.l [],.l [[.s (ByteArray.mk #[111]),.l [[.n .i64 0,.n .i64 1,.l [[.n .i64 1,.n .i64 2,.n .i64 3]]]]]],.l [[.n .i64 16,.n .i64 0,.n .i64 0],[.n .i64 32,.n .i64 8,.n .i64 0]],.l [[.n .i64 1,.n .i64 0,.n .i64 0,.n .i64 0]],.l [],.n .i64 0]],.v (.n .i64 0))]
noncomputable def t16:Known:=(16,k16) :: t55
theorem ok16:Known.Ok Tryz.prog t16:=Known.add yX zW (ok55) (N:=60) (by kernel_rfl)
noncomputable def k62:List (List PV × Ret):=[([.a [.l [[.s (ByteArray.mk #[97]),.n .i64 4,.n .i64 (-1),.n .i64 0,.n .i64 0,.n .i64 0,.n .i64 0,.n .i64 64,.n .i64 1,.n .i64 65536,.n .i64 65536,.n .i64 65536],[.s (ByteArray.mk #[98]),.n .i64 5,.n .i64 0,.n .i64 0,.n .i64 0,.n .i64 0,.n .i64 0,.n .i64 64,.n .i64 1,.n .i64 65536,.n .i64 65536,.n .i64 65536]],.l [],.l [],.l [],.l [[.s (ByteArray.mk #[111]),.l [[.n .i64 0,.n .i64 1,.l [[.n .i64 1,.n .i64 2,.n .i64 3]]]]]],.l [[.n .i64 16,.n .i64 0,.n .i64 0],[.n .i64 32,.n .i64 8,.n .i64 0]],.l [[.n .i64 1,.n .i64 0,.n .i64 0,.n .i64 0]],.l [],.n .i64 0],.a [.l [[.n .i64 0]]]],.v (.b true)),
 ([.a [.l [[.s (ByteArray.mk #[97]),.n .i64 4,.n .i64 (-1),.n .i64 0,.n .i64 0,.n .i64 0,.n .i64 0,.n .i64 64,.n .i64 1,.n .i64 65536,.n .i64 65536,.n .i64 65536],[.s (ByteArray.mk #[98]),.n .i64 5,.n .i64 0,.n .i64 0,.n .i64 0,.n .i64 0,.n .i64 0,.n .i64 64,.n .i64 1,.n .i64 65536,.n .i64 65536,.n .i64 65536]],.l [],.l [],.l [],.l [[.s (ByteArray.mk #[111]),.l [[.n .i64 0,.n .i64 1,.l [[.n .i64 1,.n .i64 2,.n .i64 3]]]]]],.l [[.n .i64 16,.n .i64 0,.n .i64 0],[.n .i64 32,.n .i64 8,.n .i64 0]],.l [[.n .i64 1,.n .i64 0,.n .i64 0,.n .i64 0]],.l [],.n .i64 0],.a [.l [[.n .i64 (-1)]]]],.v (.b true))]
noncomputable def t62:Known:=(62,k62) :: t16
theorem ok62:Known.Ok Tryz.prog t62:=Known.add yX zW (ok16) (N:=60) (by kernel_rfl)
noncomputable def k71:List (List PV × Ret):=[([.a [.l [[.s (ByteArray.mk #[97]),.n .i64 4,.n .i64 (-1),.n .i64 0,.n .i64 0,.n .i64 0,.n .i64 0,.n .i64 64,.n .i64 1,.n .i64 65536,.n .i64 65536,.n .i64 65536],[.s (ByteArray.mk #[98]),.n .i64 5,.n .i64 0,.n .i64 0,.n .i64 0,.n .i64 0,.n .i64 0,.n .i64 64,.n .i64 1,.n .i64 65536,.n .i64 65536,.n .i64 65536]],.l []],.l [[.n .i64 16],[.n .i64 0]]],.v (.b true)),
 ([.a [.l [[.s (ByteArray.mk #[97]),.n .i64 4,.n .i64 (-1),.n .i64 0,.n .i64 0,.n .i64 0,.n .i64 0,.n .i64 64,.n .i64 1,.n .i64 65536,.n .i64 65536,.n .i64 65536],[.s (ByteArray.mk #[98]),.n .i64 5,.n .i64 0,.n .i64 0,.n .i64 0,.n .i64 0,.n .i64 0,.n .i64 64,.n .i64 1,.n .i64 65536,.n .i64 65536,.n .i64 65536]],.l []],.l [[.n .i64 32],[.n .i64 8]]],.v (.b true))]
noncomputable def t71:Known:=(71,k71) :: t62
theorem ok71:Known.Ok Tryz.prog t71:=Known.add yX zW (ok62) (N:=60) (by kernel_rfl)
noncomputable def k173:List (List PV × Ret):=[([.n .i64 16],.v (.n .i64 16)),
 ([.n .i64 0],.v (.n .i64 0)),
 ([.n .i64 65536],.v (.n .i64 65536)),
 ([.n .i64 32],.v (.n .i64 32)),
 ([.n .i64 8],.v (.n .i64 8))]
noncomputable def t173:Known:=(173,k173) :: t71
theorem fYU:Known.Ok Tryz.prog t173:=Known.add yX zW (ok71) (N:=60) (by kernel_rfl)
noncomputable def k152:List (List PV × Ret):=[([.n .i64 16,.n .i64 16],.v (.a [.n .i64 16,.n .i64 16])),
 ([.n .i64 0,.n .i64 0],.v (.a [.n .i64 0,.n .i64 0])),
 ([.n .i64 65536,.n .i64 65536],.v (.a [.n .i64 65536,.n .i64 65536])),
 ([.n .i64 32,.n .i64 32],.v (.a [.n .i64 32,.n .i64 32])),
 ([.n .i64 8,.n .i64 8],.v (.a [.n .i64 8,.n .i64 8]))]
noncomputable def t152:Known:=(152,k152) :: t173
theorem fYI:Known.Ok Tryz.prog t152:=Known.add yX zW (fYU) (N:=60) (by kernel_rfl)
noncomputable def k122:List (List PV × Ret):=[([.n .i64 16],.v (.a [.n .i64 16,.n .i64 16])),
 ([.n .i64 0],.v (.a [.n .i64 0,.n .i64 0])),
 ([.n .i64 65536],.v (.a [.n .i64 65536,.n .i64 65536])),
 ([.n .i64 32],.v (.a [.n .i64 32,.n .i64 32])),
 ([.n .i64 8],.v (.a [.n .i64 8,.n .i64 8]))]
noncomputable def t122:Known:=(122,k122) :: t152
theorem fJU:Known.Ok Tryz.prog t122:=Known.add yX zW (fYI) (N:=60) (by kernel_rfl)
noncomputable def k121:List (List PV × Ret):=[([.l [[.n .i64 16],[.n .i64 0]],.f 122 [] []],.ow 62 2 (.l [[.n .i64 16,.n .i64 16],[.n .i64 0,.n .i64 0]])),
 ([.l [[.n .i64 32],[.n .i64 8]],.f 122 [] []],.ow 62 2 (.l [[.n .i64 32,.n .i64 32],[.n .i64 8,.n .i64 8]]))]
noncomputable def t121:Known:=(121,k121) :: t122
theorem fJX:Known.Ok Tryz.prog t121:=Known.add yX zW (fJU) (N:=60) (by kernel_rfl)
noncomputable def k72:List (List PV × Ret):=[([.l [[.n .i64 16],[.n .i64 0]]],.v (.l [[.n .i64 16,.n .i64 16],[.n .i64 0,.n .i64 0]])),
 ([.l [[.n .i64 32],[.n .i64 8]]],.v (.l [[.n .i64 32,.n .i64 32],[.n .i64 8,.n .i64 8]]))]
noncomputable def t72:Known:=(72,k72) :: t121
theorem ok72:Known.Ok Tryz.prog t72:=Known.add yX zW (fJX) (N:=60) (by kernel_rfl)
noncomputable def k135:List (List PV × Ret):=[([.a [.n .i64 16,.n .i64 16]],.v (.b true)),
 ([.a [.n .i64 0,.n .i64 0]],.v (.b true)),
 ([.a [.n .i64 65536,.n .i64 65536]],.v (.b true)),
 ([.a [.n .i64 32,.n .i64 32]],.v (.b true)),
 ([.a [.n .i64 8,.n .i64 8]],.v (.b true))]
noncomputable def t135:Known:=(135,k135) :: t72
theorem fJQ:Known.Ok Tryz.prog t135:=Known.add yX zW (ok72) (N:=60) (by kernel_rfl)
noncomputable def k163:List (List PV × Ret):=[([.l [[.n .i64 16,.n .i64 16],[.n .i64 0,.n .i64 0]],.f 134 [] []],.v (.n .i64 (-1))),
 ([.l [[.n .i64 32,.n .i64 32],[.n .i64 8,.n .i64 8]],.f 134 [] []],.v (.n .i64 (-1)))]
noncomputable def t163:Known:=(163,k163) :: t135
theorem fYH:Known.Ok Tryz.prog t163:=Known.add yX zW (fJQ) (N:=60) (by kernel_rfl)
noncomputable def k133:List (List PV × Ret):=[([.l [[.n .i64 16,.n .i64 16],[.n .i64 0,.n .i64 0]],.f 134 [] []],.v (.b false)),
 ([.l [[.n .i64 32,.n .i64 32],[.n .i64 8,.n .i64 8]],.f 134 [] []],.v (.b false))]
noncomputable def t133:Known:=(133,k133) :: t163
theorem fJZ:Known.Ok Tryz.prog t133:=Known.add yX zW (fYH) (N:=60) (by kernel_rfl)
noncomputable def k84:List (List PV × Ret):=[([.a [.l [[.s (ByteArray.mk #[97]),.n .i64 4,.n .i64 (-1),.n .i64 0,.n .i64 0,.n .i64 0,.n .i64 0,.n .i64 64,.n .i64 1,.n .i64 65536,.n .i64 65536,.n .i64 65536],[.s (ByteArray.mk #[98]),.n .i64 5,.n .i64 0,.n .i64 0,.n .i64 0,.n .i64 0,.n .i64 0,.n .i64 64,.n .i64 1,.n .i64 65536,.n .i64 65536,.n .i64 65536]],.l []],.l [[.n .i64 16,.n .i64 16],[.n .i64 0,.n .i64 0]]],.v (.b true)),
 ([.a [.l [[.s (ByteArray.mk #[97]),.n .i64 4,.n .i64 (-1),.n .i64 0,.n .i64 0,.n .i64 0,.n .i64 0,.n .i64 64,.n .i64 1,.n .i64 65536,.n .i64 65536,.n .i64 65536],[.s (ByteArray.mk #[98]),.n .i64 5,.n .i64 0,.n .i64 0,.n .i64 0,.n .i64 0,.n .i64 0,.n .i64 64,.n .i64 1,.n .i64 65536,.n .i64 65536,.n .i64 65536]],.l []],.l [[.n .i64 32,.n .i64 32],[.n .i64 8,.n .i64 8]]],.v (.b true))]
noncomputable def t84:Known:=(84,k84) :: t133
theorem ok84:Known.Ok Tryz.prog t84:=Known.add yX zW (fJZ) (N:=60) (by kernel_rfl)
noncomputable def k74:List (List PV × Ret):=[([.a [.n .i64 0,.n .i64 0,.n .i64 0]],.v (.a [.n .i64 0,.n .i64 0,.n .i64 0,.n .i64 0,.n .i64 0,.n .i64 0]))]
noncomputable def t74:Known:=(74,k74) :: t84
theorem ok74:Known.Ok Tryz.prog t74:=Known.add yX zW (ok84) (N:=60) (by kernel_rfl)
noncomputable def k127:List (List PV × Ret):=[([],.v (.a [.n .i64 65536,.n .i64 65536,.n .i64 0,.n .i64 0,.n .i64 0,.n .i64 0,.n .i64 0,.n .i64 0,.n .i64 65536,.n .i64 65536,.n .i64 0,.n .i64 0,.n .i64 0,.n .i64 0,.n .i64 0,.n .i64 0,.n .i64 65536,.n .i64 65536]))]
noncomputable def t127:Known:=(127,k127) :: t74
theorem fJJ:Known.Ok Tryz.prog t127:=Known.add yX zW (ok74) (N:=60) (by kernel_rfl)
noncomputable def k79:List (List PV × Ret):=[([.a [.n .i64 0,.n .i64 0,.n .i64 0,.n .i64 0,.n .i64 0,.n .i64 0]],.v (.a [.n .i64 65536,.n .i64 65536,.n .i64 0,.n .i64 0,.n .i64 0,.n .i64 0,.n .i64 0,.n .i64 0,.n .i64 65536,.n .i64 65536,.n .i64 0,.n .i64 0,.n .i64 0,.n .i64 0,.n .i64 0,.n .i64 0,.n .i64 65536,.n .i64 65536,.n .i64 0,.n .i64 0,.n .i64 0,.n .i64 0,.n .i64 0,.n .i64 0])),
 ([.a [.n .i64 16,.n .i64 16,.n .i64 0,.n .i64 0,.n .i64 0,.n .i64 0]],.v (.a [.n .i64 65536,.n .i64 65536,.n .i64 0,.n .i64 0,.n .i64 0,.n .i64 0,.n .i64 0,.n .i64 0,.n .i64 65536,.n .i64 65536,.n .i64 0,.n .i64 0,.n .i64 0,.n .i64 0,.n .i64 0,.n .i64 0,.n .i64 65536,.n .i64 65536,.n .i64 16,.n .i64 16,.n .i64 0,.n .i64 0,.n .i64 0,.n .i64 0])),
 ([.a [.n .i64 32,.n .i64 32,.n .i64 0,.n .i64 0,.n .i64 0,.n .i64 0]],.v (.a [.n .i64 65536,.n .i64 65536,.n .i64 0,.n .i64 0,.n .i64 0,.n .i64 0,.n .i64 0,.n .i64 0,.n .i64 65536,.n .i64 65536,.n .i64 0,.n .i64 0,.n .i64 0,.n .i64 0,.n .i64 0,.n .i64 0,.n .i64 65536,.n .i64 65536,.n .i64 32,.n .i64 32,.n .i64 0,.n .i64 0,.n .i64 0,.n .i64 0])),
 ([.a [.n .i64 0,.n .i64 0,.n .i64 8,.n .i64 8,.n .i64 0,.n .i64 0]],.v (.a [.n .i64 65536,.n .i64 65536,.n .i64 0,.n .i64 0,.n .i64 0,.n .i64 0,.n .i64 0,.n .i64 0,.n .i64 65536,.n .i64 65536,.n .i64 0,.n .i64 0,.n .i64 0,.n .i64 0,.n .i64 0,.n .i64 0,.n .i64 65536,.n .i64 65536,.n .i64 0,.n .i64 0,.n .i64 8,.n .i64 8,.n .i64 0,.n .i64 0]))]
noncomputable def t79:Known:=(79,k79) :: t127
theorem ok79:Known.Ok Tryz.prog t79:=Known.add yX zW (fJJ) (N:=60) (by kernel_rfl)
noncomputable def k129:List (List PV × Ret):=[([.n .i64 0,.a [.n .i64 16,.n .i64 16]],.v (.a [.n .i64 65536,.n .i64 65536,.n .i64 0,.n .i64 0,.n .i64 0,.n .i64 0,.n .i64 0,.n .i64 0,.n .i64 65536,.n .i64 65536,.n .i64 0,.n .i64 0,.n .i64 0,.n .i64 0,.n .i64 0,.n .i64 0,.n .i64 65536,.n .i64 65536,.n .i64 16,.n .i64 16,.n .i64 0,.n .i64 0,.n .i64 0,.n .i64 0])),
 ([.n .i64 1,.a [.n .i64 0,.n .i64 0]],.v (.a [.n .i64 65536,.n .i64 65536,.n .i64 0,.n .i64 0,.n .i64 0,.n .i64 0,.n .i64 0,.n .i64 0,.n .i64 65536,.n .i64 65536,.n .i64 0,.n .i64 0,.n .i64 0,.n .i64 0,.n .i64 0,.n .i64 0,.n .i64 65536,.n .i64 65536,.n .i64 0,.n .i64 0,.n .i64 0,.n .i64 0,.n .i64 0,.n .i64 0])),
 ([.n .i64 0,.a [.n .i64 32,.n .i64 32]],.v (.a [.n .i64 65536,.n .i64 65536,.n .i64 0,.n .i64 0,.n .i64 0,.n .i64 0,.n .i64 0,.n .i64 0,.n .i64 65536,.n .i64 65536,.n .i64 0,.n .i64 0,.n .i64 0,.n .i64 0,.n .i64 0,.n .i64 0,.n .i64 65536,.n .i64 65536,.n .i64 32,.n .i64 32,.n .i64 0,.n .i64 0,.n .i64 0,.n .i64 0])),
 ([.n .i64 1,.a [.n .i64 8,.n .i64 8]],.v (.a [.n .i64 65536,.n .i64 65536,.n .i64 0,.n .i64 0,.n .i64 0,.n .i64 0,.n .i64 0,.n .i64 0,.n .i64 65536,.n .i64 65536,.n .i64 0,.n .i64 0,.n .i64 0,.n .i64 0,.n .i64 0,.n .i64 0,.n .i64 65536,.n .i64 65536,.n .i64 0,.n .i64 0,.n .i64 8,.n .i64 8,.n .i64 0,.n .i64 0]))]
noncomputable def t129:Known:=(129,k129) :: t79
theorem fJY:Known.Ok Tryz.prog t129:=Known.add yX zW (ok79) (N:=60) (by kernel_rfl)
noncomputable def k174:List (List PV × Ret):=[([.a [.n .i64 65536,.n .i64 65536],.a [.n .i64 65536,.n .i64 65536]],.v (.b true)),
 ([.a [.n .i64 0,.n .i64 0],.a [.n .i64 65536,.n .i64 65536]],.v (.b true)),
 ([.a [.n .i64 0,.n .i64 0],.a [.n .i64 0,.n .i64 0]],.v (.b true)),
 ([.a [.n .i64 65536,.n .i64 65536],.a [.n .i64 0,.n .i64 0]],.v (.b true)),
 ([.a [.n .i64 65536,.n .i64 65536],.a [.n .i64 16,.n .i64 16]],.v (.b true)),
 ([.a [.n .i64 0,.n .i64 0],.a [.n .i64 16,.n .i64 16]],.v (.b true)),
 ([.a [.n .i64 16,.n .i64 16],.a [.n .i64 0,.n .i64 0]],.v (.b true)),
 ([.a [.n .i64 65536,.n .i64 65536],.a [.n .i64 32,.n .i64 32]],.v (.b true)),
 ([.a [.n .i64 0,.n .i64 0],.a [.n .i64 32,.n .i64 32]],.v (.b true)),
 ([.a [.n .i64 32,.n .i64 32],.a [.n .i64 0,.n .i64 0]],.v (.b true)),
 ([.a [.n .i64 0,.n .i64 0],.a [.n .i64 8,.n .i64 8]],.v (.b true)),
 ([.a [.n .i64 65536,.n .i64 65536],.a [.n .i64 8,.n .i64 8]],.v (.b true)),
 ([.a [.n .i64 8,.n .i64 8],.a [.n .i64 0,.n .i64 0]],.v (.b true))]
noncomputable def t174:Known:=(174,k174) :: t129
theorem fYK:Known.Ok Tryz.prog t174:=Known.add yX zW (fJY) (N:=60) (by kernel_rfl)
noncomputable def k180:List (List PV × Ret):=[([.n .i64 4294967296,.n .i64 16],.v (.n .i64 65536)),
 ([.n .i64 0,.n .i64 16],.v (.n .i64 0)),
 ([.n .i64 1048576,.n .i64 16],.v (.n .i64 16)),
 ([.n .i64 2097152,.n .i64 16],.v (.n .i64 32)),
 ([.n .i64 524288,.n .i64 16],.v (.n .i64 8))]
noncomputable def t180:Known:=(180,k180) :: t174
theorem fYY:Known.Ok Tryz.prog t180:=Known.add yX zW (fYK) (N:=60) (by kernel_rfl)
noncomputable def k181:List (List PV × Ret):=[([.n .i64 4294967296,.n .i64 16],.v (.n .i64 65536)),
 ([.n .i64 0,.n .i64 16],.v (.n .i64 0)),
 ([.n .i64 1048576,.n .i64 16],.v (.n .i64 16)),
 ([.n .i64 2097152,.n .i64 16],.v (.n .i64 32)),
 ([.n .i64 524288,.n .i64 16],.v (.n .i64 8))]
noncomputable def t181:Known:=(181,k181) :: t180
theorem fYZ:Known.Ok Tryz.prog t181:=Known.add yX zW (fYY) (N:=60) (by kernel_rfl)
noncomputable def k175:List (List PV × Ret):=[([.n .i64 4294967296,.n .i64 4294967296],.v (.a [.n .i64 65536,.n .i64 65536])),
 ([.n .i64 0,.n .i64 0],.v (.a [.n .i64 0,.n .i64 0])),
 ([.n .i64 1048576,.n .i64 1048576],.v (.a [.n .i64 16,.n .i64 16])),
 ([.n .i64 2097152,.n .i64 2097152],.v (.a [.n .i64 32,.n .i64 32])),
 ([.n .i64 524288,.n .i64 524288],.v (.a [.n .i64 8,.n .i64 8]))]
noncomputable def t175:Known:=(175,k175) :: t181
theorem fYJ:Known.Ok Tryz.prog t175:=Known.add yX zW (fYZ) (N:=60) (by kernel_rfl)
noncomputable def k157:List (List PV × Ret):=[([.a [.n .i64 65536,.n .i64 65536],.a [.n .i64 65536,.n .i64 65536]],.v (.a [.n .i64 65536,.n .i64 65536])),
 ([.a [.n .i64 0,.n .i64 0],.a [.n .i64 0,.n .i64 0]],.v (.a [.n .i64 0,.n .i64 0])),
 ([.a [.n .i64 65536,.n .i64 65536],.a [.n .i64 0,.n .i64 0]],.v (.a [.n .i64 0,.n .i64 0])),
 ([.a [.n .i64 0,.n .i64 0],.a [.n .i64 65536,.n .i64 65536]],.v (.a [.n .i64 0,.n .i64 0])),
 ([.a [.n .i64 65536,.n .i64 65536],.a [.n .i64 16,.n .i64 16]],.v (.a [.n .i64 16,.n .i64 16])),
 ([.a [.n .i64 0,.n .i64 0],.a [.n .i64 16,.n .i64 16]],.v (.a [.n .i64 0,.n .i64 0])),
 ([.a [.n .i64 65536,.n .i64 65536],.a [.n .i64 32,.n .i64 32]],.v (.a [.n .i64 32,.n .i64 32])),
 ([.a [.n .i64 0,.n .i64 0],.a [.n .i64 32,.n .i64 32]],.v (.a [.n .i64 0,.n .i64 0])),
 ([.a [.n .i64 0,.n .i64 0],.a [.n .i64 8,.n .i64 8]],.v (.a [.n .i64 0,.n .i64 0])),
 ([.a [.n .i64 65536,.n .i64 65536],.a [.n .i64 8,.n .i64 8]],.v (.a [.n .i64 8,.n .i64 8]))]
noncomputable def t157:Known:=(157,k157) :: t175
theorem fYB:Known.Ok Tryz.prog t157:=Known.add yX zW (fYJ) (N:=60) (by kernel_rfl)
noncomputable def k156:List (List PV × Ret):=[([.a [.n .i64 0,.n .i64 0],.a [.n .i64 65536,.n .i64 65536]],.v (.a [.n .i64 65536,.n .i64 65536])),
 ([.a [.n .i64 65536,.n .i64 65536],.a [.n .i64 0,.n .i64 0]],.v (.a [.n .i64 65536,.n .i64 65536])),
 ([.a [.n .i64 0,.n .i64 0],.a [.n .i64 0,.n .i64 0]],.v (.a [.n .i64 0,.n .i64 0])),
 ([.a [.n .i64 0,.n .i64 0],.a [.n .i64 16,.n .i64 16]],.v (.a [.n .i64 16,.n .i64 16])),
 ([.a [.n .i64 16,.n .i64 16],.a [.n .i64 0,.n .i64 0]],.v (.a [.n .i64 16,.n .i64 16])),
 ([.a [.n .i64 0,.n .i64 0],.a [.n .i64 32,.n .i64 32]],.v (.a [.n .i64 32,.n .i64 32])),
 ([.a [.n .i64 32,.n .i64 32],.a [.n .i64 0,.n .i64 0]],.v (.a [.n .i64 32,.n .i64 32])),
 ([.a [.n .i64 0,.n .i64 0],.a [.n .i64 8,.n .i64 8]],.v (.a [.n .i64 8,.n .i64 8])),
 ([.a [.n .i64 8,.n .i64 8],.a [.n .i64 0,.n .i64 0]],.v (.a [.n .i64 8,.n .i64 8]))]
noncomputable def t156:Known:=(156,k156) :: t157
theorem fYC:Known.Ok Tryz.prog t156:=Known.add yX zW (fYB) (N:=60) (by kernel_rfl)
noncomputable def k158:List (List PV × Ret):=[([.n .i64 65536],.v (.n .i64 65536)),
 ([.n .i64 0],.v (.n .i64 0))]
noncomputable def t158:Known:=(158,k158) :: t156
theorem fYA:Known.Ok Tryz.prog t158:=Known.add yX zW (fYC) (N:=60) (by kernel_rfl)
noncomputable def k126:List (List PV × Ret):=[([.a [.n .i64 65536,.n .i64 65536,.n .i64 0,.n .i64 0,.n .i64 0,.n .i64 0,.n .i64 0,.n .i64 0,.n .i64 65536,.n .i64 65536,.n .i64 0,.n .i64 0,.n .i64 0,.n .i64 0,.n .i64 0,.n .i64 0,.n .i64 65536,.n .i64 65536],.a [.n .i64 65536,.n .i64 65536,.n .i64 0,.n .i64 0,.n .i64 0,.n .i64 0,.n .i64 0,.n .i64 0,.n .i64 65536,.n .i64 65536,.n .i64 0,.n .i64 0,.n .i64 0,.n .i64 0,.n .i64 0,.n .i64 0,.n .i64 65536,.n .i64 65536]],.v (.a [.n .i64 65536,.n .i64 65536,.n .i64 0,.n .i64 0,.n .i64 0,.n .i64 0,.n .i64 0,.n .i64 0,.n .i64 65536,.n .i64 65536,.n .i64 0,.n .i64 0,.n .i64 0,.n .i64 0,.n .i64 0,.n .i64 0,.n .i64 65536,.n .i64 65536]))]
noncomputable def t126:Known:=(126,k126) :: t158
theorem fJK:Known.Ok Tryz.prog t126:=Known.add yX zW (fYA) (N:=60) (by kernel_rfl)
noncomputable def k155:List (List PV × Ret):=[([.a [.n .i64 65536,.n .i64 65536,.n .i64 0,.n .i64 0,.n .i64 0,.n .i64 0,.n .i64 0,.n .i64 0,.n .i64 65536,.n .i64 65536,.n .i64 0,.n .i64 0,.n .i64 0,.n .i64 0,.n .i64 0,.n .i64 0,.n .i64 65536,.n .i64 65536],.a [.n .i64 16,.n .i64 16,.n .i64 0,.n .i64 0,.n .i64 0,.n .i64 0]],.v (.a [.n .i64 16,.n .i64 16,.n .i64 0,.n .i64 0,.n .i64 0,.n .i64 0])),
 ([.a [.n .i64 65536,.n .i64 65536,.n .i64 0,.n .i64 0,.n .i64 0,.n .i64 0,.n .i64 0,.n .i64 0,.n .i64 65536,.n .i64 65536,.n .i64 0,.n .i64 0,.n .i64 0,.n .i64 0,.n .i64 0,.n .i64 0,.n .i64 65536,.n .i64 65536],.a [.n .i64 0,.n .i64 0,.n .i64 0,.n .i64 0,.n .i64 0,.n .i64 0]],.v (.a [.n .i64 0,.n .i64 0,.n .i64 0,.n .i64 0,.n .i64 0,.n .i64 0])),
 ([.a [.n .i64 65536,.n .i64 65536,.n .i64 0,.n .i64 0,.n .i64 0,.n .i64 0,.n .i64 0,.n .i64 0,.n .i64 65536,.n .i64 65536,.n .i64 0,.n .i64 0,.n .i64 0,.n .i64 0,.n .i64 0,.n .i64 0,.n .i64 65536,.n .i64 65536],.a [.n .i64 32,.n .i64 32,.n .i64 0,.n .i64 0,.n .i64 0,.n .i64 0]],.v (.a [.n .i64 32,.n .i64 32,.n .i64 0,.n .i64 0,.n .i64 0,.n .i64 0])),
 ([.a [.n .i64 65536,.n .i64 65536,.n .i64 0,.n .i64 0,.n .i64 0,.n .i64 0,.n .i64 0,.n .i64 0,.n .i64 65536,.n .i64 65536,.n .i64 0,.n .i64 0,.n .i64 0,.n .i64 0,.n .i64 0,.n .i64 0,.n .i64 65536,.n .i64 65536],.a [.n .i64 0,.n .i64 0,.n .i64 8,.n .i64 8,.n .i64 0,.n .i64 0]],.v (.a [.n .i64 0,.n .i64 0,.n .i64 8,.n .i64 8,.n .i64 0,.n .i64 0]))]
noncomputable def t155:Known:=(155,k155) :: t126
theorem fYD:Known.Ok Tryz.prog t155:=Known.add yX zW (fJK) (N:=60) (by kernel_rfl)
noncomputable def k154:List (List PV × Ret):=[([.a [.n .i64 0,.n .i64 0,.n .i64 0,.n .i64 0,.n .i64 0,.n .i64 0],.a [.n .i64 16,.n .i64 16,.n .i64 0,.n .i64 0,.n .i64 0,.n .i64 0]],.v (.a [.n .i64 16,.n .i64 16,.n .i64 0,.n .i64 0,.n .i64 0,.n .i64 0])),
 ([.a [.n .i64 0,.n .i64 0,.n .i64 0,.n .i64 0,.n .i64 0,.n .i64 0],.a [.n .i64 0,.n .i64 0,.n .i64 0,.n .i64 0,.n .i64 0,.n .i64 0]],.v (.a [.n .i64 0,.n .i64 0,.n .i64 0,.n .i64 0,.n .i64 0,.n .i64 0])),
 ([.a [.n .i64 16,.n .i64 16,.n .i64 0,.n .i64 0,.n .i64 0,.n .i64 0],.a [.n .i64 0,.n .i64 0,.n .i64 0,.n .i64 0,.n .i64 0,.n .i64 0]],.v (.a [.n .i64 16,.n .i64 16,.n .i64 0,.n .i64 0,.n .i64 0,.n .i64 0])),
 ([.a [.n .i64 0,.n .i64 0,.n .i64 0,.n .i64 0,.n .i64 0,.n .i64 0],.a [.n .i64 32,.n .i64 32,.n .i64 0,.n .i64 0,.n .i64 0,.n .i64 0]],.v (.a [.n .i64 32,.n .i64 32,.n .i64 0,.n .i64 0,.n .i64 0,.n .i64 0])),
 ([.a [.n .i64 0,.n .i64 0,.n .i64 0,.n .i64 0,.n .i64 0,.n .i64 0],.a [.n .i64 0,.n .i64 0,.n .i64 8,.n .i64 8,.n .i64 0,.n .i64 0]],.v (.a [.n .i64 0,.n .i64 0,.n .i64 8,.n .i64 8,.n .i64 0,.n .i64 0])),
 ([.a [.n .i64 32,.n .i64 32,.n .i64 0,.n .i64 0,.n .i64 0,.n .i64 0],.a [.n .i64 0,.n .i64 0,.n .i64 8,.n .i64 8,.n .i64 0,.n .i64 0]],.v (.a [.n .i64 32,.n .i64 32,.n .i64 8,.n .i64 8,.n .i64 0,.n .i64 0])),
 ([.a [.n .i64 32,.n .i64 32,.n .i64 8,.n .i64 8,.n .i64 0,.n .i64 0],.a [.n .i64 0,.n .i64 0,.n .i64 0,.n .i64 0,.n .i64 0,.n .i64 0]],.v (.a [.n .i64 32,.n .i64 32,.n .i64 8,.n .i64 8,.n .i64 0,.n .i64 0]))]
noncomputable def t154:Known:=(154,k154) :: t155
theorem fYE:Known.Ok Tryz.prog t154:=Known.add yX zW (fYD) (N:=60) (by kernel_rfl)
noncomputable def k153:List (List PV × Ret):=[([.a [.n .i64 16,.n .i64 16,.n .i64 0,.n .i64 0,.n .i64 0,.n .i64 0],.c [.n .i64 65536,.n .i64 65536,.n .i64 0,.n .i64 0,.n .i64 0,.n .i64 0,.n .i64 0,.n .i64 0,.n .i64 65536,.n .i64 65536,.n .i64 0,.n .i64 0,.n .i64 0,.n .i64 0,.n .i64 0,.n .i64 0,.n .i64 65536,.n .i64 65536,.n .i64 0,.n .i64 0,.n .i64 0,.n .i64 0,.n .i64 0,.n .i64 0] 0],.v (.a [.n .i64 16,.n .i64 16,.n .i64 0,.n .i64 0,.n .i64 0,.n .i64 0])),
 ([.a [.n .i64 0,.n .i64 0,.n .i64 0,.n .i64 0,.n .i64 0,.n .i64 0],.c [.n .i64 65536,.n .i64 65536,.n .i64 0,.n .i64 0,.n .i64 0,.n .i64 0,.n .i64 0,.n .i64 0,.n .i64 65536,.n .i64 65536,.n .i64 0,.n .i64 0,.n .i64 0,.n .i64 0,.n .i64 0,.n .i64 0,.n .i64 65536,.n .i64 65536,.n .i64 0,.n .i64 0,.n .i64 0,.n .i64 0,.n .i64 0,.n .i64 0] 0],.v (.a [.n .i64 0,.n .i64 0,.n .i64 0,.n .i64 0,.n .i64 0,.n .i64 0])),
 ([.a [.n .i64 0,.n .i64 0,.n .i64 0,.n .i64 0,.n .i64 0,.n .i64 0],.c [.n .i64 65536,.n .i64 65536,.n .i64 0,.n .i64 0,.n .i64 0,.n .i64 0,.n .i64 0,.n .i64 0,.n .i64 65536,.n .i64 65536,.n .i64 0,.n .i64 0,.n .i64 0,.n .i64 0,.n .i64 0,.n .i64 0,.n .i64 65536,.n .i64 65536,.n .i64 16,.n .i64 16,.n .i64 0,.n .i64 0,.n .i64 0,.n .i64 0] 0],.v (.a [.n .i64 16,.n .i64 16,.n .i64 0,.n .i64 0,.n .i64 0,.n .i64 0])),
 ([.a [.n .i64 32,.n .i64 32,.n .i64 0,.n .i64 0,.n .i64 0,.n .i64 0],.c [.n .i64 65536,.n .i64 65536,.n .i64 0,.n .i64 0,.n .i64 0,.n .i64 0,.n .i64 0,.n .i64 0,.n .i64 65536,.n .i64 65536,.n .i64 0,.n .i64 0,.n .i64 0,.n .i64 0,.n .i64 0,.n .i64 0,.n .i64 65536,.n .i64 65536,.n .i64 0,.n .i64 0,.n .i64 0,.n .i64 0,.n .i64 0,.n .i64 0] 0],.v (.a [.n .i64 32,.n .i64 32,.n .i64 0,.n .i64 0,.n .i64 0,.n .i64 0])),
 ([.a [.n .i64 0,.n .i64 0,.n .i64 8,.n .i64 8,.n .i64 0,.n .i64 0],.c [.n .i64 65536,.n .i64 65536,.n .i64 0,.n .i64 0,.n .i64 0,.n .i64 0,.n .i64 0,.n .i64 0,.n .i64 65536,.n .i64 65536,.n .i64 0,.n .i64 0,.n .i64 0,.n .i64 0,.n .i64 0,.n .i64 0,.n .i64 65536,.n .i64 65536,.n .i64 0,.n .i64 0,.n .i64 0,.n .i64 0,.n .i64 0,.n .i64 0] 0],.v (.a [.n .i64 0,.n .i64 0,.n .i64 8,.n .i64 8,.n .i64 0,.n .i64 0])),
 ([.a [.n .i64 0,.n .i64 0,.n .i64 8,.n .i64 8,.n .i64 0,.n .i64 0],.c [.n .i64 65536,.n .i64 65536,.n .i64 0,.n .i64 0,.n .i64 0,.n .i64 0,.n .i64 0,.n .i64 0,.n .i64 65536,.n .i64 65536,.n .i64 0,.n .i64 0,.n .i64 0,.n .i64 0,.n .i64 0,.n .i64 0,.n .i64 65536,.n .i64 65536,.n .i64 32,.n .i64 32,.n .i64 0,.n .i64 0,.n .i64 0,.n .i64 0] 0],.v (.a [.n .i64 32,.n .i64 32,.n .i64 8,.n .i64 8,.n .i64 0,.n .i64 0])),
 ([.a [.n .i64 0,.n .i64 0,.n .i64 0,.n .i64 0,.n .i64 0,.n .i64 0],.c [.n .i64 65536,.n .i64 65536,.n .i64 0,.n .i64 0,.n .i64 0,.n .i64 0,.n .i64 0,.n .i64 0,.n .i64 65536,.n .i64 65536,.n .i64 0,.n .i64 0,.n .i64 0,.n .i64 0,.n .i64 0,.n .i64 0,.n .i64 65536,.n .i64 65536,.n .i64 32,.n .i64 32,.n .i64 8,.n .i64 8,.n .i64 0,.n .i64 0] 0],.v (.a [.n .i64 32,.n .i64 32,.n .i64 8,.n .i64 8,.n .i64 0,.n .i64 0]))]
noncomputable def t153:Known:=(153,k153) :: t154
theorem fYF:Known.Ok Tryz.prog t153:=Known.add yX zW (fYE) (N:=60) (by kernel_rfl)
noncomputable def k78:List (List PV × Ret):=[([.a [.n .i64 65536,.n .i64 65536,.n .i64 0,.n .i64 0,.n .i64 0,.n .i64 0,.n .i64 0,.n .i64 0,.n .i64 65536,.n .i64 65536,.n .i64 0,.n .i64 0,.n .i64 0,.n .i64 0,.n .i64 0,.n .i64 0,.n .i64 65536,.n .i64 65536,.n .i64 0,.n .i64 0,.n .i64 0,.n .i64 0,.n .i64 0,.n .i64 0],.a [.n .i64 65536,.n .i64 65536,.n .i64 0,.n .i64 0,.n .i64 0,.n .i64 0,.n .i64 0,.n .i64 0,.n .i64 65536,.n .i64 65536,.n .i64 0,.n .i64 0,.n .i64 0,.n .i64 0,.n .i64 0,.n .i64 0,.n .i64 65536,.n .i64 65536,.n .i64 16,.n .i64 16,.n .i64 0,.n .i64 0,.n .i64 0,.n .i64 0]],.v (.a [.n .i64 65536,.n .i64 65536,.n .i64 0,.n .i64 0,.n .i64 0,.n .i64 0,.n .i64 0,.n .i64 0,.n .i64 65536,.n .i64 65536,.n .i64 0,.n .i64 0,.n .i64 0,.n .i64 0,.n .i64 0,.n .i64 0,.n .i64 65536,.n .i64 65536,.n .i64 16,.n .i64 16,.n .i64 0,.n .i64 0,.n .i64 0,.n .i64 0])),
 ([.a [.n .i64 65536,.n .i64 65536,.n .i64 0,.n .i64 0,.n .i64 0,.n .i64 0,.n .i64 0,.n .i64 0,.n .i64 65536,.n .i64 65536,.n .i64 0,.n .i64 0,.n .i64 0,.n .i64 0,.n .i64 0,.n .i64 0,.n .i64 65536,.n .i64 65536,.n .i64 0,.n .i64 0,.n .i64 0,.n .i64 0,.n .i64 0,.n .i64 0],.a [.n .i64 65536,.n .i64 65536,.n .i64 0,.n .i64 0,.n .i64 0,.n .i64 0,.n .i64 0,.n .i64 0,.n .i64 65536,.n .i64 65536,.n .i64 0,.n .i64 0,.n .i64 0,.n .i64 0,.n .i64 0,.n .i64 0,.n .i64 65536,.n .i64 65536,.n .i64 0,.n .i64 0,.n .i64 0,.n .i64 0,.n .i64 0,.n .i64 0]],.v (.a [.n .i64 65536,.n .i64 65536,.n .i64 0,.n .i64 0,.n .i64 0,.n .i64 0,.n .i64 0,.n .i64 0,.n .i64 65536,.n .i64 65536,.n .i64 0,.n .i64 0,.n .i64 0,.n .i64 0,.n .i64 0,.n .i64 0,.n .i64 65536,.n .i64 65536,.n .i64 0,.n .i64 0,.n .i64 0,.n .i64 0,.n .i64 0,.n .i64 0])),
 ([.a [.n .i64 65536,.n .i64 65536,.n .i64 0,.n .i64 0,.n .i64 0,.n .i64 0,.n .i64 0,.n .i64 0,.n .i64 65536,.n .i64 65536,.n .i64 0,.n .i64 0,.n .i64 0,.n .i64 0,.n .i64 0,.n .i64 0,.n .i64 65536,.n .i64 65536,.n .i64 16,.n .i64 16,.n .i64 0,.n .i64 0,.n .i64 0,.n .i64 0],.a [.n .i64 65536,.n .i64 65536,.n .i64 0,.n .i64 0,.n .i64 0,.n .i64 0,.n .i64 0,.n .i64 0,.n .i64 65536,.n .i64 65536,.n .i64 0,.n .i64 0,.n .i64 0,.n .i64 0,.n .i64 0,.n .i64 0,.n .i64 65536,.n .i64 65536,.n .i64 0,.n .i64 0,.n .i64 0,.n .i64 0,.n .i64 0,.n .i64 0]],.v (.a [.n .i64 65536,.n .i64 65536,.n .i64 0,.n .i64 0,.n .i64 0,.n .i64 0,.n .i64 0,.n .i64 0,.n .i64 65536,.n .i64 65536,.n .i64 0,.n .i64 0,.n .i64 0,.n .i64 0,.n .i64 0,.n .i64 0,.n .i64 65536,.n .i64 65536,.n .i64 16,.n .i64 16,.n .i64 0,.n .i64 0,.n .i64 0,.n .i64 0])),
 ([.a [.n .i64 65536,.n .i64 65536,.n .i64 0,.n .i64 0,.n .i64 0,.n .i64 0,.n .i64 0,.n .i64 0,.n .i64 65536,.n .i64 65536,.n .i64 0,.n .i64 0,.n .i64 0,.n .i64 0,.n .i64 0,.n .i64 0,.n .i64 65536,.n .i64 65536,.n .i64 0,.n .i64 0,.n .i64 0,.n .i64 0,.n .i64 0,.n .i64 0],.a [.n .i64 65536,.n .i64 65536,.n .i64 0,.n .i64 0,.n .i64 0,.n .i64 0,.n .i64 0,.n .i64 0,.n .i64 65536,.n .i64 65536,.n .i64 0,.n .i64 0,.n .i64 0,.n .i64 0,.n .i64 0,.n .i64 0,.n .i64 65536,.n .i64 65536,.n .i64 32,.n .i64 32,.n .i64 0,.n .i64 0,.n .i64 0,.n .i64 0]],.v (.a [.n .i64 65536,.n .i64 65536,.n .i64 0,.n .i64 0,.n .i64 0,.n .i64 0,.n .i64 0,.n .i64 0,.n .i64 65536,.n .i64 65536,.n .i64 0,.n .i64 0,.n .i64 0,.n .i64 0,.n .i64 0,.n .i64 0,.n .i64 65536,.n .i64 65536,.n .i64 32,.n .i64 32,.n .i64 0,.n .i64 0,.n .i64 0,.n .i64 0])),
 ([.a [.n .i64 65536,.n .i64 65536,.n .i64 0,.n .i64 0,.n .i64 0,.n .i64 0,.n .i64 0,.n .i64 0,.n .i64 65536,.n .i64 65536,.n .i64 0,.n .i64 0,.n .i64 0,.n .i64 0,.n .i64 0,.n .i64 0,.n .i64 65536,.n .i64 65536,.n .i64 0,.n .i64 0,.n .i64 0,.n .i64 0,.n .i64 0,.n .i64 0],.a [.n .i64 65536,.n .i64 65536,.n .i64 0,.n .i64 0,.n .i64 0,.n .i64 0,.n .i64 0,.n .i64 0,.n .i64 65536,.n .i64 65536,.n .i64 0,.n .i64 0,.n .i64 0,.n .i64 0,.n .i64 0,.n .i64 0,.n .i64 65536,.n .i64 65536,.n .i64 0,.n .i64 0,.n .i64 8,.n .i64 8,.n .i64 0,.n .i64 0]],.v (.a [.n .i64 65536,.n .i64 65536,.n .i64 0,.n .i64 0,.n .i64 0,.n .i64 0,.n .i64 0,.n .i64 0,.n .i64 65536,.n .i64 65536,.n .i64 0,.n .i64 0,.n .i64 0,.n .i64 0,.n .i64 0,.n .i64 0,.n .i64 65536,.n .i64 65536,.n .i64 0,.n .i64 0,.n .i64 8,.n .i64 8,.n .i64 0,.n .i64 0])),
 ([.a [.n .i64 65536,.n .i64 65536,.n .i64 0,.n .i64 0,.n .i64 0,.n .i64 0,.n .i64 0,.n .i64 0,.n .i64 65536,.n .i64 65536,.n .i64 0,.n .i64 0,.n .i64 0,.n .i64 0,.n .i64 0,.n .i64 0,.n .i64 65536,.n .i64 65536,.n .i64 32,.n .i64 32,.n .i64 0,.n .i64 0,.n .i64 0,.n .i64 0],.a [.n .i64 65536,.n .i64 65536,.n .i64 0,.n .i64 0,.n .i64 0,.n .i64 0,.n .i64 0,.n .i64 0,.n .i64 65536,.n .i64 65536,.n .i64 0,.n .i64 0,.n .i64 0,.n .i64 0,.n .i64 0,.n .i64 0,.n .i64 65536,.n .i64 65536,.n .i64 0,.n .i64 0,.n .i64 8,.n .i64 8,.n .i64 0,.n .i64 0]],.v (.a [.n .i64 65536,.n .i64 65536,.n .i64 0,.n .i64 0,.n .i64 0,.n .i64 0,.n .i64 0,.n .i64 0,.n .i64 65536,.n .i64 65536,.n .i64 0,.n .i64 0,.n .i64 0,.n .i64 0,.n .i64 0,.n .i64 0,.n .i64 65536,.n .i64 65536,.n .i64 32,.n .i64 32,.n .i64 8,.n .i64 8,.n .i64 0,.n .i64 0]))]
noncomputable def t78:Known:=(78,k78) :: t153
theorem ok78:Known.Ok Tryz.prog t78:=Known.add yX zW (fYF) (N:=60) (by kernel_rfl)
noncomputable def k33:List (List PV × Ret):=[([.a [.s (ByteArray.mk #[97]),.n .i64 4,.n .i64 (-1),.n .i64 0,.n .i64 0,.n .i64 0,.n .i64 0,.n .i64 64,.n .i64 1,.n .i64 65536,.n .i64 65536,.n .i64 65536],.a [.n .i64 16,.n .i64 16]],.v (.a [.n .i64 65536,.n .i64 65536,.n .i64 0,.n .i64 0,.n .i64 0,.n .i64 0,.n .i64 0,.n .i64 0,.n .i64 65536,.n .i64 65536,.n .i64 0,.n .i64 0,.n .i64 0,.n .i64 0,.n .i64 0,.n .i64 0,.n .i64 65536,.n .i64 65536,.n .i64 16,.n .i64 16,.n .i64 0,.n .i64 0,.n .i64 0,.n .i64 0])),
 ([.a [.s (ByteArray.mk #[98]),.n .i64 5,.n .i64 0,.n .i64 0,.n .i64 0,.n .i64 0,.n .i64 0,.n .i64 64,.n .i64 1,.n .i64 65536,.n .i64 65536,.n .i64 65536],.a [.n .i64 0,.n .i64 0]],.v (.a [.n .i64 65536,.n .i64 65536,.n .i64 0,.n .i64 0,.n .i64 0,.n .i64 0,.n .i64 0,.n .i64 0,.n .i64 65536,.n .i64 65536,.n .i64 0,.n .i64 0,.n .i64 0,.n .i64 0,.n .i64 0,.n .i64 0,.n .i64 65536,.n .i64 65536,.n .i64 0,.n .i64 0,.n .i64 0,.n .i64 0,.n .i64 0,.n .i64 0])),
 ([.a [.s (ByteArray.mk #[97]),.n .i64 4,.n .i64 (-1),.n .i64 0,.n .i64 0,.n .i64 0,.n .i64 0,.n .i64 64,.n .i64 1,.n .i64 65536,.n .i64 65536,.n .i64 65536],.a [.n .i64 32,.n .i64 32]],.v (.a [.n .i64 65536,.n .i64 65536,.n .i64 0,.n .i64 0,.n .i64 0,.n .i64 0,.n .i64 0,.n .i64 0,.n .i64 65536,.n .i64 65536,.n .i64 0,.n .i64 0,.n .i64 0,.n .i64 0,.n .i64 0,.n .i64 0,.n .i64 65536,.n .i64 65536,.n .i64 32,.n .i64 32,.n .i64 0,.n .i64 0,.n .i64 0,.n .i64 0])),
 ([.a [.s (ByteArray.mk #[98]),.n .i64 5,.n .i64 0,.n .i64 0,.n .i64 0,.n .i64 0,.n .i64 0,.n .i64 64,.n .i64 1,.n .i64 65536,.n .i64 65536,.n .i64 65536],.a [.n .i64 8,.n .i64 8]],.v (.a [.n .i64 65536,.n .i64 65536,.n .i64 0,.n .i64 0,.n .i64 0,.n .i64 0,.n .i64 0,.n .i64 0,.n .i64 65536,.n .i64 65536,.n .i64 0,.n .i64 0,.n .i64 0,.n .i64 0,.n .i64 0,.n .i64 0,.n .i64 65536,.n .i64 65536,.n .i64 0,.n .i64 0,.n .i64 8,.n .i64 8,.n .i64 0,.n .i64 0]))]
noncomputable def t33:Known:=(33,k33) :: t78
theorem ok33:Known.Ok Tryz.prog t33:=Known.add yX zW (ok78) (N:=60) (by kernel_rfl)
noncomputable def k86:List (List PV × Ret):=[([.a [.l [[.s (ByteArray.mk #[97]),.n .i64 4,.n .i64 (-1),.n .i64 0,.n .i64 0,.n .i64 0,.n .i64 0,.n .i64 64,.n .i64 1,.n .i64 65536,.n .i64 65536,.n .i64 65536],[.s (ByteArray.mk #[98]),.n .i64 5,.n .i64 0,.n .i64 0,.n .i64 0,.n .i64 0,.n .i64 0,.n .i64 64,.n .i64 1,.n .i64 65536,.n .i64 65536,.n .i64 65536]],.l []],.l [[.n .i64 16,.n .i64 16],[.n .i64 0,.n .i64 0]]],.ow 68 24 (.l [[.n .i64 65536,.n .i64 65536,.n .i64 0,.n .i64 0,.n .i64 0,.n .i64 0,.n .i64 0,.n .i64 0,.n .i64 65536,.n .i64 65536,.n .i64 0,.n .i64 0,.n .i64 0,.n .i64 0,.n .i64 0,.n .i64 0,.n .i64 65536,.n .i64 65536,.n .i64 16,.n .i64 16,.n .i64 0,.n .i64 0,.n .i64 0,.n .i64 0],[.n .i64 65536,.n .i64 65536,.n .i64 0,.n .i64 0,.n .i64 0,.n .i64 0,.n .i64 0,.n .i64 0,.n .i64 65536,.n .i64 65536,.n .i64 0,.n .i64 0,.n .i64 0,.n .i64 0,.n .i64 0,.n .i64 0,.n .i64 65536,.n .i64 65536,.n .i64 16,.n .i64 16,.n .i64 0,.n .i64 0,.n .i64 0,.n .i64 0]])),
 ([.a [.l [[.s (ByteArray.mk #[97]),.n .i64 4,.n .i64 (-1),.n .i64 0,.n .i64 0,.n .i64 0,.n .i64 0,.n .i64 64,.n .i64 1,.n .i64 65536,.n .i64 65536,.n .i64 65536],[.s (ByteArray.mk #[98]),.n .i64 5,.n .i64 0,.n .i64 0,.n .i64 0,.n .i64 0,.n .i64 0,.n .i64 64,.n .i64 1,.n .i64 65536,.n .i64 65536,.n .i64 65536]],.l []],.l [[.n .i64 32,.n .i64 32],[.n .i64 8,.n .i64 8]]],.ow 68 24 (.l [[.n .i64 65536,.n .i64 65536,.n .i64 0,.n .i64 0,.n .i64 0,.n .i64 0,.n .i64 0,.n .i64 0,.n .i64 65536,.n .i64 65536,.n .i64 0,.n .i64 0,.n .i64 0,.n .i64 0,.n .i64 0,.n .i64 0,.n .i64 65536,.n .i64 65536,.n .i64 32,.n .i64 32,.n .i64 0,.n .i64 0,.n .i64 0,.n .i64 0],[.n .i64 65536,.n .i64 65536,.n .i64 0,.n .i64 0,.n .i64 0,.n .i64 0,.n .i64 0,.n .i64 0,.n .i64 65536,.n .i64 65536,.n .i64 0,.n .i64 0,.n .i64 0,.n .i64 0,.n .i64 0,.n .i64 0,.n .i64 65536,.n .i64 65536,.n .i64 32,.n .i64 32,.n .i64 8,.n .i64 8,.n .i64 0,.n .i64 0]]))]
noncomputable def t86:Known:=(86,k86) :: t33
theorem ok86:Known.Ok Tryz.prog t86:=Known.add yX zW (ok33) (N:=60) (by kernel_rfl)
noncomputable def k38:List (List PV × Ret):=[([.a [.l [[.s (ByteArray.mk #[97]),.n .i64 4,.n .i64 (-1),.n .i64 0,.n .i64 0,.n .i64 0,.n .i64 0,.n .i64 64,.n .i64 1,.n .i64 65536,.n .i64 65536,.n .i64 65536],[.s (ByteArray.mk #[98]),.n .i64 5,.n .i64 0,.n .i64 0,.n .i64 0,.n .i64 0,.n .i64 0,.n .i64 64,.n .i64 1,.n .i64 65536,.n .i64 65536,.n .i64 65536]],.l []],.l [[.n .i64 16,.n .i64 16],[.n .i64 0,.n .i64 0]]],.v (.l [[.n .i64 65536,.n .i64 65536,.n .i64 0,.n .i64 0,.n .i64 0,.n .i64 0,.n .i64 0,.n .i64 0,.n .i64 65536,.n .i64 65536,.n .i64 0,.n .i64 0,.n .i64 0,.n .i64 0,.n .i64 0,.n .i64 0,.n .i64 65536,.n .i64 65536,.n .i64 16,.n .i64 16,.n .i64 0,.n .i64 0,.n .i64 0,.n .i64 0],[.n .i64 65536,.n .i64 65536,.n .i64 0,.n .i64 0,.n .i64 0,.n .i64 0,.n .i64 0,.n .i64 0,.n .i64 65536,.n .i64 65536,.n .i64 0,.n .i64 0,.n .i64 0,.n .i64 0,.n .i64 0,.n .i64 0,.n .i64 65536,.n .i64 65536,.n .i64 16,.n .i64 16,.n .i64 0,.n .i64 0,.n .i64 0,.n .i64 0]])),
 ([.a [.l [[.s (ByteArray.mk #[97]),.n .i64 4,.n .i64 (-1),.n .i64 0,.n .i64 0,.n .i64 0,.n .i64 0,.n .i64 64,.n .i64 1,.n .i64 65536,.n .i64 65536,.n .i64 65536],[.s (ByteArray.mk #[98]),.n .i64 5,.n .i64 0,.n .i64 0,.n .i64 0,.n .i64 0,.n .i64 0,.n .i64 64,.n .i64 1,.n .i64 65536,.n .i64 65536,.n .i64 65536]],.l []],.l [[.n .i64 32,.n .i64 32],[.n .i64 8,.n .i64 8]]],.v (.l [[.n .i64 65536,.n .i64 65536,.n .i64 0,.n .i64 0,.n .i64 0,.n .i64 0,.n .i64 0,.n .i64 0,.n .i64 65536,.n .i64 65536,.n .i64 0,.n .i64 0,.n .i64 0,.n .i64 0,.n .i64 0,.n .i64 0,.n .i64 65536,.n .i64 65536,.n .i64 32,.n .i64 32,.n .i64 0,.n .i64 0,.n .i64 0,.n .i64 0],[.n .i64 65536,.n .i64 65536,.n .i64 0,.n .i64 0,.n .i64 0,.n .i64 0,.n .i64 0,.n .i64 0,.n .i64 65536,.n .i64 65536,.n .i64 0,.n .i64 0,.n .i64 0,.n .i64 0,.n .i64 0,.n .i64 0,.n .i64 65536,.n .i64 65536,.n .i64 32,.n .i64 32,.n .i64 8,.n .i64 8,.n .i64 0,.n .i64 0]]))]
noncomputable def t38:Known:=(38,k38) :: t86
theorem ok38:Known.Ok Tryz.prog t38:=Known.add yX zW (ok86) (N:=60) (by kernel_rfl)
noncomputable def k73:List (List PV × Ret):=[([.a [.n .i64 65536,.n .i64 65536,.n .i64 0,.n .i64 0,.n .i64 0,.n .i64 0,.n .i64 0,.n .i64 0,.n .i64 65536,.n .i64 65536,.n .i64 0,.n .i64 0,.n .i64 0,.n .i64 0,.n .i64 0,.n .i64 0,.n .i64 65536,.n .i64 65536,.n .i64 16,.n .i64 16,.n .i64 0,.n .i64 0,.n .i64 0,.n .i64 0],.a [.n .i64 0,.n .i64 0,.n .i64 0,.n .i64 0,.n .i64 0,.n .i64 0]],.v (.a [.n .i64 16,.n .i64 16,.n .i64 0,.n .i64 0,.n .i64 0,.n .i64 0])),
 ([.a [.n .i64 65536,.n .i64 65536,.n .i64 0,.n .i64 0,.n .i64 0,.n .i64 0,.n .i64 0,.n .i64 0,.n .i64 65536,.n .i64 65536,.n .i64 0,.n .i64 0,.n .i64 0,.n .i64 0,.n .i64 0,.n .i64 0,.n .i64 65536,.n .i64 65536,.n .i64 32,.n .i64 32,.n .i64 8,.n .i64 8,.n .i64 0,.n .i64 0],.a [.n .i64 0,.n .i64 0,.n .i64 0,.n .i64 0,.n .i64 0,.n .i64 0]],.v (.a [.n .i64 32,.n .i64 32,.n .i64 8,.n .i64 8,.n .i64 0,.n .i64 0]))]
noncomputable def t73:Known:=(73,k73) :: t38
theorem ok73:Known.Ok Tryz.prog t73:=Known.add yX zW (ok38) (N:=60) (by kernel_rfl)
noncomputable def k24:List (List PV × Ret):=[([.a [.l [[.s (ByteArray.mk #[97]),.n .i64 4,.n .i64 (-1),.n .i64 0,.n .i64 0,.n .i64 0,.n .i64 0,.n .i64 64,.n .i64 1,.n .i64 65536,.n .i64 65536,.n .i64 65536],[.s (ByteArray.mk #[98]),.n .i64 5,.n .i64 0,.n .i64 0,.n .i64 0,.n .i64 0,.n .i64 0,.n .i64 64,.n .i64 1,.n .i64 65536,.n .i64 65536,.n .i64 65536]],.l [],.l [],.l [],.l [[.s (ByteArray.mk #[111]),.l [[.n .i64 0,.n .i64 1,.l [[.n .i64 1,.n .i64 2,.n .i64 3]]]]]],.l [[.n .i64 16,.n .i64 0,.n .i64 0],[.n .i64 32,.n .i64 8,.n .i64 0]],.l [[.n .i64 1,.n .i64 0,.n .i64 0,.n .i64 0]],.l [],.n .i64 0],.n .i64 0,.n .i64 0,.l [[.n .i64 16],[.n .i64 0]]],.v (.b true)),
 ([.a [.l [[.s (ByteArray.mk #[97]),.n .i64 4,.n .i64 (-1),.n .i64 0,.n .i64 0,.n .i64 0,.n .i64 0,.n .i64 64,.n .i64 1,.n .i64 65536,.n .i64 65536,.n .i64 65536],[.s (ByteArray.mk #[98]),.n .i64 5,.n .i64 0,.n .i64 0,.n .i64 0,.n .i64 0,.n .i64 0,.n .i64 64,.n .i64 1,.n .i64 65536,.n .i64 65536,.n .i64 65536]],.l [],.l [],.l [],.l [[.s (ByteArray.mk #[111]),.l [[.n .i64 0,.n .i64 1,.l [[.n .i64 1,.n .i64 2,.n .i64 3]]]]]],.l [[.n .i64 16,.n .i64 0,.n .i64 0],[.n .i64 32,.n .i64 8,.n .i64 0]],.l [[.n .i64 1,.n .i64 0,.n .i64 0,.n .i64 0]],.l [],.n .i64 0],.n .i64 0,.n .i64 1,.l [[.n .i64 32],[.n .i64 8]]],.v (.b true))]
noncomputable def t24:Known:=(24,k24) :: t73
theorem ok24:Known.Ok Tryz.prog t24:=Known.add yX zW (ok73) (N:=60) (by kernel_rfl)
noncomputable def k44:List (List PV × Ret):=[([.a [.l [[.s (ByteArray.mk #[97]),.n .i64 4,.n .i64 (-1),.n .i64 0,.n .i64 0,.n .i64 0,.n .i64 0,.n .i64 64,.n .i64 1,.n .i64 65536,.n .i64 65536,.n .i64 65536],[.s (ByteArray.mk #[98]),.n .i64 5,.n .i64 0,.n .i64 0,.n .i64 0,.n .i64 0,.n .i64 0,.n .i64 64,.n .i64 1,.n .i64 65536,.n .i64 65536,.n .i64 65536]],.l [],.l [],.l [],.l [[.s (ByteArray.mk #[111]),.l [[.n .i64 0,.n .i64 1,.l [[.n .i64 1,.n .i64 2,.n .i64 3]]]]]],.l [[.n .i64 16,.n .i64 0,.n .i64 0],[.n .i64 32,.n .i64 8,.n .i64 0]],.l [[.n .i64 1,.n .i64 0,.n .i64 0,.n .i64 0]],.l [],.n .i64 0],.a [.l [[.n .i64 0]]],.l [[.n .i64 16],[.n .i64 0]],.n .i64 0,.n .i64 0],.v (.t [.a [.l [[.n .i64 (-1)]]],.b true]))]
noncomputable def t44:Known:=(44,k44) :: t24
theorem ok44:Known.Ok Tryz.prog t44:=Known.add yX zW (ok24) (N:=60) (by kernel_rfl)
noncomputable def k45:List (List PV × Ret):=[([.a [.l [[.s (ByteArray.mk #[97]),.n .i64 4,.n .i64 (-1),.n .i64 0,.n .i64 0,.n .i64 0,.n .i64 0,.n .i64 64,.n .i64 1,.n .i64 65536,.n .i64 65536,.n .i64 65536],[.s (ByteArray.mk #[98]),.n .i64 5,.n .i64 0,.n .i64 0,.n .i64 0,.n .i64 0,.n .i64 0,.n .i64 64,.n .i64 1,.n .i64 65536,.n .i64 65536,.n .i64 65536]],.l [],.l [],.l [],.l [[.s (ByteArray.mk #[111]),.l [[.n .i64 0,.n .i64 1,.l [[.n .i64 1,.n .i64 2,.n .i64 3]]]]]],.l [[.n .i64 16,.n .i64 0,.n .i64 0],[.n .i64 32,.n .i64 8,.n .i64 0]],.l [[.n .i64 1,.n .i64 0,.n .i64 0,.n .i64 0]],.l [],.n .i64 0],.a [.l [[.n .i64 (-1)]]],.l [[.n .i64 32],[.n .i64 8]],.n .i64 0,.n .i64 1],.v (.t [.a [.l [[.n .i64 1]]],.b true]))]
noncomputable def t45:Known:=(45,k45) :: t44
theorem ok45:Known.Ok Tryz.prog t45:=Known.add yX zW (ok44) (N:=60) (by kernel_rfl)
noncomputable def k46:List (List PV × Ret):=[([.a [.l [[.s (ByteArray.mk #[97]),.n .i64 4,.n .i64 (-1),.n .i64 0,.n .i64 0,.n .i64 0,.n .i64 0,.n .i64 64,.n .i64 1,.n .i64 65536,.n .i64 65536,.n .i64 65536],[.s (ByteArray.mk #[98]),.n .i64 5,.n .i64 0,.n .i64 0,.n .i64 0,.n .i64 0,.n .i64 0,.n .i64 64,.n .i64 1,.n .i64 65536,.n .i64 65536,.n .i64 65536]],.l [],.l [],.l [],.l [[.s (ByteArray.mk #[111]),.l [[.n .i64 0,.n .i64 1,.l [[.n .i64 1,.n .i64 2,.n .i64 3]]]]]],.l [[.n .i64 16,.n .i64 0,.n .i64 0],[.n .i64 32,.n .i64 8,.n .i64 0]],.l [[.n .i64 1,.n .i64 0,.n .i64 0,.n .i64 0]],.l [],.n .i64 0],.a [.l [[.n .i64 (-1)]]]],.v (.t [.a [.l [[.s (ByteArray.mk #[97]),.n .i64 4,.n .i64 (-1),.n .i64 0,.n .i64 0,.n .i64 0,.n .i64 0,.n .i64 64,.n .i64 1,.n .i64 65536,.n .i64 65536,.n .i64 65536],[.s (ByteArray.mk #[98]),.n .i64 5,.n .i64 0,.n .i64 0,.n .i64 0,.n .i64 0,.n .i64 0,.n .i64 64,.n .i64 1,.n .i64 65536,.n .i64 65536,.n .i64 65536]],.l [],.l [[.n .i64 1,.n .i64 1,.l [[.n .i64 1,.n .i64 2,.n .i64 3]]]],.l []],.n .i64 0]))]
noncomputable def t46:Known:=(46,k46) :: t45
theorem ok46:Known.Ok Tryz.prog t46:=Known.add yX zW (ok45) (N:=60) (by kernel_rfl)
theorem call:yK Tryz.prog 13 [] (.v (.b true)):=uW (N:=60) yX zW (Known.ok (ok46)) (by kernel_rfl:run T (Known.orc t46) 60 13 []=some (.v (.b true)))
end Go.Proofs.YtgmbkkkbfbocnaaGreat.Ag
namespace Go.Rx
open Go.RowKit Go.Sx Go.ChangeShapes Go.WideShapes
section
variable {P:Program} {W:World} {H:Type} {enc:TypeId × Value→H}
def yWB (W:World) (v:Value) (L:List Int):Prop:=RP (fun k=>k < W.heap.size) W (yXI L) v∧L.length≤9223372036854775807∧∀ x ∈ L,In64 x
theorem jUB {t e:TypeId} {v:Value} {d:DataW H} {p:List MemPlace} (ht:P.underlying t=some (.slice e)) (he:P.underlying e=some (.int .i64)) (hc:P.cellsOf e=1)
  {r:Reach} {base:Nat} (hv:Value.okWide P W r base t v) (h:DataW.Trod enc P W 0 (fun _=>true) true t v d p):∃ L:List Int,yWB W v L:=by
 obtain ⟨a,l,c,rfl⟩:=kZW ht hv;obtain ⟨fuel,h⟩:=h;have h':DataW.trod enc P W 0 (fun _=>true) true fuel t [.slice a l c]=some (d,p):=h;rcases open_ints ht he hc h' with ⟨h1,_⟩ | ⟨a',len,cap,zs,h1,_,hlc,hcap,hz,_,hcell,hwf⟩
 ·simp at h1;obtain ⟨rfl,rfl,rfl⟩:=h1;exact ⟨[],.l0 none 0,by simp,fun x hx=>by cases hx⟩
 ·simp at h1;obtain ⟨rfl,rfl,rfl⟩:=h1;simp only [if_true] at hz;have hlen:(zs.take l).length=l:=by simp; omega
  have hI:IntsAt W W.heap.size (.slice (some a') l c) (zs.take l):=⟨by have:maxLen=9223372036854775807:=rfl; omega,some a',c,by rw [hlen],fun j hj=>by
   rw [hlen] at hj;have h0:=hcell 0 (by omega);have hj':=hcell j (by omega);have hsp:a'.spot=none:=by
    have e:a'.add 0=a':=by simp [Addr.add]
    rw [e] at h0;unfold World.cell? at h0;cases hb:W.heap[a'.block]? with
    | none=>simp [hb] at h0
    | some o=>cases o <;> simp [hb] at h0; exact h0.1
   obtain ⟨bb,off,sp⟩:=a';simp only at hsp;subst hsp;rw [qQB] at hj';refine ⟨bb,off,rfl,?_,?_⟩
   ·unfold World.cell? at hj';cases hb:W.heap[bb]? with
    | none=>simp [hb] at hj'
    | some o=>exact qZZ hb
   ·rw [hj'];simp [vZG,vZV,hj]⟩
  refine ⟨zs.take l,?_,hI.1,fun x hx => ?_⟩
  ·have:=jZX (F:=fun k=>k < W.heap.size) (w:=W) (L:=zs.take l) (a:=some a') (c:=c) (by rw [hlen]; exact hI) (by rw [hlen]; exact hlc) fun k hk=>hk
   rw [hlen] at this;exact this
  ·have:=hwf x (List.mem_of_mem_take hx)
   simpa [Lit.wf,IntKind.has,IntKind.min,IntKind.max,IntKind.signed,IntKind.bits,In64] using this
end
end Go.Rx
namespace Go.Proofs.YtgmbkkkbfbocnaaGreat
open Go.Rx Go.Sx Go.RowKit Od Nb Nx Ga Ha Hc
theorem yQV (v0:Value) (ws0:Wsp) (o0:okW ws0) (v1:Value) (k1:Nat) (q1:Nat→Int) (v2:Value) (L2:List Int) (v3:Value) (L3:List Int) (a4:Int) (a5:Int) (W:World) (h0:RP (fun k=>k < W.heap.size) W (.a (wP ws0)) v0) (h1:RP (fun k=>k < W.heap.size) W (.a [.lf k1 (fQ q1)]) v1) (h2:yWB W v2 L2) (h3:yWB W v3 L3):Calls Tryz.prog 5 #[v0,v1,v2,v3,.int .i64 a4,.int .i64 a5] W (Rets (.bool true) W) :=
 qXF (Hr.snd_law Ag.call ws0 o0 k1 q1 L2 h2.2.1 L3 h3.2.1 a4 a5) rfl (qYD h0 (qYD h1 (qYD h2.1 (qYD h3.1 (qYD (.n _ _) (qYD (.n _ _) qWL))))))
end Go.Proofs.YtgmbkkkbfbocnaaGreat

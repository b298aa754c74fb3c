/- Part 22 of the texts behind the last one: rules and contracts. No condition. -/
import Derived.Test.YtgmbkkkbfbocnaaGreatGM21
open List renaming getElem?_take → vZV, getD_eq_getElem?_getD → vZG, mem_cons → vYZ
namespace Go.Proofs.YtgmbkkkbfbocnaaGreat.Ag
open Go.Rx Rt
theorem cl94:yK Tryz.prog 94 [.l []] (.v (.l [])):=snd_two (qKJ (N:=60) yJ zG zXQ (by kernel_rfl)) (jJY (e:=128) (sz:=5) (qKJ (N:=60) yJ zG zXQ (by kernel_rfl)))
theorem cl96:yK Tryz.prog 96 [.l []] (.v (.l [])):=snd_two (qKJ (N:=60) yJ zG zXQ (by kernel_rfl)) (jJY (e:=86) (sz:=2) (qKJ (N:=60) yJ zG zXQ (by kernel_rfl)))
noncomputable def tC:Known:=[(94,[([.l []],.v (.l []))]),(96,[([.l []],.v (.l []))])]
theorem okC:Known.Ok Tryz.prog tC:=by
 intro x hx y hy;simp only [tC,vYZ,List.not_mem_nil,or_false] at hx;rcases hx with rfl | rfl
 ·simp only [vYZ,List.not_mem_nil,or_false] at hy;subst hy;exact cl94
 ·simp only [vYZ,List.not_mem_nil,or_false] at hy;subst hy;exact cl96
noncomputable def k100:List (List PV × Ret):=[([.n .i32 97],.v (.b true)),
 ([.n .i32 98],.v (.b true)),
 ([.n .i32 111],.v (.b true))]
noncomputable def t100:Known:=(100,k100) :: tC
theorem ok100:Known.Ok Tryz.prog t100:=Known.add yJ zG (okC) (N:=60) (by kernel_rfl)
noncomputable def k53:List (List PV × Ret):=[([.s (ByteArray.mk #[97])],.v (.b true)),
 ([.s (ByteArray.mk #[98])],.v (.b true)),
 ([.s (ByteArray.mk #[111])],.v (.b true))]
noncomputable def t53:Known:=(53,k53) :: t100
theorem ok53:Known.Ok Tryz.prog t53:=Known.add yJ zG (ok100) (N:=60) (by kernel_rfl)
noncomputable def k164:List (List PV × Ret):=[([.a [.l [[.s (ByteArray.mk #[97]),.n .i64 4,.n .i64 (-1),.n .i64 0,.n .i64 0,.n .i64 0,.n .i64 0,.n .i64 64,.n .i64 1,.n .i64 65536,.n .i64 65536,.n .i64 65536],[.s (ByteArray.mk #[98]),.n .i64 5,.n .i64 0,.n .i64 0,.n .i64 0,.n .i64 0,.n .i64 0,.n .i64 64,.n .i64 1,.n .i64 65536,.n .i64 65536,.n .i64 65536]],.l []],.s (ByteArray.mk #[97])],.v (.n .i64 0)),
 ([.a [.l [[.s (ByteArray.mk #[97]),.n .i64 4,.n .i64 (-1),.n .i64 0,.n .i64 0,.n .i64 0,.n .i64 0,.n .i64 64,.n .i64 1,.n .i64 65536,.n .i64 65536,.n .i64 65536],[.s (ByteArray.mk #[98]),.n .i64 5,.n .i64 0,.n .i64 0,.n .i64 0,.n .i64 0,.n .i64 0,.n .i64 64,.n .i64 1,.n .i64 65536,.n .i64 65536,.n .i64 65536]],.l []],.s (ByteArray.mk #[98])],.v (.n .i64 1))]
noncomputable def t164:Known:=(164,k164) :: t53
theorem ok164:Known.Ok Tryz.prog t164:=Known.add yJ zG (ok53) (N:=60) (by kernel_rfl)
noncomputable def k165:List (List PV × Ret):=[([.a [.n .i64 0,.n .i64 0,.n .i64 0]],.v (.b false))]
noncomputable def t165:Known:=(165,k165) :: t164
theorem ok165:Known.Ok Tryz.prog t165:=Known.add yJ zG (ok164) (N:=60) (by kernel_rfl)
noncomputable def k166:List (List PV × Ret):=[([.n .i64 4],.v (.n .i64 4194304)),
 ([.n .i64 5],.v (.n .i64 4194304))]
noncomputable def t166:Known:=(166,k166) :: t165
theorem ok166:Known.Ok Tryz.prog t166:=Known.add yJ zG (ok165) (N:=60) (by kernel_rfl)
noncomputable def k167:List (List PV × Ret):=[([.n .i64 1,.n .i64 1024],.v (.b true)),
 ([.n .i64 65536,.n .i64 1048576],.v (.b true)),
 ([.n .i64 65536,.n .i64 1099511627776],.v (.b true))]
noncomputable def t167:Known:=(167,k167) :: t166
theorem ok167:Known.Ok Tryz.prog t167:=Known.add yJ zG (ok166) (N:=60) (by kernel_rfl)
noncomputable def k136:List (List PV × Ret):=[([.a [.l [[.s (ByteArray.mk #[97]),.n .i64 4,.n .i64 (-1),.n .i64 0,.n .i64 0,.n .i64 0,.n .i64 0,.n .i64 64,.n .i64 1,.n .i64 65536,.n .i64 65536,.n .i64 65536],[.s (ByteArray.mk #[98]),.n .i64 5,.n .i64 0,.n .i64 0,.n .i64 0,.n .i64 0,.n .i64 0,.n .i64 64,.n .i64 1,.n .i64 65536,.n .i64 65536,.n .i64 65536]],.l []],.n .i64 0],.v (.n .i64 0)),
 ([.a [.l [[.s (ByteArray.mk #[97]),.n .i64 4,.n .i64 (-1),.n .i64 0,.n .i64 0,.n .i64 0,.n .i64 0,.n .i64 64,.n .i64 1,.n .i64 65536,.n .i64 65536,.n .i64 65536],[.s (ByteArray.mk #[98]),.n .i64 5,.n .i64 0,.n .i64 0,.n .i64 0,.n .i64 0,.n .i64 0,.n .i64 64,.n .i64 1,.n .i64 65536,.n .i64 65536,.n .i64 65536]],.l []],.n .i64 1],.v (.n .i64 0))]
noncomputable def t136:Known:=(136,k136) :: t167
theorem ok136:Known.Ok Tryz.prog t136:=Known.add yJ zG (ok167) (N:=60) (by kernel_rfl)
noncomputable def k85:List (List PV × Ret):=[([.a [.l [[.s (ByteArray.mk #[97]),.n .i64 4,.n .i64 (-1),.n .i64 0,.n .i64 0,.n .i64 0,.n .i64 0,.n .i64 64,.n .i64 1,.n .i64 65536,.n .i64 65536,.n .i64 65536],[.s (ByteArray.mk #[98]),.n .i64 5,.n .i64 0,.n .i64 0,.n .i64 0,.n .i64 0,.n .i64 0,.n .i64 64,.n .i64 1,.n .i64 65536,.n .i64 65536,.n .i64 65536]],.l []]],.v (.n .i64 0))]
noncomputable def t85:Known:=(85,k85) :: t136
theorem ok85:Known.Ok Tryz.prog t85:=Known.add yJ zG (ok136) (N:=60) (by kernel_rfl)
noncomputable def k50:List (List PV × Ret):=[([.a [.l [[.s (ByteArray.mk #[97]),.n .i64 4,.n .i64 (-1),.n .i64 0,.n .i64 0,.n .i64 0,.n .i64 0,.n .i64 64,.n .i64 1,.n .i64 65536,.n .i64 65536,.n .i64 65536],[.s (ByteArray.mk #[98]),.n .i64 5,.n .i64 0,.n .i64 0,.n .i64 0,.n .i64 0,.n .i64 0,.n .i64 64,.n .i64 1,.n .i64 65536,.n .i64 65536,.n .i64 65536]],.l [],.l [],.l []]],.v (.n .i64 0))]
noncomputable def t50:Known:=(50,k50) :: t85
theorem ok50:Known.Ok Tryz.prog t50:=Known.add yJ zG (ok85) (N:=60) (by kernel_rfl)
noncomputable def k99:List (List PV × Ret):=[([.a [.n .i64 16,.n .i64 0,.n .i64 0]],.v (.b true)),
 ([.a [.n .i64 32,.n .i64 8,.n .i64 0]],.v (.b true)),
 ([.a [.n .i64 0,.n .i64 0,.n .i64 0]],.v (.b true)),
 ([.a [.n .i64 1,.n .i64 2,.n .i64 3]],.v (.b true))]
noncomputable def t99:Known:=(99,k99) :: t50
theorem ok99:Known.Ok Tryz.prog t99:=Known.add yJ zG (ok50) (N:=60) (by kernel_rfl)
noncomputable def k51:List (List PV × Ret):=[([.a [.l [[.s (ByteArray.mk #[97]),.n .i64 4,.n .i64 (-1),.n .i64 0,.n .i64 0,.n .i64 0,.n .i64 0,.n .i64 64,.n .i64 1,.n .i64 65536,.n .i64 65536,.n .i64 65536],[.s (ByteArray.mk #[98]),.n .i64 5,.n .i64 0,.n .i64 0,.n .i64 0,.n .i64 0,.n .i64 0,.n .i64 64,.n .i64 1,.n .i64 65536,.n .i64 65536,.n .i64 65536]],.l [],.l [],.l [],.l [[.s (ByteArray.mk #[111]),.l [[.n .i64 0,.n .i64 1,.l [[.n .i64 1,.n .i64 2,.n .i64 3]]]]]],.l [[.n .i64 16,.n .i64 0,.n .i64 0],[.n .i64 32,.n .i64 8,.n .i64 0]],.l [[.n .i64 1,.n .i64 0,.n .i64 0,.n .i64 0]],.l [],.n .i64 0]],.v (.b true))]
noncomputable def t51:Known:=(51,k51) :: t99
theorem ok51:Known.Ok Tryz.prog t51:=Known.add yJ zG (ok99) (N:=60) (by kernel_rfl)
noncomputable def k103:List (List PV × Ret):=[([.a [.n .i64 0,.n .i64 1,.l [[.n .i64 1,.n .i64 2,.n .i64 3]]]],.v (.b true))]
noncomputable def t103:Known:=(103,k103) :: t51
theorem ok103:Known.Ok Tryz.prog t103:=Known.add yJ zG (ok51) (N:=60) (by kernel_rfl)
noncomputable def k55:List (List PV × Ret):=[([.a [.s (ByteArray.mk #[111]),.l [[.n .i64 0,.n .i64 1,.l [[.n .i64 1,.n .i64 2,.n .i64 3]]]]]],.v (.b true))]
noncomputable def t55:Known:=(55,k55) :: t103
theorem ok55:Known.Ok Tryz.prog t55:=Known.add yJ zG (ok103) (N:=60) (by kernel_rfl)
noncomputable def k16:List (List PV × Ret):=[([.a [.l [[.s (ByteArray.mk #[97]),.n .i64 4,.n .i64 (-1),.n .i64 0,.n .i64 0,.n .i64 0,.n .i64 0,.n .i64 64,.n .i64 1,.n .i64 65536,.n .i64 65536,.n .i64 65536],[.s (ByteArray.mk #[98]),.n .i64 5,.n .i64 0,.n .i64 0,.n .i64 0,.n .i64 0,.n .i64 0,.n .i64 64,.n .i64 1,.n .i64 65536,.n .i64 65536,.n .i64 65536]],.l [],.l [],.l [],.l [[.s (ByteArray.mk #[111]),.l [[.n .i64 0,.n .i64 1,.l [[.n .i64 1,.n .i64 2,.n .i64 3]]]]]],.l [[.n .i64 16,.n .i64 0,.n .i64 0],[.n .i64 32,.n .i64 8,.n .i64 0]],.l [[.n .i64 1,.n .i64 0,.n .i64 0,.n .i64 0]],.l [],.n .i64 0]],.v (.n .i64 0))]
noncomputable def t16:Known:=(16,k16) :: t55
theorem ok16:Known.Ok Tryz.prog t16:=Known.add yJ zG (ok55) (N:=60) (by kernel_rfl)
noncomputable def k62:List (List PV × Ret):=[([.a [.l [[.s (ByteArray.mk #[97]),.n .i64 4,.n .i64 (-1),.n .i64 0,.n .i64 0,.n .i64 0,.n .i64 0,.n .i64 64,.n .i64 1,.n .i64 65536,.n .i64 65536,.n .i64 65536],[.s (ByteArray.mk #[98]),.n .i64 5,.n .i64 0,.n .i64 0,.n .i64 0,.n .i64 0,.n .i64 0,.n .i64 64,.n .i64 1,.n .i64 65536,.n .i64 65536,.n .i64 65536]],.l [],.l [],.l [],.l [[.s (ByteArray.mk #[111]),.l [[.n .i64 0,.n .i64 1,.l [[.n .i64 1,.n .i64 2,.n .i64 3]]]]]],.l [[.n .i64 16,.n .i64 0,.n .i64 0],[.n .i64 32,.n .i64 8,.n .i64 0]],.l [[.n .i64 1,.n .i64 0,.n .i64 0,.n .i64 0]],.l [],.n .i64 0],.a [.l [[.n .i64 0]]]],.v (.b true)),
 ([.a [.l [[.s (ByteArray.mk #[97]),.n .i64 4,.n .i64 (-1),.n .i64 0,.n .i64 0,.n .i64 0,.n .i64 0,.n .i64 64,.n .i64 1,.n .i64 65536,.n .i64 65536,.n .i64 65536],[.s (ByteArray.mk #[98]),.n .i64 5,.n .i64 0,.n .i64 0,.n .i64 0,.n .i64 0,.n .i64 0,.n .i64 64,.n .i64 1,.n .i64 65536,.n .i64 65536,.n .i64 65536]],.l [],.l [],.l [],.l [[.s (ByteArray.mk #[111]),.l [[.n .i64 0,.n .i64 1,.l [[.n .i64 1,.n .i64 2,.n .i64 3]]]]]],.l [[.n .i64 16,.n .i64 0,.n .i64 0],[.n .i64 32,.n .i64 8,.n .i64 0]],.l [[.n .i64 1,.n .i64 0,.n .i64 0,.n .i64 0]],.l [],.n .i64 0],.a [.l [[.n .i64 (-1)]]]],.v (.b true))]
noncomputable def t62:Known:=(62,k62) :: t16
theorem ok62:Known.Ok Tryz.prog t62:=Known.add yJ zG (ok16) (N:=60) (by kernel_rfl)
noncomputable def k71:List (List PV × Ret):=[([.a [.l [[.s (ByteArray.mk #[97]),.n .i64 4,.n .i64 (-1),.n .i64 0,.n .i64 0,.n .i64 0,.n .i64 0,.n .i64 64,.n .i64 1,.n .i64 65536,.n .i64 65536,.n .i64 65536],[.s (ByteArray.mk #[98]),.n .i64 5,.n .i64 0,.n .i64 0,.n .i64 0,.n .i64 0,.n .i64 0,.n .i64 64,.n .i64 1,.n .i64 65536,.n .i64 65536,.n .i64 65536]],.l []],.l [[.n .i64 16],[.n .i64 0]]],.v (.b true)),
 ([.a [.l [[.s (ByteArray.mk #[97]),.n .i64 4,.n .i64 (-1),.n .i64 0,.n .i64 0,.n .i64 0,.n .i64 0,.n .i64 64,.n .i64 1,.n .i64 65536,.n .i64 65536,.n .i64 65536],[.s (ByteArray.mk #[98]),.n .i64 5,.n .i64 0,.n .i64 0,.n .i64 0,.n .i64 0,.n .i64 0,.n .i64 64,.n .i64 1,.n .i64 65536,.n .i64 65536,.n .i64 65536]],.l []],.l [[.n .i64 32],[.n .i64 8]]],.v (.b true))]
noncomputable def t71:Known:=(71,k71) :: t62
theorem ok71:Known.Ok Tryz.prog t71:=Known.add yJ zG (ok62) (N:=60) (by kernel_rfl)
noncomputable def k173:List (List PV × Ret):=[([.n .i64 16],.v (.n .i64 16)),
 ([.n .i64 0],.v (.n .i64 0)),
 ([.n .i64 65536],.v (.n .i64 65536)),
 ([.n .i64 32],.v (.n .i64 32)),
 ([.n .i64 8],.v (.n .i64 8))]
noncomputable def t173:Known:=(173,k173) :: t71
theorem ok173:Known.Ok Tryz.prog t173:=Known.add yJ zG (ok71) (N:=60) (by kernel_rfl)
noncomputable def k152:List (List PV × Ret):=[([.n .i64 16,.n .i64 16],.v (.a [.n .i64 16,.n .i64 16])),
 ([.n .i64 0,.n .i64 0],.v (.a [.n .i64 0,.n .i64 0])),
 ([.n .i64 65536,.n .i64 65536],.v (.a [.n .i64 65536,.n .i64 65536])),
 ([.n .i64 32,.n .i64 32],.v (.a [.n .i64 32,.n .i64 32])),
 ([.n .i64 8,.n .i64 8],.v (.a [.n .i64 8,.n .i64 8]))]
noncomputable def t152:Known:=(152,k152) :: t173
theorem ok152:Known.Ok Tryz.prog t152:=Known.add yJ zG (ok173) (N:=60) (by kernel_rfl)
noncomputable def k122:List (List PV × Ret):=[([.n .i64 16],.v (.a [.n .i64 16,.n .i64 16])),
 ([.n .i64 0],.v (.a [.n .i64 0,.n .i64 0])),
 ([.n .i64 65536],.v (.a [.n .i64 65536,.n .i64 65536])),
 ([.n .i64 32],.v (.a [.n .i64 32,.n .i64 32])),
 ([.n .i64 8],.v (.a [.n .i64 8,.n .i64 8]))]
noncomputable def t122:Known:=(122,k122) :: t152
theorem ok122:Known.Ok Tryz.prog t122:=Known.add yJ zG (ok152) (N:=60) (by kernel_rfl)
noncomputable def k121:List (List PV × Ret):=[([.l [[.n .i64 16],[.n .i64 0]],.f 122 [] []],.ow 62 2 (.l [[.n .i64 16,.n .i64 16],[.n .i64 0,.n .i64 0]])),
 ([.l [[.n .i64 32],[.n .i64 8]],.f 122 [] []],.ow 62 2 (.l [[.n .i64 32,.n .i64 32],[.n .i64 8,.n .i64 8]]))]
noncomputable def t121:Known:=(121,k121) :: t122
theorem ok121:Known.Ok Tryz.prog t121:=Known.add yJ zG (ok122) (N:=60) (by kernel_rfl)
noncomputable def k72:List (List PV × Ret):=[([.l [[.n .i64 16],[.n .i64 0]]],.v (.l [[.n .i64 16,.n .i64 16],[.n .i64 0,.n .i64 0]])),
 ([.l [[.n .i64 32],[.n .i64 8]]],.v (.l [[.n .i64 32,.n .i64 32],[.n .i64 8,.n .i64 8]]))]
noncomputable def t72:Known:=(72,k72) :: t121
theorem ok72:Known.Ok Tryz.prog t72:=Known.add yJ zG (ok121) (N:=60) (by kernel_rfl)
noncomputable def k135:List (List PV × Ret):=[([.a [.n .i64 16,.n .i64 16]],.v (.b true)),
 ([.a [.n .i64 0,.n .i64 0]],.v (.b true)),
 ([.a [.n .i64 65536,.n .i64 65536]],.v (.b true)),
 ([.a [.n .i64 32,.n .i64 32]],.v (.b true)),
 ([.a [.n .i64 8,.n .i64 8]],.v (.b true))]
noncomputable def t135:Known:=(135,k135) :: t72
theorem ok135:Known.Ok Tryz.prog t135:=Known.add yJ zG (ok72) (N:=60) (by kernel_rfl)
noncomputable def k163:List (List PV × Ret):=[([.l [[.n .i64 16,.n .i64 16],[.n .i64 0,.n .i64 0]],.f 134 [] []],.v (.n .i64 (-1))),
 ([.l [[.n .i64 32,.n .i64 32],[.n .i64 8,.n .i64 8]],.f 134 [] []],.v (.n .i64 (-1)))]
noncomputable def t163:Known:=(163,k163) :: t135
theorem ok163:Known.Ok Tryz.prog t163:=Known.add yJ zG (ok135) (N:=60) (by kernel_rfl)
noncomputable def k133:List (List PV × Ret):=[([.l [[.n .i64 16,.n .i64 16],[.n .i64 0,.n .i64 0]],.f 134 [] []],.v (.b false)),
 ([.l [[.n .i64 32,.n .i64 32],[.n .i64 8,.n .i64 8]],.f 134 [] []],.v (.b false))]
noncomputable def t133:Known:=(133,k133) :: t163
theorem ok133:Known.Ok Tryz.prog t133:=Known.add yJ zG (ok163) (N:=60) (by kernel_rfl)
noncomputable def k84:List (List PV × Ret):=[([.a [.l [[.s (ByteArray.mk #[97]),.n .i64 4,.n .i64 (-1),.n .i64 0,.n .i64 0,.n .i64 0,.n .i64 0,.n .i64 64,.n .i64 1,.n .i64 65536,.n .i64 65536,.n .i64 65536],[.s (ByteArray.mk #[98]),.n .i64 5,.n .i64 0,.n .i64 0,.n .i64 0,.n .i64 0,.n .i64 0,.n .i64 64,.n .i64 1,.n .i64 65536,.n .i64 65536,.n .i64 65536]],.l []],.l [[.n .i64 16,.n .i64 16],[.n .i64 0,.n .i64 0]]],.v (.b true)),
 ([.a [.l [[.s (ByteArray.mk #[97]),.n .i64 4,.n .i64 (-1),.n .i64 0,.n .i64 0,.n .i64 0,.n .i64 0,.n .i64 64,.n .i64 1,.n .i64 65536,.n .i64 65536,.n .i64 65536],[.s (ByteArray.mk #[98]),.n .i64 5,.n .i64 0,.n .i64 0,.n .i64 0,.n .i64 0,.n .i64 0,.n .i64 64,.n .i64 1,.n .i64 65536,.n .i64 65536,.n .i64 65536]],.l []],.l [[.n .i64 32,.n .i64 32],[.n .i64 8,.n .i64 8]]],.v (.b true))]
noncomputable def t84:Known:=(84,k84) :: t133
theorem ok84:Known.Ok Tryz.prog t84:=Known.add yJ zG (ok133) (N:=60) (by kernel_rfl)
noncomputable def k74:List (List PV × Ret):=[([.a [.n .i64 0,.n .i64 0,.n .i64 0]],.v (.a [.n .i64 0,.n .i64 0,.n .i64 0,.n .i64 0,.n .i64 0,.n .i64 0]))]
noncomputable def t74:Known:=(74,k74) :: t84
theorem ok74:Known.Ok Tryz.prog t74:=Known.add yJ zG (ok84) (N:=60) (by kernel_rfl)
noncomputable def k127:List (List PV × Ret):=[([],.v (.a [.n .i64 65536,.n .i64 65536,.n .i64 0,.n .i64 0,.n .i64 0,.n .i64 0,.n .i64 0,.n .i64 0,.n .i64 65536,.n .i64 65536,.n .i64 0,.n .i64 0,.n .i64 0,.n .i64 0,.n .i64 0,.n .i64 0,.n .i64 65536,.n .i64 65536]))]
noncomputable def t127:Known:=(127,k127) :: t74
theorem ok127:Known.Ok Tryz.prog t127:=Known.add yJ zG (ok74) (N:=60) (by kernel_rfl)
noncomputable def k79:List (List PV × Ret):=[([.a [.n .i64 0,.n .i64 0,.n .i64 0,.n .i64 0,.n .i64 0,.n .i64 0]],.v (.a [.n .i64 65536,.n .i64 65536,.n .i64 0,.n .i64 0,.n .i64 0,.n .i64 0,.n .i64 0,.n .i64 0,.n .i64 65536,.n .i64 65536,.n .i64 0,.n .i64 0,.n .i64 0,.n .i64 0,.n .i64 0,.n .i64 0,.n .i64 65536,.n .i64 65536,.n .i64 0,.n .i64 0,.n .i64 0,.n .i64 0,.n .i64 0,.n .i64 0])),
 ([.a [.n .i64 16,.n .i64 16,.n .i64 0,.n .i64 0,.n .i64 0,.n .i64 0]],.v (.a [.n .i64 65536,.n .i64 65536,.n .i64 0,.n .i64 0,.n .i64 0,.n .i64 0,.n .i64 0,.n .i64 0,.n .i64 65536,.n .i64 65536,.n .i64 0,.n .i64 0,.n .i64 0,.n .i64 0,.n .i64 0,.n .i64 0,.n .i64 65536,.n .i64 65536,.n .i64 16,.n .i64 16,.n .i64 0,.n .i64 0,.n .i64 0,.n .i64 0])),
 ([.a [.n .i64 32,.n .i64 32,.n .i64 0,.n .i64 0,.n .i64 0,.n .i64 0]],.v (.a [.n .i64 65536,.n .i64 65536,.n .i64 0,.n .i64 0,.n .i64 0,.n .i64 0,.n .i64 0,.n .i64 0,.n .i64 65536,.n .i64 65536,.n .i64 0,.n .i64 0,.n .i64 0,.n .i64 0,.n .i64 0,.n .i64 0,.n .i64 65536,.n .i64 65536,.n .i64 32,.n .i64 32,.n .i64 0,.n .i64 0,.n .i64 0,.n .i64 0])),
 ([.a [.n .i64 0,.n .i64 0,.n .i64 8,.n .i64 8,.n .i64 0,.n .i64 0]],.v (.a [.n .i64 65536,.n .i64 65536,.n .i64 0,.n .i64 0,.n .i64 0,.n .i64 0,.n .i64 0,.n .i64 0,.n .i64 65536,.n .i64 65536,.n .i64 0,.n .i64 0,.n .i64 0,.n .i64 0,.n .i64 0,.n .i64 0,.n .i64 65536,.n .i64 65536,.n .i64 0,.n .i64 0,.n .i64 8,.n .i64 8,.n .i64 0,.n .i64 0]))]
noncomputable def t79:Known:=(79,k79) :: t127
theorem ok79:Known.Ok Tryz.prog t79:=Known.add yJ zG (ok127) (N:=60) (by kernel_rfl)
noncomputable def k129:List (List PV × Ret):=[([.n .i64 0,.a [.n .i64 16,.n .i64 16]],.v (.a [.n .i64 65536,.n .i64 65536,.n .i64 0,.n .i64 0,.n .i64 0,.n .i64 0,.n .i64 0,.n .i64 0,.n .i64 65536,.n .i64 65536,.n .i64 0,.n .i64 0,.n .i64 0,.n .i64 0,.n .i64 0,.n .i64 0,.n .i64 65536,.n .i64 65536,.n .i64 16,.n .i64 16,.n .i64 0,.n .i64 0,.n .i64 0,.n .i64 0])),
 ([.n .i64 1,.a [.n .i64 0,.n .i64 0]],.v (.a [.n .i64 65536,.n .i64 65536,.n .i64 0,.n .i64 0,.n .i64 0,.n .i64 0,.n .i64 0,.n .i64 0,.n .i64 65536,.n .i64 65536,.n .i64 0,.n .i64 0,.n .i64 0,.n .i64 0,.n .i64 0,.n .i64 0,.n .i64 65536,.n .i64 65536,.n .i64 0,.n .i64 0,.n .i64 0,.n .i64 0,.n .i64 0,.n .i64 0])),
 ([.n .i64 0,.a [.n .i64 32,.n .i64 32]],.v (.a [.n .i64 65536,.n .i64 65536,.n .i64 0,.n .i64 0,.n .i64 0,.n .i64 0,.n .i64 0,.n .i64 0,.n .i64 65536,.n .i64 65536,.n .i64 0,.n .i64 0,.n .i64 0,.n .i64 0,.n .i64 0,.n .i64 0,.n .i64 65536,.n .i64 65536,.n .i64 32,.n .i64 32,.n .i64 0,.n .i64 0,.n .i64 0,.n .i64 0])),
 ([.n .i64 1,.a [.n .i64 8,.n .i64 8]],.v (.a [.n .i64 65536,.n .i64 65536,.n .i64 0,.n .i64 0,.n .i64 0,.n .i64 0,.n .i64 0,.n .i64 0,.n .i64 65536,.n .i64 65536,.n .i64 0,.n .i64 0,.n .i64 0,.n .i64 0,.n .i64 0,.n .i64 0,.n .i64 65536,.n .i64 65536,.n .i64 0,.n .i64 0,.n .i64 8,.n .i64 8,.n .i64 0,.n .i64 0]))]
noncomputable def t129:Known:=(129,k129) :: t79
theorem ok129:Known.Ok Tryz.prog t129:=Known.add yJ zG (ok79) (N:=60) (by kernel_rfl)
noncomputable def k174:List (List PV × Ret):=[([.a [.n .i64 65536,.n .i64 65536],.a [.n .i64 65536,.n .i64 65536]],.v (.b true)),
 ([.a [.n .i64 0,.n .i64 0],.a [.n .i64 65536,.n .i64 65536]],.v (.b true)),
 ([.a [.n .i64 0,.n .i64 0],.a [.n .i64 0,.n .i64 0]],.v (.b true)),
 ([.a [.n .i64 65536,.n .i64 65536],.a [.n .i64 0,.n .i64 0]],.v (.b true)),
 ([.a [.n .i64 65536,.n .i64 65536],.a [.n .i64 16,.n .i64 16]],.v (.b true)),
 ([.a [.n .i64 0,.n .i64 0],.a [.n .i64 16,.n .i64 16]],.v (.b true)),
 ([.a [.n .i64 16,.n .i64 16],.a [.n .i64 0,.n .i64 0]],.v (.b true)),
 ([.a [.n .i64 65536,.n .i64 65536],.a [.n .i64 32,.n .i64 32]],.v (.b true)),
 ([.a [.n .i64 0,.n .i64 0],.a [.n .i64 32,.n .i64 32]],.v (.b true)),
 ([.a [.n .i64 32,.n .i64 32],.a [.n .i64 0,.n .i64 0]],.v (.b true)),
 ([.a [.n .i64 0,.n .i64 0],.a [.n .i64 8,.n .i64 8]],.v (.b true)),
 ([.a [.n .i64 65536,.n .i64 65536],.a [.n .i64 8,.n .i64 8]],.v (.b true)),
 ([.a [.n .i64 8,.n .i64 8],.a [.n .i64 0,.n .i64 0]],.v (.b true))]
noncomputable def t174:Known:=(174,k174) :: t129
theorem ok174:Known.Ok Tryz.prog t174:=Known.add yJ zG (ok129) (N:=60) (by kernel_rfl)
noncomputable def k180:List (List PV × Ret):=[([.n .i64 4294967296,.n .i64 16],.v (.n .i64 65536)),
 ([.n .i64 0,.n .i64 16],.v (.n .i64 0)),
 ([.n .i64 1048576,.n .i64 16],.v (.n .i64 16)),
 ([.n .i64 2097152,.n .i64 16],.v (.n .i64 32)),
 ([.n .i64 524288,.n .i64 16],.v (.n .i64 8))]
noncomputable def t180:Known:=(180,k180) :: t174
theorem ok180:Known.Ok Tryz.prog t180:=Known.add yJ zG (ok174) (N:=60) (by kernel_rfl)
noncomputable def k181:List (List PV × Ret):=[([.n .i64 4294967296,.n .i64 16],.v (.n .i64 65536)),
 ([.n .i64 0,.n .i64 16],.v (.n .i64 0)),
 ([.n .i64 1048576,.n .i64 16],.v (.n .i64 16)),
 ([.n .i64 2097152,.n .i64 16],.v (.n .i64 32)),
 ([.n .i64 524288,.n .i64 16],.v (.n .i64 8))]
noncomputable def t181:Known:=(181,k181) :: t180
theorem ok181:Known.Ok Tryz.prog t181:=Known.add yJ zG (ok180) (N:=60) (by kernel_rfl)
noncomputable def k175:List (List PV × Ret):=[([.n .i64 4294967296,.n .i64 4294967296],.v (.a [.n .i64 65536,.n .i64 65536])),
 ([.n .i64 0,.n .i64 0],.v (.a [.n .i64 0,.n .i64 0])),
 ([.n .i64 1048576,.n .i64 1048576],.v (.a [.n .i64 16,.n .i64 16])),
 ([.n .i64 2097152,.n .i64 2097152],.v (.a [.n .i64 32,.n .i64 32])),
 ([.n .i64 524288,.n .i64 524288],.v (.a [.n .i64 8,.n .i64 8]))]
noncomputable def t175:Known:=(175,k175) :: t181
theorem ok175:Known.Ok Tryz.prog t175:=Known.add yJ zG (ok181) (N:=60) (by kernel_rfl)
noncomputable def k157:List (List PV × Ret):=[([.a [.n .i64 65536,.n .i64 65536],.a [.n .i64 65536,.n .i64 65536]],.v (.a [.n .i64 65536,.n .i64 65536])),
 ([.a [.n .i64 0,.n .i64 0],.a [.n .i64 0,.n .i64 0]],.v (.a [.n .i64 0,.n .i64 0])),
 ([.a [.n .i64 65536,.n .i64 65536],.a [.n .i64 0,.n .i64 0]],.v (.a [.n .i64 0,.n .i64 0])),
 ([.a [.n .i64 0,.n .i64 0],.a [.n .i64 65536,.n .i64 65536]],.v (.a [.n .i64 0,.n .i64 0])),
 ([.a [.n .i64 65536,.n .i64 65536],.a [.n .i64 16,.n .i64 16]],.v (.a [.n .i64 16,.n .i64 16])),
 ([.a [.n .i64 0,.n .i64 0],.a [.n .i64 16,.n .i64 16]],.v (.a [.n .i64 0,.n .i64 0])),
 ([.a [.n .i64 65536,.n .i64 65536],.a [.n .i64 32,.n .i64 32]],.v (.a [.n .i64 32,.n .i64 32])),
 ([.a [.n .i64 0,.n .i64 0],.a [.n .i64 32,.n .i64 32]],.v (.a [.n .i64 0,.n .i64 0])),
 ([.a [.n .i64 0,.n .i64 0],.a [.n .i64 8,.n .i64 8]],.v (.a [.n .i64 0,.n .i64 0])),
 ([.a [.n .i64 65536,.n .i64 65536],.a [.n .i64 8,.n .i64 8]],.v (.a [.n .i64 8,.n .i64 8]))]
noncomputable def t157:Known:=(157,k157) :: t175
theorem ok157:Known.Ok Tryz.prog t157:=Known.add yJ zG (ok175) (N:=60) (by kernel_rfl)
noncomputable def k156:List (List PV × Ret):=[([.a [.n .i64 0,.n .i64 0],.a [.n .i64 65536,.n .i64 65536]],.v (.a [.n .i64 65536,.n .i64 65536])),
 ([.a [.n .i64 65536,.n .i64 65536],.a [.n .i64 0,.n .i64 0]],.v (.a [.n .i64 65536,.n .i64 65536])),
 ([.a [.n .i64 0,.n .i64 0],.a [.n .i64 0,.n .i64 0]],.v (.a [.n .i64 0,.n .i64 0])),
 ([.a [.n .i64 0,.n .i64 0],.a [.n .i64 16,.n .i64 16]],.v (.a [.n .i64 16,.n .i64 16])),
 ([.a [.n .i64 16,.n .i64 16],.a [.n .i64 0,.n .i64 0]],.v (.a [.n .i64 16,.n .i64 16])),
 ([.a [.n .i64 0,.n .i64 0],.a [.n .i64 32,.n .i64 32]],.v (.a [.n .i64 32,.n .i64 32])),
 ([.a [.n .i64 32,.n .i64 32],.a [.n .i64 0,.n .i64 0]],.v (.a [.n .i64 32,.n .i64 32])),
 ([.a [.n .i64 0,.n .i64 0],.a [.n .i64 8,.n .i64 8]],.v (.a [.n .i64 8,.n .i64 8])),
 ([.a [.n .i64 8,.n .i64 8],.a [.n .i64 0,.n .i64 0]],.v (.a [.n .i64 8,.n .i64 8]))]
noncomputable def t156:Known:=(156,k156) :: t157
theorem ok156:Known.Ok Tryz.prog t156:=Known.add yJ zG (ok157) (N:=60) (by kernel_rfl)
noncomputable def k158:List (List PV × Ret):=[([.n .i64 65536],.v (.n .i64 65536)),
 ([.n .i64 0],.v (.n .i64 0))]
noncomputable def t158:Known:=(158,k158) :: t156
theorem ok158:Known.Ok Tryz.prog t158:=Known.add yJ zG (ok156) (N:=60) (by kernel_rfl)
noncomputable def k126:List (List PV × Ret):=[([.a [.n .i64 65536,.n .i64 65536,.n .i64 0,.n .i64 0,.n .i64 0,.n .i64 0,.n .i64 0,.n .i64 0,.n .i64 65536,.n .i64 65536,.n .i64 0,.n .i64 0,.n .i64 0,.n .i64 0,.n .i64 0,.n .i64 0,.n .i64 65536,.n .i64 65536],.a [.n .i64 65536,.n .i64 65536,.n .i64 0,.n .i64 0,.n .i64 0,.n .i64 0,.n .i64 0,.n .i64 0,.n .i64 65536,.n .i64 65536,.n .i64 0,.n .i64 0,.n .i64 0,.n .i64 0,.n .i64 0,.n .i64 0,.n .i64 65536,.n .i64 65536]],.v (.a [.n .i64 65536,.n .i64 65536,.n .i64 0,.n .i64 0,.n .i64 0,.n .i64 0,.n .i64 0,.n .i64 0,.n .i64 65536,.n .i64 65536,.n .i64 0,.n .i64 0,.n .i64 0,.n .i64 0,.n .i64 0,.n .i64 0,.n .i64 65536,.n .i64 65536]))]
noncomputable def t126:Known:=(126,k126) :: t158
theorem ok126:Known.Ok Tryz.prog t126:=Known.add yJ zG (ok158) (N:=60) (by kernel_rfl)
noncomputable def k155:List (List PV × Ret):=[([.a [.n .i64 65536,.n .i64 65536,.n .i64 0,.n .i64 0,.n .i64 0,.n .i64 0,.n .i64 0,.n .i64 0,.n .i64 65536,.n .i64 65536,.n .i64 0,.n .i64 0,.n .i64 0,.n .i64 0,.n .i64 0,.n .i64 0,.n .i64 65536,.n .i64 65536],.a [.n .i64 16,.n .i64 16,.n .i64 0,.n .i64 0,.n .i64 0,.n .i64 0]],.v (.a [.n .i64 16,.n .i64 16,.n .i64 0,.n .i64 0,.n .i64 0,.n .i64 0])),
 ([.a [.n .i64 65536,.n .i64 65536,.n .i64 0,.n .i64 0,.n .i64 0,.n .i64 0,.n .i64 0,.n .i64 0,.n .i64 65536,.n .i64 65536,.n .i64 0,.n .i64 0,.n .i64 0,.n .i64 0,.n .i64 0,.n .i64 0,.n .i64 65536,.n .i64 65536],.a [.n .i64 0,.n .i64 0,.n .i64 0,.n .i64 0,.n .i64 0,.n .i64 0]],.v (.a [.n .i64 0,.n .i64 0,.n .i64 0,.n .i64 0,.n .i64 0,.n .i64 0])),
 ([.a [.n .i64 65536,.n .i64 65536,.n .i64 0,.n .i64 0,.n .i64 0,.n .i64 0,.n .i64 0,.n .i64 0,.n .i64 65536,.n .i64 65536,.n .i64 0,.n .i64 0,.n .i64 0,.n .i64 0,.n .i64 0,.n .i64 0,.n .i64 65536,.n .i64 65536],.a [.n .i64 32,.n .i64 32,.n .i64 0,.n .i64 0,.n .i64 0,.n .i64 0]],.v (.a [.n .i64 32,.n .i64 32,.n .i64 0,.n .i64 0,.n .i64 0,.n .i64 0])),
 ([.a [.n .i64 65536,.n .i64 65536,.n .i64 0,.n .i64 0,.n .i64 0,.n .i64 0,.n .i64 0,.n .i64 0,.n .i64 65536,.n .i64 65536,.n .i64 0,.n .i64 0,.n .i64 0,.n .i64 0,.n .i64 0,.n .i64 0,.n .i64 65536,.n .i64 65536],.a [.n .i64 0,.n .i64 0,.n .i64 8,.n .i64 8,.n .i64 0,.n .i64 0]],.v (.a [.n .i64 0,.n .i64 0,.n .i64 8,.n .i64 8,.n .i64 0,.n .i64 0]))]
noncomputable def t155:Known:=(155,k155) :: t126
theorem ok155:Known.Ok Tryz.prog t155:=Known.add yJ zG (ok126) (N:=60) (by kernel_rfl)
noncomputable def k154:List (List PV × Ret):=[([.a [.n .i64 0,.n .i64 0,.n .i64 0,.n .i64 0,.n .i64 0,.n .i64 0],.a [.n .i64 16,.n .i64 16,.n .i64 0,.n .i64 0,.n .i64 0,.n .i64 0]],.v (.a [.n .i64 16,.n .i64 16,.n .i64 0,.n .i64 0,.n .i64 0,.n .i64 0])),
 ([.a [.n .i64 0,.n .i64 0,.n .i64 0,.n .i64 0,.n .i64 0,.n .i64 0],.a [.n .i64 0,.n .i64 0,.n .i64 0,.n .i64 0,.n .i64 0,.n .i64 0]],.v (.a [.n .i64 0,.n .i64 0,.n .i64 0,.n .i64 0,.n .i64 0,.n .i64 0])),
 ([.a [.n .i64 16,.n .i64 16,.n .i64 0,.n .i64 0,.n .i64 0,.n .i64 0],.a [.n .i64 0,.n .i64 0,.n .i64 0,.n .i64 0,.n .i64 0,.n .i64 0]],.v (.a [.n .i64 16,.n .i64 16,.n .i64 0,.n .i64 0,.n .i64 0,.n .i64 0])),
 ([.a [.n .i64 0,.n .i64 0,.n .i64 0,.n .i64 0,.n .i64 0,.n .i64 0],.a [.n .i64 32,.n .i64 32,.n .i64 0,.n .i64 0,.n .i64 0,.n .i64 0]],.v (.a [.n .i64 32,.n .i64 32,.n .i64 0,.n .i64 0,.n .i64 0,.n .i64 0])),
 ([.a [.n .i64 0,.n .i64 0,.n .i64 0,.n .i64 0,.n .i64 0,.n .i64 0],.a [.n .i64 0,.n .i64 0,.n .i64 8,.n .i64 8,.n .i64 0,.n .i64 0]],.v (.a [.n .i64 0,.n .i64 0,.n .i64 8,.n .i64 8,.n .i64 0,.n .i64 0])),
 ([.a [.n .i64 32,.n .i64 32,.n .i64 0,.n .i64 0,.n .i64 0,.n .i64 0],.a [.n .i64 0,.n .i64 0,.n .i64 8,.n .i64 8,.n .i64 0,.n .i64 0]],.v (.a [.n .i64 32,.n .i64 32,.n .i64 8,.n .i64 8,.n .i64 0,.n .i64 0])),
 ([.a [.n .i64 32,.n .i64 32,.n .i64 8,.n .i64 8,.n .i64 0,.n .i64 0],.a [.n .i64 0,.n .i64 0,.n .i64 0,.n .i64 0,.n .i64 0,.n .i64 0]],.v (.a [.n .i64 32,.n .i64 32,.n .i64 8,.n .i64 8,.n .i64 0,.n .i64 0]))]
noncomputable def t154:Known:=(154,k154) :: t155
theorem ok154:Known.Ok Tryz.prog t154:=Known.add yJ zG (ok155) (N:=60) (by kernel_rfl)
noncomputable def k153:List (List PV × Ret):=[([.a [.n .i64 16,.n .i64 16,.n .i64 0,.n .i64 0,.n .i64 0,.n .i64 0],.c [.n .i64 65536,.n .i64 65536,.n .i64 0,.n .i64 0,.n .i64 0,.n .i64 0,.n .i64 0,.n .i64 0,.n .i64 65536,.n .i64 65536,.n .i64 0,.n .i64 0,.n .i64 0,.n .i64 0,.n .i64 0,.n .i64 0,.n .i64 65536,.n .i64 65536,.n .i64 0,.n .i64 0,.n .i64 0,.n .i64 0,.n .i64 0,.n .i64 0] 0],.v (.a [.n .i64 16,.n .i64 16,.n .i64 0,.n .i64 0,.n .i64 0,.n .i64 0])),
 ([.a [.n .i64 0,.n .i64 0,.n .i64 0,.n .i64 0,.n .i64 0,.n .i64 0],.c [.n .i64 65536,.n .i64 65536,.n .i64 0,.n .i64 0,.n .i64 0,.n .i64 0,.n .i64 0,.n .i64 0,.n .i64 65536,.n .i64 65536,.n .i64 0,.n .i64 0,.n .i64 0,.n .i64 0,.n .i64 0,.n .i64 0,.n .i64 65536,.n .i64 65536,.n .i64 0,.n .i64 0,.n .i64 0,.n .i64 0,.n .i64 0,.n .i64 0] 0],.v (.a [.n .i64 0,.n .i64 0,.n .i64 0,.n .i64 0,.n .i64 0,.n .i64 0])),
 ([.a [.n .i64 0,.n .i64 0,.n .i64 0,.n .i64 0,.n .i64 0,.n .i64 0],.c [.n .i64 65536,.n .i64 65536,.n .i64 0,.n .i64 0,.n .i64 0,.n .i64 0,.n .i64 0,.n .i64 0,.n .i64 65536,.n .i64 65536,.n .i64 0,.n .i64 0,.n .i64 0,.n .i64 0,.n .i64 0,.n .i64 0,.n .i64 65536,.n .i64 65536,.n .i64 16,.n .i64 16,.n .i64 0,.n .i64 0,.n .i64 0,.n .i64 0] 0],.v (.a [.n .i64 16,.n .i64 16,.n .i64 0,.n .i64 0,.n .i64 0,.n .i64 0])),
 ([.a [.n .i64 32,.n .i64 32,.n .i64 0,.n .i64 0,.n .i64 0,.n .i64 0],.c [.n .i64 65536,.n .i64 65536,.n .i64 0,.n .i64 0,.n .i64 0,.n .i64 0,.n .i64 0,.n .i64 0,.n .i64 65536,.n .i64 65536,.n .i64 0,.n .i64 0,.n .i64 0,.n .i64 0,.n .i64 0,.n .i64 0,.n .i64 65536,.n .i64 65536,.n .i64 0,.n .i64 0,.n .i64 0,.n .i64 0,.n .i64 0,.n .i64 0] 0],.v (.a [.n .i64 32,.n .i64 32,.n .i64 0,.n .i64 0,.n .i64 0,.n .i64 0])),
 ([.a [.n .i64 0,.n .i64 0,.n .i64 8,.n .i64 8,.n .i64 0,.n .i64 0],.c [.n .i64 65536,.n .i64 65536,.n .i64 0,.n .i64 0,.n .i64 0,.n .i64 0,.n .i64 0,.n .i64 0,.n .i64 65536,.n .i64 65536,.n .i64 0,.n .i64 0,.n .i64 0,.n .i64 0,.n .i64 0,.n .i64 0,.n .i64 65536,.n .i64 65536,.n .i64 0,.n .i64 0,.n .i64 0,.n .i64 0,.n .i64 0,.n .i64 0] 0],.v (.a [.n .i64 0,.n .i64 0,.n .i64 8,.n .i64 8,.n .i64 0,.n .i64 0])),
 ([.a [.n .i64 0,.n .i64 0,.n .i64 8,.n .i64 8,.n .i64 0,.n .i64 0],.c [.n .i64 65536,.n .i64 65536,.n .i64 0,.n .i64 0,.n .i64 0,.n .i64 0,.n .i64 0,.n .i64 0,.n .i64 65536,.n .i64 65536,.n .i64 0,.n .i64 0,.n .i64 0,.n .i64 0,.n .i64 0,.n .i64 0,.n .i64 65536,.n .i64 65536,.n .i64 32,.n .i64 32,.n .i64 0,.n .i64 0,.n .i64 0,.n .i64 0] 0],.v (.a [.n .i64 32,.n .i64 32,.n .i64 8,.n .i64 8,.n .i64 0,.n .i64 0])),
 ([.a [.n .i64 0,.n .i64 0,.n .i64 0,.n .i64 0,.n .i64 0,.n .i64 0],.c [.n .i64 65536,.n .i64 65536,.n .i64 0,.n .i64 0,.n .i64 0,.n .i64 0,.n .i64 0,.n .i64 0,.n .i64 65536,.n .i64 65536,.n .i64 0,.n .i64 0,.n .i64 0,.n .i64 0,.n .i64 0,.n .i64 0,.n .i64 65536,.n .i64 65536,.n .i64 32,.n .i64 32,.n .i64 8,.n .i64 8,.n .i64 0,.n .i64 0] 0],.v (.a [.n .i64 32,.n .i64 32,.n .i64 8,.n .i64 8,.n .i64 0,.n .i64 0]))]
noncomputable def t153:Known:=(153,k153) :: t154
theorem ok153:Known.Ok Tryz.prog t153:=Known.add yJ zG (ok154) (N:=60) (by kernel_rfl)
noncomputable def k78:List (List PV × Ret):=[([.a [.n .i64 65536,.n .i64 65536,.n .i64 0,.n .i64 0,.n .i64 0,.n .i64 0,.n .i64 0,.n .i64 0,.n .i64 65536,.n .i64 65536,.n .i64 0,.n .i64 0,.n .i64 0,.n .i64 0,.n .i64 0,.n .i64 0,.n .i64 65536,.n .i64 65536,.n .i64 0,.n .i64 0,.n .i64 0,.n .i64 0,.n .i64 0,.n .i64 0],.a [.n .i64 65536,.n .i64 65536,.n .i64 0,.n .i64 0,.n .i64 0,.n .i64 0,.n .i64 0,.n .i64 0,.n .i64 65536,.n .i64 65536,.n .i64 0,.n .i64 0,.n .i64 0,.n .i64 0,.n .i64 0,.n .i64 0,.n .i64 65536,.n .i64 65536,.n .i64 16,.n .i64 16,.n .i64 0,.n .i64 0,.n .i64 0,.n .i64 0]],.v (.a [.n .i64 65536,.n .i64 65536,.n .i64 0,.n .i64 0,.n .i64 0,.n .i64 0,.n .i64 0,.n .i64 0,.n .i64 65536,.n .i64 65536,.n .i64 0,.n .i64 0,.n .i64 0,.n .i64 0,.n .i64 0,.n .i64 0,.n .i64 65536,.n .i64 65536,.n .i64 16,.n .i64 16,.n .i64 0,.n .i64 0,.n .i64 0,.n .i64 0])),
 ([.a [.n .i64 65536,.n .i64 65536,.n .i64 0,.n .i64 0,.n .i64 0,.n .i64 0,.n .i64 0,.n .i64 0,.n .i64 65536,.n .i64 65536,.n .i64 0,.n .i64 0,.n .i64 0,.n .i64 0,.n .i64 0,.n .i64 0,.n .i64 65536,.n .i64 65536,.n .i64 0,.n .i64 0,.n .i64 0,.n .i64 0,.n .i64 0,.n .i64 0],.a [.n .i64 65536,.n .i64 65536,.n .i64 0,.n .i64 0,.n .i64 0,.n .i64 0,.n .i64 0,.n .i64 0,.n .i64 65536,.n .i64 65536,.n .i64 0,.n .i64 0,.n .i64 0,.n .i64 0,.n .i64 0,.n .i64 0,.n .i64 65536,.n .i64 65536,.n .i64 0,.n .i64 0,.n .i64 0,.n .i64 0,.n .i64 0,.n .i64 0]],.v (.a [.n .i64 65536,.n .i64 65536,.n .i64 0,.n .i64 0,.n .i64 0,.n .i64 0,.n .i64 0,.n .i64 0,.n .i64 65536,.n .i64 65536,.n .i64 0,.n .i64 0,.n .i64 0,.n .i64 0,.n .i64 0,.n .i64 0,.n .i64 65536,.n .i64 65536,.n .i64 0,.n .i64 0,.n .i64 0,.n .i64 0,.n .i64 0,.n .i64 0])),
 ([.a [.n .i64 65536,.n .i64 65536,.n .i64 0,.n .i64 0,.n .i64 0,.n .i64 0,.n .i64 0,.n .i64 0,.n .i64 65536,.n .i64 65536,.n .i64 0,.n .i64 0,.n .i64 0,.n .i64 0,.n .i64 0,.n .i64 0,.n .i64 65536,.n .i64 65536,.n .i64 16,.n .i64 16,.n .i64 0,.n .i64 0,.n .i64 0,.n .i64 0],.a [.n .i64 65536,.n .i64 65536,.n .i64 0,.n .i64 0,.n .i64 0,.n .i64 0,.n .i64 0,.n .i64 0,.n .i64 65536,.n .i64 65536,.n .i64 0,.n .i64 0,.n .i64 0,.n .i64 0,.n .i64 0,.n .i64 0,.n .i64 65536,.n .i64 65536,.n .i64 0,.n .i64 0,.n .i64 0,.n .i64 0,.n .i64 0,.n .i64 0]],.v (.a [.n .i64 65536,.n .i64 65536,.n .i64 0,.n .i64 0,.n .i64 0,.n .i64 0,.n .i64 0,.n .i64 0,.n .i64 65536,.n .i64 65536,.n .i64 0,.n .i64 0,.n .i64 0,.n .i64 0,.n .i64 0,.n .i64 0,.n .i64 65536,.n .i64 65536,.n .i64 16,.n .i64 16,.n .i64 0,.n .i64 0,.n .i64 0,.n .i64 0])),
 ([.a [.n .i64 65536,.n .i64 65536,.n .i64 0,.n .i64 0,.n .i64 0,.n .i64 0,.n .i64 0,.n .i64 0,.n .i64 65536,.n .i64 65536,.n .i64 0,.n .i64 0,.n .i64 0,.n .i64 0,.n .i64 0,.n .i64 0,.n .i64 65536,.n .i64 65536,.n .i64 0,.n .i64 0,.n .i64 0,.n .i64 0,.n .i64 0,.n .i64 0],.a [.n .i64 65536,.n .i64 65536,.n .i64 0,.n .i64 0,.n .i64 0,.n .i64 0,.n .i64 0,.n .i64 0,.n .i64 65536,.n .i64 65536,.n .i64 0,.n .i64 0,.n .i64 0,.n .i64 0,.n .i64 0,.n .i64 0,.n .i64 65536,.n .i64 65536,.n .i64 32,.n .i64 32,.n .i64 0,.n .i64 0,.n .i64 0,.n .i64 0]],.v (.a [.n .i64 65536,.n .i64 65536,.n .i64 0,.n .i64 0,.n .i64 0,.n .i64 0,.n .i64 0,.n .i64 0,.n .i64 65536,.n .i64 65536,.n .i64 0,.n .i64 0,.n .i64 0,.n .i64 0,.n .i64 0,.n .i64 0,.n .i64 65536,.n .i64 65536,.n .i64 32,.n .i64 32,.n .i64 0,.n .i64 0,.n .i64 0,.n .i64 0])),
 ([.a [.n .i64 65536,.n .i64 65536,.n .i64 0,.n .i64 0,.n .i64 0,.n .i64 0,.n .i64 0,.n .i64 0,.n .i64 65536,.n .i64 65536,.n .i64 0,.n .i64 0,.n .i64 0,.n .i64 0,.n .i64 0,.n .i64 0,.n .i64 65536,.n .i64 65536,.n .i64 0,.n .i64 0,.n .i64 0,.n .i64 0,.n .i64 0,.n .i64 0],.a [.n .i64 65536,.n .i64 65536,.n .i64 0,.n .i64 0,.n .i64 0,.n .i64 0,.n .i64 0,.n .i64 0,.n .i64 65536,.n .i64 65536,.n .i64 0,.n .i64 0,.n .i64 0,.n .i64 0,.n .i64 0,.n .i64 0,.n .i64 65536,.n .i64 65536,.n .i64 0,.n .i64 0,.n .i64 8,.n .i64 8,.n .i64 0,.n .i64 0]],.v (.a [.n .i64 65536,.n .i64 65536,.n .i64 0,.n .i64 0,.n .i64 0,.n .i64 0,.n .i64 0,.n .i64 0,.n .i64 65536,.n .i64 65536,.n .i64 0,.n .i64 0,.n .i64 0,.n .i64 0,.n .i64 0,.n .i64 0,.n .i64 65536,.n .i64 65536,.n .i64 0,.n .i64 0,.n .i64 8,.n .i64 8,.n .i64 0,.n .i64 0])),
 ([.a [.n .i64 65536,.n .i64 65536,.n .i64 0,.n .i64 0,.n .i64 0,.n .i64 0,.n .i64 0,.n .i64 0,.n .i64 65536,.n .i64 65536,.n .i64 0,.n .i64 0,.n .i64 0,.n .i64 0,.n .i64 0,.n .i64 0,.n .i64 65536,.n .i64 65536,.n .i64 32,.n .i64 32,.n .i64 0,.n .i64 0,.n .i64 0,.n .i64 0],.a [.n .i64 65536,.n .i64 65536,.n .i64 0,.n .i64 0,.n .i64 0,.n .i64 0,.n .i64 0,.n .i64 0,.n .i64 65536,.n .i64 65536,.n .i64 0,.n .i64 0,.n .i64 0,.n .i64 0,.n .i64 0,.n .i64 0,.n .i64 65536,.n .i64 65536,.n .i64 0,.n .i64 0,.n .i64 8,.n .i64 8,.n .i64 0,.n .i64 0]],.v (.a [.n .i64 65536,.n .i64 65536,.n .i64 0,.n .i64 0,.n .i64 0,.n .i64 0,.n .i64 0,.n .i64 0,.n .i64 65536,.n .i64 65536,.n .i64 0,.n .i64 0,.n .i64 0,.n .i64 0,.n .i64 0,.n .i64 0,.n .i64 65536,.n .i64 65536,.n .i64 32,.n .i64 32,.n .i64 8,.n .i64 8,.n .i64 0,.n .i64 0]))]
noncomputable def t78:Known:=(78,k78) :: t153
theorem ok78:Known.Ok Tryz.prog t78:=Known.add yJ zG (ok153) (N:=60) (by kernel_rfl)
noncomputable def k33:List (List PV × Ret):=[([.a [.s (ByteArray.mk #[97]),.n .i64 4,.n .i64 (-1),.n .i64 0,.n .i64 0,.n .i64 0,.n .i64 0,.n .i64 64,.n .i64 1,.n .i64 65536,.n .i64 65536,.n .i64 65536],.a [.n .i64 16,.n .i64 16]],.v (.a [.n .i64 65536,.n .i64 65536,.n .i64 0,.n .i64 0,.n .i64 0,.n .i64 0,.n .i64 0,.n .i64 0,.n .i64 65536,.n .i64 65536,.n .i64 0,.n .i64 0,.n .i64 0,.n .i64 0,.n .i64 0,.n .i64 0,.n .i64 65536,.n .i64 65536,.n .i64 16,.n .i64 16,.n .i64 0,.n .i64 0,.n .i64 0,.n .i64 0])),
 ([.a [.s (ByteArray.mk #[98]),.n .i64 5,.n .i64 0,.n .i64 0,.n .i64 0,.n .i64 0,.n .i64 0,.n .i64 64,.n .i64 1,.n .i64 65536,.n .i64 65536,.n .i64 65536],.a [.n .i64 0,.n .i64 0]],.v (.a [.n .i64 65536,.n .i64 65536,.n .i64 0,.n .i64 0,.n .i64 0,.n .i64 0,.n .i64 0,.n .i64 0,.n .i64 65536,.n .i64 65536,.n .i64 0,.n .i64 0,.n .i64 0,.n .i64 0,.n .i64 0,.n .i64 0,.n .i64 65536,.n .i64 65536,.n .i64 0,.n .i64 0,.n .i64 0,.n .i64 0,.n .i64 0,.n .i64 0])),
 ([.a [.s (ByteArray.mk #[97]),.n .i64 4,.n .i64 (-1),.n .i64 0,.n .i64 0,.n .i64 0,.n .i64 0,.n .i64 64,.n .i64 1,.n .i64 65536,.n .i64 65536,.n .i64 65536],.a [.n .i64 32,.n .i64 32]],.v (.a [.n .i64 65536,.n .i64 65536,.n .i64 0,.n .i64 0,.n .i64 0,.n .i64 0,.n .i64 0,.n .i64 0,.n .i64 65536,.n .i64 65536,.n .i64 0,.n .i64 0,.n .i64 0,.n .i64 0,.n .i64 0,.n .i64 0,.n .i64 65536,.n .i64 65536,.n .i64 32,.n .i64 32,.n .i64 0,.n .i64 0,.n .i64 0,.n .i64 0])),
 ([.a [.s (ByteArray.mk #[98]),.n .i64 5,.n .i64 0,.n .i64 0,.n .i64 0,.n .i64 0,.n .i64 0,.n .i64 64,.n .i64 1,.n .i64 65536,.n .i64 65536,.n .i64 65536],.a [.n .i64 8,.n .i64 8]],.v (.a [.n .i64 65536,.n .i64 65536,.n .i64 0,.n .i64 0,.n .i64 0,.n .i64 0,.n .i64 0,.n .i64 0,.n .i64 65536,.n .i64 65536,.n .i64 0,.n .i64 0,.n .i64 0,.n .i64 0,.n .i64 0,.n .i64 0,.n .i64 65536,.n .i64 65536,.n .i64 0,.n .i64 0,.n .i64 8,.n .i64 8,.n .i64 0,.n .i64 0]))]
noncomputable def t33:Known:=(33,k33) :: t78
theorem ok33:Known.Ok Tryz.prog t33:=Known.add yJ zG (ok78) (N:=60) (by kernel_rfl)
noncomputable def k86:List (List PV × Ret):=[([.a [.l [[.s (ByteArray.mk #[97]),.n .i64 4,.n .i64 (-1),.n .i64 0,.n .i64 0,.n .i64 0,.n .i64 0,.n .i64 64,.n .i64 1,.n .i64 65536,.n .i64 65536,.n .i64 65536],[.s (ByteArray.mk #[98]),.n .i64 5,.n .i64 0,.n .i64 0,.n .i64 0,.n .i64 0,.n .i64 0,.n .i64 64,.n .i64 1,.n .i64 65536,.n .i64 65536,.n .i64 65536]],.l []],.l [[.n .i64 16,.n .i64 16],[.n .i64 0,.n .i64 0]]],.ow 68 24 (.l [[.n .i64 65536,.n .i64 65536,.n .i64 0,.n .i64 0,.n .i64 0,.n .i64 0,.n .i64 0,.n .i64 0,.n .i64 65536,.n .i64 65536,.n .i64 0,.n .i64 0,.n .i64 0,.n .i64 0,.n .i64 0,.n .i64 0,.n .i64 65536,.n .i64 65536,.n .i64 16,.n .i64 16,.n .i64 0,.n .i64 0,.n .i64 0,.n .i64 0],[.n .i64 65536,.n .i64 65536,.n .i64 0,.n .i64 0,.n .i64 0,.n .i64 0,.n .i64 0,.n .i64 0,.n .i64 65536,.n .i64 65536,.n .i64 0,.n .i64 0,.n .i64 0,.n .i64 0,.n .i64 0,.n .i64 0,.n .i64 65536,.n .i64 65536,.n .i64 16,.n .i64 16,.n .i64 0,.n .i64 0,.n .i64 0,.n .i64 0]])),
 ([.a [.l [[.s (ByteArray.mk #[97]),.n .i64 4,.n .i64 (-1),.n .i64 0,.n .i64 0,.n .i64 0,.n .i64 0,.n .i64 64,.n .i64 1,.n .i64 65536,.n .i64 65536,.n .i64 65536],[.s (ByteArray.mk #[98]),.n .i64 5,.n .i64 0,.n .i64 0,.n .i64 0,.n .i64 0,.n .i64 0,.n .i64 64,.n .i64 1,.n .i64 65536,.n .i64 65536,.n .i64 65536]],.l []],.l [[.n .i64 32,.n .i64 32],[.n .i64 8,.n .i64 8]]],.ow 68 24 (.l [[.n .i64 65536,.n .i64 65536,.n .i64 0,.n .i64 0,.n .i64 0,.n .i64 0,.n .i64 0,.n .i64 0,.n .i64 65536,.n .i64 65536,.n .i64 0,.n .i64 0,.n .i64 0,.n .i64 0,.n .i64 0,.n .i64 0,.n .i64 65536,.n .i64 65536,.n .i64 32,.n .i64 32,.n .i64 0,.n .i64 0,.n .i64 0,.n .i64 0],[.n .i64 65536,.n .i64 65536,.n .i64 0,.n .i64 0,.n .i64 0,.n .i64 0,.n .i64 0,.n .i64 0,.n .i64 65536,.n .i64 65536,.n .i64 0,.n .i64 0,.n .i64 0,.n .i64 0,.n .i64 0,.n .i64 0,.n .i64 65536,.n .i64 65536,.n .i64 32,.n .i64 32,.n .i64 8,.n .i64 8,.n .i64 0,.n .i64 0]]))]
noncomputable def t86:Known:=(86,k86) :: t33
theorem ok86:Known.Ok Tryz.prog t86:=Known.add yJ zG (ok33) (N:=60) (by kernel_rfl)
noncomputable def k38:List (List PV × Ret):=[([.a [.l [[.s (ByteArray.mk #[97]),.n .i64 4,.n .i64 (-1),.n .i64 0,.n .i64 0,.n .i64 0,.n .i64 0,.n .i64 64,.n .i64 1,.n .i64 65536,.n .i64 65536,.n .i64 65536],[.s (ByteArray.mk #[98]),.n .i64 5,.n .i64 0,.n .i64 0,.n .i64 0,.n .i64 0,.n .i64 0,.n .i64 64,.n .i64 1,.n .i64 65536,.n .i64 65536,.n .i64 65536]],.l []],.l [[.n .i64 16,.n .i64 16],[.n .i64 0,.n .i64 0]]],.v (.l [[.n .i64 65536,.n .i64 65536,.n .i64 0,.n .i64 0,.n .i64 0,.n .i64 0,.n .i64 0,.n .i64 0,.n .i64 65536,.n .i64 65536,.n .i64 0,.n .i64 0,.n .i64 0,.n .i64 0,.n .i64 0,.n .i64 0,.n .i64 65536,.n .i64 65536,.n .i64 16,.n .i64 16,.n .i64 0,.n .i64 0,.n .i64 0,.n .i64 0],[.n .i64 65536,.n .i64 65536,.n .i64 0,.n .i64 0,.n .i64 0,.n .i64 0,.n .i64 0,.n .i64 0,.n .i64 65536,.n .i64 65536,.n .i64 0,.n .i64 0,.n .i64 0,.n .i64 0,.n .i64 0,.n .i64 0,.n .i64 65536,.n .i64 65536,.n .i64 16,.n .i64 16,.n .i64 0,.n .i64 0,.n .i64 0,.n .i64 0]])),
 ([.a [.l [[.s (ByteArray.mk #[97]),.n .i64 4,.n .i64 (-1),.n .i64 0,.n .i64 0,.n .i64 0,.n .i64 0,.n .i64 64,.n .i64 1,.n .i64 65536,.n .i64 65536,.n .i64 65536],[.s (ByteArray.mk #[98]),.n .i64 5,.n .i64 0,.n .i64 0,.n .i64 0,.n .i64 0,.n .i64 0,.n .i64 64,.n .i64 1,.n .i64 65536,.n .i64 65536,.n .i64 65536]],.l []],.l [[.n .i64 32,.n .i64 32],[.n .i64 8,.n .i64 8]]],.v (.l [[.n .i64 65536,.n .i64 65536,.n .i64 0,.n .i64 0,.n .i64 0,.n .i64 0,.n .i64 0,.n .i64 0,.n .i64 65536,.n .i64 65536,.n .i64 0,.n .i64 0,.n .i64 0,.n .i64 0,.n .i64 0,.n .i64 0,.n .i64 65536,.n .i64 65536,.n .i64 32,.n .i64 32,.n .i64 0,.n .i64 0,.n .i64 0,.n .i64 0],[.n .i64 65536,.n .i64 65536,.n .i64 0,.n .i64 0,.n .i64 0,.n .i64 0,.n .i64 0,.n .i64 0,.n .i64 65536,.n .i64 65536,.n .i64 0,.n .i64 0,.n .i64 0,.n .i64 0,.n .i64 0,.n .i64 0,.n .i64 65536,.n .i64 65536,.n .i64 32,.n .i64 32,.n .i64 8,.n .i64 8,.n .i64 0,.n .i64 0]]))]
noncomputable def t38:Known:=(38,k38) :: t86
theorem ok38:Known.Ok Tryz.prog t38:=Known.add yJ zG (ok86) (N:=60) (by kernel_rfl)
noncomputable def k73:List (List PV × Ret):=[([.a [.n .i64 65536,.n .i64 65536,.n .i64 0,.n .i64 0,.n .i64 0,.n .i64 0,.n .i64 0,.n .i64 0,.n .i64 65536,.n .i64 65536,.n .i64 0,.n .i64 0,.n .i64 0,.n .i64 0,.n .i64 0,.n .i64 0,.n .i64 65536,.n .i64 65536,.n .i64 16,.n .i64 16,.n .i64 0,.n .i64 0,.n .i64 0,.n .i64 0],.a [.n .i64 0,.n .i64 0,.n .i64 0,.n .i64 0,.n .i64 0,.n .i64 0]],.v (.a [.n .i64 16,.n .i64 16,.n .i64 0,.n .i64 0,.n .i64 0,.n .i64 0])),
 ([.a [.n .i64 65536,.n .i64 65536,.n .i64 0,.n .i64 0,.n .i64 0,.n .i64 0,.n .i64 0,.n .i64 0,.n .i64 65536,.n .i64 65536,.n .i64 0,.n .i64 0,.n .i64 0,.n .i64 0,.n .i64 0,.n .i64 0,.n .i64 65536,.n .i64 65536,.n .i64 32,.n .i64 32,.n .i64 8,.n .i64 8,.n .i64 0,.n .i64 0],.a [.n .i64 0,.n .i64 0,.n .i64 0,.n .i64 0,.n .i64 0,.n .i64 0]],.v (.a [.n .i64 32,.n .i64 32,.n .i64 8,.n .i64 8,.n .i64 0,.n .i64 0]))]
noncomputable def t73:Known:=(73,k73) :: t38
theorem ok73:Known.Ok Tryz.prog t73:=Known.add yJ zG (ok38) (N:=60) (by kernel_rfl)
noncomputable def k24:List (List PV × Ret):=[([.a [.l [[.s (ByteArray.mk #[97]),.n .i64 4,.n .i64 (-1),.n .i64 0,.n .i64 0,.n .i64 0,.n .i64 0,.n .i64 64,.n .i64 1,.n .i64 65536,.n .i64 65536,.n .i64 65536],[.s (ByteArray.mk #[98]),.n .i64 5,.n .i64 0,.n .i64 0,.n .i64 0,.n .i64 0,.n .i64 0,.n .i64 64,.n .i64 1,.n .i64 65536,.n .i64 65536,.n .i64 65536]],.l [],.l [],.l [],.l [[.s (ByteArray.mk #[111]),.l [[.n .i64 0,.n .i64 1,.l [[.n .i64 1,.n .i64 2,.n .i64 3]]]]]],.l [[.n .i64 16,.n .i64 0,.n .i64 0],[.n .i64 32,.n .i64 8,.n .i64 0]],.l [[.n .i64 1,.n .i64 0,.n .i64 0,.n .i64 0]],.l [],.n .i64 0],.n .i64 0,.n .i64 0,.l [[.n .i64 16],[.n .i64 0]]],.v (.b true)),
 ([.a [.l [[.s (ByteArray.mk #[97]),.n .i64 4,.n .i64 (-1),.n .i64 0,.n .i64 0,.n .i64 0,.n .i64 0,.n .i64 64,.n .i64 1,.n .i64 65536,.n .i64 65536,.n .i64 65536],[.s (ByteArray.mk #[98]),.n .i64 5,.n .i64 0,.n .i64 0,.n .i64 0,.n .i64 0,.n .i64 0,.n .i64 64,.n .i64 1,.n .i64 65536,.n .i64 65536,.n .i64 65536]],.l [],.l [],.l [],.l [[.s (ByteArray.mk #[111]),.l [[.n .i64 0,.n .i64 1,.l [[.n .i64 1,.n .i64 2,.n .i64 3]]]]]],.l [[.n .i64 16,.n .i64 0,.n .i64 0],[.n .i64 32,.n .i64 8,.n .i64 0]],.l [[.n .i64 1,.n .i64 0,.n .i64 0,.n .i64 0]],.l [],.n .i64 0],.n .i64 0,.n .i64 1,.l [[.n .i64 32],[.n .i64 8]]],.v (.b true))]
noncomputable def t24:Known:=(24,k24) :: t73
theorem ok24:Known.Ok Tryz.prog t24:=Known.add yJ zG (ok73) (N:=60) (by kernel_rfl)
noncomputable def k44:List (List PV × Ret):=[([.a [.l [[.s (ByteArray.mk #[97]),.n .i64 4,.n .i64 (-1),.n .i64 0,.n .i64 0,.n .i64 0,.n .i64 0,.n .i64 64,.n .i64 1,.n .i64 65536,.n .i64 65536,.n .i64 65536],[.s (ByteArray.mk #[98]),.n .i64 5,.n .i64 0,.n .i64 0,.n .i64 0,.n .i64 0,.n .i64 0,.n .i64 64,.n .i64 1,.n .i64 65536,.n .i64 65536,.n .i64 65536]],.l [],.l [],.l [],.l [[.s (ByteArray.mk #[111]),.l [[.n .i64 0,.n .i64 1,.l [[.n .i64 1,.n .i64 2,.n .i64 3]]]]]],.l [[.n .i64 16,.n .i64 0,.n .i64 0],[.n .i64 32,.n .i64 8,.n .i64 0]],.l [[.n .i64 1,.n .i64 0,.n .i64 0,.n .i64 0]],.l [],.n .i64 0],.a [.l [[.n .i64 0]]],.l [[.n .i64 16],[.n .i64 0]],.n .i64 0,.n .i64 0],.v (.t [.a [.l [[.n .i64 (-1)]]],.b true]))]
noncomputable def t44:Known:=(44,k44) :: t24
theorem ok44:Known.Ok Tryz.prog t44:=Known.add yJ zG (ok24) (N:=60) (by kernel_rfl)
noncomputable def k45:List (List PV × Ret):=[([.a [.l [[.s (ByteArray.mk #[97]),.n .i64 4,.n .i64 (-1),.n .i64 0,.n .i64 0,.n .i64 0,.n .i64 0,.n .i64 64,.n .i64 1,.n .i64 65536,.n .i64 65536,.n .i64 65536],[.s (ByteArray.mk #[98]),.n .i64 5,.n .i64 0,.n .i64 0,.n .i64 0,.n .i64 0,.n .i64 0,.n .i64 64,.n .i64 1,.n .i64 65536,.n .i64 65536,.n .i64 65536]],.l [],.l [],.l [],.l [[.s (ByteArray.mk #[111]),.l [[.n .i64 0,.n .i64 1,.l [[.n .i64 1,.n .i64 2,.n .i64 3]]]]]],.l [[.n .i64 16,.n .i64 0,.n .i64 0],[.n .i64 32,.n .i64 8,.n .i64 0]],.l [[.n .i64 1,.n .i64 0,.n .i64 0,.n .i64 0]],.l [],.n .i64 0],.a [.l [[.n .i64 (-1)]]],.l [[.n .i64 32],[.n .i64 8]],.n .i64 0,.n .i64 1],.v (.t [.a [.l [[.n .i64 1]]],.b true]))]
noncomputable def t45:Known:=(45,k45) :: t44
theorem ok45:Known.Ok Tryz.prog t45:=Known.add yJ zG (ok44) (N:=60) (by kernel_rfl)
noncomputable def k46:List (List PV × Ret):=[([.a [.l [[.s (ByteArray.mk #[97]),.n .i64 4,.n .i64 (-1),.n .i64 0,.n .i64 0,.n .i64 0,.n .i64 0,.n .i64 64,.n .i64 1,.n .i64 65536,.n .i64 65536,.n .i64 65536],[.s (ByteArray.mk #[98]),.n .i64 5,.n .i64 0,.n .i64 0,.n .i64 0,.n .i64 0,.n .i64 0,.n .i64 64,.n .i64 1,.n .i64 65536,.n .i64 65536,.n .i64 65536]],.l [],.l [],.l [],.l [[.s (ByteArray.mk #[111]),.l [[.n .i64 0,.n .i64 1,.l [[.n .i64 1,.n .i64 2,.n .i64 3]]]]]],.l [[.n .i64 16,.n .i64 0,.n .i64 0],[.n .i64 32,.n .i64 8,.n .i64 0]],.l [[.n .i64 1,.n .i64 0,.n .i64 0,.n .i64 0]],.l [],.n .i64 0],.a [.l [[.n .i64 (-1)]]]],.v (.t [.a [.l [[.s (ByteArray.mk #[97]),.n .i64 4,.n .i64 (-1),.n .i64 0,.n .i64 0,.n .i64 0,.n .i64 0,.n .i64 64,.n .i64 1,.n .i64 65536,.n .i64 65536,.n .i64 65536],[.s (ByteArray.mk #[98]),.n .i64 5,.n .i64 0,.n .i64 0,.n .i64 0,.n .i64 0,.n .i64 0,.n .i64 64,.n .i64 1,.n .i64 65536,.n .i64 65536,.n .i64 65536]],.l [],.l [[.n .i64 1,.n .i64 1,.l [[.n .i64 1,.n .i64 2,.n .i64 3]]]],.l []],.n .i64 0]))]
noncomputable def t46:Known:=(46,k46) :: t45
theorem ok46:Known.Ok Tryz.prog t46:=Known.add yJ zG (ok45) (N:=60) (by kernel_rfl)
theorem call:yK Tryz.prog 13 [] (.v (.b true)):=qKJ (N:=60) yJ zG (Known.ok (ok46)) (by kernel_rfl:run T (Known.orc t46) 60 13 []=some (.v (.b true)))
end Go.Proofs.YtgmbkkkbfbocnaaGreat.Ag
namespace Go.Rx
open Go.RowKit Go.Sx Go.ChangeShapes Go.WideShapes
section
variable {P:Program} {W:World} {H:Type} {enc:TypeId × Value→H}
def jQX (W:World) (v:Value) (L:List Int):Prop:=RP (fun k=>k < W.heap.size) W (yGG L) v∧L.length≤9223372036854775807∧∀ x ∈ L,In64 x
theorem jKQ {t e:TypeId} {v:Value} {d:DataW H} {p:List MemPlace} (ht:P.underlying t=some (.slice e)) (he:P.underlying e=some (.int .i64)) (hc:P.cellsOf e=1)
  {r:Reach} {base:Nat} (hv:Value.okWide P W r base t v) (h:DataW.Trod enc P W 0 (fun _=>true) true t v d p):∃ L:List Int,jQX W v L:=by
 obtain ⟨a,l,c,rfl⟩:=slice_of ht hv;obtain ⟨fuel,h⟩:=h;have h':DataW.trod enc P W 0 (fun _=>true) true fuel t [.slice a l c]=some (d,p):=h;rcases open_ints ht he hc h' with ⟨h1,_⟩ | ⟨a',len,cap,zs,h1,_,hlc,hcap,hz,_,hcell,hwf⟩
 ·simp at h1;obtain ⟨rfl,rfl,rfl⟩:=h1;exact ⟨[],.l0 none 0,by simp,fun x hx=>by cases hx⟩
 ·simp at h1;obtain ⟨rfl,rfl,rfl⟩:=h1;simp only [if_true] at hz;have hlen:(zs.take l).length=l:=by simp; omega
  have hI:IntsAt W W.heap.size (.slice (some a') l c) (zs.take l):=⟨by have:maxLen=9223372036854775807:=rfl; omega,some a',c,by rw [hlen],fun j hj=>by
   rw [hlen] at hj;have h0:=hcell 0 (by omega);have hj':=hcell j (by omega);have hsp:a'.spot=none:=by
    have e:a'.add 0=a':=by simp [Addr.add]
    rw [e] at h0;unfold World.cell? at h0;cases hb:W.heap[a'.block]? with
    | none=>simp [hb] at h0
    | some o=>cases o <;> simp [hb] at h0; exact h0.1
   obtain ⟨bb,off,sp⟩:=a';simp only at hsp;subst hsp;rw [qZG] at hj';refine ⟨bb,off,rfl,?_,?_⟩
   ·unfold World.cell? at hj';cases hb:W.heap[bb]? with
    | none=>simp [hb] at hj'
    | some o=>exact qZY hb
   ·rw [hj'];simp [vZG,vZV,hj]⟩
  refine ⟨zs.take l,?_,hI.1,fun x hx => ?_⟩
  ·have:=rp_of_ints (F:=fun k=>k < W.heap.size) (w:=W) (L:=zs.take l) (a:=some a') (c:=c) (by rw [hlen]; exact hI) (by rw [hlen]; exact hlc) fun k hk=>hk
   rw [hlen] at this;exact this
  ·have:=hwf x (List.mem_of_mem_take hx)
   simpa [Lit.wf,IntKind.has,IntKind.min,IntKind.max,IntKind.signed,IntKind.bits,In64] using this
end
end Go.Rx
namespace Go.Proofs.YtgmbkkkbfbocnaaGreat
open Go.Rx Go.Sx Go.RowKit Od Nb Nx Ga Ha Hc
theorem wGraspMoves (v0:Value) (ws0:Wsp) (o0:okW ws0) (v1:Value) (k1:Nat) (q1:Nat→Int) (v2:Value) (L2:List Int) (a3:Int) (a4:Int) (v5:Value) (L5:List Int) (v6:Value) (L6:List Int) (a7:Int) (a8:Int) (a9:Int) (W:World) (h0:RP (fun k=>k < W.heap.size) W (.a (wP ws0)) v0) (h1:RP (fun k=>k < W.heap.size) W (.a [.lf k1 (fQ q1)]) v1) (h2:jQX W v2 L2) (h5:jQX W v5 L5) (h6:jQX W v6 L6):Calls Tryz.prog 7 #[v0,v1,v2,.int .i64 a3,.int .i64 a4,v5,v6,.int .i64 a7,.int .i64 a8,.int .i64 a9] W (Rets (.bool true) W) :=
 zZG (Hs.snd_law Ag.call ws0 o0 k1 q1 L2 h2.2.1 a3 a4 L5 h5.2.1 L6 h6.2.1 a7 a8 a9) rfl (qJZ h0 (qJZ h1 (qJZ h2.1 (qJZ (.n _ _) (qJZ (.n _ _) (qJZ h5.1 (qJZ h6.1 (qJZ (.n _ _) (qJZ (.n _ _) (qJZ (.n _ _) zKY))))))))))
end Go.Proofs.YtgmbkkkbfbocnaaGreat

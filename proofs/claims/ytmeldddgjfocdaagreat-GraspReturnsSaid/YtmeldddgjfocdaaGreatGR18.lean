/- Part 18 of the texts behind the last one: rules and contracts. No condition. -/
import Derived.Test.YtmeldddgjfocdaaGreatGR17
open List renaming getElem?_take → vZV, getD_eq_getElem?_getD → vZG, mem_cons → vYZ
namespace Go.Proofs.YtmeldddgjfocdaaGreat.Ag
open Go.Rx Rt
theorem cl85:yK Tryz.prog 85 [.l []] (.v (.l [])):=jYE (qYU (N:=60) yJ zV qGL (by kernel_rfl)) (yKJ (e:=134) (sz:=5) (qYU (N:=60) yJ zV qGL (by kernel_rfl)))
theorem cl87:yK Tryz.prog 87 [.l []] (.v (.l [])):=jYE (qYU (N:=60) yJ zV qGL (by kernel_rfl)) (yKJ (e:=103) (sz:=2) (qYU (N:=60) yJ zV qGL (by kernel_rfl)))
noncomputable def tC:Known:=[(85,[([.l []],.v (.l []))]),(87,[([.l []],.v (.l []))])]
theorem okC:Known.Ok Tryz.prog tC:=by
 intro x hx y hy;simp only [tC,vYZ,List.not_mem_nil,or_false] at hx;rcases hx with rfl | rfl
 ·simp only [vYZ,List.not_mem_nil,or_false] at hy;subst hy;exact cl85
 ·simp only [vYZ,List.not_mem_nil,or_false] at hy;subst hy;exact cl87
noncomputable def k112:List (List PV × Ret):=[([.n .i32 97],.v (.b true)),
 ([.n .i32 98],.v (.b true)),
 ([.n .i32 111],.v (.b true))]
noncomputable def t112:Known:=(112,k112) :: tC
theorem fQX:Known.Ok Tryz.prog t112:=Known.add yJ zV (okC) (N:=60) (by kernel_rfl)
noncomputable def k61:List (List PV × Ret):=[([.s (ByteArray.mk #[97])],.v (.b true)),
 ([.s (ByteArray.mk #[98])],.v (.b true)),
 ([.s (ByteArray.mk #[111])],.v (.b true))]
noncomputable def t61:Known:=(61,k61) :: t112
theorem ok61:Known.Ok Tryz.prog t61:=Known.add yJ zV (fQX) (N:=60) (by kernel_rfl)
noncomputable def k168:List (List PV × Ret):=[([.a [.l [[.s (ByteArray.mk #[97]),.n .i64 4,.n .i64 (-1),.n .i64 0,.n .i64 0,.n .i64 0,.n .i64 0,.n .i64 64,.n .i64 1,.n .i64 65536,.n .i64 65536,.n .i64 65536],[.s (ByteArray.mk #[98]),.n .i64 5,.n .i64 0,.n .i64 0,.n .i64 0,.n .i64 0,.n .i64 0,.n .i64 64,.n .i64 1,.n .i64 65536,.n .i64 65536,.n .i64 65536]],.l []],.s (ByteArray.mk #[97])],.v (.n .i64 0)),
 ([.a [.l [[.s (ByteArray.mk #[97]),.n .i64 4,.n .i64 (-1),.n .i64 0,.n .i64 0,.n .i64 0,.n .i64 0,.n .i64 64,.n .i64 1,.n .i64 65536,.n .i64 65536,.n .i64 65536],[.s (ByteArray.mk #[98]),.n .i64 5,.n .i64 0,.n .i64 0,.n .i64 0,.n .i64 0,.n .i64 0,.n .i64 64,.n .i64 1,.n .i64 65536,.n .i64 65536,.n .i64 65536]],.l []],.s (ByteArray.mk #[98])],.v (.n .i64 1))]
noncomputable def t168:Known:=(168,k168) :: t61
theorem xHW:Known.Ok Tryz.prog t168:=Known.add yJ zV (ok61) (N:=60) (by kernel_rfl)
noncomputable def k169:List (List PV × Ret):=[([.a [.n .i64 0,.n .i64 0,.n .i64 0]],.v (.b false))]
noncomputable def t169:Known:=(169,k169) :: t168
theorem xHX:Known.Ok Tryz.prog t169:=Known.add yJ zV (xHW) (N:=60) (by kernel_rfl)
noncomputable def k170:List (List PV × Ret):=[([.n .i64 4],.v (.n .i64 4194304)),
 ([.n .i64 5],.v (.n .i64 4194304))]
noncomputable def t170:Known:=(170,k170) :: t169
theorem xHU:Known.Ok Tryz.prog t170:=Known.add yJ zV (xHX) (N:=60) (by kernel_rfl)
noncomputable def k171:List (List PV × Ret):=[([.n .i64 1,.n .i64 1024],.v (.b true)),
 ([.n .i64 65536,.n .i64 1048576],.v (.b true)),
 ([.n .i64 65536,.n .i64 1099511627776],.v (.b true))]
noncomputable def t171:Known:=(171,k171) :: t170
theorem xHK:Known.Ok Tryz.prog t171:=Known.add yJ zV (xHU) (N:=60) (by kernel_rfl)
noncomputable def k146:List (List PV × Ret):=[([.a [.l [[.s (ByteArray.mk #[97]),.n .i64 4,.n .i64 (-1),.n .i64 0,.n .i64 0,.n .i64 0,.n .i64 0,.n .i64 64,.n .i64 1,.n .i64 65536,.n .i64 65536,.n .i64 65536],[.s (ByteArray.mk #[98]),.n .i64 5,.n .i64 0,.n .i64 0,.n .i64 0,.n .i64 0,.n .i64 0,.n .i64 64,.n .i64 1,.n .i64 65536,.n .i64 65536,.n .i64 65536]],.l []],.n .i64 0],.v (.n .i64 0)),
 ([.a [.l [[.s (ByteArray.mk #[97]),.n .i64 4,.n .i64 (-1),.n .i64 0,.n .i64 0,.n .i64 0,.n .i64 0,.n .i64 64,.n .i64 1,.n .i64 65536,.n .i64 65536,.n .i64 65536],[.s (ByteArray.mk #[98]),.n .i64 5,.n .i64 0,.n .i64 0,.n .i64 0,.n .i64 0,.n .i64 0,.n .i64 64,.n .i64 1,.n .i64 65536,.n .i64 65536,.n .i64 65536]],.l []],.n .i64 1],.v (.n .i64 0))]
noncomputable def t146:Known:=(146,k146) :: t171
theorem xHF:Known.Ok Tryz.prog t146:=Known.add yJ zV (xHK) (N:=60) (by kernel_rfl)
noncomputable def k104:List (List PV × Ret):=[([.a [.l [[.s (ByteArray.mk #[97]),.n .i64 4,.n .i64 (-1),.n .i64 0,.n .i64 0,.n .i64 0,.n .i64 0,.n .i64 64,.n .i64 1,.n .i64 65536,.n .i64 65536,.n .i64 65536],[.s (ByteArray.mk #[98]),.n .i64 5,.n .i64 0,.n .i64 0,.n .i64 0,.n .i64 0,.n .i64 0,.n .i64 64,.n .i64 1,.n .i64 65536,.n .i64 65536,.n .i64 65536]],.l []]],.v (.n .i64 0))]
noncomputable def t104:Known:=(104,k104) :: t146
theorem fQG:Known.Ok Tryz.prog t104:=Known.add yJ zV (xHF) (N:=60) (by kernel_rfl)
noncomputable def k58:List (List PV × Ret):=[([.a [.l [[.s (ByteArray.mk #[97]),.n .i64 4,.n .i64 (-1),.n .i64 0,.n .i64 0,.n .i64 0,.n .i64 0,.n .i64 64,.n .i64 1,.n .i64 65536,.n .i64 65536,.n .i64 65536],[.s (ByteArray.mk #[98]),.n .i64 5,.n .i64 0,.n .i64 0,.n .i64 0,.n .i64 0,.n .i64 0,.n .i64 64,.n .i64 1,.n .i64 65536,.n .i64 65536,.n .i64 65536]],.l [],.l [],.l []]],.v (.n .i64 0))]
noncomputable def t58:Known:=(58,k58) :: t104
theorem ok58:Known.Ok Tryz.prog t58:=Known.add yJ zV (fQG) (N:=60) (by kernel_rfl)
noncomputable def k111:List (List PV × Ret):=[([.a [.n .i64 16,.n .i64 0,.n .i64 0]],.v (.b true)),
 ([.a [.n .i64 32,.n .i64 8,.n .i64 0]],.v (.b true)),
 ([.a [.n .i64 0,.n .i64 0,.n .i64 0]],.v (.b true)),
 ([.a [.n .i64 1,.n .i64 2,.n .i64 3]],.v (.b true))]
noncomputable def t111:Known:=(111,k111) :: t58
theorem fQW:Known.Ok Tryz.prog t111:=Known.add yJ zV (ok58) (N:=60) (by kernel_rfl)
noncomputable def k59:List (List PV × Ret):=[([.a [.l [[.s (ByteArray.mk #[97]),.n .i64 4,.n .i64 (-1),.n .i64 0,.n .i64 0,.n .i64 0,.n .i64 0,.n .i64 64,.n .i64 1,.n .i64 65536,.n .i64 65536,.n .i64 65536],[.s (ByteArray.mk #[98]),.n .i64 5,.n .i64 0,.n .i64 0,.n .i64 0,.n .i64 0,.n .i64 0,.n .i64 64,.n .i64 1,.n .i64 65536,.n .i64 65536,.n .i64 65536]],.l [],.l [],.l [],.l [[.s (ByteArray.mk #[111]),.l [[.n .i64 0,.n .i64 1,.l [[.n .i64 1,.n .i64 2,.n .i64 3]]]]]],.l [[.n .i64 16,.n .i64 0,.n .i64 0],[.n .i64 32,.n .i64 8,.n .i64 0]],.l [[.n .i64 1,.n .i64 0,.n .i64 0,.n .i64 0]],.l [],.n .i64 0]],.v (.b true))]
noncomputable def t59:Known:=(59,k59) :: t111
theorem ok59:Known.Ok Tryz.prog t59:=Known.add yJ zV (fQW) (N:=60) (by kernel_rfl)
noncomputable def k115:List (List PV × Ret):=[([.a [.n .i64 0,.n .i64 1,.l [[.n .i64 1,.n .i64 2,.n .i64 3]]]],.v (.b true))]
noncomputable def t115:Known:=(115,k115) :: t59
theorem fQU:Known.Ok Tryz.prog t115:=Known.add yJ zV (ok59) (N:=60) (by kernel_rfl)
noncomputable def k63:List (List PV × Ret):=[([.a [.s (ByteArray.mk #[111]),.l [[.n .i64 0,.n .i64 1,.l [[.n .i64 1,.n .i64 2,.n .i64 3]]]]]],.v (.b true))]
noncomputable def t63:Known:=(63,k63) :: t115
theorem ok63:Known.Ok Tryz.prog t63:=Known.add yJ zV (fQU) (N:=60) (by kernel_rfl)
noncomputable def k19:List (List PV × Ret):=[([.a [.l [[.s (ByteArray.mk #[97]),.n .i64 4,.n .i64 (-1),.n .i64 0,.n .i64 0,.n .i64 0,.n .i64 0,.n .i64 64,.n .i64 1,.n .i64 65536,.n .i64 65536,.n .i64 65536],[.s (ByteArray.mk #[98]),.n .i64 5,.n .i64 0,.n .i64 0,.n .i64 0,.n .i64 0,.n .i64 0,.n .i64 64,.n .i64 1,.n .i64 65536,.n .i64 65536,.n .i64 65536]],.l [],.l [],.l [],.l [[.s (ByteArray.mk #[111]),.l [[.n .i64 0,.n .i64 1,.l [[.n .i64 1,.n .i64 2,.n .i64 3]]]]]],.l [[.n .i64 16,.n .i64 0,.n .i64 0],[.n .i64 32,.n .i64 8,.n .i64 0]],.l [[.n .i64 1,.n .i64 0,.n .i64 0,.n .i64 0]],.l [],.n .i64 0]],.v (.n .i64 0))]
noncomputable def t19:Known:=(19,k19) :: t63
theorem ok19:Known.Ok Tryz.prog t19:=Known.add yJ zV (ok63) (N:=60) (by kernel_rfl)
noncomputable def k34:List (List PV × Ret):=[([.a [.l [[.s (ByteArray.mk #[97]),.n .i64 4,.n .i64 (-1),.n .i64 0,.n .i64 0,.n .i64 0,.n .i64 0,.n .i64 64,.n .i64 1,.n .i64 65536,.n .i64 65536,.n .i64 65536],[.s (ByteArray.mk #[98]),.n .i64 5,.n .i64 0,.n .i64 0,.n .i64 0,.n .i64 0,.n .i64 0,.n .i64 64,.n .i64 1,.n .i64 65536,.n .i64 65536,.n .i64 65536]],.l [],.l [],.l [],.l [[.s (ByteArray.mk #[111]),.l [[.n .i64 0,.n .i64 1,.l [[.n .i64 1,.n .i64 2,.n .i64 3]]]]]],.l [[.n .i64 16,.n .i64 0,.n .i64 0],[.n .i64 32,.n .i64 8,.n .i64 0]],.l [[.n .i64 1,.n .i64 0,.n .i64 0,.n .i64 0]],.l [],.n .i64 0],.a [.l [[.n .i64 0]]]],.v (.b true)),
 ([.a [.l [[.s (ByteArray.mk #[97]),.n .i64 4,.n .i64 (-1),.n .i64 0,.n .i64 0,.n .i64 0,.n .i64 0,.n .i64 64,.n .i64 1,.n .i64 65536,.n .i64 65536,.n .i64 65536],[.s (ByteArray.mk #[98]),.n .i64 5,.n .i64 0,.n .i64 0,.n .i64 0,.n .i64 0,.n .i64 0,.n .i64 64,.n .i64 1,.n .i64 65536,.n .i64 65536,.n .i64 65536]],.l [],.l [],.l [],.l [[.s (ByteArray.mk #[111]),.l [[.n .i64 0,.n .i64 1,.l [[.n .i64 1,.n .i64 2,.n .i64 3]]]]]],.l [[.n .i64 16,.n .i64 0,.n .i64 0],[.n .i64 32,.n .i64 8,.n .i64 0]],.l [[.n .i64 1,.n .i64 0,.n .i64 0,.n .i64 0]],.l [],.n .i64 0],.a [.l [[.n .i64 (-1)]]]],.v (.b true))]
noncomputable def t34:Known:=(34,k34) :: t19
theorem ok34:Known.Ok Tryz.prog t34:=Known.add yJ zV (ok19) (N:=60) (by kernel_rfl)
noncomputable def k76:List (List PV × Ret):=[([.a [.l [[.s (ByteArray.mk #[97]),.n .i64 4,.n .i64 (-1),.n .i64 0,.n .i64 0,.n .i64 0,.n .i64 0,.n .i64 64,.n .i64 1,.n .i64 65536,.n .i64 65536,.n .i64 65536],[.s (ByteArray.mk #[98]),.n .i64 5,.n .i64 0,.n .i64 0,.n .i64 0,.n .i64 0,.n .i64 0,.n .i64 64,.n .i64 1,.n .i64 65536,.n .i64 65536,.n .i64 65536]],.l []],.l [[.n .i64 16],[.n .i64 0]]],.v (.b true)),
 ([.a [.l [[.s (ByteArray.mk #[97]),.n .i64 4,.n .i64 (-1),.n .i64 0,.n .i64 0,.n .i64 0,.n .i64 0,.n .i64 64,.n .i64 1,.n .i64 65536,.n .i64 65536,.n .i64 65536],[.s (ByteArray.mk #[98]),.n .i64 5,.n .i64 0,.n .i64 0,.n .i64 0,.n .i64 0,.n .i64 0,.n .i64 64,.n .i64 1,.n .i64 65536,.n .i64 65536,.n .i64 65536]],.l []],.l [[.n .i64 32],[.n .i64 8]]],.v (.b true))]
noncomputable def t76:Known:=(76,k76) :: t34
theorem ok76:Known.Ok Tryz.prog t76:=Known.add yJ zV (ok34) (N:=60) (by kernel_rfl)
noncomputable def k177:List (List PV × Ret):=[([.n .i64 16],.v (.n .i64 16)),
 ([.n .i64 0],.v (.n .i64 0)),
 ([.n .i64 65536],.v (.n .i64 65536)),
 ([.n .i64 32],.v (.n .i64 32)),
 ([.n .i64 8],.v (.n .i64 8))]
noncomputable def t177:Known:=(177,k177) :: t76
theorem xHJ:Known.Ok Tryz.prog t177:=Known.add yJ zV (ok76) (N:=60) (by kernel_rfl)
noncomputable def k156:List (List PV × Ret):=[([.n .i64 16,.n .i64 16],.v (.a [.n .i64 16,.n .i64 16])),
 ([.n .i64 0,.n .i64 0],.v (.a [.n .i64 0,.n .i64 0])),
 ([.n .i64 65536,.n .i64 65536],.v (.a [.n .i64 65536,.n .i64 65536])),
 ([.n .i64 32,.n .i64 32],.v (.a [.n .i64 32,.n .i64 32])),
 ([.n .i64 8,.n .i64 8],.v (.a [.n .i64 8,.n .i64 8]))]
noncomputable def t156:Known:=(156,k156) :: t177
theorem xHE:Known.Ok Tryz.prog t156:=Known.add yJ zV (xHJ) (N:=60) (by kernel_rfl)
noncomputable def k128:List (List PV × Ret):=[([.n .i64 16],.v (.a [.n .i64 16,.n .i64 16])),
 ([.n .i64 0],.v (.a [.n .i64 0,.n .i64 0])),
 ([.n .i64 65536],.v (.a [.n .i64 65536,.n .i64 65536])),
 ([.n .i64 32],.v (.a [.n .i64 32,.n .i64 32])),
 ([.n .i64 8],.v (.a [.n .i64 8,.n .i64 8]))]
noncomputable def t128:Known:=(128,k128) :: t156
theorem fQJ:Known.Ok Tryz.prog t128:=Known.add yJ zV (xHE) (N:=60) (by kernel_rfl)
noncomputable def k127:List (List PV × Ret):=[([.l [[.n .i64 16],[.n .i64 0]],.f 128 [] []],.ow 62 2 (.l [[.n .i64 16,.n .i64 16],[.n .i64 0,.n .i64 0]])),
 ([.l [[.n .i64 32],[.n .i64 8]],.f 128 [] []],.ow 62 2 (.l [[.n .i64 32,.n .i64 32],[.n .i64 8,.n .i64 8]]))]
noncomputable def t127:Known:=(127,k127) :: t128
theorem fQK:Known.Ok Tryz.prog t127:=Known.add yJ zV (fQJ) (N:=60) (by kernel_rfl)
noncomputable def k77:List (List PV × Ret):=[([.l [[.n .i64 16],[.n .i64 0]]],.v (.l [[.n .i64 16,.n .i64 16],[.n .i64 0,.n .i64 0]])),
 ([.l [[.n .i64 32],[.n .i64 8]]],.v (.l [[.n .i64 32,.n .i64 32],[.n .i64 8,.n .i64 8]]))]
noncomputable def t77:Known:=(77,k77) :: t127
theorem ok77:Known.Ok Tryz.prog t77:=Known.add yJ zV (fQK) (N:=60) (by kernel_rfl)
noncomputable def k145:List (List PV × Ret):=[([.a [.n .i64 16,.n .i64 16]],.v (.b true)),
 ([.a [.n .i64 0,.n .i64 0]],.v (.b true)),
 ([.a [.n .i64 65536,.n .i64 65536]],.v (.b true)),
 ([.a [.n .i64 32,.n .i64 32]],.v (.b true)),
 ([.a [.n .i64 8,.n .i64 8]],.v (.b true))]
noncomputable def t145:Known:=(145,k145) :: t77
theorem xHI:Known.Ok Tryz.prog t145:=Known.add yJ zV (ok77) (N:=60) (by kernel_rfl)
noncomputable def k167:List (List PV × Ret):=[([.l [[.n .i64 16,.n .i64 16],[.n .i64 0,.n .i64 0]],.f 144 [] []],.v (.n .i64 (-1))),
 ([.l [[.n .i64 32,.n .i64 32],[.n .i64 8,.n .i64 8]],.f 144 [] []],.v (.n .i64 (-1)))]
noncomputable def t167:Known:=(167,k167) :: t145
theorem xHV:Known.Ok Tryz.prog t167:=Known.add yJ zV (xHI) (N:=60) (by kernel_rfl)
noncomputable def k143:List (List PV × Ret):=[([.l [[.n .i64 16,.n .i64 16],[.n .i64 0,.n .i64 0]],.f 144 [] []],.v (.b false)),
 ([.l [[.n .i64 32,.n .i64 32],[.n .i64 8,.n .i64 8]],.f 144 [] []],.v (.b false))]
noncomputable def t143:Known:=(143,k143) :: t167
theorem xHL:Known.Ok Tryz.prog t143:=Known.add yJ zV (xHV) (N:=60) (by kernel_rfl)
noncomputable def k103:List (List PV × Ret):=[([.a [.l [[.s (ByteArray.mk #[97]),.n .i64 4,.n .i64 (-1),.n .i64 0,.n .i64 0,.n .i64 0,.n .i64 0,.n .i64 64,.n .i64 1,.n .i64 65536,.n .i64 65536,.n .i64 65536],[.s (ByteArray.mk #[98]),.n .i64 5,.n .i64 0,.n .i64 0,.n .i64 0,.n .i64 0,.n .i64 0,.n .i64 64,.n .i64 1,.n .i64 65536,.n .i64 65536,.n .i64 65536]],.l []],.l [[.n .i64 16,.n .i64 16],[.n .i64 0,.n .i64 0]]],.v (.b true)),
 ([.a [.l [[.s (ByteArray.mk #[97]),.n .i64 4,.n .i64 (-1),.n .i64 0,.n .i64 0,.n .i64 0,.n .i64 0,.n .i64 64,.n .i64 1,.n .i64 65536,.n .i64 65536,.n .i64 65536],[.s (ByteArray.mk #[98]),.n .i64 5,.n .i64 0,.n .i64 0,.n .i64 0,.n .i64 0,.n .i64 0,.n .i64 64,.n .i64 1,.n .i64 65536,.n .i64 65536,.n .i64 65536]],.l []],.l [[.n .i64 32,.n .i64 32],[.n .i64 8,.n .i64 8]]],.v (.b true))]
noncomputable def t103:Known:=(103,k103) :: t143
theorem fQH:Known.Ok Tryz.prog t103:=Known.add yJ zV (xHL) (N:=60) (by kernel_rfl)
noncomputable def k79:List (List PV × Ret):=[([.a [.n .i64 0,.n .i64 0,.n .i64 0]],.v (.a [.n .i64 0,.n .i64 0,.n .i64 0,.n .i64 0,.n .i64 0,.n .i64 0]))]
noncomputable def t79:Known:=(79,k79) :: t103
theorem ok79:Known.Ok Tryz.prog t79:=Known.add yJ zV (fQH) (N:=60) (by kernel_rfl)
noncomputable def k137:List (List PV × Ret):=[([],.v (.a [.n .i64 65536,.n .i64 65536,.n .i64 0,.n .i64 0,.n .i64 0,.n .i64 0,.n .i64 0,.n .i64 0,.n .i64 65536,.n .i64 65536,.n .i64 0,.n .i64 0,.n .i64 0,.n .i64 0,.n .i64 0,.n .i64 0,.n .i64 65536,.n .i64 65536]))]
noncomputable def t137:Known:=(137,k137) :: t79
theorem fQZ:Known.Ok Tryz.prog t137:=Known.add yJ zV (ok79) (N:=60) (by kernel_rfl)
noncomputable def k98:List (List PV × Ret):=[([.a [.n .i64 0,.n .i64 0,.n .i64 0,.n .i64 0,.n .i64 0,.n .i64 0]],.v (.a [.n .i64 65536,.n .i64 65536,.n .i64 0,.n .i64 0,.n .i64 0,.n .i64 0,.n .i64 0,.n .i64 0,.n .i64 65536,.n .i64 65536,.n .i64 0,.n .i64 0,.n .i64 0,.n .i64 0,.n .i64 0,.n .i64 0,.n .i64 65536,.n .i64 65536,.n .i64 0,.n .i64 0,.n .i64 0,.n .i64 0,.n .i64 0,.n .i64 0])),
 ([.a [.n .i64 16,.n .i64 16,.n .i64 0,.n .i64 0,.n .i64 0,.n .i64 0]],.v (.a [.n .i64 65536,.n .i64 65536,.n .i64 0,.n .i64 0,.n .i64 0,.n .i64 0,.n .i64 0,.n .i64 0,.n .i64 65536,.n .i64 65536,.n .i64 0,.n .i64 0,.n .i64 0,.n .i64 0,.n .i64 0,.n .i64 0,.n .i64 65536,.n .i64 65536,.n .i64 16,.n .i64 16,.n .i64 0,.n .i64 0,.n .i64 0,.n .i64 0])),
 ([.a [.n .i64 32,.n .i64 32,.n .i64 0,.n .i64 0,.n .i64 0,.n .i64 0]],.v (.a [.n .i64 65536,.n .i64 65536,.n .i64 0,.n .i64 0,.n .i64 0,.n .i64 0,.n .i64 0,.n .i64 0,.n .i64 65536,.n .i64 65536,.n .i64 0,.n .i64 0,.n .i64 0,.n .i64 0,.n .i64 0,.n .i64 0,.n .i64 65536,.n .i64 65536,.n .i64 32,.n .i64 32,.n .i64 0,.n .i64 0,.n .i64 0,.n .i64 0])),
 ([.a [.n .i64 0,.n .i64 0,.n .i64 8,.n .i64 8,.n .i64 0,.n .i64 0]],.v (.a [.n .i64 65536,.n .i64 65536,.n .i64 0,.n .i64 0,.n .i64 0,.n .i64 0,.n .i64 0,.n .i64 0,.n .i64 65536,.n .i64 65536,.n .i64 0,.n .i64 0,.n .i64 0,.n .i64 0,.n .i64 0,.n .i64 0,.n .i64 65536,.n .i64 65536,.n .i64 0,.n .i64 0,.n .i64 8,.n .i64 8,.n .i64 0,.n .i64 0]))]
noncomputable def t98:Known:=(98,k98) :: t137
theorem ok98:Known.Ok Tryz.prog t98:=Known.add yJ zV (fQZ) (N:=60) (by kernel_rfl)
noncomputable def k139:List (List PV × Ret):=[([.n .i64 0,.a [.n .i64 16,.n .i64 16]],.v (.a [.n .i64 65536,.n .i64 65536,.n .i64 0,.n .i64 0,.n .i64 0,.n .i64 0,.n .i64 0,.n .i64 0,.n .i64 65536,.n .i64 65536,.n .i64 0,.n .i64 0,.n .i64 0,.n .i64 0,.n .i64 0,.n .i64 0,.n .i64 65536,.n .i64 65536,.n .i64 16,.n .i64 16,.n .i64 0,.n .i64 0,.n .i64 0,.n .i64 0])),
 ([.n .i64 1,.a [.n .i64 0,.n .i64 0]],.v (.a [.n .i64 65536,.n .i64 65536,.n .i64 0,.n .i64 0,.n .i64 0,.n .i64 0,.n .i64 0,.n .i64 0,.n .i64 65536,.n .i64 65536,.n .i64 0,.n .i64 0,.n .i64 0,.n .i64 0,.n .i64 0,.n .i64 0,.n .i64 65536,.n .i64 65536,.n .i64 0,.n .i64 0,.n .i64 0,.n .i64 0,.n .i64 0,.n .i64 0])),
 ([.n .i64 0,.a [.n .i64 32,.n .i64 32]],.v (.a [.n .i64 65536,.n .i64 65536,.n .i64 0,.n .i64 0,.n .i64 0,.n .i64 0,.n .i64 0,.n .i64 0,.n .i64 65536,.n .i64 65536,.n .i64 0,.n .i64 0,.n .i64 0,.n .i64 0,.n .i64 0,.n .i64 0,.n .i64 65536,.n .i64 65536,.n .i64 32,.n .i64 32,.n .i64 0,.n .i64 0,.n .i64 0,.n .i64 0])),
 ([.n .i64 1,.a [.n .i64 8,.n .i64 8]],.v (.a [.n .i64 65536,.n .i64 65536,.n .i64 0,.n .i64 0,.n .i64 0,.n .i64 0,.n .i64 0,.n .i64 0,.n .i64 65536,.n .i64 65536,.n .i64 0,.n .i64 0,.n .i64 0,.n .i64 0,.n .i64 0,.n .i64 0,.n .i64 65536,.n .i64 65536,.n .i64 0,.n .i64 0,.n .i64 8,.n .i64 8,.n .i64 0,.n .i64 0]))]
noncomputable def t139:Known:=(139,k139) :: t98
theorem fQQ:Known.Ok Tryz.prog t139:=Known.add yJ zV (ok98) (N:=60) (by kernel_rfl)
noncomputable def k178:List (List PV × Ret):=[([.a [.n .i64 65536,.n .i64 65536],.a [.n .i64 65536,.n .i64 65536]],.v (.b true)),
 ([.a [.n .i64 0,.n .i64 0],.a [.n .i64 65536,.n .i64 65536]],.v (.b true)),
 ([.a [.n .i64 0,.n .i64 0],.a [.n .i64 0,.n .i64 0]],.v (.b true)),
 ([.a [.n .i64 65536,.n .i64 65536],.a [.n .i64 0,.n .i64 0]],.v (.b true)),
 ([.a [.n .i64 65536,.n .i64 65536],.a [.n .i64 16,.n .i64 16]],.v (.b true)),
 ([.a [.n .i64 0,.n .i64 0],.a [.n .i64 16,.n .i64 16]],.v (.b true)),
 ([.a [.n .i64 16,.n .i64 16],.a [.n .i64 0,.n .i64 0]],.v (.b true)),
 ([.a [.n .i64 65536,.n .i64 65536],.a [.n .i64 32,.n .i64 32]],.v (.b true)),
 ([.a [.n .i64 0,.n .i64 0],.a [.n .i64 32,.n .i64 32]],.v (.b true)),
 ([.a [.n .i64 32,.n .i64 32],.a [.n .i64 0,.n .i64 0]],.v (.b true)),
 ([.a [.n .i64 0,.n .i64 0],.a [.n .i64 8,.n .i64 8]],.v (.b true)),
 ([.a [.n .i64 65536,.n .i64 65536],.a [.n .i64 8,.n .i64 8]],.v (.b true)),
 ([.a [.n .i64 8,.n .i64 8],.a [.n .i64 0,.n .i64 0]],.v (.b true))]
noncomputable def t178:Known:=(178,k178) :: t139
theorem xHY:Known.Ok Tryz.prog t178:=Known.add yJ zV (fQQ) (N:=60) (by kernel_rfl)
noncomputable def k184:List (List PV × Ret):=[([.n .i64 4294967296,.n .i64 16],.v (.n .i64 65536)),
 ([.n .i64 0,.n .i64 16],.v (.n .i64 0)),
 ([.n .i64 1048576,.n .i64 16],.v (.n .i64 16)),
 ([.n .i64 2097152,.n .i64 16],.v (.n .i64 32)),
 ([.n .i64 524288,.n .i64 16],.v (.n .i64 8))]
noncomputable def t184:Known:=(184,k184) :: t178
theorem xHQ:Known.Ok Tryz.prog t184:=Known.add yJ zV (xHY) (N:=60) (by kernel_rfl)
noncomputable def k185:List (List PV × Ret):=[([.n .i64 4294967296,.n .i64 16],.v (.n .i64 65536)),
 ([.n .i64 0,.n .i64 16],.v (.n .i64 0)),
 ([.n .i64 1048576,.n .i64 16],.v (.n .i64 16)),
 ([.n .i64 2097152,.n .i64 16],.v (.n .i64 32)),
 ([.n .i64 524288,.n .i64 16],.v (.n .i64 8))]
noncomputable def t185:Known:=(185,k185) :: t184
theorem xGL:Known.Ok Tryz.prog t185:=Known.add yJ zV (xHQ) (N:=60) (by kernel_rfl)
noncomputable def k179:List (List PV × Ret):=[([.n .i64 4294967296,.n .i64 4294967296],.v (.a [.n .i64 65536,.n .i64 65536])),
 ([.n .i64 0,.n .i64 0],.v (.a [.n .i64 0,.n .i64 0])),
 ([.n .i64 1048576,.n .i64 1048576],.v (.a [.n .i64 16,.n .i64 16])),
 ([.n .i64 2097152,.n .i64 2097152],.v (.a [.n .i64 32,.n .i64 32])),
 ([.n .i64 524288,.n .i64 524288],.v (.a [.n .i64 8,.n .i64 8]))]
noncomputable def t179:Known:=(179,k179) :: t185
theorem xHZ:Known.Ok Tryz.prog t179:=Known.add yJ zV (xGL) (N:=60) (by kernel_rfl)
noncomputable def k161:List (List PV × Ret):=[([.a [.n .i64 65536,.n .i64 65536],.a [.n .i64 65536,.n .i64 65536]],.v (.a [.n .i64 65536,.n .i64 65536])),
 ([.a [.n .i64 0,.n .i64 0],.a [.n .i64 0,.n .i64 0]],.v (.a [.n .i64 0,.n .i64 0])),
 ([.a [.n .i64 65536,.n .i64 65536],.a [.n .i64 0,.n .i64 0]],.v (.a [.n .i64 0,.n .i64 0])),
 ([.a [.n .i64 0,.n .i64 0],.a [.n .i64 65536,.n .i64 65536]],.v (.a [.n .i64 0,.n .i64 0])),
 ([.a [.n .i64 65536,.n .i64 65536],.a [.n .i64 16,.n .i64 16]],.v (.a [.n .i64 16,.n .i64 16])),
 ([.a [.n .i64 0,.n .i64 0],.a [.n .i64 16,.n .i64 16]],.v (.a [.n .i64 0,.n .i64 0])),
 ([.a [.n .i64 65536,.n .i64 65536],.a [.n .i64 32,.n .i64 32]],.v (.a [.n .i64 32,.n .i64 32])),
 ([.a [.n .i64 0,.n .i64 0],.a [.n .i64 32,.n .i64 32]],.v (.a [.n .i64 0,.n .i64 0])),
 ([.a [.n .i64 0,.n .i64 0],.a [.n .i64 8,.n .i64 8]],.v (.a [.n .i64 0,.n .i64 0])),
 ([.a [.n .i64 65536,.n .i64 65536],.a [.n .i64 8,.n .i64 8]],.v (.a [.n .i64 8,.n .i64 8]))]
noncomputable def t161:Known:=(161,k161) :: t179
theorem xHH:Known.Ok Tryz.prog t161:=Known.add yJ zV (xHZ) (N:=60) (by kernel_rfl)
noncomputable def k160:List (List PV × Ret):=[([.a [.n .i64 0,.n .i64 0],.a [.n .i64 65536,.n .i64 65536]],.v (.a [.n .i64 65536,.n .i64 65536])),
 ([.a [.n .i64 65536,.n .i64 65536],.a [.n .i64 0,.n .i64 0]],.v (.a [.n .i64 65536,.n .i64 65536])),
 ([.a [.n .i64 0,.n .i64 0],.a [.n .i64 0,.n .i64 0]],.v (.a [.n .i64 0,.n .i64 0])),
 ([.a [.n .i64 0,.n .i64 0],.a [.n .i64 16,.n .i64 16]],.v (.a [.n .i64 16,.n .i64 16])),
 ([.a [.n .i64 16,.n .i64 16],.a [.n .i64 0,.n .i64 0]],.v (.a [.n .i64 16,.n .i64 16])),
 ([.a [.n .i64 0,.n .i64 0],.a [.n .i64 32,.n .i64 32]],.v (.a [.n .i64 32,.n .i64 32])),
 ([.a [.n .i64 32,.n .i64 32],.a [.n .i64 0,.n .i64 0]],.v (.a [.n .i64 32,.n .i64 32])),
 ([.a [.n .i64 0,.n .i64 0],.a [.n .i64 8,.n .i64 8]],.v (.a [.n .i64 8,.n .i64 8])),
 ([.a [.n .i64 8,.n .i64 8],.a [.n .i64 0,.n .i64 0]],.v (.a [.n .i64 8,.n .i64 8]))]
noncomputable def t160:Known:=(160,k160) :: t161
theorem xHA:Known.Ok Tryz.prog t160:=Known.add yJ zV (xHH) (N:=60) (by kernel_rfl)
noncomputable def k162:List (List PV × Ret):=[([.n .i64 65536],.v (.n .i64 65536)),
 ([.n .i64 0],.v (.n .i64 0))]
noncomputable def t162:Known:=(162,k162) :: t160
theorem xHG:Known.Ok Tryz.prog t162:=Known.add yJ zV (xHA) (N:=60) (by kernel_rfl)
noncomputable def k136:List (List PV × Ret):=[([.a [.n .i64 65536,.n .i64 65536,.n .i64 0,.n .i64 0,.n .i64 0,.n .i64 0,.n .i64 0,.n .i64 0,.n .i64 65536,.n .i64 65536,.n .i64 0,.n .i64 0,.n .i64 0,.n .i64 0,.n .i64 0,.n .i64 0,.n .i64 65536,.n .i64 65536],.a [.n .i64 65536,.n .i64 65536,.n .i64 0,.n .i64 0,.n .i64 0,.n .i64 0,.n .i64 0,.n .i64 0,.n .i64 65536,.n .i64 65536,.n .i64 0,.n .i64 0,.n .i64 0,.n .i64 0,.n .i64 0,.n .i64 0,.n .i64 65536,.n .i64 65536]],.v (.a [.n .i64 65536,.n .i64 65536,.n .i64 0,.n .i64 0,.n .i64 0,.n .i64 0,.n .i64 0,.n .i64 0,.n .i64 65536,.n .i64 65536,.n .i64 0,.n .i64 0,.n .i64 0,.n .i64 0,.n .i64 0,.n .i64 0,.n .i64 65536,.n .i64 65536]))]
noncomputable def t136:Known:=(136,k136) :: t162
theorem fQY:Known.Ok Tryz.prog t136:=Known.add yJ zV (xHG) (N:=60) (by kernel_rfl)
noncomputable def k159:List (List PV × Ret):=[([.a [.n .i64 65536,.n .i64 65536,.n .i64 0,.n .i64 0,.n .i64 0,.n .i64 0,.n .i64 0,.n .i64 0,.n .i64 65536,.n .i64 65536,.n .i64 0,.n .i64 0,.n .i64 0,.n .i64 0,.n .i64 0,.n .i64 0,.n .i64 65536,.n .i64 65536],.a [.n .i64 16,.n .i64 16,.n .i64 0,.n .i64 0,.n .i64 0,.n .i64 0]],.v (.a [.n .i64 16,.n .i64 16,.n .i64 0,.n .i64 0,.n .i64 0,.n .i64 0])),
 ([.a [.n .i64 65536,.n .i64 65536,.n .i64 0,.n .i64 0,.n .i64 0,.n .i64 0,.n .i64 0,.n .i64 0,.n .i64 65536,.n .i64 65536,.n .i64 0,.n .i64 0,.n .i64 0,.n .i64 0,.n .i64 0,.n .i64 0,.n .i64 65536,.n .i64 65536],.a [.n .i64 0,.n .i64 0,.n .i64 0,.n .i64 0,.n .i64 0,.n .i64 0]],.v (.a [.n .i64 0,.n .i64 0,.n .i64 0,.n .i64 0,.n .i64 0,.n .i64 0])),
 ([.a [.n .i64 65536,.n .i64 65536,.n .i64 0,.n .i64 0,.n .i64 0,.n .i64 0,.n .i64 0,.n .i64 0,.n .i64 65536,.n .i64 65536,.n .i64 0,.n .i64 0,.n .i64 0,.n .i64 0,.n .i64 0,.n .i64 0,.n .i64 65536,.n .i64 65536],.a [.n .i64 32,.n .i64 32,.n .i64 0,.n .i64 0,.n .i64 0,.n .i64 0]],.v (.a [.n .i64 32,.n .i64 32,.n .i64 0,.n .i64 0,.n .i64 0,.n .i64 0])),
 ([.a [.n .i64 65536,.n .i64 65536,.n .i64 0,.n .i64 0,.n .i64 0,.n .i64 0,.n .i64 0,.n .i64 0,.n .i64 65536,.n .i64 65536,.n .i64 0,.n .i64 0,.n .i64 0,.n .i64 0,.n .i64 0,.n .i64 0,.n .i64 65536,.n .i64 65536],.a [.n .i64 0,.n .i64 0,.n .i64 8,.n .i64 8,.n .i64 0,.n .i64 0]],.v (.a [.n .i64 0,.n .i64 0,.n .i64 8,.n .i64 8,.n .i64 0,.n .i64 0]))]
noncomputable def t159:Known:=(159,k159) :: t136
theorem xHB:Known.Ok Tryz.prog t159:=Known.add yJ zV (fQY) (N:=60) (by kernel_rfl)
noncomputable def k158:List (List PV × Ret):=[([.a [.n .i64 0,.n .i64 0,.n .i64 0,.n .i64 0,.n .i64 0,.n .i64 0],.a [.n .i64 16,.n .i64 16,.n .i64 0,.n .i64 0,.n .i64 0,.n .i64 0]],.v (.a [.n .i64 16,.n .i64 16,.n .i64 0,.n .i64 0,.n .i64 0,.n .i64 0])),
 ([.a [.n .i64 0,.n .i64 0,.n .i64 0,.n .i64 0,.n .i64 0,.n .i64 0],.a [.n .i64 0,.n .i64 0,.n .i64 0,.n .i64 0,.n .i64 0,.n .i64 0]],.v (.a [.n .i64 0,.n .i64 0,.n .i64 0,.n .i64 0,.n .i64 0,.n .i64 0])),
 ([.a [.n .i64 16,.n .i64 16,.n .i64 0,.n .i64 0,.n .i64 0,.n .i64 0],.a [.n .i64 0,.n .i64 0,.n .i64 0,.n .i64 0,.n .i64 0,.n .i64 0]],.v (.a [.n .i64 16,.n .i64 16,.n .i64 0,.n .i64 0,.n .i64 0,.n .i64 0])),
 ([.a [.n .i64 0,.n .i64 0,.n .i64 0,.n .i64 0,.n .i64 0,.n .i64 0],.a [.n .i64 32,.n .i64 32,.n .i64 0,.n .i64 0,.n .i64 0,.n .i64 0]],.v (.a [.n .i64 32,.n .i64 32,.n .i64 0,.n .i64 0,.n .i64 0,.n .i64 0])),
 ([.a [.n .i64 0,.n .i64 0,.n .i64 0,.n .i64 0,.n .i64 0,.n .i64 0],.a [.n .i64 0,.n .i64 0,.n .i64 8,.n .i64 8,.n .i64 0,.n .i64 0]],.v (.a [.n .i64 0,.n .i64 0,.n .i64 8,.n .i64 8,.n .i64 0,.n .i64 0])),
 ([.a [.n .i64 32,.n .i64 32,.n .i64 0,.n .i64 0,.n .i64 0,.n .i64 0],.a [.n .i64 0,.n .i64 0,.n .i64 8,.n .i64 8,.n .i64 0,.n .i64 0]],.v (.a [.n .i64 32,.n .i64 32,.n .i64 8,.n .i64 8,.n .i64 0,.n .i64 0])),
 ([.a [.n .i64 32,.n .i64 32,.n .i64 8,.n .i64 8,.n .i64 0,.n .i64 0],.a [.n .i64 0,.n .i64 0,.n .i64 0,.n .i64 0,.n .i64 0,.n .i64 0]],.v (.a [.n .i64 32,.n .i64 32,.n .i64 8,.n .i64 8,.n .i64 0,.n .i64 0]))]
noncomputable def t158:Known:=(158,k158) :: t159
theorem xHC:Known.Ok Tryz.prog t158:=Known.add yJ zV (xHB) (N:=60) (by kernel_rfl)
noncomputable def k157:List (List PV × Ret):=[([.a [.n .i64 16,.n .i64 16,.n .i64 0,.n .i64 0,.n .i64 0,.n .i64 0],.c [.n .i64 65536,.n .i64 65536,.n .i64 0,.n .i64 0,.n .i64 0,.n .i64 0,.n .i64 0,.n .i64 0,.n .i64 65536,.n .i64 65536,.n .i64 0,.n .i64 0,.n .i64 0,.n .i64 0,.n .i64 0,.n .i64 0,.n .i64 65536,.n .i64 65536,.n .i64 0,.n .i64 0,.n .i64 0,.n .i64 0,.n .i64 0,.n .i64 0] 0],.v (.a [.n .i64 16,.n .i64 16,.n .i64 0,.n .i64 0,.n .i64 0,.n .i64 0])),
 ([.a [.n .i64 0,.n .i64 0,.n .i64 0,.n .i64 0,.n .i64 0,.n .i64 0],.c [.n .i64 65536,.n .i64 65536,.n .i64 0,.n .i64 0,.n .i64 0,.n .i64 0,.n .i64 0,.n .i64 0,.n .i64 65536,.n .i64 65536,.n .i64 0,.n .i64 0,.n .i64 0,.n .i64 0,.n .i64 0,.n .i64 0,.n .i64 65536,.n .i64 65536,.n .i64 0,.n .i64 0,.n .i64 0,.n .i64 0,.n .i64 0,.n .i64 0] 0],.v (.a [.n .i64 0,.n .i64 0,.n .i64 0,.n .i64 0,.n .i64 0,.n .i64 0])),
 ([.a [.n .i64 0,.n .i64 0,.n .i64 0,.n .i64 0,.n .i64 0,.n .i64 0],.c [.n .i64 65536,.n .i64 65536,.n .i64 0,.n .i64 0,.n .i64 0,.n .i64 0,.n .i64 0,.n .i64 0,.n .i64 65536,.n .i64 65536,.n .i64 0,.n .i64 0,.n .i64 0,.n .i64 0,.n .i64 0,.n .i64 0,.n .i64 65536,.n .i64 65536,.n .i64 16,.n .i64 16,.n .i64 0,.n .i64 0,.n .i64 0,.n .i64 0] 0],.v (.a [.n .i64 16,.n .i64 16,.n .i64 0,.n .i64 0,.n .i64 0,.n .i64 0])),
 ([.a [.n .i64 32,.n .i64 32,.n .i64 0,.n .i64 0,.n .i64 0,.n .i64 0],.c [.n .i64 65536,.n .i64 65536,.n .i64 0,.n .i64 0,.n .i64 0,.n .i64 0,.n .i64 0,.n .i64 0,.n .i64 65536,.n .i64 65536,.n .i64 0,.n .i64 0,.n .i64 0,.n .i64 0,.n .i64 0,.n .i64 0,.n .i64 65536,.n .i64 65536,.n .i64 0,.n .i64 0,.n .i64 0,.n .i64 0,.n .i64 0,.n .i64 0] 0],.v (.a [.n .i64 32,.n .i64 32,.n .i64 0,.n .i64 0,.n .i64 0,.n .i64 0])),
 ([.a [.n .i64 0,.n .i64 0,.n .i64 8,.n .i64 8,.n .i64 0,.n .i64 0],.c [.n .i64 65536,.n .i64 65536,.n .i64 0,.n .i64 0,.n .i64 0,.n .i64 0,.n .i64 0,.n .i64 0,.n .i64 65536,.n .i64 65536,.n .i64 0,.n .i64 0,.n .i64 0,.n .i64 0,.n .i64 0,.n .i64 0,.n .i64 65536,.n .i64 65536,.n .i64 0,.n .i64 0,.n .i64 0,.n .i64 0,.n .i64 0,.n .i64 0] 0],.v (.a [.n .i64 0,.n .i64 0,.n .i64 8,.n .i64 8,.n .i64 0,.n .i64 0])),
 ([.a [.n .i64 0,.n .i64 0,.n .i64 8,.n .i64 8,.n .i64 0,.n .i64 0],.c [.n .i64 65536,.n .i64 65536,.n .i64 0,.n .i64 0,.n .i64 0,.n .i64 0,.n .i64 0,.n .i64 0,.n .i64 65536,.n .i64 65536,.n .i64 0,.n .i64 0,.n .i64 0,.n .i64 0,.n .i64 0,.n .i64 0,.n .i64 65536,.n .i64 65536,.n .i64 32,.n .i64 32,.n .i64 0,.n .i64 0,.n .i64 0,.n .i64 0] 0],.v (.a [.n .i64 32,.n .i64 32,.n .i64 8,.n .i64 8,.n .i64 0,.n .i64 0])),
 ([.a [.n .i64 0,.n .i64 0,.n .i64 0,.n .i64 0,.n .i64 0,.n .i64 0],.c [.n .i64 65536,.n .i64 65536,.n .i64 0,.n .i64 0,.n .i64 0,.n .i64 0,.n .i64 0,.n .i64 0,.n .i64 65536,.n .i64 65536,.n .i64 0,.n .i64 0,.n .i64 0,.n .i64 0,.n .i64 0,.n .i64 0,.n .i64 65536,.n .i64 65536,.n .i64 32,.n .i64 32,.n .i64 8,.n .i64 8,.n .i64 0,.n .i64 0] 0],.v (.a [.n .i64 32,.n .i64 32,.n .i64 8,.n .i64 8,.n .i64 0,.n .i64 0]))]
noncomputable def t157:Known:=(157,k157) :: t158
theorem xHD:Known.Ok Tryz.prog t157:=Known.add yJ zV (xHC) (N:=60) (by kernel_rfl)
noncomputable def k97:List (List PV × Ret):=[([.a [.n .i64 65536,.n .i64 65536,.n .i64 0,.n .i64 0,.n .i64 0,.n .i64 0,.n .i64 0,.n .i64 0,.n .i64 65536,.n .i64 65536,.n .i64 0,.n .i64 0,.n .i64 0,.n .i64 0,.n .i64 0,.n .i64 0,.n .i64 65536,.n .i64 65536,.n .i64 0,.n .i64 0,.n .i64 0,.n .i64 0,.n .i64 0,.n .i64 0],.a [.n .i64 65536,.n .i64 65536,.n .i64 0,.n .i64 0,.n .i64 0,.n .i64 0,.n .i64 0,.n .i64 0,.n .i64 65536,.n .i64 65536,.n .i64 0,.n .i64 0,.n .i64 0,.n .i64 0,.n .i64 0,.n .i64 0,.n .i64 65536,.n .i64 65536,.n .i64 16,.n .i64 16,.n .i64 0,.n .i64 0,.n .i64 0,.n .i64 0]],.v (.a [.n .i64 65536,.n .i64 65536,.n .i64 0,.n .i64 0,.n .i64 0,.n .i64 0,.n .i64 0,.n .i64 0,.n .i64 65536,.n .i64 65536,.n .i64 0,.n .i64 0,.n .i64 0,.n .i64 0,.n .i64 0,.n .i64 0,.n .i64 65536,.n .i64 65536,.n .i64 16,.n .i64 16,.n .i64 0,.n .i64 0,.n .i64 0,.n .i64 0])),
 ([.a [.n .i64 65536,.n .i64 65536,.n .i64 0,.n .i64 0,.n .i64 0,.n .i64 0,.n .i64 0,.n .i64 0,.n .i64 65536,.n .i64 65536,.n .i64 0,.n .i64 0,.n .i64 0,.n .i64 0,.n .i64 0,.n .i64 0,.n .i64 65536,.n .i64 65536,.n .i64 0,.n .i64 0,.n .i64 0,.n .i64 0,.n .i64 0,.n .i64 0],.a [.n .i64 65536,.n .i64 65536,.n .i64 0,.n .i64 0,.n .i64 0,.n .i64 0,.n .i64 0,.n .i64 0,.n .i64 65536,.n .i64 65536,.n .i64 0,.n .i64 0,.n .i64 0,.n .i64 0,.n .i64 0,.n .i64 0,.n .i64 65536,.n .i64 65536,.n .i64 0,.n .i64 0,.n .i64 0,.n .i64 0,.n .i64 0,.n .i64 0]],.v (.a [.n .i64 65536,.n .i64 65536,.n .i64 0,.n .i64 0,.n .i64 0,.n .i64 0,.n .i64 0,.n .i64 0,.n .i64 65536,.n .i64 65536,.n .i64 0,.n .i64 0,.n .i64 0,.n .i64 0,.n .i64 0,.n .i64 0,.n .i64 65536,.n .i64 65536,.n .i64 0,.n .i64 0,.n .i64 0,.n .i64 0,.n .i64 0,.n .i64 0])),
 ([.a [.n .i64 65536,.n .i64 65536,.n .i64 0,.n .i64 0,.n .i64 0,.n .i64 0,.n .i64 0,.n .i64 0,.n .i64 65536,.n .i64 65536,.n .i64 0,.n .i64 0,.n .i64 0,.n .i64 0,.n .i64 0,.n .i64 0,.n .i64 65536,.n .i64 65536,.n .i64 16,.n .i64 16,.n .i64 0,.n .i64 0,.n .i64 0,.n .i64 0],.a [.n .i64 65536,.n .i64 65536,.n .i64 0,.n .i64 0,.n .i64 0,.n .i64 0,.n .i64 0,.n .i64 0,.n .i64 65536,.n .i64 65536,.n .i64 0,.n .i64 0,.n .i64 0,.n .i64 0,.n .i64 0,.n .i64 0,.n .i64 65536,.n .i64 65536,.n .i64 0,.n .i64 0,.n .i64 0,.n .i64 0,.n .i64 0,.n .i64 0]],.v (.a [.n .i64 65536,.n .i64 65536,.n .i64 0,.n .i64 0,.n .i64 0,.n .i64 0,.n .i64 0,.n .i64 0,.n .i64 65536,.n .i64 65536,.n .i64 0,.n .i64 0,.n .i64 0,.n .i64 0,.n .i64 0,.n .i64 0,.n .i64 65536,.n .i64 65536,.n .i64 16,.n .i64 16,.n .i64 0,.n .i64 0,.n .i64 0,.n .i64 0])),
 ([.a [.n .i64 65536,.n .i64 65536,.n .i64 0,.n .i64 0,.n .i64 0,.n .i64 0,.n .i64 0,.n .i64 0,.n .i64 65536,.n .i64 65536,.n .i64 0,.n .i64 0,.n .i64 0,.n .i64 0,.n .i64 0,.n .i64 0,.n .i64 65536,.n .i64 65536,.n .i64 0,.n .i64 0,.n .i64 0,.n .i64 0,.n .i64 0,.n .i64 0],.a [.n .i64 65536,.n .i64 65536,.n .i64 0,.n .i64 0,.n .i64 0,.n .i64 0,.n .i64 0,.n .i64 0,.n .i64 65536,.n .i64 65536,.n .i64 0,.n .i64 0,.n .i64 0,.n .i64 0,.n .i64 0,.n .i64 0,.n .i64 65536,.n .i64 65536,.n .i64 32,.n .i64 32,.n .i64 0,.n .i64 0,.n .i64 0,.n .i64 0]],.v (.a [.n .i64 65536,.n .i64 65536,.n .i64 0,.n .i64 0,.n .i64 0,.n .i64 0,.n .i64 0,.n .i64 0,.n .i64 65536,.n .i64 65536,.n .i64 0,.n .i64 0,.n .i64 0,.n .i64 0,.n .i64 0,.n .i64 0,.n .i64 65536,.n .i64 65536,.n .i64 32,.n .i64 32,.n .i64 0,.n .i64 0,.n .i64 0,.n .i64 0])),
 ([.a [.n .i64 65536,.n .i64 65536,.n .i64 0,.n .i64 0,.n .i64 0,.n .i64 0,.n .i64 0,.n .i64 0,.n .i64 65536,.n .i64 65536,.n .i64 0,.n .i64 0,.n .i64 0,.n .i64 0,.n .i64 0,.n .i64 0,.n .i64 65536,.n .i64 65536,.n .i64 0,.n .i64 0,.n .i64 0,.n .i64 0,.n .i64 0,.n .i64 0],.a [.n .i64 65536,.n .i64 65536,.n .i64 0,.n .i64 0,.n .i64 0,.n .i64 0,.n .i64 0,.n .i64 0,.n .i64 65536,.n .i64 65536,.n .i64 0,.n .i64 0,.n .i64 0,.n .i64 0,.n .i64 0,.n .i64 0,.n .i64 65536,.n .i64 65536,.n .i64 0,.n .i64 0,.n .i64 8,.n .i64 8,.n .i64 0,.n .i64 0]],.v (.a [.n .i64 65536,.n .i64 65536,.n .i64 0,.n .i64 0,.n .i64 0,.n .i64 0,.n .i64 0,.n .i64 0,.n .i64 65536,.n .i64 65536,.n .i64 0,.n .i64 0,.n .i64 0,.n .i64 0,.n .i64 0,.n .i64 0,.n .i64 65536,.n .i64 65536,.n .i64 0,.n .i64 0,.n .i64 8,.n .i64 8,.n .i64 0,.n .i64 0])),
 ([.a [.n .i64 65536,.n .i64 65536,.n .i64 0,.n .i64 0,.n .i64 0,.n .i64 0,.n .i64 0,.n .i64 0,.n .i64 65536,.n .i64 65536,.n .i64 0,.n .i64 0,.n .i64 0,.n .i64 0,.n .i64 0,.n .i64 0,.n .i64 65536,.n .i64 65536,.n .i64 32,.n .i64 32,.n .i64 0,.n .i64 0,.n .i64 0,.n .i64 0],.a [.n .i64 65536,.n .i64 65536,.n .i64 0,.n .i64 0,.n .i64 0,.n .i64 0,.n .i64 0,.n .i64 0,.n .i64 65536,.n .i64 65536,.n .i64 0,.n .i64 0,.n .i64 0,.n .i64 0,.n .i64 0,.n .i64 0,.n .i64 65536,.n .i64 65536,.n .i64 0,.n .i64 0,.n .i64 8,.n .i64 8,.n .i64 0,.n .i64 0]],.v (.a [.n .i64 65536,.n .i64 65536,.n .i64 0,.n .i64 0,.n .i64 0,.n .i64 0,.n .i64 0,.n .i64 0,.n .i64 65536,.n .i64 65536,.n .i64 0,.n .i64 0,.n .i64 0,.n .i64 0,.n .i64 0,.n .i64 0,.n .i64 65536,.n .i64 65536,.n .i64 32,.n .i64 32,.n .i64 8,.n .i64 8,.n .i64 0,.n .i64 0]))]
noncomputable def t97:Known:=(97,k97) :: t157
theorem ok97:Known.Ok Tryz.prog t97:=Known.add yJ zV (xHD) (N:=60) (by kernel_rfl)
noncomputable def k46:List (List PV × Ret):=[([.a [.s (ByteArray.mk #[97]),.n .i64 4,.n .i64 (-1),.n .i64 0,.n .i64 0,.n .i64 0,.n .i64 0,.n .i64 64,.n .i64 1,.n .i64 65536,.n .i64 65536,.n .i64 65536],.a [.n .i64 16,.n .i64 16]],.v (.a [.n .i64 65536,.n .i64 65536,.n .i64 0,.n .i64 0,.n .i64 0,.n .i64 0,.n .i64 0,.n .i64 0,.n .i64 65536,.n .i64 65536,.n .i64 0,.n .i64 0,.n .i64 0,.n .i64 0,.n .i64 0,.n .i64 0,.n .i64 65536,.n .i64 65536,.n .i64 16,.n .i64 16,.n .i64 0,.n .i64 0,.n .i64 0,.n .i64 0])),
 ([.a [.s (ByteArray.mk #[98]),.n .i64 5,.n .i64 0,.n .i64 0,.n .i64 0,.n .i64 0,.n .i64 0,.n .i64 64,.n .i64 1,.n .i64 65536,.n .i64 65536,.n .i64 65536],.a [.n .i64 0,.n .i64 0]],.v (.a [.n .i64 65536,.n .i64 65536,.n .i64 0,.n .i64 0,.n .i64 0,.n .i64 0,.n .i64 0,.n .i64 0,.n .i64 65536,.n .i64 65536,.n .i64 0,.n .i64 0,.n .i64 0,.n .i64 0,.n .i64 0,.n .i64 0,.n .i64 65536,.n .i64 65536,.n .i64 0,.n .i64 0,.n .i64 0,.n .i64 0,.n .i64 0,.n .i64 0])),
 ([.a [.s (ByteArray.mk #[97]),.n .i64 4,.n .i64 (-1),.n .i64 0,.n .i64 0,.n .i64 0,.n .i64 0,.n .i64 64,.n .i64 1,.n .i64 65536,.n .i64 65536,.n .i64 65536],.a [.n .i64 32,.n .i64 32]],.v (.a [.n .i64 65536,.n .i64 65536,.n .i64 0,.n .i64 0,.n .i64 0,.n .i64 0,.n .i64 0,.n .i64 0,.n .i64 65536,.n .i64 65536,.n .i64 0,.n .i64 0,.n .i64 0,.n .i64 0,.n .i64 0,.n .i64 0,.n .i64 65536,.n .i64 65536,.n .i64 32,.n .i64 32,.n .i64 0,.n .i64 0,.n .i64 0,.n .i64 0])),
 ([.a [.s (ByteArray.mk #[98]),.n .i64 5,.n .i64 0,.n .i64 0,.n .i64 0,.n .i64 0,.n .i64 0,.n .i64 64,.n .i64 1,.n .i64 65536,.n .i64 65536,.n .i64 65536],.a [.n .i64 8,.n .i64 8]],.v (.a [.n .i64 65536,.n .i64 65536,.n .i64 0,.n .i64 0,.n .i64 0,.n .i64 0,.n .i64 0,.n .i64 0,.n .i64 65536,.n .i64 65536,.n .i64 0,.n .i64 0,.n .i64 0,.n .i64 0,.n .i64 0,.n .i64 0,.n .i64 65536,.n .i64 65536,.n .i64 0,.n .i64 0,.n .i64 8,.n .i64 8,.n .i64 0,.n .i64 0]))]
noncomputable def t46:Known:=(46,k46) :: t97
theorem ok46:Known.Ok Tryz.prog t46:=Known.add yJ zV (ok97) (N:=60) (by kernel_rfl)
noncomputable def k105:List (List PV × Ret):=[([.a [.l [[.s (ByteArray.mk #[97]),.n .i64 4,.n .i64 (-1),.n .i64 0,.n .i64 0,.n .i64 0,.n .i64 0,.n .i64 64,.n .i64 1,.n .i64 65536,.n .i64 65536,.n .i64 65536],[.s (ByteArray.mk #[98]),.n .i64 5,.n .i64 0,.n .i64 0,.n .i64 0,.n .i64 0,.n .i64 0,.n .i64 64,.n .i64 1,.n .i64 65536,.n .i64 65536,.n .i64 65536]],.l []],.l [[.n .i64 16,.n .i64 16],[.n .i64 0,.n .i64 0]]],.ow 68 24 (.l [[.n .i64 65536,.n .i64 65536,.n .i64 0,.n .i64 0,.n .i64 0,.n .i64 0,.n .i64 0,.n .i64 0,.n .i64 65536,.n .i64 65536,.n .i64 0,.n .i64 0,.n .i64 0,.n .i64 0,.n .i64 0,.n .i64 0,.n .i64 65536,.n .i64 65536,.n .i64 16,.n .i64 16,.n .i64 0,.n .i64 0,.n .i64 0,.n .i64 0],[.n .i64 65536,.n .i64 65536,.n .i64 0,.n .i64 0,.n .i64 0,.n .i64 0,.n .i64 0,.n .i64 0,.n .i64 65536,.n .i64 65536,.n .i64 0,.n .i64 0,.n .i64 0,.n .i64 0,.n .i64 0,.n .i64 0,.n .i64 65536,.n .i64 65536,.n .i64 16,.n .i64 16,.n .i64 0,.n .i64 0,.n .i64 0,.n .i64 0]])),
 ([.a [.l [[.s (ByteArray.mk #[97]),.n .i64 4,.n .i64 (-1),.n .i64 0,.n .i64 0,.n .i64 0,.n .i64 0,.n .i64 64,.n .i64 1,.n .i64 65536,.n .i64 65536,.n .i64 65536],[.s (ByteArray.mk #[98]),.n .i64 5,.n .i64 0,.n .i64 0,.n .i64 0,.n .i64 0,.n .i64 0,.n .i64 64,.n .i64 1,.n .i64 65536,.n .i64 65536,.n .i64 65536]],.l []],.l [[.n .i64 32,.n .i64 32],[.n .i64 8,.n .i64 8]]],.ow 68 24 (.l [[.n .i64 65536,.n .i64 65536,.n .i64 0,.n .i64 0,.n .i64 0,.n .i64 0,.n .i64 0,.n .i64 0,.n .i64 65536,.n .i64 65536,.n .i64 0,.n .i64 0,.n .i64 0,.n .i64 0,.n .i64 0,.n .i64 0,.n .i64 65536,.n .i64 65536,.n .i64 32,.n .i64 32,.n .i64 0,.n .i64 0,.n .i64 0,.n .i64 0],[.n .i64 65536,.n .i64 65536,.n .i64 0,.n .i64 0,.n .i64 0,.n .i64 0,.n .i64 0,.n .i64 0,.n .i64 65536,.n .i64 65536,.n .i64 0,.n .i64 0,.n .i64 0,.n .i64 0,.n .i64 0,.n .i64 0,.n .i64 65536,.n .i64 65536,.n .i64 32,.n .i64 32,.n .i64 8,.n .i64 8,.n .i64 0,.n .i64 0]]))]
noncomputable def t105:Known:=(105,k105) :: t46
theorem fQV:Known.Ok Tryz.prog t105:=Known.add yJ zV (ok46) (N:=60) (by kernel_rfl)
noncomputable def k51:List (List PV × Ret):=[([.a [.l [[.s (ByteArray.mk #[97]),.n .i64 4,.n .i64 (-1),.n .i64 0,.n .i64 0,.n .i64 0,.n .i64 0,.n .i64 64,.n .i64 1,.n .i64 65536,.n .i64 65536,.n .i64 65536],[.s (ByteArray.mk #[98]),.n .i64 5,.n .i64 0,.n .i64 0,.n .i64 0,.n .i64 0,.n .i64 0,.n .i64 64,.n .i64 1,.n .i64 65536,.n .i64 65536,.n .i64 65536]],.l []],.l [[.n .i64 16,.n .i64 16],[.n .i64 0,.n .i64 0]]],.v (.l [[.n .i64 65536,.n .i64 65536,.n .i64 0,.n .i64 0,.n .i64 0,.n .i64 0,.n .i64 0,.n .i64 0,.n .i64 65536,.n .i64 65536,.n .i64 0,.n .i64 0,.n .i64 0,.n .i64 0,.n .i64 0,.n .i64 0,.n .i64 65536,.n .i64 65536,.n .i64 16,.n .i64 16,.n .i64 0,.n .i64 0,.n .i64 0,.n .i64 0],[.n .i64 65536,.n .i64 65536,.n .i64 0,.n .i64 0,.n .i64 0,.n .i64 0,.n .i64 0,.n .i64 0,.n .i64 65536,.n .i64 65536,.n .i64 0,.n .i64 0,.n .i64 0,.n .i64 0,.n .i64 0,.n .i64 0,.n .i64 65536,.n .i64 65536,.n .i64 16,.n .i64 16,.n .i64 0,.n .i64 0,.n .i64 0,.n .i64 0]])),
 ([.a [.l [[.s (ByteArray.mk #[97]),.n .i64 4,.n .i64 (-1),.n .i64 0,.n .i64 0,.n .i64 0,.n .i64 0,.n .i64 64,.n .i64 1,.n .i64 65536,.n .i64 65536,.n .i64 65536],[.s (ByteArray.mk #[98]),.n .i64 5,.n .i64 0,.n .i64 0,.n .i64 0,.n .i64 0,.n .i64 0,.n .i64 64,.n .i64 1,.n .i64 65536,.n .i64 65536,.n .i64 65536]],.l []],.l [[.n .i64 32,.n .i64 32],[.n .i64 8,.n .i64 8]]],.v (.l [[.n .i64 65536,.n .i64 65536,.n .i64 0,.n .i64 0,.n .i64 0,.n .i64 0,.n .i64 0,.n .i64 0,.n .i64 65536,.n .i64 65536,.n .i64 0,.n .i64 0,.n .i64 0,.n .i64 0,.n .i64 0,.n .i64 0,.n .i64 65536,.n .i64 65536,.n .i64 32,.n .i64 32,.n .i64 0,.n .i64 0,.n .i64 0,.n .i64 0],[.n .i64 65536,.n .i64 65536,.n .i64 0,.n .i64 0,.n .i64 0,.n .i64 0,.n .i64 0,.n .i64 0,.n .i64 65536,.n .i64 65536,.n .i64 0,.n .i64 0,.n .i64 0,.n .i64 0,.n .i64 0,.n .i64 0,.n .i64 65536,.n .i64 65536,.n .i64 32,.n .i64 32,.n .i64 8,.n .i64 8,.n .i64 0,.n .i64 0]]))]
noncomputable def t51:Known:=(51,k51) :: t105
theorem ok51:Known.Ok Tryz.prog t51:=Known.add yJ zV (fQV) (N:=60) (by kernel_rfl)
noncomputable def k78:List (List PV × Ret):=[([.a [.n .i64 65536,.n .i64 65536,.n .i64 0,.n .i64 0,.n .i64 0,.n .i64 0,.n .i64 0,.n .i64 0,.n .i64 65536,.n .i64 65536,.n .i64 0,.n .i64 0,.n .i64 0,.n .i64 0,.n .i64 0,.n .i64 0,.n .i64 65536,.n .i64 65536,.n .i64 16,.n .i64 16,.n .i64 0,.n .i64 0,.n .i64 0,.n .i64 0],.a [.n .i64 0,.n .i64 0,.n .i64 0,.n .i64 0,.n .i64 0,.n .i64 0]],.v (.a [.n .i64 16,.n .i64 16,.n .i64 0,.n .i64 0,.n .i64 0,.n .i64 0])),
 ([.a [.n .i64 65536,.n .i64 65536,.n .i64 0,.n .i64 0,.n .i64 0,.n .i64 0,.n .i64 0,.n .i64 0,.n .i64 65536,.n .i64 65536,.n .i64 0,.n .i64 0,.n .i64 0,.n .i64 0,.n .i64 0,.n .i64 0,.n .i64 65536,.n .i64 65536,.n .i64 32,.n .i64 32,.n .i64 8,.n .i64 8,.n .i64 0,.n .i64 0],.a [.n .i64 0,.n .i64 0,.n .i64 0,.n .i64 0,.n .i64 0,.n .i64 0]],.v (.a [.n .i64 32,.n .i64 32,.n .i64 8,.n .i64 8,.n .i64 0,.n .i64 0]))]
noncomputable def t78:Known:=(78,k78) :: t51
theorem ok78:Known.Ok Tryz.prog t78:=Known.add yJ zV (ok51) (N:=60) (by kernel_rfl)
noncomputable def k27:List (List PV × Ret):=[([.a [.l [[.s (ByteArray.mk #[97]),.n .i64 4,.n .i64 (-1),.n .i64 0,.n .i64 0,.n .i64 0,.n .i64 0,.n .i64 64,.n .i64 1,.n .i64 65536,.n .i64 65536,.n .i64 65536],[.s (ByteArray.mk #[98]),.n .i64 5,.n .i64 0,.n .i64 0,.n .i64 0,.n .i64 0,.n .i64 0,.n .i64 64,.n .i64 1,.n .i64 65536,.n .i64 65536,.n .i64 65536]],.l [],.l [],.l [],.l [[.s (ByteArray.mk #[111]),.l [[.n .i64 0,.n .i64 1,.l [[.n .i64 1,.n .i64 2,.n .i64 3]]]]]],.l [[.n .i64 16,.n .i64 0,.n .i64 0],[.n .i64 32,.n .i64 8,.n .i64 0]],.l [[.n .i64 1,.n .i64 0,.n .i64 0,.n .i64 0]],.l [],.n .i64 0],.n .i64 0,.n .i64 0,.l [[.n .i64 16],[.n .i64 0]]],.v (.b true)),
 ([.a [.l [[.s (ByteArray.mk #[97]),.n .i64 4,.n .i64 (-1),.n .i64 0,.n .i64 0,.n .i64 0,.n .i64 0,.n .i64 64,.n .i64 1,.n .i64 65536,.n .i64 65536,.n .i64 65536],[.s (ByteArray.mk #[98]),.n .i64 5,.n .i64 0,.n .i64 0,.n .i64 0,.n .i64 0,.n .i64 0,.n .i64 64,.n .i64 1,.n .i64 65536,.n .i64 65536,.n .i64 65536]],.l [],.l [],.l [],.l [[.s (ByteArray.mk #[111]),.l [[.n .i64 0,.n .i64 1,.l [[.n .i64 1,.n .i64 2,.n .i64 3]]]]]],.l [[.n .i64 16,.n .i64 0,.n .i64 0],[.n .i64 32,.n .i64 8,.n .i64 0]],.l [[.n .i64 1,.n .i64 0,.n .i64 0,.n .i64 0]],.l [],.n .i64 0],.n .i64 0,.n .i64 1,.l [[.n .i64 32],[.n .i64 8]]],.v (.b true))]
noncomputable def t27:Known:=(27,k27) :: t78
theorem ok27:Known.Ok Tryz.prog t27:=Known.add yJ zV (ok78) (N:=60) (by kernel_rfl)
noncomputable def k32:List (List PV × Ret):=[([.a [.l [[.s (ByteArray.mk #[97]),.n .i64 4,.n .i64 (-1),.n .i64 0,.n .i64 0,.n .i64 0,.n .i64 0,.n .i64 64,.n .i64 1,.n .i64 65536,.n .i64 65536,.n .i64 65536],[.s (ByteArray.mk #[98]),.n .i64 5,.n .i64 0,.n .i64 0,.n .i64 0,.n .i64 0,.n .i64 0,.n .i64 64,.n .i64 1,.n .i64 65536,.n .i64 65536,.n .i64 65536]],.l [],.l [],.l [],.l [[.s (ByteArray.mk #[111]),.l [[.n .i64 0,.n .i64 1,.l [[.n .i64 1,.n .i64 2,.n .i64 3]]]]]],.l [[.n .i64 16,.n .i64 0,.n .i64 0],[.n .i64 32,.n .i64 8,.n .i64 0]],.l [[.n .i64 1,.n .i64 0,.n .i64 0,.n .i64 0]],.l [],.n .i64 0],.a [.l [[.n .i64 0]]],.l [[.n .i64 16],[.n .i64 0]],.n .i64 0,.n .i64 0],.v (.t [.a [.l [[.n .i64 (-1)]]],.b true]))]
noncomputable def t32:Known:=(32,k32) :: t27
theorem ok32:Known.Ok Tryz.prog t32:=Known.add yJ zV (ok27) (N:=60) (by kernel_rfl)
noncomputable def k33:List (List PV × Ret):=[([.a [.l [[.s (ByteArray.mk #[97]),.n .i64 4,.n .i64 (-1),.n .i64 0,.n .i64 0,.n .i64 0,.n .i64 0,.n .i64 64,.n .i64 1,.n .i64 65536,.n .i64 65536,.n .i64 65536],[.s (ByteArray.mk #[98]),.n .i64 5,.n .i64 0,.n .i64 0,.n .i64 0,.n .i64 0,.n .i64 0,.n .i64 64,.n .i64 1,.n .i64 65536,.n .i64 65536,.n .i64 65536]],.l [],.l [],.l [],.l [[.s (ByteArray.mk #[111]),.l [[.n .i64 0,.n .i64 1,.l [[.n .i64 1,.n .i64 2,.n .i64 3]]]]]],.l [[.n .i64 16,.n .i64 0,.n .i64 0],[.n .i64 32,.n .i64 8,.n .i64 0]],.l [[.n .i64 1,.n .i64 0,.n .i64 0,.n .i64 0]],.l [],.n .i64 0],.a [.l [[.n .i64 (-1)]]],.l [[.n .i64 32],[.n .i64 8]],.n .i64 0,.n .i64 1],.v (.t [.a [.l [[.n .i64 1]]],.b true]))]
noncomputable def t33:Known:=(33,k33) :: t32
theorem ok33:Known.Ok Tryz.prog t33:=Known.add yJ zV (ok32) (N:=60) (by kernel_rfl)
noncomputable def k36:List (List PV × Ret):=[([.a [.l [[.s (ByteArray.mk #[97]),.n .i64 4,.n .i64 (-1),.n .i64 0,.n .i64 0,.n .i64 0,.n .i64 0,.n .i64 64,.n .i64 1,.n .i64 65536,.n .i64 65536,.n .i64 65536],[.s (ByteArray.mk #[98]),.n .i64 5,.n .i64 0,.n .i64 0,.n .i64 0,.n .i64 0,.n .i64 0,.n .i64 64,.n .i64 1,.n .i64 65536,.n .i64 65536,.n .i64 65536]],.l [],.l [],.l [],.l [[.s (ByteArray.mk #[111]),.l [[.n .i64 0,.n .i64 1,.l [[.n .i64 1,.n .i64 2,.n .i64 3]]]]]],.l [[.n .i64 16,.n .i64 0,.n .i64 0],[.n .i64 32,.n .i64 8,.n .i64 0]],.l [[.n .i64 1,.n .i64 0,.n .i64 0,.n .i64 0]],.l [],.n .i64 0],.a [.l [[.n .i64 (-1)]]]],.v (.t [.a [.l [[.s (ByteArray.mk #[97]),.n .i64 4,.n .i64 (-1),.n .i64 0,.n .i64 0,.n .i64 0,.n .i64 0,.n .i64 64,.n .i64 1,.n .i64 65536,.n .i64 65536,.n .i64 65536],[.s (ByteArray.mk #[98]),.n .i64 5,.n .i64 0,.n .i64 0,.n .i64 0,.n .i64 0,.n .i64 0,.n .i64 64,.n .i64 1,.n .i64 65536,.n .i64 65536,.n .i64 65536]],.l [],.l [[.n .i64 1,.n .i64 1,.l [[.n .i64 1,.n .i64 2,.n .i64 3]]]],.l []],.n .i64 0]))]
noncomputable def t36:Known:=(36,k36) :: t33
theorem ok36:Known.Ok Tryz.prog t36:=Known.add yJ zV (ok33) (N:=60) (by kernel_rfl)
theorem call:yK Tryz.prog 16 [] (.v (.b true)):=qYU (N:=60) yJ zV (Known.ok (ok36)) (by kernel_rfl:run T (Known.orc t36) 60 16 []=some (.v (.b true)))
end Go.Proofs.YtmeldddgjfocdaaGreat.Ag
namespace Go.Rx
open Go.RowKit Go.Sx Go.ChangeShapes Go.WideShapes
section
variable {P:Program} {W:World} {H:Type} {enc:TypeId × Value→H}
def yWX (W:World) (v:Value) (L:List Int):Prop:=RP (fun k=>k < W.heap.size) W (yXA L) v∧L.length≤9223372036854775807∧∀ x ∈ L,In64 x
theorem jKG {t e:TypeId} {v:Value} {d:DataW H} {p:List MemPlace} (ht:P.underlying t=some (.slice e)) (he:P.underlying e=some (.int .i64)) (hc:P.cellsOf e=1)
  {r:Reach} {base:Nat} (hv:Value.okWide P W r base t v) (h:DataW.Trod enc P W 0 (fun _=>true) true t v d p):∃ L:List Int,yWX W v L:=by
 obtain ⟨a,l,c,rfl⟩:=kQK ht hv;obtain ⟨fuel,h⟩:=h;have h':DataW.trod enc P W 0 (fun _=>true) true fuel t [.slice a l c]=some (d,p):=h;rcases open_ints ht he hc h' with ⟨h1,_⟩ | ⟨a',len,cap,zs,h1,_,hlc,hcap,hz,_,hcell,hwf⟩
 ·simp at h1;obtain ⟨rfl,rfl,rfl⟩:=h1;exact ⟨[],.l0 none 0,by simp,fun x hx=>by cases hx⟩
 ·simp at h1;obtain ⟨rfl,rfl,rfl⟩:=h1;simp only [if_true] at hz;have hlen:(zs.take l).length=l:=by simp; omega
  have hI:IntsAt W W.heap.size (.slice (some a') l c) (zs.take l):=⟨by have:maxLen=9223372036854775807:=rfl; omega,some a',c,by rw [hlen],fun j hj=>by
   rw [hlen] at hj;have h0:=hcell 0 (by omega);have hj':=hcell j (by omega);have hsp:a'.spot=none:=by
    have e:a'.add 0=a':=by simp [Addr.add]
    rw [e] at h0;unfold World.cell? at h0;cases hb:W.heap[a'.block]? with
    | none=>simp [hb] at h0
    | some o=>cases o <;> simp [hb] at h0; exact h0.1
   obtain ⟨bb,off,sp⟩:=a';simp only at hsp;subst hsp;rw [qKB] at hj';refine ⟨bb,off,rfl,?_,?_⟩
   ·unfold World.cell? at hj';cases hb:W.heap[bb]? with
    | none=>simp [hb] at hj'
    | some o=>exact qZU hb
   ·rw [hj'];simp [vZG,vZV,hj]⟩
  refine ⟨zs.take l,?_,hI.1,fun x hx => ?_⟩
  ·have:=jQX (F:=fun k=>k < W.heap.size) (w:=W) (L:=zs.take l) (a:=some a') (c:=c) (by rw [hlen]; exact hI) (by rw [hlen]; exact hlc) fun k hk=>hk
   rw [hlen] at this;exact this
  ·have:=hwf x (List.mem_of_mem_take hx)
   simpa [Lit.wf,IntKind.has,IntKind.min,IntKind.max,IntKind.signed,IntKind.bits,In64] using this
end
end Go.Rx
namespace Go.Proofs.YtmeldddgjfocdaaGreat
open Go.Rx Go.Sx Go.RowKit Od Nb Nx Ga Ha Hc
theorem zWE (v0:Value) (L0:List Int) (v1:Value) (L1:List Int) (a2:Int) (a3:Int) (a4:Int) (a5:Int) (W:World) (h0:yWX W v0 L0) (h1:yWX W v1 L1):Calls Tryz.prog 8 #[v0,v1,.int .i64 a2,.int .i64 a3,.int .i64 a4,.int .i64 a5] W (Rets (.bool true) W) :=
 qWW (Hy.snd_law Ag.call L0 h0.2.1 L1 h1.2.1 a2 a3 a4 a5) rfl (qJA h0.1 (qJA h1.1 (qJA (.n _ _) (qJA (.n _ _) (qJA (.n _ _) (qJA (.n _ _) zYY))))))
end Go.Proofs.YtmeldddgjfocdaaGreat

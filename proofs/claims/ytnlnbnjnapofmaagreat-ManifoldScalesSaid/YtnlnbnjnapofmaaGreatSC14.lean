/- Part 14 of the texts behind the last one: rules and contracts. No condition. -/
import Derived.Test.YtnlnbnjnapofmaaGreatSC13
namespace Go.Proofs.YtnlnbnjnapofmaaGreat.Ax
open Go.Rx Rt
noncomputable def k131 : List (List PV × Ret) := [([.s (ByteArray.mk #[97])], .v (.b true)),
  ([.s (ByteArray.mk #[98])], .v (.b true))]
noncomputable def t131 : Known := (131, k131) :: ([] : Known)
theorem ok131 : Known.Ok Tryz.prog t131 := Known.add tabOk mixed (Known.nil _) (N := 60) (by kernel_rfl)
noncomputable def k132 : List (List PV × Ret) := [([.a [.l [[.s (ByteArray.mk #[97]), .n .i64 4, .n .i64 (-1), .n .i64 0, .n .i64 0, .n .i64 0, .n .i64 0, .n .i64 64, .n .i64 1, .n .i64 65536, .n .i64 65536, .n .i64 65536], [.s (ByteArray.mk #[98]), .n .i64 5, .n .i64 0, .n .i64 0, .n .i64 0, .n .i64 0, .n .i64 0, .n .i64 64, .n .i64 1, .n .i64 65536, .n .i64 65536, .n .i64 65536]], .l []], .s (ByteArray.mk #[97])], .v (.n .i64 0)),
  ([.a [.l [[.s (ByteArray.mk #[97]), .n .i64 4, .n .i64 (-1), .n .i64 0, .n .i64 0, .n .i64 0, .n .i64 0, .n .i64 64, .n .i64 1, .n .i64 65536, .n .i64 65536, .n .i64 65536], [.s (ByteArray.mk #[98]), .n .i64 5, .n .i64 0, .n .i64 0, .n .i64 0, .n .i64 0, .n .i64 0, .n .i64 64, .n .i64 1, .n .i64 65536, .n .i64 65536, .n .i64 65536]], .l []], .s (ByteArray.mk #[98])], .v (.n .i64 1))]
noncomputable def t132 : Known := (132, k132) :: t131
theorem ok132 : Known.Ok Tryz.prog t132 := Known.add tabOk mixed (ok131) (N := 60) (by kernel_rfl)
noncomputable def k133 : List (List PV × Ret) := [([.a [.n .i64 0, .n .i64 0, .n .i64 0]], .v (.b false))]
noncomputable def t133 : Known := (133, k133) :: t132
theorem ok133 : Known.Ok Tryz.prog t133 := Known.add tabOk mixed (ok132) (N := 60) (by kernel_rfl)
noncomputable def k134 : List (List PV × Ret) := [([.n .i64 4], .v (.n .i64 4194304)),
  ([.n .i64 5], .v (.n .i64 4194304))]
noncomputable def t134 : Known := (134, k134) :: t133
theorem ok134 : Known.Ok Tryz.prog t134 := Known.add tabOk mixed (ok133) (N := 60) (by kernel_rfl)
noncomputable def k135 : List (List PV × Ret) := [([.n .i64 1, .n .i64 1024], .v (.b true)),
  ([.n .i64 65536, .n .i64 1048576], .v (.b true)),
  ([.n .i64 65536, .n .i64 1099511627776], .v (.b true))]
noncomputable def t135 : Known := (135, k135) :: t134
theorem ok135 : Known.Ok Tryz.prog t135 := Known.add tabOk mixed (ok134) (N := 60) (by kernel_rfl)
noncomputable def k98 : List (List PV × Ret) := [([.a [.l [[.s (ByteArray.mk #[97]), .n .i64 4, .n .i64 (-1), .n .i64 0, .n .i64 0, .n .i64 0, .n .i64 0, .n .i64 64, .n .i64 1, .n .i64 65536, .n .i64 65536, .n .i64 65536], [.s (ByteArray.mk #[98]), .n .i64 5, .n .i64 0, .n .i64 0, .n .i64 0, .n .i64 0, .n .i64 0, .n .i64 64, .n .i64 1, .n .i64 65536, .n .i64 65536, .n .i64 65536]], .l []], .n .i64 0], .v (.n .i64 0)),
  ([.a [.l [[.s (ByteArray.mk #[97]), .n .i64 4, .n .i64 (-1), .n .i64 0, .n .i64 0, .n .i64 0, .n .i64 0, .n .i64 64, .n .i64 1, .n .i64 65536, .n .i64 65536, .n .i64 65536], [.s (ByteArray.mk #[98]), .n .i64 5, .n .i64 0, .n .i64 0, .n .i64 0, .n .i64 0, .n .i64 0, .n .i64 64, .n .i64 1, .n .i64 65536, .n .i64 65536, .n .i64 65536]], .l []], .n .i64 1], .v (.n .i64 0))]
noncomputable def t98 : Known := (98, k98) :: t135
theorem ok98 : Known.Ok Tryz.prog t98 := Known.add tabOk mixed (ok135) (N := 60) (by kernel_rfl)
noncomputable def k67 : List (List PV × Ret) := [([.a [.l [[.s (ByteArray.mk #[97]), .n .i64 4, .n .i64 (-1), .n .i64 0, .n .i64 0, .n .i64 0, .n .i64 0, .n .i64 64, .n .i64 1, .n .i64 65536, .n .i64 65536, .n .i64 65536], [.s (ByteArray.mk #[98]), .n .i64 5, .n .i64 0, .n .i64 0, .n .i64 0, .n .i64 0, .n .i64 0, .n .i64 64, .n .i64 1, .n .i64 65536, .n .i64 65536, .n .i64 65536]], .l []]], .v (.n .i64 0))]
noncomputable def t67 : Known := (67, k67) :: t98
theorem ok67 : Known.Ok Tryz.prog t67 := Known.add tabOk mixed (ok98) (N := 60) (by kernel_rfl)
noncomputable def k102 : List (List PV × Ret) := [([.a [.n .i64 0, .n .i64 1, .n .i64 0]], .v (.b true))]
noncomputable def t102 : Known := (102, k102) :: t67
theorem ok102 : Known.Ok Tryz.prog t102 := Known.add tabOk mixed (ok67) (N := 60) (by kernel_rfl)
noncomputable def k68 : List (List PV × Ret) := [([.a [.n .i64 0, .n .i64 1, .n .i64 0]], .v (.b true))]
noncomputable def t68 : Known := (68, k68) :: t102
theorem ok68 : Known.Ok Tryz.prog t68 := Known.add tabOk mixed (ok102) (N := 60) (by kernel_rfl)
noncomputable def k40 : List (List PV × Ret) := [([.a [.l [[.s (ByteArray.mk #[97]), .n .i64 4, .n .i64 (-1), .n .i64 0, .n .i64 0, .n .i64 0, .n .i64 0, .n .i64 64, .n .i64 1, .n .i64 65536, .n .i64 65536, .n .i64 65536], [.s (ByteArray.mk #[98]), .n .i64 5, .n .i64 0, .n .i64 0, .n .i64 0, .n .i64 0, .n .i64 0, .n .i64 64, .n .i64 1, .n .i64 65536, .n .i64 65536, .n .i64 65536]], .l []], .l [[.n .i64 0, .n .i64 1, .n .i64 0, .n .i64 0, .n .i64 0, .n .i64 0, .n .i64 1, .n .i64 0, .n .i64 0, .n .i64 9]]], .v (.b true))]
noncomputable def t40 : Known := (40, k40) :: t68
theorem ok40 : Known.Ok Tryz.prog t40 := Known.add tabOk mixed (ok68) (N := 60) (by kernel_rfl)
noncomputable def k137 : List (List PV × Ret) := [([.a [.n .i64 3, .n .i64 4]], .v (.b true)),
  ([.a [.n .i64 0, .n .i64 64]], .v (.b true)),
  ([.a [.n .i64 5, .n .i64 7]], .v (.b true)),
  ([.a [.n .i64 65536, .n .i64 65536]], .v (.b true)),
  ([.a [.n .i64 0, .n .i64 0]], .v (.b true)),
  ([.a [.n .i64 2, .n .i64 8]], .v (.b true))]
noncomputable def t137 : Known := (137, k137) :: t40
theorem ok137 : Known.Ok Tryz.prog t137 := Known.add tabOk mixed (ok40) (N := 60) (by kernel_rfl)
noncomputable def k103 : List (List PV × Ret) := [([.a [.n .i64 3, .n .i64 4], .a [.n .i64 0, .n .i64 64]], .v (.b true)),
  ([.a [.n .i64 5, .n .i64 7], .a [.n .i64 0, .n .i64 64]], .v (.b true)),
  ([.a [.n .i64 65536, .n .i64 65536], .a [.n .i64 65536, .n .i64 65536]], .v (.b true)),
  ([.a [.n .i64 0, .n .i64 0], .a [.n .i64 65536, .n .i64 65536]], .v (.b true)),
  ([.a [.n .i64 0, .n .i64 0], .a [.n .i64 0, .n .i64 0]], .v (.b true)),
  ([.a [.n .i64 65536, .n .i64 65536], .a [.n .i64 0, .n .i64 0]], .v (.b true)),
  ([.a [.n .i64 65536, .n .i64 65536], .a [.n .i64 3, .n .i64 4]], .v (.b true)),
  ([.a [.n .i64 0, .n .i64 0], .a [.n .i64 3, .n .i64 4]], .v (.b true)),
  ([.a [.n .i64 3, .n .i64 4], .a [.n .i64 0, .n .i64 0]], .v (.b true)),
  ([.a [.n .i64 0, .n .i64 0], .a [.n .i64 5, .n .i64 7]], .v (.b true)),
  ([.a [.n .i64 65536, .n .i64 65536], .a [.n .i64 5, .n .i64 7]], .v (.b true)),
  ([.a [.n .i64 5, .n .i64 7], .a [.n .i64 0, .n .i64 0]], .v (.b true)),
  ([.a [.n .i64 65536, .n .i64 65536], .a [.n .i64 0, .n .i64 64]], .v (.b true)),
  ([.a [.n .i64 0, .n .i64 0], .a [.n .i64 0, .n .i64 64]], .v (.b true)),
  ([.a [.n .i64 0, .n .i64 64], .a [.n .i64 0, .n .i64 0]], .v (.b true)),
  ([.a [.n .i64 0, .n .i64 0], .a [.n .i64 2, .n .i64 8]], .v (.b true)),
  ([.a [.n .i64 65536, .n .i64 65536], .a [.n .i64 2, .n .i64 8]], .v (.b true)),
  ([.a [.n .i64 2, .n .i64 8], .a [.n .i64 0, .n .i64 0]], .v (.b true))]
noncomputable def t103 : Known := (103, k103) :: t137
theorem ok103 : Known.Ok Tryz.prog t103 := Known.add tabOk mixed (ok137) (N := 60) (by kernel_rfl)
noncomputable def k70 : List (List PV × Ret) := [([.a [.s (ByteArray.mk #[97]), .n .i64 4, .n .i64 (-1), .n .i64 0, .n .i64 0, .n .i64 0, .n .i64 0, .n .i64 64, .n .i64 1, .n .i64 65536, .n .i64 65536, .n .i64 65536], .a [.n .i64 3, .n .i64 4]], .v (.b true)),
  ([.a [.s (ByteArray.mk #[98]), .n .i64 5, .n .i64 0, .n .i64 0, .n .i64 0, .n .i64 0, .n .i64 0, .n .i64 64, .n .i64 1, .n .i64 65536, .n .i64 65536, .n .i64 65536], .a [.n .i64 5, .n .i64 7]], .v (.b true))]
noncomputable def t70 : Known := (70, k70) :: t103
theorem ok70 : Known.Ok Tryz.prog t70 := Known.add tabOk mixed (ok103) (N := 60) (by kernel_rfl)
noncomputable def k69 : List (List PV × Ret) := [([.l [[.s (ByteArray.mk #[97]), .n .i64 4, .n .i64 (-1), .n .i64 0, .n .i64 0, .n .i64 0, .n .i64 0, .n .i64 64, .n .i64 1, .n .i64 65536, .n .i64 65536, .n .i64 65536], [.s (ByteArray.mk #[98]), .n .i64 5, .n .i64 0, .n .i64 0, .n .i64 0, .n .i64 0, .n .i64 0, .n .i64 64, .n .i64 1, .n .i64 65536, .n .i64 65536, .n .i64 65536]], .l [[.n .i64 3, .n .i64 4], [.n .i64 5, .n .i64 7]], .f 70 [] []], .v (.b true))]
noncomputable def t69 : Known := (69, k69) :: t70
theorem ok69 : Known.Ok Tryz.prog t69 := Known.add tabOk mixed (ok70) (N := 60) (by kernel_rfl)
noncomputable def k41 : List (List PV × Ret) := [([.a [.l [[.s (ByteArray.mk #[97]), .n .i64 4, .n .i64 (-1), .n .i64 0, .n .i64 0, .n .i64 0, .n .i64 0, .n .i64 64, .n .i64 1, .n .i64 65536, .n .i64 65536, .n .i64 65536], [.s (ByteArray.mk #[98]), .n .i64 5, .n .i64 0, .n .i64 0, .n .i64 0, .n .i64 0, .n .i64 0, .n .i64 64, .n .i64 1, .n .i64 65536, .n .i64 65536, .n .i64 65536]], .l []], .l [[.n .i64 3, .n .i64 4], [.n .i64 5, .n .i64 7]]], .v (.b true))]
noncomputable def t41 : Known := (41, k41) :: t69
theorem ok41 : Known.Ok Tryz.prog t41 := Known.add tabOk mixed (ok69) (N := 60) (by kernel_rfl)
noncomputable def k156 : List (List PV × Ret) := [([.l [[.n .i64 3, .n .i64 4], [.n .i64 5, .n .i64 7]], .f 139 [] []], .v (.n .i64 (-1))),
  ([.l [[.n .i64 0, .n .i64 64], [.n .i64 2, .n .i64 8]], .f 139 [] []], .v (.n .i64 (-1)))]
noncomputable def t156 : Known := (156, k156) :: t41
theorem ok156 : Known.Ok Tryz.prog t156 := Known.add tabOk mixed (ok41) (N := 60) (by kernel_rfl)
noncomputable def k138 : List (List PV × Ret) := [([.l [[.n .i64 3, .n .i64 4], [.n .i64 5, .n .i64 7]], .f 139 [] []], .v (.b false)),
  ([.l [[.n .i64 0, .n .i64 64], [.n .i64 2, .n .i64 8]], .f 139 [] []], .v (.b false))]
noncomputable def t138 : Known := (138, k138) :: t156
theorem ok138 : Known.Ok Tryz.prog t138 := Known.add tabOk mixed (ok156) (N := 60) (by kernel_rfl)
noncomputable def k104 : List (List PV × Ret) := [([.a [.l [[.s (ByteArray.mk #[97]), .n .i64 4, .n .i64 (-1), .n .i64 0, .n .i64 0, .n .i64 0, .n .i64 0, .n .i64 64, .n .i64 1, .n .i64 65536, .n .i64 65536, .n .i64 65536], [.s (ByteArray.mk #[98]), .n .i64 5, .n .i64 0, .n .i64 0, .n .i64 0, .n .i64 0, .n .i64 0, .n .i64 64, .n .i64 1, .n .i64 65536, .n .i64 65536, .n .i64 65536]], .l []], .l [[.n .i64 3, .n .i64 4], [.n .i64 5, .n .i64 7]]], .v (.b true)),
  ([.a [.l [[.s (ByteArray.mk #[97]), .n .i64 4, .n .i64 (-1), .n .i64 0, .n .i64 0, .n .i64 0, .n .i64 0, .n .i64 64, .n .i64 1, .n .i64 65536, .n .i64 65536, .n .i64 65536], [.s (ByteArray.mk #[98]), .n .i64 5, .n .i64 0, .n .i64 0, .n .i64 0, .n .i64 0, .n .i64 0, .n .i64 64, .n .i64 1, .n .i64 65536, .n .i64 65536, .n .i64 65536]], .l []], .l [[.n .i64 0, .n .i64 64], [.n .i64 2, .n .i64 8]]], .v (.b true))]
noncomputable def t104 : Known := (104, k104) :: t138
theorem ok104 : Known.Ok Tryz.prog t104 := Known.add tabOk mixed (ok138) (N := 60) (by kernel_rfl)
noncomputable def k153 : List (List PV × Ret) := [([.n .i64 0], .v (.n .i64 0)),
  ([.n .i64 65536], .v (.n .i64 65536)),
  ([.n .i64 3], .v (.n .i64 3)),
  ([.n .i64 4], .v (.n .i64 4)),
  ([.n .i64 5], .v (.n .i64 5)),
  ([.n .i64 7], .v (.n .i64 7)),
  ([.n .i64 64], .v (.n .i64 64)),
  ([.n .i64 2], .v (.n .i64 2)),
  ([.n .i64 8], .v (.n .i64 8))]
noncomputable def t153 : Known := (153, k153) :: t104
theorem ok153 : Known.Ok Tryz.prog t153 := Known.add tabOk mixed (ok104) (N := 60) (by kernel_rfl)
noncomputable def k120 : List (List PV × Ret) := [([.n .i64 0, .n .i64 0], .v (.a [.n .i64 0, .n .i64 0])),
  ([.n .i64 65536, .n .i64 65536], .v (.a [.n .i64 65536, .n .i64 65536])),
  ([.n .i64 3, .n .i64 4], .v (.a [.n .i64 3, .n .i64 4])),
  ([.n .i64 5, .n .i64 7], .v (.a [.n .i64 5, .n .i64 7])),
  ([.n .i64 0, .n .i64 64], .v (.a [.n .i64 0, .n .i64 64])),
  ([.n .i64 2, .n .i64 8], .v (.a [.n .i64 2, .n .i64 8]))]
noncomputable def t120 : Known := (120, k120) :: t153
theorem ok120 : Known.Ok Tryz.prog t120 := Known.add tabOk mixed (ok153) (N := 60) (by kernel_rfl)
noncomputable def k86 : List (List PV × Ret) := [([.n .i64 0], .v (.a [.n .i64 0, .n .i64 0])),
  ([.n .i64 65536], .v (.a [.n .i64 65536, .n .i64 65536]))]
noncomputable def t86 : Known := (86, k86) :: t120
theorem ok86 : Known.Ok Tryz.prog t86 := Known.add tabOk mixed (ok120) (N := 60) (by kernel_rfl)
noncomputable def k75 : List (List PV × Ret) := [([.a [.n .i64 0, .n .i64 0, .n .i64 0]], .v (.a [.n .i64 0, .n .i64 0, .n .i64 0, .n .i64 0, .n .i64 0, .n .i64 0]))]
noncomputable def t75 : Known := (75, k75) :: t86
theorem ok75 : Known.Ok Tryz.prog t75 := Known.add tabOk mixed (ok86) (N := 60) (by kernel_rfl)
noncomputable def k165 : List (List PV × Ret) := [([], .v (.a [.n .i64 65536, .n .i64 65536, .n .i64 0, .n .i64 0, .n .i64 0, .n .i64 0, .n .i64 0, .n .i64 0, .n .i64 65536, .n .i64 65536, .n .i64 0, .n .i64 0, .n .i64 0, .n .i64 0, .n .i64 0, .n .i64 0, .n .i64 65536, .n .i64 65536]))]
noncomputable def t165 : Known := (165, k165) :: t75
theorem ok165 : Known.Ok Tryz.prog t165 := Known.add tabOk mixed (ok75) (N := 60) (by kernel_rfl)
noncomputable def k157 : List (List PV × Ret) := [([.a [.n .i64 0, .n .i64 0, .n .i64 0, .n .i64 0, .n .i64 0, .n .i64 0]], .v (.a [.n .i64 65536, .n .i64 65536, .n .i64 0, .n .i64 0, .n .i64 0, .n .i64 0, .n .i64 0, .n .i64 0, .n .i64 65536, .n .i64 65536, .n .i64 0, .n .i64 0, .n .i64 0, .n .i64 0, .n .i64 0, .n .i64 0, .n .i64 65536, .n .i64 65536, .n .i64 0, .n .i64 0, .n .i64 0, .n .i64 0, .n .i64 0, .n .i64 0])),
  ([.a [.n .i64 3, .n .i64 4, .n .i64 0, .n .i64 0, .n .i64 0, .n .i64 0]], .v (.a [.n .i64 65536, .n .i64 65536, .n .i64 0, .n .i64 0, .n .i64 0, .n .i64 0, .n .i64 0, .n .i64 0, .n .i64 65536, .n .i64 65536, .n .i64 0, .n .i64 0, .n .i64 0, .n .i64 0, .n .i64 0, .n .i64 0, .n .i64 65536, .n .i64 65536, .n .i64 3, .n .i64 4, .n .i64 0, .n .i64 0, .n .i64 0, .n .i64 0])),
  ([.a [.n .i64 0, .n .i64 0, .n .i64 5, .n .i64 7, .n .i64 0, .n .i64 0]], .v (.a [.n .i64 65536, .n .i64 65536, .n .i64 0, .n .i64 0, .n .i64 0, .n .i64 0, .n .i64 0, .n .i64 0, .n .i64 65536, .n .i64 65536, .n .i64 0, .n .i64 0, .n .i64 0, .n .i64 0, .n .i64 0, .n .i64 0, .n .i64 65536, .n .i64 65536, .n .i64 0, .n .i64 0, .n .i64 5, .n .i64 7, .n .i64 0, .n .i64 0])),
  ([.a [.n .i64 0, .n .i64 64, .n .i64 0, .n .i64 0, .n .i64 0, .n .i64 0]], .v (.a [.n .i64 65536, .n .i64 65536, .n .i64 0, .n .i64 0, .n .i64 0, .n .i64 0, .n .i64 0, .n .i64 0, .n .i64 65536, .n .i64 65536, .n .i64 0, .n .i64 0, .n .i64 0, .n .i64 0, .n .i64 0, .n .i64 0, .n .i64 65536, .n .i64 65536, .n .i64 0, .n .i64 64, .n .i64 0, .n .i64 0, .n .i64 0, .n .i64 0])),
  ([.a [.n .i64 0, .n .i64 0, .n .i64 2, .n .i64 8, .n .i64 0, .n .i64 0]], .v (.a [.n .i64 65536, .n .i64 65536, .n .i64 0, .n .i64 0, .n .i64 0, .n .i64 0, .n .i64 0, .n .i64 0, .n .i64 65536, .n .i64 65536, .n .i64 0, .n .i64 0, .n .i64 0, .n .i64 0, .n .i64 0, .n .i64 0, .n .i64 65536, .n .i64 65536, .n .i64 0, .n .i64 0, .n .i64 2, .n .i64 8, .n .i64 0, .n .i64 0]))]
noncomputable def t157 : Known := (157, k157) :: t165
theorem ok157 : Known.Ok Tryz.prog t157 := Known.add tabOk mixed (ok165) (N := 60) (by kernel_rfl)
noncomputable def k167 : List (List PV × Ret) := [([.n .i64 0, .a [.n .i64 3, .n .i64 4]], .v (.a [.n .i64 65536, .n .i64 65536, .n .i64 0, .n .i64 0, .n .i64 0, .n .i64 0, .n .i64 0, .n .i64 0, .n .i64 65536, .n .i64 65536, .n .i64 0, .n .i64 0, .n .i64 0, .n .i64 0, .n .i64 0, .n .i64 0, .n .i64 65536, .n .i64 65536, .n .i64 3, .n .i64 4, .n .i64 0, .n .i64 0, .n .i64 0, .n .i64 0])),
  ([.n .i64 1, .a [.n .i64 5, .n .i64 7]], .v (.a [.n .i64 65536, .n .i64 65536, .n .i64 0, .n .i64 0, .n .i64 0, .n .i64 0, .n .i64 0, .n .i64 0, .n .i64 65536, .n .i64 65536, .n .i64 0, .n .i64 0, .n .i64 0, .n .i64 0, .n .i64 0, .n .i64 0, .n .i64 65536, .n .i64 65536, .n .i64 0, .n .i64 0, .n .i64 5, .n .i64 7, .n .i64 0, .n .i64 0])),
  ([.n .i64 0, .a [.n .i64 0, .n .i64 64]], .v (.a [.n .i64 65536, .n .i64 65536, .n .i64 0, .n .i64 0, .n .i64 0, .n .i64 0, .n .i64 0, .n .i64 0, .n .i64 65536, .n .i64 65536, .n .i64 0, .n .i64 0, .n .i64 0, .n .i64 0, .n .i64 0, .n .i64 0, .n .i64 65536, .n .i64 65536, .n .i64 0, .n .i64 64, .n .i64 0, .n .i64 0, .n .i64 0, .n .i64 0])),
  ([.n .i64 1, .a [.n .i64 2, .n .i64 8]], .v (.a [.n .i64 65536, .n .i64 65536, .n .i64 0, .n .i64 0, .n .i64 0, .n .i64 0, .n .i64 0, .n .i64 0, .n .i64 65536, .n .i64 65536, .n .i64 0, .n .i64 0, .n .i64 0, .n .i64 0, .n .i64 0, .n .i64 0, .n .i64 65536, .n .i64 65536, .n .i64 0, .n .i64 0, .n .i64 2, .n .i64 8, .n .i64 0, .n .i64 0]))]
noncomputable def t167 : Known := (167, k167) :: t157
theorem ok167 : Known.Ok Tryz.prog t167 := Known.add tabOk mixed (ok157) (N := 60) (by kernel_rfl)
noncomputable def k178 : List (List PV × Ret) := [([.n .i64 4294967296, .n .i64 16], .v (.n .i64 65536)),
  ([.n .i64 0, .n .i64 16], .v (.n .i64 0)),
  ([.n .i64 196608, .n .i64 16], .v (.n .i64 3)),
  ([.n .i64 327680, .n .i64 16], .v (.n .i64 5)),
  ([.n .i64 131072, .n .i64 16], .v (.n .i64 2))]
noncomputable def t178 : Known := (178, k178) :: t167
theorem ok178 : Known.Ok Tryz.prog t178 := Known.add tabOk mixed (ok167) (N := 60) (by kernel_rfl)
noncomputable def k179 : List (List PV × Ret) := [([.n .i64 4294967296, .n .i64 16], .v (.n .i64 65536)),
  ([.n .i64 0, .n .i64 16], .v (.n .i64 0)),
  ([.n .i64 262144, .n .i64 16], .v (.n .i64 4)),
  ([.n .i64 458752, .n .i64 16], .v (.n .i64 7)),
  ([.n .i64 4194304, .n .i64 16], .v (.n .i64 64)),
  ([.n .i64 524288, .n .i64 16], .v (.n .i64 8))]
noncomputable def t179 : Known := (179, k179) :: t178
theorem ok179 : Known.Ok Tryz.prog t179 := Known.add tabOk mixed (ok178) (N := 60) (by kernel_rfl)
noncomputable def k172 : List (List PV × Ret) := [([.n .i64 4294967296, .n .i64 4294967296], .v (.a [.n .i64 65536, .n .i64 65536])),
  ([.n .i64 0, .n .i64 0], .v (.a [.n .i64 0, .n .i64 0])),
  ([.n .i64 196608, .n .i64 262144], .v (.a [.n .i64 3, .n .i64 4])),
  ([.n .i64 327680, .n .i64 458752], .v (.a [.n .i64 5, .n .i64 7])),
  ([.n .i64 0, .n .i64 4194304], .v (.a [.n .i64 0, .n .i64 64])),
  ([.n .i64 131072, .n .i64 524288], .v (.a [.n .i64 2, .n .i64 8]))]
noncomputable def t172 : Known := (172, k172) :: t179
theorem ok172 : Known.Ok Tryz.prog t172 := Known.add tabOk mixed (ok179) (N := 60) (by kernel_rfl)
noncomputable def k162 : List (List PV × Ret) := [([.a [.n .i64 65536, .n .i64 65536], .a [.n .i64 65536, .n .i64 65536]], .v (.a [.n .i64 65536, .n .i64 65536])),
  ([.a [.n .i64 0, .n .i64 0], .a [.n .i64 0, .n .i64 0]], .v (.a [.n .i64 0, .n .i64 0])),
  ([.a [.n .i64 65536, .n .i64 65536], .a [.n .i64 0, .n .i64 0]], .v (.a [.n .i64 0, .n .i64 0])),
  ([.a [.n .i64 0, .n .i64 0], .a [.n .i64 65536, .n .i64 65536]], .v (.a [.n .i64 0, .n .i64 0])),
  ([.a [.n .i64 65536, .n .i64 65536], .a [.n .i64 3, .n .i64 4]], .v (.a [.n .i64 3, .n .i64 4])),
  ([.a [.n .i64 0, .n .i64 0], .a [.n .i64 3, .n .i64 4]], .v (.a [.n .i64 0, .n .i64 0])),
  ([.a [.n .i64 0, .n .i64 0], .a [.n .i64 5, .n .i64 7]], .v (.a [.n .i64 0, .n .i64 0])),
  ([.a [.n .i64 65536, .n .i64 65536], .a [.n .i64 5, .n .i64 7]], .v (.a [.n .i64 5, .n .i64 7])),
  ([.a [.n .i64 65536, .n .i64 65536], .a [.n .i64 0, .n .i64 64]], .v (.a [.n .i64 0, .n .i64 64])),
  ([.a [.n .i64 0, .n .i64 0], .a [.n .i64 0, .n .i64 64]], .v (.a [.n .i64 0, .n .i64 0])),
  ([.a [.n .i64 0, .n .i64 0], .a [.n .i64 2, .n .i64 8]], .v (.a [.n .i64 0, .n .i64 0])),
  ([.a [.n .i64 65536, .n .i64 65536], .a [.n .i64 2, .n .i64 8]], .v (.a [.n .i64 2, .n .i64 8]))]
noncomputable def t162 : Known := (162, k162) :: t172
theorem ok162 : Known.Ok Tryz.prog t162 := Known.add tabOk mixed (ok172) (N := 60) (by kernel_rfl)
noncomputable def k161 : List (List PV × Ret) := [([.a [.n .i64 0, .n .i64 0], .a [.n .i64 65536, .n .i64 65536]], .v (.a [.n .i64 65536, .n .i64 65536])),
  ([.a [.n .i64 65536, .n .i64 65536], .a [.n .i64 0, .n .i64 0]], .v (.a [.n .i64 65536, .n .i64 65536])),
  ([.a [.n .i64 0, .n .i64 0], .a [.n .i64 0, .n .i64 0]], .v (.a [.n .i64 0, .n .i64 0])),
  ([.a [.n .i64 0, .n .i64 0], .a [.n .i64 3, .n .i64 4]], .v (.a [.n .i64 3, .n .i64 4])),
  ([.a [.n .i64 3, .n .i64 4], .a [.n .i64 0, .n .i64 0]], .v (.a [.n .i64 3, .n .i64 4])),
  ([.a [.n .i64 0, .n .i64 0], .a [.n .i64 5, .n .i64 7]], .v (.a [.n .i64 5, .n .i64 7])),
  ([.a [.n .i64 5, .n .i64 7], .a [.n .i64 0, .n .i64 0]], .v (.a [.n .i64 5, .n .i64 7])),
  ([.a [.n .i64 0, .n .i64 0], .a [.n .i64 0, .n .i64 64]], .v (.a [.n .i64 0, .n .i64 64])),
  ([.a [.n .i64 0, .n .i64 64], .a [.n .i64 0, .n .i64 0]], .v (.a [.n .i64 0, .n .i64 64])),
  ([.a [.n .i64 0, .n .i64 0], .a [.n .i64 2, .n .i64 8]], .v (.a [.n .i64 2, .n .i64 8])),
  ([.a [.n .i64 2, .n .i64 8], .a [.n .i64 0, .n .i64 0]], .v (.a [.n .i64 2, .n .i64 8]))]
noncomputable def t161 : Known := (161, k161) :: t162
theorem ok161 : Known.Ok Tryz.prog t161 := Known.add tabOk mixed (ok162) (N := 60) (by kernel_rfl)
noncomputable def k171 : List (List PV × Ret) := [([.n .i64 65536], .v (.n .i64 65536)),
  ([.n .i64 0], .v (.n .i64 0))]
noncomputable def t171 : Known := (171, k171) :: t161
theorem ok171 : Known.Ok Tryz.prog t171 := Known.add tabOk mixed (ok161) (N := 60) (by kernel_rfl)
noncomputable def k160 : List (List PV × Ret) := [([.a [.n .i64 65536, .n .i64 65536, .n .i64 0, .n .i64 0, .n .i64 0, .n .i64 0, .n .i64 0, .n .i64 0, .n .i64 65536, .n .i64 65536, .n .i64 0, .n .i64 0, .n .i64 0, .n .i64 0, .n .i64 0, .n .i64 0, .n .i64 65536, .n .i64 65536], .a [.n .i64 65536, .n .i64 65536, .n .i64 0, .n .i64 0, .n .i64 0, .n .i64 0, .n .i64 0, .n .i64 0, .n .i64 65536, .n .i64 65536, .n .i64 0, .n .i64 0, .n .i64 0, .n .i64 0, .n .i64 0, .n .i64 0, .n .i64 65536, .n .i64 65536]], .v (.a [.n .i64 65536, .n .i64 65536, .n .i64 0, .n .i64 0, .n .i64 0, .n .i64 0, .n .i64 0, .n .i64 0, .n .i64 65536, .n .i64 65536, .n .i64 0, .n .i64 0, .n .i64 0, .n .i64 0, .n .i64 0, .n .i64 0, .n .i64 65536, .n .i64 65536]))]
noncomputable def t160 : Known := (160, k160) :: t171
theorem ok160 : Known.Ok Tryz.prog t160 := Known.add tabOk mixed (ok171) (N := 60) (by kernel_rfl)
noncomputable def k142 : List (List PV × Ret) := [([.a [.n .i64 65536, .n .i64 65536, .n .i64 0, .n .i64 0, .n .i64 0, .n .i64 0, .n .i64 0, .n .i64 0, .n .i64 65536, .n .i64 65536, .n .i64 0, .n .i64 0, .n .i64 0, .n .i64 0, .n .i64 0, .n .i64 0, .n .i64 65536, .n .i64 65536], .a [.n .i64 3, .n .i64 4, .n .i64 0, .n .i64 0, .n .i64 0, .n .i64 0]], .v (.a [.n .i64 3, .n .i64 4, .n .i64 0, .n .i64 0, .n .i64 0, .n .i64 0])),
  ([.a [.n .i64 65536, .n .i64 65536, .n .i64 0, .n .i64 0, .n .i64 0, .n .i64 0, .n .i64 0, .n .i64 0, .n .i64 65536, .n .i64 65536, .n .i64 0, .n .i64 0, .n .i64 0, .n .i64 0, .n .i64 0, .n .i64 0, .n .i64 65536, .n .i64 65536], .a [.n .i64 0, .n .i64 0, .n .i64 5, .n .i64 7, .n .i64 0, .n .i64 0]], .v (.a [.n .i64 0, .n .i64 0, .n .i64 5, .n .i64 7, .n .i64 0, .n .i64 0])),
  ([.a [.n .i64 65536, .n .i64 65536, .n .i64 0, .n .i64 0, .n .i64 0, .n .i64 0, .n .i64 0, .n .i64 0, .n .i64 65536, .n .i64 65536, .n .i64 0, .n .i64 0, .n .i64 0, .n .i64 0, .n .i64 0, .n .i64 0, .n .i64 65536, .n .i64 65536], .a [.n .i64 0, .n .i64 0, .n .i64 0, .n .i64 0, .n .i64 0, .n .i64 0]], .v (.a [.n .i64 0, .n .i64 0, .n .i64 0, .n .i64 0, .n .i64 0, .n .i64 0])),
  ([.a [.n .i64 65536, .n .i64 65536, .n .i64 0, .n .i64 0, .n .i64 0, .n .i64 0, .n .i64 0, .n .i64 0, .n .i64 65536, .n .i64 65536, .n .i64 0, .n .i64 0, .n .i64 0, .n .i64 0, .n .i64 0, .n .i64 0, .n .i64 65536, .n .i64 65536], .a [.n .i64 0, .n .i64 64, .n .i64 0, .n .i64 0, .n .i64 0, .n .i64 0]], .v (.a [.n .i64 0, .n .i64 64, .n .i64 0, .n .i64 0, .n .i64 0, .n .i64 0])),
  ([.a [.n .i64 65536, .n .i64 65536, .n .i64 0, .n .i64 0, .n .i64 0, .n .i64 0, .n .i64 0, .n .i64 0, .n .i64 65536, .n .i64 65536, .n .i64 0, .n .i64 0, .n .i64 0, .n .i64 0, .n .i64 0, .n .i64 0, .n .i64 65536, .n .i64 65536], .a [.n .i64 0, .n .i64 0, .n .i64 2, .n .i64 8, .n .i64 0, .n .i64 0]], .v (.a [.n .i64 0, .n .i64 0, .n .i64 2, .n .i64 8, .n .i64 0, .n .i64 0]))]
noncomputable def t142 : Known := (142, k142) :: t160
theorem ok142 : Known.Ok Tryz.prog t142 := Known.add tabOk mixed (ok160) (N := 60) (by kernel_rfl)
noncomputable def k170 : List (List PV × Ret) := [([.a [.n .i64 0, .n .i64 0, .n .i64 0, .n .i64 0, .n .i64 0, .n .i64 0], .a [.n .i64 3, .n .i64 4, .n .i64 0, .n .i64 0, .n .i64 0, .n .i64 0]], .v (.a [.n .i64 3, .n .i64 4, .n .i64 0, .n .i64 0, .n .i64 0, .n .i64 0])),
  ([.a [.n .i64 0, .n .i64 0, .n .i64 0, .n .i64 0, .n .i64 0, .n .i64 0], .a [.n .i64 0, .n .i64 0, .n .i64 5, .n .i64 7, .n .i64 0, .n .i64 0]], .v (.a [.n .i64 0, .n .i64 0, .n .i64 5, .n .i64 7, .n .i64 0, .n .i64 0])),
  ([.a [.n .i64 3, .n .i64 4, .n .i64 0, .n .i64 0, .n .i64 0, .n .i64 0], .a [.n .i64 0, .n .i64 0, .n .i64 5, .n .i64 7, .n .i64 0, .n .i64 0]], .v (.a [.n .i64 3, .n .i64 4, .n .i64 5, .n .i64 7, .n .i64 0, .n .i64 0])),
  ([.a [.n .i64 3, .n .i64 4, .n .i64 5, .n .i64 7, .n .i64 0, .n .i64 0], .a [.n .i64 0, .n .i64 0, .n .i64 0, .n .i64 0, .n .i64 0, .n .i64 0]], .v (.a [.n .i64 3, .n .i64 4, .n .i64 5, .n .i64 7, .n .i64 0, .n .i64 0])),
  ([.a [.n .i64 0, .n .i64 0, .n .i64 0, .n .i64 0, .n .i64 0, .n .i64 0], .a [.n .i64 0, .n .i64 64, .n .i64 0, .n .i64 0, .n .i64 0, .n .i64 0]], .v (.a [.n .i64 0, .n .i64 64, .n .i64 0, .n .i64 0, .n .i64 0, .n .i64 0])),
  ([.a [.n .i64 0, .n .i64 0, .n .i64 0, .n .i64 0, .n .i64 0, .n .i64 0], .a [.n .i64 0, .n .i64 0, .n .i64 2, .n .i64 8, .n .i64 0, .n .i64 0]], .v (.a [.n .i64 0, .n .i64 0, .n .i64 2, .n .i64 8, .n .i64 0, .n .i64 0])),
  ([.a [.n .i64 0, .n .i64 64, .n .i64 0, .n .i64 0, .n .i64 0, .n .i64 0], .a [.n .i64 0, .n .i64 0, .n .i64 2, .n .i64 8, .n .i64 0, .n .i64 0]], .v (.a [.n .i64 0, .n .i64 64, .n .i64 2, .n .i64 8, .n .i64 0, .n .i64 0])),
  ([.a [.n .i64 0, .n .i64 64, .n .i64 2, .n .i64 8, .n .i64 0, .n .i64 0], .a [.n .i64 0, .n .i64 0, .n .i64 0, .n .i64 0, .n .i64 0, .n .i64 0]], .v (.a [.n .i64 0, .n .i64 64, .n .i64 2, .n .i64 8, .n .i64 0, .n .i64 0]))]
noncomputable def t170 : Known := (170, k170) :: t142
theorem ok170 : Known.Ok Tryz.prog t170 := Known.add tabOk mixed (ok142) (N := 60) (by kernel_rfl)
noncomputable def k169 : List (List PV × Ret) := [([.a [.n .i64 3, .n .i64 4, .n .i64 0, .n .i64 0, .n .i64 0, .n .i64 0], .c [.n .i64 65536, .n .i64 65536, .n .i64 0, .n .i64 0, .n .i64 0, .n .i64 0, .n .i64 0, .n .i64 0, .n .i64 65536, .n .i64 65536, .n .i64 0, .n .i64 0, .n .i64 0, .n .i64 0, .n .i64 0, .n .i64 0, .n .i64 65536, .n .i64 65536, .n .i64 0, .n .i64 0, .n .i64 0, .n .i64 0, .n .i64 0, .n .i64 0] 0], .v (.a [.n .i64 3, .n .i64 4, .n .i64 0, .n .i64 0, .n .i64 0, .n .i64 0])),
  ([.a [.n .i64 0, .n .i64 0, .n .i64 5, .n .i64 7, .n .i64 0, .n .i64 0], .c [.n .i64 65536, .n .i64 65536, .n .i64 0, .n .i64 0, .n .i64 0, .n .i64 0, .n .i64 0, .n .i64 0, .n .i64 65536, .n .i64 65536, .n .i64 0, .n .i64 0, .n .i64 0, .n .i64 0, .n .i64 0, .n .i64 0, .n .i64 65536, .n .i64 65536, .n .i64 0, .n .i64 0, .n .i64 0, .n .i64 0, .n .i64 0, .n .i64 0] 0], .v (.a [.n .i64 0, .n .i64 0, .n .i64 5, .n .i64 7, .n .i64 0, .n .i64 0])),
  ([.a [.n .i64 0, .n .i64 0, .n .i64 5, .n .i64 7, .n .i64 0, .n .i64 0], .c [.n .i64 65536, .n .i64 65536, .n .i64 0, .n .i64 0, .n .i64 0, .n .i64 0, .n .i64 0, .n .i64 0, .n .i64 65536, .n .i64 65536, .n .i64 0, .n .i64 0, .n .i64 0, .n .i64 0, .n .i64 0, .n .i64 0, .n .i64 65536, .n .i64 65536, .n .i64 3, .n .i64 4, .n .i64 0, .n .i64 0, .n .i64 0, .n .i64 0] 0], .v (.a [.n .i64 3, .n .i64 4, .n .i64 5, .n .i64 7, .n .i64 0, .n .i64 0])),
  ([.a [.n .i64 0, .n .i64 0, .n .i64 0, .n .i64 0, .n .i64 0, .n .i64 0], .c [.n .i64 65536, .n .i64 65536, .n .i64 0, .n .i64 0, .n .i64 0, .n .i64 0, .n .i64 0, .n .i64 0, .n .i64 65536, .n .i64 65536, .n .i64 0, .n .i64 0, .n .i64 0, .n .i64 0, .n .i64 0, .n .i64 0, .n .i64 65536, .n .i64 65536, .n .i64 3, .n .i64 4, .n .i64 5, .n .i64 7, .n .i64 0, .n .i64 0] 0], .v (.a [.n .i64 3, .n .i64 4, .n .i64 5, .n .i64 7, .n .i64 0, .n .i64 0])),
  ([.a [.n .i64 0, .n .i64 64, .n .i64 0, .n .i64 0, .n .i64 0, .n .i64 0], .c [.n .i64 65536, .n .i64 65536, .n .i64 0, .n .i64 0, .n .i64 0, .n .i64 0, .n .i64 0, .n .i64 0, .n .i64 65536, .n .i64 65536, .n .i64 0, .n .i64 0, .n .i64 0, .n .i64 0, .n .i64 0, .n .i64 0, .n .i64 65536, .n .i64 65536, .n .i64 0, .n .i64 0, .n .i64 0, .n .i64 0, .n .i64 0, .n .i64 0] 0], .v (.a [.n .i64 0, .n .i64 64, .n .i64 0, .n .i64 0, .n .i64 0, .n .i64 0])),
  ([.a [.n .i64 0, .n .i64 0, .n .i64 2, .n .i64 8, .n .i64 0, .n .i64 0], .c [.n .i64 65536, .n .i64 65536, .n .i64 0, .n .i64 0, .n .i64 0, .n .i64 0, .n .i64 0, .n .i64 0, .n .i64 65536, .n .i64 65536, .n .i64 0, .n .i64 0, .n .i64 0, .n .i64 0, .n .i64 0, .n .i64 0, .n .i64 65536, .n .i64 65536, .n .i64 0, .n .i64 0, .n .i64 0, .n .i64 0, .n .i64 0, .n .i64 0] 0], .v (.a [.n .i64 0, .n .i64 0, .n .i64 2, .n .i64 8, .n .i64 0, .n .i64 0])),
  ([.a [.n .i64 0, .n .i64 0, .n .i64 2, .n .i64 8, .n .i64 0, .n .i64 0], .c [.n .i64 65536, .n .i64 65536, .n .i64 0, .n .i64 0, .n .i64 0, .n .i64 0, .n .i64 0, .n .i64 0, .n .i64 65536, .n .i64 65536, .n .i64 0, .n .i64 0, .n .i64 0, .n .i64 0, .n .i64 0, .n .i64 0, .n .i64 65536, .n .i64 65536, .n .i64 0, .n .i64 64, .n .i64 0, .n .i64 0, .n .i64 0, .n .i64 0] 0], .v (.a [.n .i64 0, .n .i64 64, .n .i64 2, .n .i64 8, .n .i64 0, .n .i64 0])),
  ([.a [.n .i64 0, .n .i64 0, .n .i64 0, .n .i64 0, .n .i64 0, .n .i64 0], .c [.n .i64 65536, .n .i64 65536, .n .i64 0, .n .i64 0, .n .i64 0, .n .i64 0, .n .i64 0, .n .i64 0, .n .i64 65536, .n .i64 65536, .n .i64 0, .n .i64 0, .n .i64 0, .n .i64 0, .n .i64 0, .n .i64 0, .n .i64 65536, .n .i64 65536, .n .i64 0, .n .i64 64, .n .i64 2, .n .i64 8, .n .i64 0, .n .i64 0] 0], .v (.a [.n .i64 0, .n .i64 64, .n .i64 2, .n .i64 8, .n .i64 0, .n .i64 0]))]
noncomputable def t169 : Known := (169, k169) :: t170
theorem ok169 : Known.Ok Tryz.prog t169 := Known.add tabOk mixed (ok170) (N := 60) (by kernel_rfl)
noncomputable def k141 : List (List PV × Ret) := [([.a [.n .i64 65536, .n .i64 65536, .n .i64 0, .n .i64 0, .n .i64 0, .n .i64 0, .n .i64 0, .n .i64 0, .n .i64 65536, .n .i64 65536, .n .i64 0, .n .i64 0, .n .i64 0, .n .i64 0, .n .i64 0, .n .i64 0, .n .i64 65536, .n .i64 65536, .n .i64 0, .n .i64 0, .n .i64 0, .n .i64 0, .n .i64 0, .n .i64 0], .a [.n .i64 65536, .n .i64 65536, .n .i64 0, .n .i64 0, .n .i64 0, .n .i64 0, .n .i64 0, .n .i64 0, .n .i64 65536, .n .i64 65536, .n .i64 0, .n .i64 0, .n .i64 0, .n .i64 0, .n .i64 0, .n .i64 0, .n .i64 65536, .n .i64 65536, .n .i64 3, .n .i64 4, .n .i64 0, .n .i64 0, .n .i64 0, .n .i64 0]], .v (.a [.n .i64 65536, .n .i64 65536, .n .i64 0, .n .i64 0, .n .i64 0, .n .i64 0, .n .i64 0, .n .i64 0, .n .i64 65536, .n .i64 65536, .n .i64 0, .n .i64 0, .n .i64 0, .n .i64 0, .n .i64 0, .n .i64 0, .n .i64 65536, .n .i64 65536, .n .i64 3, .n .i64 4, .n .i64 0, .n .i64 0, .n .i64 0, .n .i64 0])),
  ([.a [.n .i64 65536, .n .i64 65536, .n .i64 0, .n .i64 0, .n .i64 0, .n .i64 0, .n .i64 0, .n .i64 0, .n .i64 65536, .n .i64 65536, .n .i64 0, .n .i64 0, .n .i64 0, .n .i64 0, .n .i64 0, .n .i64 0, .n .i64 65536, .n .i64 65536, .n .i64 0, .n .i64 0, .n .i64 0, .n .i64 0, .n .i64 0, .n .i64 0], .a [.n .i64 65536, .n .i64 65536, .n .i64 0, .n .i64 0, .n .i64 0, .n .i64 0, .n .i64 0, .n .i64 0, .n .i64 65536, .n .i64 65536, .n .i64 0, .n .i64 0, .n .i64 0, .n .i64 0, .n .i64 0, .n .i64 0, .n .i64 65536, .n .i64 65536, .n .i64 0, .n .i64 0, .n .i64 5, .n .i64 7, .n .i64 0, .n .i64 0]], .v (.a [.n .i64 65536, .n .i64 65536, .n .i64 0, .n .i64 0, .n .i64 0, .n .i64 0, .n .i64 0, .n .i64 0, .n .i64 65536, .n .i64 65536, .n .i64 0, .n .i64 0, .n .i64 0, .n .i64 0, .n .i64 0, .n .i64 0, .n .i64 65536, .n .i64 65536, .n .i64 0, .n .i64 0, .n .i64 5, .n .i64 7, .n .i64 0, .n .i64 0])),
  ([.a [.n .i64 65536, .n .i64 65536, .n .i64 0, .n .i64 0, .n .i64 0, .n .i64 0, .n .i64 0, .n .i64 0, .n .i64 65536, .n .i64 65536, .n .i64 0, .n .i64 0, .n .i64 0, .n .i64 0, .n .i64 0, .n .i64 0, .n .i64 65536, .n .i64 65536, .n .i64 3, .n .i64 4, .n .i64 0, .n .i64 0, .n .i64 0, .n .i64 0], .a [.n .i64 65536, .n .i64 65536, .n .i64 0, .n .i64 0, .n .i64 0, .n .i64 0, .n .i64 0, .n .i64 0, .n .i64 65536, .n .i64 65536, .n .i64 0, .n .i64 0, .n .i64 0, .n .i64 0, .n .i64 0, .n .i64 0, .n .i64 65536, .n .i64 65536, .n .i64 0, .n .i64 0, .n .i64 5, .n .i64 7, .n .i64 0, .n .i64 0]], .v (.a [.n .i64 65536, .n .i64 65536, .n .i64 0, .n .i64 0, .n .i64 0, .n .i64 0, .n .i64 0, .n .i64 0, .n .i64 65536, .n .i64 65536, .n .i64 0, .n .i64 0, .n .i64 0, .n .i64 0, .n .i64 0, .n .i64 0, .n .i64 65536, .n .i64 65536, .n .i64 3, .n .i64 4, .n .i64 5, .n .i64 7, .n .i64 0, .n .i64 0])),
  ([.a [.n .i64 65536, .n .i64 65536, .n .i64 0, .n .i64 0, .n .i64 0, .n .i64 0, .n .i64 0, .n .i64 0, .n .i64 65536, .n .i64 65536, .n .i64 0, .n .i64 0, .n .i64 0, .n .i64 0, .n .i64 0, .n .i64 0, .n .i64 65536, .n .i64 65536, .n .i64 0, .n .i64 0, .n .i64 0, .n .i64 0, .n .i64 0, .n .i64 0], .a [.n .i64 65536, .n .i64 65536, .n .i64 0, .n .i64 0, .n .i64 0, .n .i64 0, .n .i64 0, .n .i64 0, .n .i64 65536, .n .i64 65536, .n .i64 0, .n .i64 0, .n .i64 0, .n .i64 0, .n .i64 0, .n .i64 0, .n .i64 65536, .n .i64 65536, .n .i64 0, .n .i64 64, .n .i64 0, .n .i64 0, .n .i64 0, .n .i64 0]], .v (.a [.n .i64 65536, .n .i64 65536, .n .i64 0, .n .i64 0, .n .i64 0, .n .i64 0, .n .i64 0, .n .i64 0, .n .i64 65536, .n .i64 65536, .n .i64 0, .n .i64 0, .n .i64 0, .n .i64 0, .n .i64 0, .n .i64 0, .n .i64 65536, .n .i64 65536, .n .i64 0, .n .i64 64, .n .i64 0, .n .i64 0, .n .i64 0, .n .i64 0])),
  ([.a [.n .i64 65536, .n .i64 65536, .n .i64 0, .n .i64 0, .n .i64 0, .n .i64 0, .n .i64 0, .n .i64 0, .n .i64 65536, .n .i64 65536, .n .i64 0, .n .i64 0, .n .i64 0, .n .i64 0, .n .i64 0, .n .i64 0, .n .i64 65536, .n .i64 65536, .n .i64 0, .n .i64 0, .n .i64 0, .n .i64 0, .n .i64 0, .n .i64 0], .a [.n .i64 65536, .n .i64 65536, .n .i64 0, .n .i64 0, .n .i64 0, .n .i64 0, .n .i64 0, .n .i64 0, .n .i64 65536, .n .i64 65536, .n .i64 0, .n .i64 0, .n .i64 0, .n .i64 0, .n .i64 0, .n .i64 0, .n .i64 65536, .n .i64 65536, .n .i64 0, .n .i64 0, .n .i64 2, .n .i64 8, .n .i64 0, .n .i64 0]], .v (.a [.n .i64 65536, .n .i64 65536, .n .i64 0, .n .i64 0, .n .i64 0, .n .i64 0, .n .i64 0, .n .i64 0, .n .i64 65536, .n .i64 65536, .n .i64 0, .n .i64 0, .n .i64 0, .n .i64 0, .n .i64 0, .n .i64 0, .n .i64 65536, .n .i64 65536, .n .i64 0, .n .i64 0, .n .i64 2, .n .i64 8, .n .i64 0, .n .i64 0])),
  ([.a [.n .i64 65536, .n .i64 65536, .n .i64 0, .n .i64 0, .n .i64 0, .n .i64 0, .n .i64 0, .n .i64 0, .n .i64 65536, .n .i64 65536, .n .i64 0, .n .i64 0, .n .i64 0, .n .i64 0, .n .i64 0, .n .i64 0, .n .i64 65536, .n .i64 65536, .n .i64 0, .n .i64 64, .n .i64 0, .n .i64 0, .n .i64 0, .n .i64 0], .a [.n .i64 65536, .n .i64 65536, .n .i64 0, .n .i64 0, .n .i64 0, .n .i64 0, .n .i64 0, .n .i64 0, .n .i64 65536, .n .i64 65536, .n .i64 0, .n .i64 0, .n .i64 0, .n .i64 0, .n .i64 0, .n .i64 0, .n .i64 65536, .n .i64 65536, .n .i64 0, .n .i64 0, .n .i64 2, .n .i64 8, .n .i64 0, .n .i64 0]], .v (.a [.n .i64 65536, .n .i64 65536, .n .i64 0, .n .i64 0, .n .i64 0, .n .i64 0, .n .i64 0, .n .i64 0, .n .i64 65536, .n .i64 65536, .n .i64 0, .n .i64 0, .n .i64 0, .n .i64 0, .n .i64 0, .n .i64 0, .n .i64 65536, .n .i64 65536, .n .i64 0, .n .i64 64, .n .i64 2, .n .i64 8, .n .i64 0, .n .i64 0]))]
noncomputable def t141 : Known := (141, k141) :: t169
theorem ok141 : Known.Ok Tryz.prog t141 := Known.add tabOk mixed (ok169) (N := 60) (by kernel_rfl)
noncomputable def k140 : List (List PV × Ret) := [([.a [.s (ByteArray.mk #[97]), .n .i64 4, .n .i64 (-1), .n .i64 0, .n .i64 0, .n .i64 0, .n .i64 0, .n .i64 64, .n .i64 1, .n .i64 65536, .n .i64 65536, .n .i64 65536], .a [.n .i64 3, .n .i64 4]], .v (.a [.n .i64 65536, .n .i64 65536, .n .i64 0, .n .i64 0, .n .i64 0, .n .i64 0, .n .i64 0, .n .i64 0, .n .i64 65536, .n .i64 65536, .n .i64 0, .n .i64 0, .n .i64 0, .n .i64 0, .n .i64 0, .n .i64 0, .n .i64 65536, .n .i64 65536, .n .i64 3, .n .i64 4, .n .i64 0, .n .i64 0, .n .i64 0, .n .i64 0])),
  ([.a [.s (ByteArray.mk #[98]), .n .i64 5, .n .i64 0, .n .i64 0, .n .i64 0, .n .i64 0, .n .i64 0, .n .i64 64, .n .i64 1, .n .i64 65536, .n .i64 65536, .n .i64 65536], .a [.n .i64 5, .n .i64 7]], .v (.a [.n .i64 65536, .n .i64 65536, .n .i64 0, .n .i64 0, .n .i64 0, .n .i64 0, .n .i64 0, .n .i64 0, .n .i64 65536, .n .i64 65536, .n .i64 0, .n .i64 0, .n .i64 0, .n .i64 0, .n .i64 0, .n .i64 0, .n .i64 65536, .n .i64 65536, .n .i64 0, .n .i64 0, .n .i64 5, .n .i64 7, .n .i64 0, .n .i64 0])),
  ([.a [.s (ByteArray.mk #[97]), .n .i64 4, .n .i64 (-1), .n .i64 0, .n .i64 0, .n .i64 0, .n .i64 0, .n .i64 64, .n .i64 1, .n .i64 65536, .n .i64 65536, .n .i64 65536], .a [.n .i64 0, .n .i64 64]], .v (.a [.n .i64 65536, .n .i64 65536, .n .i64 0, .n .i64 0, .n .i64 0, .n .i64 0, .n .i64 0, .n .i64 0, .n .i64 65536, .n .i64 65536, .n .i64 0, .n .i64 0, .n .i64 0, .n .i64 0, .n .i64 0, .n .i64 0, .n .i64 65536, .n .i64 65536, .n .i64 0, .n .i64 64, .n .i64 0, .n .i64 0, .n .i64 0, .n .i64 0])),
  ([.a [.s (ByteArray.mk #[98]), .n .i64 5, .n .i64 0, .n .i64 0, .n .i64 0, .n .i64 0, .n .i64 0, .n .i64 64, .n .i64 1, .n .i64 65536, .n .i64 65536, .n .i64 65536], .a [.n .i64 2, .n .i64 8]], .v (.a [.n .i64 65536, .n .i64 65536, .n .i64 0, .n .i64 0, .n .i64 0, .n .i64 0, .n .i64 0, .n .i64 0, .n .i64 65536, .n .i64 65536, .n .i64 0, .n .i64 0, .n .i64 0, .n .i64 0, .n .i64 0, .n .i64 0, .n .i64 65536, .n .i64 65536, .n .i64 0, .n .i64 0, .n .i64 2, .n .i64 8, .n .i64 0, .n .i64 0]))]
noncomputable def t140 : Known := (140, k140) :: t141
theorem ok140 : Known.Ok Tryz.prog t140 := Known.add tabOk mixed (ok141) (N := 60) (by kernel_rfl)
noncomputable def k105 : List (List PV × Ret) := [([.a [.l [[.s (ByteArray.mk #[97]), .n .i64 4, .n .i64 (-1), .n .i64 0, .n .i64 0, .n .i64 0, .n .i64 0, .n .i64 64, .n .i64 1, .n .i64 65536, .n .i64 65536, .n .i64 65536], [.s (ByteArray.mk #[98]), .n .i64 5, .n .i64 0, .n .i64 0, .n .i64 0, .n .i64 0, .n .i64 0, .n .i64 64, .n .i64 1, .n .i64 65536, .n .i64 65536, .n .i64 65536]], .l []], .l [[.n .i64 3, .n .i64 4], [.n .i64 5, .n .i64 7]]], .ow 134 24 [[.n .i64 65536, .n .i64 65536, .n .i64 0, .n .i64 0, .n .i64 0, .n .i64 0, .n .i64 0, .n .i64 0, .n .i64 65536, .n .i64 65536, .n .i64 0, .n .i64 0, .n .i64 0, .n .i64 0, .n .i64 0, .n .i64 0, .n .i64 65536, .n .i64 65536, .n .i64 3, .n .i64 4, .n .i64 0, .n .i64 0, .n .i64 0, .n .i64 0], [.n .i64 65536, .n .i64 65536, .n .i64 0, .n .i64 0, .n .i64 0, .n .i64 0, .n .i64 0, .n .i64 0, .n .i64 65536, .n .i64 65536, .n .i64 0, .n .i64 0, .n .i64 0, .n .i64 0, .n .i64 0, .n .i64 0, .n .i64 65536, .n .i64 65536, .n .i64 3, .n .i64 4, .n .i64 5, .n .i64 7, .n .i64 0, .n .i64 0]]),
  ([.a [.l [[.s (ByteArray.mk #[97]), .n .i64 4, .n .i64 (-1), .n .i64 0, .n .i64 0, .n .i64 0, .n .i64 0, .n .i64 64, .n .i64 1, .n .i64 65536, .n .i64 65536, .n .i64 65536], [.s (ByteArray.mk #[98]), .n .i64 5, .n .i64 0, .n .i64 0, .n .i64 0, .n .i64 0, .n .i64 0, .n .i64 64, .n .i64 1, .n .i64 65536, .n .i64 65536, .n .i64 65536]], .l []], .l [[.n .i64 0, .n .i64 64], [.n .i64 2, .n .i64 8]]], .ow 134 24 [[.n .i64 65536, .n .i64 65536, .n .i64 0, .n .i64 0, .n .i64 0, .n .i64 0, .n .i64 0, .n .i64 0, .n .i64 65536, .n .i64 65536, .n .i64 0, .n .i64 0, .n .i64 0, .n .i64 0, .n .i64 0, .n .i64 0, .n .i64 65536, .n .i64 65536, .n .i64 0, .n .i64 64, .n .i64 0, .n .i64 0, .n .i64 0, .n .i64 0], [.n .i64 65536, .n .i64 65536, .n .i64 0, .n .i64 0, .n .i64 0, .n .i64 0, .n .i64 0, .n .i64 0, .n .i64 65536, .n .i64 65536, .n .i64 0, .n .i64 0, .n .i64 0, .n .i64 0, .n .i64 0, .n .i64 0, .n .i64 65536, .n .i64 65536, .n .i64 0, .n .i64 64, .n .i64 2, .n .i64 8, .n .i64 0, .n .i64 0]])]
noncomputable def t105 : Known := (105, k105) :: t140
theorem ok105 : Known.Ok Tryz.prog t105 := Known.add tabOk mixed (ok140) (N := 60) (by kernel_rfl)
noncomputable def k73 : List (List PV × Ret) := [([.a [.l [[.s (ByteArray.mk #[97]), .n .i64 4, .n .i64 (-1), .n .i64 0, .n .i64 0, .n .i64 0, .n .i64 0, .n .i64 64, .n .i64 1, .n .i64 65536, .n .i64 65536, .n .i64 65536], [.s (ByteArray.mk #[98]), .n .i64 5, .n .i64 0, .n .i64 0, .n .i64 0, .n .i64 0, .n .i64 0, .n .i64 64, .n .i64 1, .n .i64 65536, .n .i64 65536, .n .i64 65536]], .l []], .l [[.n .i64 3, .n .i64 4], [.n .i64 5, .n .i64 7]]], .v (.l [[.n .i64 65536, .n .i64 65536, .n .i64 0, .n .i64 0, .n .i64 0, .n .i64 0, .n .i64 0, .n .i64 0, .n .i64 65536, .n .i64 65536, .n .i64 0, .n .i64 0, .n .i64 0, .n .i64 0, .n .i64 0, .n .i64 0, .n .i64 65536, .n .i64 65536, .n .i64 3, .n .i64 4, .n .i64 0, .n .i64 0, .n .i64 0, .n .i64 0], [.n .i64 65536, .n .i64 65536, .n .i64 0, .n .i64 0, .n .i64 0, .n .i64 0, .n .i64 0, .n .i64 0, .n .i64 65536, .n .i64 65536, .n .i64 0, .n .i64 0, .n .i64 0, .n .i64 0, .n .i64 0, .n .i64 0, .n .i64 65536, .n .i64 65536, .n .i64 3, .n .i64 4, .n .i64 5, .n .i64 7, .n .i64 0, .n .i64 0]])),
  ([.a [.l [[.s (ByteArray.mk #[97]), .n .i64 4, .n .i64 (-1), .n .i64 0, .n .i64 0, .n .i64 0, .n .i64 0, .n .i64 64, .n .i64 1, .n .i64 65536, .n .i64 65536, .n .i64 65536], [.s (ByteArray.mk #[98]), .n .i64 5, .n .i64 0, .n .i64 0, .n .i64 0, .n .i64 0, .n .i64 0, .n .i64 64, .n .i64 1, .n .i64 65536, .n .i64 65536, .n .i64 65536]], .l []], .l [[.n .i64 0, .n .i64 64], [.n .i64 2, .n .i64 8]]], .v (.l [[.n .i64 65536, .n .i64 65536, .n .i64 0, .n .i64 0, .n .i64 0, .n .i64 0, .n .i64 0, .n .i64 0, .n .i64 65536, .n .i64 65536, .n .i64 0, .n .i64 0, .n .i64 0, .n .i64 0, .n .i64 0, .n .i64 0, .n .i64 65536, .n .i64 65536, .n .i64 0, .n .i64 64, .n .i64 0, .n .i64 0, .n .i64 0, .n .i64 0], [.n .i64 65536, .n .i64 65536, .n .i64 0, .n .i64 0, .n .i64 0, .n .i64 0, .n .i64 0, .n .i64 0, .n .i64 65536, .n .i64 65536, .n .i64 0, .n .i64 0, .n .i64 0, .n .i64 0, .n .i64 0, .n .i64 0, .n .i64 65536, .n .i64 65536, .n .i64 0, .n .i64 64, .n .i64 2, .n .i64 8, .n .i64 0, .n .i64 0]]))]
noncomputable def t73 : Known := (73, k73) :: t105
theorem ok73 : Known.Ok Tryz.prog t73 := Known.add tabOk mixed (ok105) (N := 60) (by kernel_rfl)
noncomputable def k143 : List (List PV × Ret) := [([.a [.n .i64 65536, .n .i64 65536, .n .i64 0, .n .i64 0, .n .i64 0, .n .i64 0, .n .i64 0, .n .i64 0, .n .i64 65536, .n .i64 65536, .n .i64 0, .n .i64 0, .n .i64 0, .n .i64 0, .n .i64 0, .n .i64 0, .n .i64 65536, .n .i64 65536, .n .i64 3, .n .i64 4, .n .i64 5, .n .i64 7, .n .i64 0, .n .i64 0], .a [.n .i64 0, .n .i64 0, .n .i64 0, .n .i64 0, .n .i64 0, .n .i64 0]], .v (.a [.n .i64 3, .n .i64 4, .n .i64 5, .n .i64 7, .n .i64 0, .n .i64 0])),
  ([.a [.n .i64 65536, .n .i64 65536, .n .i64 0, .n .i64 0, .n .i64 0, .n .i64 0, .n .i64 0, .n .i64 0, .n .i64 65536, .n .i64 65536, .n .i64 0, .n .i64 0, .n .i64 0, .n .i64 0, .n .i64 0, .n .i64 0, .n .i64 65536, .n .i64 65536, .n .i64 0, .n .i64 64, .n .i64 2, .n .i64 8, .n .i64 0, .n .i64 0], .a [.n .i64 0, .n .i64 0, .n .i64 0, .n .i64 0, .n .i64 0, .n .i64 0]], .v (.a [.n .i64 0, .n .i64 64, .n .i64 2, .n .i64 8, .n .i64 0, .n .i64 0]))]
noncomputable def t143 : Known := (143, k143) :: t73
theorem ok143 : Known.Ok Tryz.prog t143 := Known.add tabOk mixed (ok73) (N := 60) (by kernel_rfl)
noncomputable def k107 : List (List PV × Ret) := [([.a [.n .i64 0, .n .i64 0, .n .i64 0, .n .i64 0, .n .i64 0, .n .i64 0], .a [.n .i64 65536, .n .i64 65536, .n .i64 0, .n .i64 0, .n .i64 0, .n .i64 0, .n .i64 0, .n .i64 0, .n .i64 65536, .n .i64 65536, .n .i64 0, .n .i64 0, .n .i64 0, .n .i64 0, .n .i64 0, .n .i64 0, .n .i64 65536, .n .i64 65536, .n .i64 3, .n .i64 4, .n .i64 5, .n .i64 7, .n .i64 0, .n .i64 0]], .v (.a [.n .i64 3, .n .i64 4, .n .i64 5, .n .i64 7, .n .i64 0, .n .i64 0])),
  ([.a [.n .i64 0, .n .i64 0, .n .i64 0, .n .i64 0, .n .i64 0, .n .i64 0], .a [.n .i64 65536, .n .i64 65536, .n .i64 0, .n .i64 0, .n .i64 0, .n .i64 0, .n .i64 0, .n .i64 0, .n .i64 65536, .n .i64 65536, .n .i64 0, .n .i64 0, .n .i64 0, .n .i64 0, .n .i64 0, .n .i64 0, .n .i64 65536, .n .i64 65536, .n .i64 0, .n .i64 64, .n .i64 2, .n .i64 8, .n .i64 0, .n .i64 0]], .v (.a [.n .i64 0, .n .i64 64, .n .i64 2, .n .i64 8, .n .i64 0, .n .i64 0]))]
noncomputable def t107 : Known := (107, k107) :: t143
theorem ok107 : Known.Ok Tryz.prog t107 := Known.add tabOk mixed (ok143) (N := 60) (by kernel_rfl)
noncomputable def k108 : List (List PV × Ret) := [([.l [[.n .i64 3, .n .i64 4, .n .i64 5, .n .i64 7, .n .i64 0, .n .i64 0]]], .v (.b true)),
  ([.l [[.n .i64 0, .n .i64 64, .n .i64 2, .n .i64 8, .n .i64 0, .n .i64 0]]], .v (.b true))]
noncomputable def t108 : Known := (108, k108) :: t107
theorem ok108 : Known.Ok Tryz.prog t108 := Known.add tabOk mixed (ok107) (N := 60) (by kernel_rfl)
noncomputable def k109 : List (List PV × Ret) := [([.a [.n .i64 0, .n .i64 1, .n .i64 0], .a [.n .i64 3, .n .i64 4, .n .i64 5, .n .i64 7, .n .i64 0, .n .i64 0]], .v (.t [.n .i64 5, .n .i64 7])),
  ([.a [.n .i64 0, .n .i64 1, .n .i64 0], .a [.n .i64 0, .n .i64 64, .n .i64 2, .n .i64 8, .n .i64 0, .n .i64 0]], .v (.t [.n .i64 2, .n .i64 8]))]
noncomputable def t109 : Known := (109, k109) :: t108
theorem ok109 : Known.Ok Tryz.prog t109 := Known.add tabOk mixed (ok108) (N := 60) (by kernel_rfl)
noncomputable def k76 : List (List PV × Ret) := [([.a [.n .i64 0, .n .i64 1, .n .i64 0], .a [.n .i64 3, .n .i64 4, .n .i64 5, .n .i64 7, .n .i64 0, .n .i64 0]], .v (.t [.n .i64 5, .n .i64 7])),
  ([.a [.n .i64 0, .n .i64 1, .n .i64 0], .a [.n .i64 0, .n .i64 64, .n .i64 2, .n .i64 8, .n .i64 0, .n .i64 0]], .v (.t [.n .i64 2, .n .i64 8]))]
noncomputable def t76 : Known := (76, k76) :: t109
theorem ok76 : Known.Ok Tryz.prog t76 := Known.add tabOk mixed (ok109) (N := 60) (by kernel_rfl)
noncomputable def k42 : List (List PV × Ret) := [([.a [.l [[.s (ByteArray.mk #[97]), .n .i64 4, .n .i64 (-1), .n .i64 0, .n .i64 0, .n .i64 0, .n .i64 0, .n .i64 64, .n .i64 1, .n .i64 65536, .n .i64 65536, .n .i64 65536], [.s (ByteArray.mk #[98]), .n .i64 5, .n .i64 0, .n .i64 0, .n .i64 0, .n .i64 0, .n .i64 0, .n .i64 64, .n .i64 1, .n .i64 65536, .n .i64 65536, .n .i64 65536]], .l []], .l [[.n .i64 0, .n .i64 1, .n .i64 0, .n .i64 0, .n .i64 0, .n .i64 0, .n .i64 1, .n .i64 0, .n .i64 0, .n .i64 9]], .l [[.n .i64 3, .n .i64 4], [.n .i64 5, .n .i64 7]]], .ow 37 2 [[.n .i64 5, .n .i64 7]]),
  ([.a [.l [[.s (ByteArray.mk #[97]), .n .i64 4, .n .i64 (-1), .n .i64 0, .n .i64 0, .n .i64 0, .n .i64 0, .n .i64 64, .n .i64 1, .n .i64 65536, .n .i64 65536, .n .i64 65536], [.s (ByteArray.mk #[98]), .n .i64 5, .n .i64 0, .n .i64 0, .n .i64 0, .n .i64 0, .n .i64 0, .n .i64 64, .n .i64 1, .n .i64 65536, .n .i64 65536, .n .i64 65536]], .l []], .l [[.n .i64 0, .n .i64 1, .n .i64 0, .n .i64 0, .n .i64 0, .n .i64 0, .n .i64 1, .n .i64 0, .n .i64 0, .n .i64 9]], .l [[.n .i64 0, .n .i64 64], [.n .i64 2, .n .i64 8]]], .ow 37 2 [[.n .i64 2, .n .i64 8]])]
noncomputable def t42 : Known := (42, k42) :: t76
theorem ok42 : Known.Ok Tryz.prog t42 := Known.add tabOk mixed (ok76) (N := 60) (by kernel_rfl)
noncomputable def k13 : List (List PV × Ret) := [([.a [.l [[.s (ByteArray.mk #[97]), .n .i64 4, .n .i64 (-1), .n .i64 0, .n .i64 0, .n .i64 0, .n .i64 0, .n .i64 64, .n .i64 1, .n .i64 65536, .n .i64 65536, .n .i64 65536], [.s (ByteArray.mk #[98]), .n .i64 5, .n .i64 0, .n .i64 0, .n .i64 0, .n .i64 0, .n .i64 0, .n .i64 64, .n .i64 1, .n .i64 65536, .n .i64 65536, .n .i64 65536]], .l []], .a [.n .i64 0, .n .i64 1, .n .i64 0, .n .i64 0, .n .i64 0, .n .i64 0, .n .i64 1, .n .i64 0, .n .i64 0, .n .i64 9], .l [[.n .i64 3, .n .i64 4], [.n .i64 5, .n .i64 7]]], .v (.t [.a [.n .i64 5, .n .i64 7], .b true]))]
noncomputable def t13 : Known := (13, k13) :: t42
theorem ok13 : Known.Ok Tryz.prog t13 := Known.add tabOk mixed (ok42) (N := 60) (by kernel_rfl)
noncomputable def k47 : List (List PV × Ret) := [([.a [.l [[.s (ByteArray.mk #[97]), .n .i64 4, .n .i64 (-1), .n .i64 0, .n .i64 0, .n .i64 0, .n .i64 0, .n .i64 64, .n .i64 1, .n .i64 65536, .n .i64 65536, .n .i64 65536], [.s (ByteArray.mk #[98]), .n .i64 5, .n .i64 0, .n .i64 0, .n .i64 0, .n .i64 0, .n .i64 0, .n .i64 64, .n .i64 1, .n .i64 65536, .n .i64 65536, .n .i64 65536]], .l []], .l [[.n .i64 0], [.n .i64 2]]], .v (.b true)),
  ([.a [.l [[.s (ByteArray.mk #[97]), .n .i64 4, .n .i64 (-1), .n .i64 0, .n .i64 0, .n .i64 0, .n .i64 0, .n .i64 64, .n .i64 1, .n .i64 65536, .n .i64 65536, .n .i64 65536], [.s (ByteArray.mk #[98]), .n .i64 5, .n .i64 0, .n .i64 0, .n .i64 0, .n .i64 0, .n .i64 0, .n .i64 64, .n .i64 1, .n .i64 65536, .n .i64 65536, .n .i64 65536]], .l []], .l [[.n .i64 64], [.n .i64 8]]], .v (.b true))]
noncomputable def t47 : Known := (47, k47) :: t13
theorem ok47 : Known.Ok Tryz.prog t47 := Known.add tabOk mixed (ok13) (N := 60) (by kernel_rfl)
noncomputable def k59 : List (List PV × Ret) := [([.l [[.n .i64 0], [.n .i64 2]], .l [[.n .i64 64], [.n .i64 8]], .n .i64 0, .n .i64 0], .v (.t [.l [[.n .i64 0, .n .i64 64], [.n .i64 2, .n .i64 8]], .b true]))]
noncomputable def t59 : Known := (59, k59) :: t47
theorem ok59 : Known.Ok Tryz.prog t59 := Known.add tabOk mixed (ok47) (N := 60) (by kernel_rfl)
noncomputable def k30 : List (List PV × Ret) := [([.a [.l [[.s (ByteArray.mk #[97]), .n .i64 4, .n .i64 (-1), .n .i64 0, .n .i64 0, .n .i64 0, .n .i64 0, .n .i64 64, .n .i64 1, .n .i64 65536, .n .i64 65536, .n .i64 65536], [.s (ByteArray.mk #[98]), .n .i64 5, .n .i64 0, .n .i64 0, .n .i64 0, .n .i64 0, .n .i64 0, .n .i64 64, .n .i64 1, .n .i64 65536, .n .i64 65536, .n .i64 65536]], .l []], .l [[.n .i64 0, .n .i64 1, .n .i64 0, .n .i64 0, .n .i64 0, .n .i64 0, .n .i64 1, .n .i64 0, .n .i64 0, .n .i64 9]], .l [[.n .i64 0], [.n .i64 2]], .l [[.n .i64 64], [.n .i64 8]], .n .i64 4], .v (.a [.n .i64 1, .l [[.n .i64 0, .n .i64 0, .l []]], .n .i64 0, .n .i64 0, .l [], .n .i64 0, .l [], .l []]))]
noncomputable def t30 : Known := (30, k30) :: t59
theorem ok30 : Known.Ok Tryz.prog t30 := Known.add tabOk mixed (ok59) (N := 60) (by kernel_rfl)
theorem call : SndA1 Tryz.prog 14 [] (.v (.b true)) := run_sound (N := 60) tabOk mixed (Known.ok (ok30)) (by kernel_rfl : run T (Known.orc t30) 60 14 [] = some (.v (.b true)))
end Go.Proofs.YtnlnbnjnapofmaaGreat.Ax
namespace Go.Rx
open Go.RowKit Go.Sx Go.ChangeShapes Go.WideShapes
section
variable {P : Program} {W : World} {H : Type} {enc : TypeId × Value → H}
def ListArg (W : World) (v : Value) (L : List Int) : Prop := RP (fun k => k < W.heap.size) W (intsP L) v ∧ L.length ≤ 9223372036854775807 ∧ ∀ x ∈ L, In64 x
theorem open_rp {t e : TypeId} {v : Value} {d : DataW H} {p : List MemPlace} (ht : P.underlying t = some (.slice e)) (he : P.underlying e = some (.int .i64)) (hc : P.cellsOf e = 1)
    {r : Reach} {base : Nat} (hv : Value.okWide P W r base t v) (h : DataW.Trod enc P W 0 (fun _ => true) true t v d p) : ∃ L : List Int, ListArg W v L := by
  obtain ⟨a, l, c, rfl⟩ := slice_of ht hv
  obtain ⟨fuel, h⟩ := h
  have h' : DataW.trod enc P W 0 (fun _ => true) true fuel t [.slice a l c] = some (d, p) := h
  rcases open_ints ht he hc h' with ⟨h1, _⟩ | ⟨a', len, cap, zs, h1, _, hlc, hcap, hz, _, hcell, hwf⟩
  · simp at h1
    obtain ⟨rfl, rfl, rfl⟩ := h1
    exact ⟨[], .l0 none 0, by simp, fun x hx => by cases hx⟩
  · simp at h1
    obtain ⟨rfl, rfl, rfl⟩ := h1
    simp only [if_true] at hz
    have hlen : (zs.take l).length = l := by simp; omega
    have hI : IntsAt W W.heap.size (.slice (some a') l c) (zs.take l) := ⟨by have : maxLen = 9223372036854775807 := rfl; omega, some a', c, by rw [hlen], fun j hj => by
      rw [hlen] at hj
      have h0 := hcell 0 (by omega)
      have hj' := hcell j (by omega)
      have hsp : a'.spot = none := by
        have e : a'.add 0 = a' := by simp [Addr.add]
        rw [e] at h0
        unfold World.cell? at h0
        cases hb : W.heap[a'.block]? with
        | none => simp [hb] at h0
        | some o => cases o <;> simp [hb] at h0; exact h0.1
      obtain ⟨bb, off, sp⟩ := a'
      simp only at hsp
      subst hsp
      rw [add_addr] at hj'
      refine ⟨bb, off, rfl, ?_, ?_⟩
      · unfold World.cell? at hj'
        cases hb : W.heap[bb]? with
        | none => simp [hb] at hj'
        | some o => exact heap_lt hb
      · rw [hj']
        simp [List.getD_eq_getElem?_getD, List.getElem?_take, hj]⟩
    refine ⟨zs.take l, ?_, hI.1, fun x hx => ?_⟩
    · have := rp_of_ints (F := fun k => k < W.heap.size) (w := W) (L := zs.take l) (a := some a') (c := c) (by rw [hlen]; exact hI) (by rw [hlen]; exact hlc) fun k hk => hk
      rw [hlen] at this
      exact this
    · have := hwf x (List.mem_of_mem_take hx)
      simpa [Lit.wf, IntKind.has, IntKind.min, IntKind.max, IntKind.signed, IntKind.bits, In64] using this
end
end Go.Rx
namespace Go.Proofs.YtnlnbnjnapofmaaGreat
open Go.Rx Go.Sx Go.RowKit
theorem wManifoldScales (v0 : Value) (L0 : List Int) (v1 : Value) (L1 : List Int) (v2 : Value) (L2 : List Int) (W : World) (h0 : ListArg W v0 L0) (h1 : ListArg W v1 L1) (h2 : ListArg W v2 L2) : Calls Tryz.prog 3 #[v0, v1, v2] W (Rets (.bool true) W) :=
  rets_of_sndR (Ox.snd_scales h0.2.1 h1.2.1 h2.2.1 Ax.call) rfl (al_cons h0.1 (al_cons h1.1 (al_cons h2.1 al_nil)))
end Go.Proofs.YtnlnbnjnapofmaaGreat

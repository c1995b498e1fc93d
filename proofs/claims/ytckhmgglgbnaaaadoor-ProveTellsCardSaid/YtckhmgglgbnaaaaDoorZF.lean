/- Facts on the types of the translation. -/
import Derived.Test.YtckhmgglgbnaaaaDoorZT
import Derived.Test.YtckhmgglgbnaaaaDoorProg
set_option linter.unusedVariables false
set_option linter.unusedSimpArgs false
namespace Go.Lf
open Go
noncomputable abbrev P : Program := Go.Proofs.Tryd.prog
theorem mix : P.follows .mixedOrders = true := by kernel_rfl
theorem bd_106 : bdD P 106 = some ([(0, 1), (1, 1)], [.slice none 0 0, .bool false]) := by kernel_rfl
theorem bd_114 : bdD P 114 = some ([(0, 1), (1, 1)], [.string ⟨#[]⟩, .bool false]) := by kernel_rfl
theorem bd_132 : bdD P 132 = some ([(0, 1), (1, 1), (2, 1)], [.slice none 0 0, .string ⟨#[]⟩, .slice none 0 0]) := by kernel_rfl
theorem bd_139 : bdD P 139 = some ([(0, 1), (1, 1), (2, 1), (3, 1)], [.slice none 0 0, .int .i64 0, .slice none 0 0, .slice none 0 0]) := by kernel_rfl
theorem bd_156 : bdD P 156 = some ([(0, 1), (1, 1), (2, 1)], [.slice none 0 0, .slice none 0 0, .slice none 0 0]) := by kernel_rfl
theorem bd_32 : bdD P 32 = some ([(0, 1), (1, 1), (2, 1), (3, 1), (4, 1), (5, 1)], [.int .i64 0, .string ⟨#[]⟩, .bool false, .string ⟨#[]⟩, .int .i64 0, .slice none 0 0]) := by kernel_rfl
theorem bd_37 : bdD P 37 = some ([(0, 1), (1, 1), (2, 1)], [.slice none 0 0, .slice none 0 0, .bool false]) := by kernel_rfl
theorem bd_48 : bdD P 48 = some ([(0, 1), (1, 1), (2, 1)], [.slice none 0 0, .slice none 0 0, .bool false]) := by kernel_rfl
theorem bd_55 : bdD P 55 = some ([(0, 1), (1, 1), (2, 1), (3, 1), (4, 16)], [.int .i64 0, .string ⟨#[]⟩, .bool false, .string ⟨#[]⟩, .int .i64 0, .int .i64 0, .int .i64 0, .int .i64 0, .int .i64 0, .int .i64 0, .int .i64 0, .int .i64 0, .int .i64 0, .int .i64 0, .int .i64 0, .int .i64 0, .int .i64 0, .int .i64 0, .int .i64 0, .int .i64 0]) := by kernel_rfl
theorem bd_58 : bdD P 58 = some ([(0, 1), (1, 1)], [.string ⟨#[]⟩, .string ⟨#[]⟩]) := by kernel_rfl
theorem bd_89 : bdD P 89 = some ([(0, 1), (1, 1), (2, 1), (3, 1)], [.slice none 0 0, .slice none 0 0, .slice none 0 0, .slice none 0 0]) := by kernel_rfl
theorem bd_94 : bdD P 94 = some ([(0, 1), (1, 1), (2, 1), (3, 1), (4, 1)], [.int .i64 0, .string ⟨#[]⟩, .bool false, .string ⟨#[]⟩, .int .i64 0]) := by kernel_rfl
theorem cb_100 : Callable P 100 := ⟨⟨_, Go.Proofs.Tryd.func100, by kernel_rfl, by kernel_rfl⟩⟩
theorem cb_101 : Callable P 101 := ⟨⟨_, Go.Proofs.Tryd.func101, by kernel_rfl, by kernel_rfl⟩⟩
theorem cb_103 : Callable P 103 := ⟨⟨_, Go.Proofs.Tryd.func103, by kernel_rfl, by kernel_rfl⟩⟩
theorem cb_104 : Callable P 104 := ⟨⟨_, Go.Proofs.Tryd.func104, by kernel_rfl, by kernel_rfl⟩⟩
theorem cb_105 : Callable P 105 := ⟨⟨_, Go.Proofs.Tryd.func105, by kernel_rfl, by kernel_rfl⟩⟩
theorem cb_108 : Callable P 108 := ⟨⟨_, Go.Proofs.Tryd.func108, by kernel_rfl, by kernel_rfl⟩⟩
theorem cb_109 : Callable P 109 := ⟨⟨_, Go.Proofs.Tryd.func109, by kernel_rfl, by kernel_rfl⟩⟩
theorem cb_110 : Callable P 110 := ⟨⟨_, Go.Proofs.Tryd.func110, by kernel_rfl, by kernel_rfl⟩⟩
theorem cb_111 : Callable P 111 := ⟨⟨_, Go.Proofs.Tryd.func111, by kernel_rfl, by kernel_rfl⟩⟩
theorem cb_112 : Callable P 112 := ⟨⟨_, Go.Proofs.Tryd.func112, by kernel_rfl, by kernel_rfl⟩⟩
theorem cb_113 : Callable P 113 := ⟨⟨_, Go.Proofs.Tryd.func113, by kernel_rfl, by kernel_rfl⟩⟩
theorem cb_12 : Callable P 12 := ⟨⟨_, Go.Proofs.Tryd.func12, by kernel_rfl, by kernel_rfl⟩⟩
theorem cb_16 : Callable P 16 := ⟨⟨_, Go.Proofs.Tryd.func16, by kernel_rfl, by kernel_rfl⟩⟩
theorem cb_17 : Callable P 17 := ⟨⟨_, Go.Proofs.Tryd.func17, by kernel_rfl, by kernel_rfl⟩⟩
theorem cb_19 : Callable P 19 := ⟨⟨_, Go.Proofs.Tryd.func19, by kernel_rfl, by kernel_rfl⟩⟩
theorem cb_23 : Callable P 23 := ⟨⟨_, Go.Proofs.Tryd.func23, by kernel_rfl, by kernel_rfl⟩⟩
theorem cb_25 : Callable P 25 := ⟨⟨_, Go.Proofs.Tryd.func25, by kernel_rfl, by kernel_rfl⟩⟩
theorem cb_26 : Callable P 26 := ⟨⟨_, Go.Proofs.Tryd.func26, by kernel_rfl, by kernel_rfl⟩⟩
theorem cb_28 : Callable P 28 := ⟨⟨_, Go.Proofs.Tryd.func28, by kernel_rfl, by kernel_rfl⟩⟩
theorem cb_29 : Callable P 29 := ⟨⟨_, Go.Proofs.Tryd.func29, by kernel_rfl, by kernel_rfl⟩⟩
theorem cb_30 : Callable P 30 := ⟨⟨_, Go.Proofs.Tryd.func30, by kernel_rfl, by kernel_rfl⟩⟩
theorem cb_31 : Callable P 31 := ⟨⟨_, Go.Proofs.Tryd.func31, by kernel_rfl, by kernel_rfl⟩⟩
theorem cb_32 : Callable P 32 := ⟨⟨_, Go.Proofs.Tryd.func32, by kernel_rfl, by kernel_rfl⟩⟩
theorem cb_33 : Callable P 33 := ⟨⟨_, Go.Proofs.Tryd.func33, by kernel_rfl, by kernel_rfl⟩⟩
theorem cb_34 : Callable P 34 := ⟨⟨_, Go.Proofs.Tryd.func34, by kernel_rfl, by kernel_rfl⟩⟩
theorem cb_35 : Callable P 35 := ⟨⟨_, Go.Proofs.Tryd.func35, by kernel_rfl, by kernel_rfl⟩⟩
theorem cb_36 : Callable P 36 := ⟨⟨_, Go.Proofs.Tryd.func36, by kernel_rfl, by kernel_rfl⟩⟩
theorem cb_39 : Callable P 39 := ⟨⟨_, Go.Proofs.Tryd.func39, by kernel_rfl, by kernel_rfl⟩⟩
theorem cb_40 : Callable P 40 := ⟨⟨_, Go.Proofs.Tryd.func40, by kernel_rfl, by kernel_rfl⟩⟩
theorem cb_41 : Callable P 41 := ⟨⟨_, Go.Proofs.Tryd.func41, by kernel_rfl, by kernel_rfl⟩⟩
theorem cb_42 : Callable P 42 := ⟨⟨_, Go.Proofs.Tryd.func42, by kernel_rfl, by kernel_rfl⟩⟩
theorem cb_43 : Callable P 43 := ⟨⟨_, Go.Proofs.Tryd.func43, by kernel_rfl, by kernel_rfl⟩⟩
theorem cb_44 : Callable P 44 := ⟨⟨_, Go.Proofs.Tryd.func44, by kernel_rfl, by kernel_rfl⟩⟩
theorem cb_45 : Callable P 45 := ⟨⟨_, Go.Proofs.Tryd.func45, by kernel_rfl, by kernel_rfl⟩⟩
theorem cb_46 : Callable P 46 := ⟨⟨_, Go.Proofs.Tryd.func46, by kernel_rfl, by kernel_rfl⟩⟩
theorem cb_47 : Callable P 47 := ⟨⟨_, Go.Proofs.Tryd.func47, by kernel_rfl, by kernel_rfl⟩⟩
theorem cb_49 : Callable P 49 := ⟨⟨_, Go.Proofs.Tryd.func49, by kernel_rfl, by kernel_rfl⟩⟩
theorem cb_50 : Callable P 50 := ⟨⟨_, Go.Proofs.Tryd.func50, by kernel_rfl, by kernel_rfl⟩⟩
theorem cb_51 : Callable P 51 := ⟨⟨_, Go.Proofs.Tryd.func51, by kernel_rfl, by kernel_rfl⟩⟩
theorem cb_52 : Callable P 52 := ⟨⟨_, Go.Proofs.Tryd.func52, by kernel_rfl, by kernel_rfl⟩⟩
theorem cb_53 : Callable P 53 := ⟨⟨_, Go.Proofs.Tryd.func53, by kernel_rfl, by kernel_rfl⟩⟩
theorem cb_54 : Callable P 54 := ⟨⟨_, Go.Proofs.Tryd.func54, by kernel_rfl, by kernel_rfl⟩⟩
theorem cb_55 : Callable P 55 := ⟨⟨_, Go.Proofs.Tryd.func55, by kernel_rfl, by kernel_rfl⟩⟩
theorem cb_56 : Callable P 56 := ⟨⟨_, Go.Proofs.Tryd.func56, by kernel_rfl, by kernel_rfl⟩⟩
theorem cb_57 : Callable P 57 := ⟨⟨_, Go.Proofs.Tryd.func57, by kernel_rfl, by kernel_rfl⟩⟩
theorem cb_58 : Callable P 58 := ⟨⟨_, Go.Proofs.Tryd.func58, by kernel_rfl, by kernel_rfl⟩⟩
theorem cb_59 : Callable P 59 := ⟨⟨_, Go.Proofs.Tryd.func59, by kernel_rfl, by kernel_rfl⟩⟩
theorem cb_61 : Callable P 61 := ⟨⟨_, Go.Proofs.Tryd.func61, by kernel_rfl, by kernel_rfl⟩⟩
theorem cb_62 : Callable P 62 := ⟨⟨_, Go.Proofs.Tryd.func62, by kernel_rfl, by kernel_rfl⟩⟩
theorem cb_63 : Callable P 63 := ⟨⟨_, Go.Proofs.Tryd.func63, by kernel_rfl, by kernel_rfl⟩⟩
theorem cb_64 : Callable P 64 := ⟨⟨_, Go.Proofs.Tryd.func64, by kernel_rfl, by kernel_rfl⟩⟩
theorem cb_65 : Callable P 65 := ⟨⟨_, Go.Proofs.Tryd.func65, by kernel_rfl, by kernel_rfl⟩⟩
theorem cb_66 : Callable P 66 := ⟨⟨_, Go.Proofs.Tryd.func66, by kernel_rfl, by kernel_rfl⟩⟩
theorem cb_67 : Callable P 67 := ⟨⟨_, Go.Proofs.Tryd.func67, by kernel_rfl, by kernel_rfl⟩⟩
theorem cb_68 : Callable P 68 := ⟨⟨_, Go.Proofs.Tryd.func68, by kernel_rfl, by kernel_rfl⟩⟩
theorem cb_69 : Callable P 69 := ⟨⟨_, Go.Proofs.Tryd.func69, by kernel_rfl, by kernel_rfl⟩⟩
theorem cb_70 : Callable P 70 := ⟨⟨_, Go.Proofs.Tryd.func70, by kernel_rfl, by kernel_rfl⟩⟩
theorem cb_74 : Callable P 74 := ⟨⟨_, Go.Proofs.Tryd.func74, by kernel_rfl, by kernel_rfl⟩⟩
theorem cb_75 : Callable P 75 := ⟨⟨_, Go.Proofs.Tryd.func75, by kernel_rfl, by kernel_rfl⟩⟩
theorem cb_76 : Callable P 76 := ⟨⟨_, Go.Proofs.Tryd.func76, by kernel_rfl, by kernel_rfl⟩⟩
theorem cb_77 : Callable P 77 := ⟨⟨_, Go.Proofs.Tryd.func77, by kernel_rfl, by kernel_rfl⟩⟩
theorem cb_78 : Callable P 78 := ⟨⟨_, Go.Proofs.Tryd.func78, by kernel_rfl, by kernel_rfl⟩⟩
theorem cb_79 : Callable P 79 := ⟨⟨_, Go.Proofs.Tryd.func79, by kernel_rfl, by kernel_rfl⟩⟩
theorem cb_80 : Callable P 80 := ⟨⟨_, Go.Proofs.Tryd.func80, by kernel_rfl, by kernel_rfl⟩⟩
theorem cb_85 : Callable P 85 := ⟨⟨_, Go.Proofs.Tryd.func85, by kernel_rfl, by kernel_rfl⟩⟩
theorem cb_86 : Callable P 86 := ⟨⟨_, Go.Proofs.Tryd.func86, by kernel_rfl, by kernel_rfl⟩⟩
theorem cb_87 : Callable P 87 := ⟨⟨_, Go.Proofs.Tryd.func87, by kernel_rfl, by kernel_rfl⟩⟩
theorem cb_88 : Callable P 88 := ⟨⟨_, Go.Proofs.Tryd.func88, by kernel_rfl, by kernel_rfl⟩⟩
theorem cb_89 : Callable P 89 := ⟨⟨_, Go.Proofs.Tryd.func89, by kernel_rfl, by kernel_rfl⟩⟩
theorem cb_90 : Callable P 90 := ⟨⟨_, Go.Proofs.Tryd.func90, by kernel_rfl, by kernel_rfl⟩⟩
theorem cb_91 : Callable P 91 := ⟨⟨_, Go.Proofs.Tryd.func91, by kernel_rfl, by kernel_rfl⟩⟩
theorem cb_92 : Callable P 92 := ⟨⟨_, Go.Proofs.Tryd.func92, by kernel_rfl, by kernel_rfl⟩⟩
theorem cb_93 : Callable P 93 := ⟨⟨_, Go.Proofs.Tryd.func93, by kernel_rfl, by kernel_rfl⟩⟩
theorem cb_97 : Callable P 97 := ⟨⟨_, Go.Proofs.Tryd.func97, by kernel_rfl, by kernel_rfl⟩⟩
theorem cb_98 : Callable P 98 := ⟨⟨_, Go.Proofs.Tryd.func98, by kernel_rfl, by kernel_rfl⟩⟩
theorem cb_99 : Callable P 99 := ⟨⟨_, Go.Proofs.Tryd.func99, by kernel_rfl, by kernel_rfl⟩⟩
theorem el_108 : elD P 108 = some (none, 111, 1) := by kernel_rfl
theorem el_147 : elD P 147 = some (some 2, 3, 1) := by kernel_rfl
theorem el_23 : elD P 23 = some (none, 55, 20) := by kernel_rfl
theorem el_28 : elD P 28 = some (none, 9, 1) := by kernel_rfl
theorem el_35 : elD P 35 = some (none, 32, 6) := by kernel_rfl
theorem el_45 : elD P 45 = some (none, 58, 2) := by kernel_rfl
theorem el_53 : elD P 53 = some (some 16, 3, 1) := by kernel_rfl
theorem el_60 : elD P 60 = some (none, 5, 1) := by kernel_rfl
theorem el_70 : elD P 70 = some (none, 3, 1) := by kernel_rfl
theorem el_77 : elD P 77 = some (none, 4, 1) := by kernel_rfl
theorem el_81 : elD P 81 = some (some 8, 80, 1) := by kernel_rfl
theorem el_83 : elD P 83 = some (some 64, 80, 1) := by kernel_rfl
theorem el_97 : elD P 97 = some (some 64, 5, 1) := by kernel_rfl
theorem fd_106_1 : fdD P 106 1 = some (1, 4, 1) := by kernel_rfl
theorem fd_114_0 : fdD P 114 0 = some (0, 9, 1) := by kernel_rfl
theorem fd_114_1 : fdD P 114 1 = some (1, 4, 1) := by kernel_rfl
theorem fd_132_0 : fdD P 132 0 = some (0, 23, 1) := by kernel_rfl
theorem fd_132_1 : fdD P 132 1 = some (1, 9, 1) := by kernel_rfl
theorem fd_132_2 : fdD P 132 2 = some (2, 70, 1) := by kernel_rfl
theorem fd_139_0 : fdD P 139 0 = some (0, 23, 1) := by kernel_rfl
theorem fd_139_1 : fdD P 139 1 = some (1, 3, 1) := by kernel_rfl
theorem fd_139_2 : fdD P 139 2 = some (2, 45, 1) := by kernel_rfl
theorem fd_139_3 : fdD P 139 3 = some (3, 28, 1) := by kernel_rfl
theorem fd_156_0 : fdD P 156 0 = some (0, 45, 1) := by kernel_rfl
theorem fd_156_1 : fdD P 156 1 = some (1, 28, 1) := by kernel_rfl
theorem fd_156_2 : fdD P 156 2 = some (2, 23, 1) := by kernel_rfl
theorem fd_32_0 : fdD P 32 0 = some (0, 3, 1) := by kernel_rfl
theorem fd_32_1 : fdD P 32 1 = some (1, 9, 1) := by kernel_rfl
theorem fd_32_2 : fdD P 32 2 = some (2, 4, 1) := by kernel_rfl
theorem fd_32_3 : fdD P 32 3 = some (3, 9, 1) := by kernel_rfl
theorem fd_32_4 : fdD P 32 4 = some (4, 3, 1) := by kernel_rfl
theorem fd_32_5 : fdD P 32 5 = some (5, 28, 1) := by kernel_rfl
theorem fd_37_0 : fdD P 37 0 = some (0, 35, 1) := by kernel_rfl
theorem fd_37_1 : fdD P 37 1 = some (1, 28, 1) := by kernel_rfl
theorem fd_48_0 : fdD P 48 0 = some (0, 23, 1) := by kernel_rfl
theorem fd_48_2 : fdD P 48 2 = some (2, 4, 1) := by kernel_rfl
theorem fd_55_0 : fdD P 55 0 = some (0, 3, 1) := by kernel_rfl
theorem fd_55_1 : fdD P 55 1 = some (1, 9, 1) := by kernel_rfl
theorem fd_55_2 : fdD P 55 2 = some (2, 4, 1) := by kernel_rfl
theorem fd_55_3 : fdD P 55 3 = some (3, 9, 1) := by kernel_rfl
theorem fd_55_4 : fdD P 55 4 = some (4, 53, 16) := by kernel_rfl
theorem fd_58_0 : fdD P 58 0 = some (0, 9, 1) := by kernel_rfl
theorem fd_58_1 : fdD P 58 1 = some (1, 9, 1) := by kernel_rfl
theorem fd_89_0 : fdD P 89 0 = some (0, 45, 1) := by kernel_rfl
theorem fd_89_1 : fdD P 89 1 = some (1, 28, 1) := by kernel_rfl
theorem fd_89_2 : fdD P 89 2 = some (2, 23, 1) := by kernel_rfl
theorem fd_89_3 : fdD P 89 3 = some (3, 28, 1) := by kernel_rfl
theorem ty_106 : tyD P 106 = some (true, 2, 32, [.slice none 0 0, .bool false]) := by kernel_rfl
theorem ty_111 : tyD P 111 = some (false, 1, 8, [.int .u64 0]) := by kernel_rfl
theorem ty_114 : tyD P 114 = some (true, 2, 24, [.string ⟨#[]⟩, .bool false]) := by kernel_rfl
theorem ty_147 : tyD P 147 = some (true, 2, 16, [.int .i64 0, .int .i64 0]) := by kernel_rfl
theorem ty_23 : tyD P 23 = some (false, 1, 24, [.slice none 0 0]) := by kernel_rfl
theorem ty_28 : tyD P 28 = some (false, 1, 24, [.slice none 0 0]) := by kernel_rfl
theorem ty_3 : tyD P 3 = some (false, 1, 8, [.int .i64 0]) := by kernel_rfl
theorem ty_32 : tyD P 32 = some (true, 6, 80, [.int .i64 0, .string ⟨#[]⟩, .bool false, .string ⟨#[]⟩, .int .i64 0, .slice none 0 0]) := by kernel_rfl
theorem ty_35 : tyD P 35 = some (false, 1, 24, [.slice none 0 0]) := by kernel_rfl
theorem ty_37 : tyD P 37 = some (true, 3, 56, [.slice none 0 0, .slice none 0 0, .bool false]) := by kernel_rfl
theorem ty_4 : tyD P 4 = some (false, 1, 1, [.bool false]) := by kernel_rfl
theorem ty_45 : tyD P 45 = some (false, 1, 24, [.slice none 0 0]) := by kernel_rfl
theorem ty_48 : tyD P 48 = some (true, 3, 56, [.slice none 0 0, .slice none 0 0, .bool false]) := by kernel_rfl
theorem ty_5 : tyD P 5 = some (false, 1, 1, [.int .u8 0]) := by kernel_rfl
theorem ty_53 : tyD P 53 = some (true, 16, 128, [.int .i64 0, .int .i64 0, .int .i64 0, .int .i64 0, .int .i64 0, .int .i64 0, .int .i64 0, .int .i64 0, .int .i64 0, .int .i64 0, .int .i64 0, .int .i64 0, .int .i64 0, .int .i64 0, .int .i64 0, .int .i64 0]) := by kernel_rfl
theorem ty_55 : tyD P 55 = some (true, 20, 176, [.int .i64 0, .string ⟨#[]⟩, .bool false, .string ⟨#[]⟩, .int .i64 0, .int .i64 0, .int .i64 0, .int .i64 0, .int .i64 0, .int .i64 0, .int .i64 0, .int .i64 0, .int .i64 0, .int .i64 0, .int .i64 0, .int .i64 0, .int .i64 0, .int .i64 0, .int .i64 0, .int .i64 0]) := by kernel_rfl
theorem ty_58 : tyD P 58 = some (true, 2, 32, [.string ⟨#[]⟩, .string ⟨#[]⟩]) := by kernel_rfl
theorem ty_70 : tyD P 70 = some (false, 1, 24, [.slice none 0 0]) := by kernel_rfl
theorem ty_80 : tyD P 80 = some (false, 1, 4, [.int .u32 0]) := by kernel_rfl
theorem ty_81 : tyD P 81 = some (true, 8, 32, [.int .u32 0, .int .u32 0, .int .u32 0, .int .u32 0, .int .u32 0, .int .u32 0, .int .u32 0, .int .u32 0]) := by kernel_rfl
theorem ty_83 : tyD P 83 = some (true, 64, 256, [.int .u32 0, .int .u32 0, .int .u32 0, .int .u32 0, .int .u32 0, .int .u32 0, .int .u32 0, .int .u32 0, .int .u32 0, .int .u32 0, .int .u32 0, .int .u32 0, .int .u32 0, .int .u32 0, .int .u32 0, .int .u32 0, .int .u32 0, .int .u32 0, .int .u32 0, .int .u32 0, .int .u32 0, .int .u32 0, .int .u32 0, .int .u32 0, .int .u32 0, .int .u32 0, .int .u32 0, .int .u32 0, .int .u32 0, .int .u32 0, .int .u32 0, .int .u32 0, .int .u32 0, .int .u32 0, .int .u32 0, .int .u32 0, .int .u32 0, .int .u32 0, .int .u32 0, .int .u32 0, .int .u32 0, .int .u32 0, .int .u32 0, .int .u32 0, .int .u32 0, .int .u32 0, .int .u32 0, .int .u32 0, .int .u32 0, .int .u32 0, .int .u32 0, .int .u32 0, .int .u32 0, .int .u32 0, .int .u32 0, .int .u32 0, .int .u32 0, .int .u32 0, .int .u32 0, .int .u32 0, .int .u32 0, .int .u32 0, .int .u32 0, .int .u32 0]) := by kernel_rfl
theorem ty_9 : tyD P 9 = some (false, 1, 16, [.string ⟨#[]⟩]) := by kernel_rfl
theorem ty_94 : tyD P 94 = some (true, 5, 56, [.int .i64 0, .string ⟨#[]⟩, .bool false, .string ⟨#[]⟩, .int .i64 0]) := by kernel_rfl
theorem ty_97 : tyD P 97 = some (true, 64, 64, [.int .u8 0, .int .u8 0, .int .u8 0, .int .u8 0, .int .u8 0, .int .u8 0, .int .u8 0, .int .u8 0, .int .u8 0, .int .u8 0, .int .u8 0, .int .u8 0, .int .u8 0, .int .u8 0, .int .u8 0, .int .u8 0, .int .u8 0, .int .u8 0, .int .u8 0, .int .u8 0, .int .u8 0, .int .u8 0, .int .u8 0, .int .u8 0, .int .u8 0, .int .u8 0, .int .u8 0, .int .u8 0, .int .u8 0, .int .u8 0, .int .u8 0, .int .u8 0, .int .u8 0, .int .u8 0, .int .u8 0, .int .u8 0, .int .u8 0, .int .u8 0, .int .u8 0, .int .u8 0, .int .u8 0, .int .u8 0, .int .u8 0, .int .u8 0, .int .u8 0, .int .u8 0, .int .u8 0, .int .u8 0, .int .u8 0, .int .u8 0, .int .u8 0, .int .u8 0, .int .u8 0, .int .u8 0, .int .u8 0, .int .u8 0, .int .u8 0, .int .u8 0, .int .u8 0, .int .u8 0, .int .u8 0, .int .u8 0, .int .u8 0, .int .u8 0]) := by kernel_rfl
theorem und_111 : P.underlying 111 = some (.int .u64) := by kernel_rfl
theorem und_3 : P.underlying 3 = some (.int .i64) := by kernel_rfl
theorem und_4 : P.underlying 4 = some (.bool) := by kernel_rfl
theorem und_5 : P.underlying 5 = some (.int .u8) := by kernel_rfl
theorem und_56 : P.underlying 56 = some (.int .u64) := by kernel_rfl
theorem und_60 : P.underlying 60 = some (.slice 5) := by kernel_rfl
theorem und_80 : P.underlying 80 = some (.int .u32) := by kernel_rfl
theorem und_9 : P.underlying 9 = some (.string) := by kernel_rfl
theorem r_neq_Node {a : Act} {w : World} {n : Nat} {L : List (Nat × Value)} (hf : Fr n L a) {t' : TypeId} {X Y : Operand} {x y : Node} (hx : ev L X = some (Value.agg ⟨Value.int .i64 x.kind_ :: Value.string x.path_ :: Value.bool x.has_ :: Value.string x.value_ :: arrC .i64 x.kids_⟩)) (hy : ev L Y = some (Value.agg ⟨Value.int .i64 y.kind_ :: Value.string y.path_ :: Value.bool y.has_ :: Value.string y.value_ :: arrC .i64 y.kids_⟩)) {d : Nat} {ty : TypeId} {pos : String} {aft : Array Edge} {gd : Option (Nat × Bool)} :
    (execOp a.eval (⟨some d, .binOp .neq 55 X Y t', ty, pos, aft, gd⟩ : Oper)).run P w = .ok (.value (.bool (!(eq_Node x y)))) w :=
  r_neqS hf (l := [(0, 3), (1, 9), (2, 4), (3, 9), (4, 53)]) (by kernel_rfl) hx hy ⟨_, _, _, _, part_one ty_3 rfl, part_one ty_3 rfl, run_equalIn_int w _ _ .i64 .i64 _ _ und_3, ⟨_, _, _, _, part_one ty_9 rfl, part_one ty_9 rfl, run_equalIn_string w _ _ _ _ und_9, ⟨_, _, _, _, part_one ty_4 rfl, part_one ty_4 rfl, run_equalIn_bool w _ _ _ _ und_4, ⟨_, _, _, _, part_one ty_9 rfl, part_one ty_9 rfl, run_equalIn_string w _ _ _ _ und_9, ⟨_, _, _, _, part_tail (pre := [Value.int .i64 x.kind_, Value.string x.path_, Value.bool x.has_, Value.string x.value_]) ty_53 rfl (arrC_len _ _), part_tail (pre := [Value.int .i64 y.kind_, Value.string y.path_, Value.bool y.has_, Value.string y.value_]) ty_53 rfl (arrC_len _ _), eq_arr el_53 und_3 ty_3, rfl, rfl⟩, rfl⟩, rfl⟩, rfl⟩, eqc_Node x y⟩

theorem r_eql_node_face_T {a : Act} {w : World} {n : Nat} {L : List (Nat × Value)} (hf : Fr n L a) {t' : TypeId} {X Y : Operand} {x y : node_face_T} (hx : ev L X = some (Value.agg ⟨[Value.int .i64 x.p_kind_, Value.string x.p_path_, Value.bool x.p_has_, Value.string x.p_value_, Value.int .i64 x.p_mask_]⟩)) (hy : ev L Y = some (Value.agg ⟨[Value.int .i64 y.p_kind_, Value.string y.p_path_, Value.bool y.p_has_, Value.string y.p_value_, Value.int .i64 y.p_mask_]⟩)) {d : Nat} {ty : TypeId} {pos : String} {aft : Array Edge} {gd : Option (Nat × Bool)} :
    (execOp a.eval (⟨some d, .binOp .eql 94 X Y t', ty, pos, aft, gd⟩ : Oper)).run P w = .ok (.value (.bool (eq_node_face_T x y))) w :=
  r_eqlS hf (l := [(0, 3), (1, 9), (2, 4), (3, 9), (4, 3)]) (by kernel_rfl) hx hy ⟨_, _, _, _, part_one ty_3 rfl, part_one ty_3 rfl, run_equalIn_int w _ _ .i64 .i64 _ _ und_3, ⟨_, _, _, _, part_one ty_9 rfl, part_one ty_9 rfl, run_equalIn_string w _ _ _ _ und_9, ⟨_, _, _, _, part_one ty_4 rfl, part_one ty_4 rfl, run_equalIn_bool w _ _ _ _ und_4, ⟨_, _, _, _, part_one ty_9 rfl, part_one ty_9 rfl, run_equalIn_string w _ _ _ _ und_9, ⟨_, _, _, _, part_one ty_3 rfl, part_one ty_3 rfl, run_equalIn_int w _ _ .i64 .i64 _ _ und_3, rfl, rfl⟩, rfl⟩, rfl⟩, rfl⟩, eqc_node_face_T x y⟩
end Go.Lf

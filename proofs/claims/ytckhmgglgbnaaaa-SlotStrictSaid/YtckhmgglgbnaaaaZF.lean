/- Facts on the types of the translation. -/
import Derived.Test.YtckhmgglgbnaaaaZT
import Derived.Test.YtckhmgglgbnaaaaProg
set_option linter.unusedVariables false
set_option linter.unusedSimpArgs false
namespace Go.Lf
open Go
noncomputable abbrev P : Program := Go.Proofs.Try.prog
theorem mix : P.follows .mixedOrders = true := by kernel_rfl
theorem bd_105 : bdD P 105 = some ([(0, 1), (1, 4), (5, 1), (6, 2), (8, 1)], [.slice none 0 0, .string ⟨#[]⟩, .int .i64 0, .slice none 0 0, .slice none 0 0, .map none, .pointer none, .slice none 0 0, .slice none 0 0]) := by kernel_rfl
theorem bd_111 : bdD P 111 = some ([(0, 1), (1, 1), (2, 1)], [.string ⟨#[]⟩, .slice none 0 0, .bool false]) := by kernel_rfl
theorem bd_120 : bdD P 120 = some ([(0, 1), (1, 1), (2, 1), (3, 1)], [.slice none 0 0, .int .i64 0, .slice none 0 0, .slice none 0 0]) := by kernel_rfl
theorem bd_123 : bdD P 123 = some ([(0, 1), (1, 1), (2, 1)], [.slice none 0 0, .int .i64 0, .slice none 0 0]) := by kernel_rfl
theorem bd_126 : bdD P 126 = some ([(0, 1), (1, 1)], [.string ⟨#[]⟩, .bool false]) := by kernel_rfl
theorem bd_161 : bdD P 161 = some ([(0, 1), (1, 1), (2, 1)], [.slice none 0 0, .slice none 0 0, .slice none 0 0]) := by kernel_rfl
theorem bd_26 : bdD P 26 = some ([(0, 1), (1, 1), (2, 1), (3, 1)], [.string ⟨#[]⟩, .int .i64 0, .slice none 0 0, .slice none 0 0]) := by kernel_rfl
theorem bd_33 : bdD P 33 = some ([(0, 1), (1, 1)], [.slice none 0 0, .bool false]) := by kernel_rfl
theorem bd_47 : bdD P 47 = some ([(0, 1), (1, 1), (2, 1)], [.slice none 0 0, .slice none 0 0, .bool false]) := by kernel_rfl
theorem bd_51 : bdD P 51 = some ([(0, 1), (1, 1), (2, 1), (3, 1), (4, 16)], [.int .i64 0, .string ⟨#[]⟩, .bool false, .string ⟨#[]⟩, .int .i64 0, .int .i64 0, .int .i64 0, .int .i64 0, .int .i64 0, .int .i64 0, .int .i64 0, .int .i64 0, .int .i64 0, .int .i64 0, .int .i64 0, .int .i64 0, .int .i64 0, .int .i64 0, .int .i64 0, .int .i64 0]) := by kernel_rfl
theorem bd_55 : bdD P 55 = some ([(0, 1), (1, 1)], [.string ⟨#[]⟩, .string ⟨#[]⟩]) := by kernel_rfl
theorem bd_70 : bdD P 70 = some ([(0, 1), (1, 1), (2, 1), (3, 1), (4, 16)], [.int .i64 0, .string ⟨#[]⟩, .bool false, .string ⟨#[]⟩, .int .i64 0, .int .i64 0, .int .i64 0, .int .i64 0, .int .i64 0, .int .i64 0, .int .i64 0, .int .i64 0, .int .i64 0, .int .i64 0, .int .i64 0, .int .i64 0, .int .i64 0, .int .i64 0, .int .i64 0, .int .i64 0]) := by kernel_rfl
theorem bd_80 : bdD P 80 = some ([(0, 1), (1, 1), (2, 1)], [.slice none 0 0, .slice none 0 0, .slice none 0 0]) := by kernel_rfl
theorem bd_83 : bdD P 83 = some ([(0, 1), (1, 1)], [.slice none 0 0, .bool false]) := by kernel_rfl
theorem bd_87 : bdD P 87 = some ([(0, 1), (1, 1), (2, 1), (3, 1), (4, 1)], [.slice none 0 0, .slice none 0 0, .slice none 0 0, .slice none 0 0, .slice none 0 0]) := by kernel_rfl
theorem bd_94 : bdD P 94 = some ([(0, 1), (1, 1), (2, 1), (3, 1)], [.slice none 0 0, .slice none 0 0, .slice none 0 0, .slice none 0 0]) := by kernel_rfl
theorem cb_101 : Callable P 101 := ⟨⟨_, Go.Proofs.Try.func101, by kernel_rfl, by kernel_rfl⟩⟩
theorem cb_102 : Callable P 102 := ⟨⟨_, Go.Proofs.Try.func102, by kernel_rfl, by kernel_rfl⟩⟩
theorem cb_103 : Callable P 103 := ⟨⟨_, Go.Proofs.Try.func103, by kernel_rfl, by kernel_rfl⟩⟩
theorem cb_14 : Callable P 14 := ⟨⟨_, Go.Proofs.Try.func14, by kernel_rfl, by kernel_rfl⟩⟩
theorem cb_15 : Callable P 15 := ⟨⟨_, Go.Proofs.Try.func15, by kernel_rfl, by kernel_rfl⟩⟩
theorem cb_23 : Callable P 23 := ⟨⟨_, Go.Proofs.Try.func23, by kernel_rfl, by kernel_rfl⟩⟩
theorem cb_24 : Callable P 24 := ⟨⟨_, Go.Proofs.Try.func24, by kernel_rfl, by kernel_rfl⟩⟩
theorem cb_26 : Callable P 26 := ⟨⟨_, Go.Proofs.Try.func26, by kernel_rfl, by kernel_rfl⟩⟩
theorem cb_27 : Callable P 27 := ⟨⟨_, Go.Proofs.Try.func27, by kernel_rfl, by kernel_rfl⟩⟩
theorem cb_29 : Callable P 29 := ⟨⟨_, Go.Proofs.Try.func29, by kernel_rfl, by kernel_rfl⟩⟩
theorem cb_32 : Callable P 32 := ⟨⟨_, Go.Proofs.Try.func32, by kernel_rfl, by kernel_rfl⟩⟩
theorem cb_35 : Callable P 35 := ⟨⟨_, Go.Proofs.Try.func35, by kernel_rfl, by kernel_rfl⟩⟩
theorem cb_36 : Callable P 36 := ⟨⟨_, Go.Proofs.Try.func36, by kernel_rfl, by kernel_rfl⟩⟩
theorem cb_37 : Callable P 37 := ⟨⟨_, Go.Proofs.Try.func37, by kernel_rfl, by kernel_rfl⟩⟩
theorem cb_38 : Callable P 38 := ⟨⟨_, Go.Proofs.Try.func38, by kernel_rfl, by kernel_rfl⟩⟩
theorem cb_39 : Callable P 39 := ⟨⟨_, Go.Proofs.Try.func39, by kernel_rfl, by kernel_rfl⟩⟩
theorem cb_41 : Callable P 41 := ⟨⟨_, Go.Proofs.Try.func41, by kernel_rfl, by kernel_rfl⟩⟩
theorem cb_43 : Callable P 43 := ⟨⟨_, Go.Proofs.Try.func43, by kernel_rfl, by kernel_rfl⟩⟩
theorem cb_46 : Callable P 46 := ⟨⟨_, Go.Proofs.Try.func46, by kernel_rfl, by kernel_rfl⟩⟩
theorem cb_47 : Callable P 47 := ⟨⟨_, Go.Proofs.Try.func47, by kernel_rfl, by kernel_rfl⟩⟩
theorem cb_48 : Callable P 48 := ⟨⟨_, Go.Proofs.Try.func48, by kernel_rfl, by kernel_rfl⟩⟩
theorem cb_49 : Callable P 49 := ⟨⟨_, Go.Proofs.Try.func49, by kernel_rfl, by kernel_rfl⟩⟩
theorem cb_50 : Callable P 50 := ⟨⟨_, Go.Proofs.Try.func50, by kernel_rfl, by kernel_rfl⟩⟩
theorem cb_51 : Callable P 51 := ⟨⟨_, Go.Proofs.Try.func51, by kernel_rfl, by kernel_rfl⟩⟩
theorem cb_52 : Callable P 52 := ⟨⟨_, Go.Proofs.Try.func52, by kernel_rfl, by kernel_rfl⟩⟩
theorem cb_53 : Callable P 53 := ⟨⟨_, Go.Proofs.Try.func53, by kernel_rfl, by kernel_rfl⟩⟩
theorem cb_54 : Callable P 54 := ⟨⟨_, Go.Proofs.Try.func54, by kernel_rfl, by kernel_rfl⟩⟩
theorem cb_57 : Callable P 57 := ⟨⟨_, Go.Proofs.Try.func57, by kernel_rfl, by kernel_rfl⟩⟩
theorem cb_58 : Callable P 58 := ⟨⟨_, Go.Proofs.Try.func58, by kernel_rfl, by kernel_rfl⟩⟩
theorem cb_60 : Callable P 60 := ⟨⟨_, Go.Proofs.Try.func60, by kernel_rfl, by kernel_rfl⟩⟩
theorem cb_61 : Callable P 61 := ⟨⟨_, Go.Proofs.Try.func61, by kernel_rfl, by kernel_rfl⟩⟩
theorem cb_62 : Callable P 62 := ⟨⟨_, Go.Proofs.Try.func62, by kernel_rfl, by kernel_rfl⟩⟩
theorem cb_63 : Callable P 63 := ⟨⟨_, Go.Proofs.Try.func63, by kernel_rfl, by kernel_rfl⟩⟩
theorem cb_64 : Callable P 64 := ⟨⟨_, Go.Proofs.Try.func64, by kernel_rfl, by kernel_rfl⟩⟩
theorem cb_65 : Callable P 65 := ⟨⟨_, Go.Proofs.Try.func65, by kernel_rfl, by kernel_rfl⟩⟩
theorem cb_67 : Callable P 67 := ⟨⟨_, Go.Proofs.Try.func67, by kernel_rfl, by kernel_rfl⟩⟩
theorem cb_68 : Callable P 68 := ⟨⟨_, Go.Proofs.Try.func68, by kernel_rfl, by kernel_rfl⟩⟩
theorem cb_69 : Callable P 69 := ⟨⟨_, Go.Proofs.Try.func69, by kernel_rfl, by kernel_rfl⟩⟩
theorem cb_70 : Callable P 70 := ⟨⟨_, Go.Proofs.Try.func70, by kernel_rfl, by kernel_rfl⟩⟩
theorem cb_71 : Callable P 71 := ⟨⟨_, Go.Proofs.Try.func71, by kernel_rfl, by kernel_rfl⟩⟩
theorem cb_72 : Callable P 72 := ⟨⟨_, Go.Proofs.Try.func72, by kernel_rfl, by kernel_rfl⟩⟩
theorem cb_73 : Callable P 73 := ⟨⟨_, Go.Proofs.Try.func73, by kernel_rfl, by kernel_rfl⟩⟩
theorem cb_74 : Callable P 74 := ⟨⟨_, Go.Proofs.Try.func74, by kernel_rfl, by kernel_rfl⟩⟩
theorem cb_76 : Callable P 76 := ⟨⟨_, Go.Proofs.Try.func76, by kernel_rfl, by kernel_rfl⟩⟩
theorem cb_77 : Callable P 77 := ⟨⟨_, Go.Proofs.Try.func77, by kernel_rfl, by kernel_rfl⟩⟩
theorem cb_78 : Callable P 78 := ⟨⟨_, Go.Proofs.Try.func78, by kernel_rfl, by kernel_rfl⟩⟩
theorem cb_79 : Callable P 79 := ⟨⟨_, Go.Proofs.Try.func79, by kernel_rfl, by kernel_rfl⟩⟩
theorem cb_80 : Callable P 80 := ⟨⟨_, Go.Proofs.Try.func80, by kernel_rfl, by kernel_rfl⟩⟩
theorem cb_84 : Callable P 84 := ⟨⟨_, Go.Proofs.Try.func84, by kernel_rfl, by kernel_rfl⟩⟩
theorem cb_85 : Callable P 85 := ⟨⟨_, Go.Proofs.Try.func85, by kernel_rfl, by kernel_rfl⟩⟩
theorem cb_86 : Callable P 86 := ⟨⟨_, Go.Proofs.Try.func86, by kernel_rfl, by kernel_rfl⟩⟩
theorem cb_87 : Callable P 87 := ⟨⟨_, Go.Proofs.Try.func87, by kernel_rfl, by kernel_rfl⟩⟩
theorem cb_88 : Callable P 88 := ⟨⟨_, Go.Proofs.Try.func88, by kernel_rfl, by kernel_rfl⟩⟩
theorem cb_89 : Callable P 89 := ⟨⟨_, Go.Proofs.Try.func89, by kernel_rfl, by kernel_rfl⟩⟩
theorem cb_90 : Callable P 90 := ⟨⟨_, Go.Proofs.Try.func90, by kernel_rfl, by kernel_rfl⟩⟩
theorem cb_92 : Callable P 92 := ⟨⟨_, Go.Proofs.Try.func92, by kernel_rfl, by kernel_rfl⟩⟩
theorem cb_93 : Callable P 93 := ⟨⟨_, Go.Proofs.Try.func93, by kernel_rfl, by kernel_rfl⟩⟩
theorem cb_94 : Callable P 94 := ⟨⟨_, Go.Proofs.Try.func94, by kernel_rfl, by kernel_rfl⟩⟩
theorem cb_95 : Callable P 95 := ⟨⟨_, Go.Proofs.Try.func95, by kernel_rfl, by kernel_rfl⟩⟩
theorem cb_96 : Callable P 96 := ⟨⟨_, Go.Proofs.Try.func96, by kernel_rfl, by kernel_rfl⟩⟩
theorem cb_97 : Callable P 97 := ⟨⟨_, Go.Proofs.Try.func97, by kernel_rfl, by kernel_rfl⟩⟩
theorem cb_98 : Callable P 98 := ⟨⟨_, Go.Proofs.Try.func98, by kernel_rfl, by kernel_rfl⟩⟩
theorem el_162 : elD P 162 = some (some 2, 3, 1) := by kernel_rfl
theorem el_23 : elD P 23 = some (none, 51, 20) := by kernel_rfl
theorem el_24 : elD P 24 = some (none, 3, 1) := by kernel_rfl
theorem el_29 : elD P 29 = some (none, 26, 4) := by kernel_rfl
theorem el_43 : elD P 43 = some (none, 55, 2) := by kernel_rfl
theorem el_45 : elD P 45 = some (none, 9, 1) := by kernel_rfl
theorem el_49 : elD P 49 = some (some 16, 3, 1) := by kernel_rfl
theorem el_53 : elD P 53 = some (none, 5, 1) := by kernel_rfl
theorem el_62 : elD P 62 = some (none, 70, 20) := by kernel_rfl
theorem el_91 : elD P 91 = some (none, 4, 1) := by kernel_rfl
theorem fd_105_0 : fdD P 105 0 = some (0, 23, 1) := by kernel_rfl
theorem fd_105_2 : fdD P 105 2 = some (5, 100, 1) := by kernel_rfl
theorem fd_105_3 : fdD P 105 3 = some (6, 103, 2) := by kernel_rfl
theorem fd_111_0 : fdD P 111 0 = some (0, 9, 1) := by kernel_rfl
theorem fd_111_1 : fdD P 111 1 = some (1, 62, 1) := by kernel_rfl
theorem fd_111_2 : fdD P 111 2 = some (2, 4, 1) := by kernel_rfl
theorem fd_120_0 : fdD P 120 0 = some (0, 23, 1) := by kernel_rfl
theorem fd_120_1 : fdD P 120 1 = some (1, 3, 1) := by kernel_rfl
theorem fd_120_2 : fdD P 120 2 = some (2, 43, 1) := by kernel_rfl
theorem fd_120_3 : fdD P 120 3 = some (3, 45, 1) := by kernel_rfl
theorem fd_123_0 : fdD P 123 0 = some (0, 24, 1) := by kernel_rfl
theorem fd_123_1 : fdD P 123 1 = some (1, 3, 1) := by kernel_rfl
theorem fd_123_2 : fdD P 123 2 = some (2, 24, 1) := by kernel_rfl
theorem fd_126_0 : fdD P 126 0 = some (0, 9, 1) := by kernel_rfl
theorem fd_126_1 : fdD P 126 1 = some (1, 4, 1) := by kernel_rfl
theorem fd_161_0 : fdD P 161 0 = some (0, 43, 1) := by kernel_rfl
theorem fd_161_1 : fdD P 161 1 = some (1, 45, 1) := by kernel_rfl
theorem fd_161_2 : fdD P 161 2 = some (2, 23, 1) := by kernel_rfl
theorem fd_26_0 : fdD P 26 0 = some (0, 9, 1) := by kernel_rfl
theorem fd_26_1 : fdD P 26 1 = some (1, 3, 1) := by kernel_rfl
theorem fd_26_2 : fdD P 26 2 = some (2, 24, 1) := by kernel_rfl
theorem fd_26_3 : fdD P 26 3 = some (3, 24, 1) := by kernel_rfl
theorem fd_33_0 : fdD P 33 0 = some (0, 29, 1) := by kernel_rfl
theorem fd_47_0 : fdD P 47 0 = some (0, 23, 1) := by kernel_rfl
theorem fd_47_1 : fdD P 47 1 = some (1, 45, 1) := by kernel_rfl
theorem fd_47_2 : fdD P 47 2 = some (2, 4, 1) := by kernel_rfl
theorem fd_51_0 : fdD P 51 0 = some (0, 3, 1) := by kernel_rfl
theorem fd_51_1 : fdD P 51 1 = some (1, 9, 1) := by kernel_rfl
theorem fd_51_2 : fdD P 51 2 = some (2, 4, 1) := by kernel_rfl
theorem fd_51_3 : fdD P 51 3 = some (3, 9, 1) := by kernel_rfl
theorem fd_51_4 : fdD P 51 4 = some (4, 49, 16) := by kernel_rfl
theorem fd_55_0 : fdD P 55 0 = some (0, 9, 1) := by kernel_rfl
theorem fd_55_1 : fdD P 55 1 = some (1, 9, 1) := by kernel_rfl
theorem fd_70_0 : fdD P 70 0 = some (0, 3, 1) := by kernel_rfl
theorem fd_70_1 : fdD P 70 1 = some (1, 9, 1) := by kernel_rfl
theorem fd_70_2 : fdD P 70 2 = some (2, 4, 1) := by kernel_rfl
theorem fd_70_3 : fdD P 70 3 = some (3, 9, 1) := by kernel_rfl
theorem fd_70_4 : fdD P 70 4 = some (4, 49, 16) := by kernel_rfl
theorem fd_80_0 : fdD P 80 0 = some (0, 23, 1) := by kernel_rfl
theorem fd_80_1 : fdD P 80 1 = some (1, 45, 1) := by kernel_rfl
theorem fd_80_2 : fdD P 80 2 = some (2, 29, 1) := by kernel_rfl
theorem fd_83_0 : fdD P 83 0 = some (0, 43, 1) := by kernel_rfl
theorem fd_83_1 : fdD P 83 1 = some (1, 4, 1) := by kernel_rfl
theorem fd_87_0 : fdD P 87 0 = some (0, 23, 1) := by kernel_rfl
theorem fd_87_1 : fdD P 87 1 = some (1, 45, 1) := by kernel_rfl
theorem fd_87_2 : fdD P 87 2 = some (2, 24, 1) := by kernel_rfl
theorem fd_87_3 : fdD P 87 3 = some (3, 24, 1) := by kernel_rfl
theorem fd_87_4 : fdD P 87 4 = some (4, 29, 1) := by kernel_rfl
theorem fd_94_0 : fdD P 94 0 = some (0, 43, 1) := by kernel_rfl
theorem fd_94_1 : fdD P 94 1 = some (1, 45, 1) := by kernel_rfl
theorem fd_94_2 : fdD P 94 2 = some (2, 23, 1) := by kernel_rfl
theorem fd_94_3 : fdD P 94 3 = some (3, 45, 1) := by kernel_rfl
theorem ty_100 : tyD P 100 = some (false, 1, 8, [.map none]) := by kernel_rfl
theorem ty_126 : tyD P 126 = some (true, 2, 24, [.string ⟨#[]⟩, .bool false]) := by kernel_rfl
theorem ty_162 : tyD P 162 = some (true, 2, 16, [.int .i64 0, .int .i64 0]) := by kernel_rfl
theorem ty_23 : tyD P 23 = some (false, 1, 24, [.slice none 0 0]) := by kernel_rfl
theorem ty_24 : tyD P 24 = some (false, 1, 24, [.slice none 0 0]) := by kernel_rfl
theorem ty_26 : tyD P 26 = some (true, 4, 72, [.string ⟨#[]⟩, .int .i64 0, .slice none 0 0, .slice none 0 0]) := by kernel_rfl
theorem ty_29 : tyD P 29 = some (false, 1, 24, [.slice none 0 0]) := by kernel_rfl
theorem ty_3 : tyD P 3 = some (false, 1, 8, [.int .i64 0]) := by kernel_rfl
theorem ty_33 : tyD P 33 = some (true, 2, 32, [.slice none 0 0, .bool false]) := by kernel_rfl
theorem ty_4 : tyD P 4 = some (false, 1, 1, [.bool false]) := by kernel_rfl
theorem ty_43 : tyD P 43 = some (false, 1, 24, [.slice none 0 0]) := by kernel_rfl
theorem ty_45 : tyD P 45 = some (false, 1, 24, [.slice none 0 0]) := by kernel_rfl
theorem ty_47 : tyD P 47 = some (true, 3, 56, [.slice none 0 0, .slice none 0 0, .bool false]) := by kernel_rfl
theorem ty_49 : tyD P 49 = some (true, 16, 128, [.int .i64 0, .int .i64 0, .int .i64 0, .int .i64 0, .int .i64 0, .int .i64 0, .int .i64 0, .int .i64 0, .int .i64 0, .int .i64 0, .int .i64 0, .int .i64 0, .int .i64 0, .int .i64 0, .int .i64 0, .int .i64 0]) := by kernel_rfl
theorem ty_5 : tyD P 5 = some (false, 1, 1, [.int .u8 0]) := by kernel_rfl
theorem ty_51 : tyD P 51 = some (true, 20, 176, [.int .i64 0, .string ⟨#[]⟩, .bool false, .string ⟨#[]⟩, .int .i64 0, .int .i64 0, .int .i64 0, .int .i64 0, .int .i64 0, .int .i64 0, .int .i64 0, .int .i64 0, .int .i64 0, .int .i64 0, .int .i64 0, .int .i64 0, .int .i64 0, .int .i64 0, .int .i64 0, .int .i64 0]) := by kernel_rfl
theorem ty_55 : tyD P 55 = some (true, 2, 32, [.string ⟨#[]⟩, .string ⟨#[]⟩]) := by kernel_rfl
theorem ty_62 : tyD P 62 = some (false, 1, 24, [.slice none 0 0]) := by kernel_rfl
theorem ty_70 : tyD P 70 = some (true, 20, 176, [.int .i64 0, .string ⟨#[]⟩, .bool false, .string ⟨#[]⟩, .int .i64 0, .int .i64 0, .int .i64 0, .int .i64 0, .int .i64 0, .int .i64 0, .int .i64 0, .int .i64 0, .int .i64 0, .int .i64 0, .int .i64 0, .int .i64 0, .int .i64 0, .int .i64 0, .int .i64 0, .int .i64 0]) := by kernel_rfl
theorem ty_83 : tyD P 83 = some (true, 2, 32, [.slice none 0 0, .bool false]) := by kernel_rfl
theorem ty_9 : tyD P 9 = some (false, 1, 16, [.string ⟨#[]⟩]) := by kernel_rfl
theorem und_100 : P.underlying 100 = some (.map 3 3) := by kernel_rfl
theorem und_3 : P.underlying 3 = some (.int .i64) := by kernel_rfl
theorem und_4 : P.underlying 4 = some (.bool) := by kernel_rfl
theorem und_5 : P.underlying 5 = some (.int .u8) := by kernel_rfl
theorem und_53 : P.underlying 53 = some (.slice 5) := by kernel_rfl
theorem und_9 : P.underlying 9 = some (.string) := by kernel_rfl
theorem zf_3 : ((P.info? 3).bind fun i => i.zero) = some (.int .i64 0) := by kernel_rfl
theorem r_neq_Node {a : Act} {w : World} {n : Nat} {L : List (Nat × Value)} (hf : Fr n L a) {t' : TypeId} {X Y : Operand} {x y : Node} (hx : ev L X = some (Value.agg ⟨Value.int .i64 x.kind_ :: Value.string x.path_ :: Value.bool x.has_ :: Value.string x.value_ :: arrC .i64 x.kids_⟩)) (hy : ev L Y = some (Value.agg ⟨Value.int .i64 y.kind_ :: Value.string y.path_ :: Value.bool y.has_ :: Value.string y.value_ :: arrC .i64 y.kids_⟩)) {d : Nat} {ty : TypeId} {pos : String} {aft : Array Edge} {gd : Option (Nat × Bool)} :
    (execOp a.eval (⟨some d, .binOp .neq 51 X Y t', ty, pos, aft, gd⟩ : Oper)).run P w = .ok (.value (.bool (!(eq_Node x y)))) w :=
  r_neqS hf (l := [(0, 3), (1, 9), (2, 4), (3, 9), (4, 49)]) (by kernel_rfl) hx hy ⟨_, _, _, _, part_one ty_3 rfl, part_one ty_3 rfl, run_equalIn_int w _ _ .i64 .i64 _ _ und_3, ⟨_, _, _, _, part_one ty_9 rfl, part_one ty_9 rfl, run_equalIn_string w _ _ _ _ und_9, ⟨_, _, _, _, part_one ty_4 rfl, part_one ty_4 rfl, run_equalIn_bool w _ _ _ _ und_4, ⟨_, _, _, _, part_one ty_9 rfl, part_one ty_9 rfl, run_equalIn_string w _ _ _ _ und_9, ⟨_, _, _, _, part_tail (pre := [Value.int .i64 x.kind_, Value.string x.path_, Value.bool x.has_, Value.string x.value_]) ty_49 rfl (arrC_len _ _), part_tail (pre := [Value.int .i64 y.kind_, Value.string y.path_, Value.bool y.has_, Value.string y.value_]) ty_49 rfl (arrC_len _ _), eq_arr el_49 und_3 ty_3, rfl, rfl⟩, rfl⟩, rfl⟩, rfl⟩, eqc_Node x y⟩

end Go.Lf

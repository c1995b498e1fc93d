/- Facts on the types of the translation. -/
import Derived.Test.YtckhmgglgbnaaaaGreatDoorZT
import Derived.Test.YtckhmgglgbnaaaaGreatDoorProg
set_option linter.unusedVariables false
set_option linter.unusedSimpArgs false
namespace Go.Lf
open Go
noncomputable abbrev P : Program := Go.Proofs.Tryz.prog
theorem mix : P.follows .mixedOrders = true := by kernel_rfl
theorem bd_103 : bdD P 103 = some ([(0, 1), (1, 1), (2, 1)], [.slice none 0 0, .string ⟨#[]⟩, .slice none 0 0]) := by kernel_rfl
theorem bd_106 : bdD P 106 = some ([(0, 1), (1, 1), (2, 1), (3, 1), (4, 16)], [.int .i64 0, .string ⟨#[]⟩, .bool false, .string ⟨#[]⟩, .int .i64 0, .int .i64 0, .int .i64 0, .int .i64 0, .int .i64 0, .int .i64 0, .int .i64 0, .int .i64 0, .int .i64 0, .int .i64 0, .int .i64 0, .int .i64 0, .int .i64 0, .int .i64 0, .int .i64 0, .int .i64 0]) := by kernel_rfl
theorem bd_134 : bdD P 134 = some ([(0, 1), (1, 1)], [.slice none 0 0, .bool false]) := by kernel_rfl
theorem bd_187 : bdD P 187 = some ([(0, 1), (1, 1)], [.string ⟨#[]⟩, .bool false]) := by kernel_rfl
theorem bd_197 : bdD P 197 = some ([(0, 1), (1, 1), (2, 1), (3, 1), (4, 1)], [.int .i64 0, .string ⟨#[]⟩, .bool false, .string ⟨#[]⟩, .int .i64 0]) := by kernel_rfl
theorem bd_227 : bdD P 227 = some ([(0, 1), (1, 1), (2, 1), (3, 1)], [.slice none 0 0, .int .i64 0, .slice none 0 0, .slice none 0 0]) := by kernel_rfl
theorem bd_250 : bdD P 250 = some ([(0, 1)], [.string ⟨#[]⟩]) := by kernel_rfl
theorem bd_268 : bdD P 268 = some ([(0, 1), (1, 1), (2, 1)], [.slice none 0 0, .slice none 0 0, .slice none 0 0]) := by kernel_rfl
theorem bd_30 : bdD P 30 = some ([(0, 1), (1, 1), (2, 1)], [.slice none 0 0, .slice none 0 0, .bool false]) := by kernel_rfl
theorem bd_36 : bdD P 36 = some ([(0, 1), (1, 1)], [.bool false, .string ⟨#[]⟩]) := by kernel_rfl
theorem bd_74 : bdD P 74 = some ([(0, 1), (1, 1)], [.string ⟨#[]⟩, .string ⟨#[]⟩]) := by kernel_rfl
theorem bd_80 : bdD P 80 = some ([(0, 1), (1, 1), (2, 1), (3, 1)], [.slice none 0 0, .slice none 0 0, .slice none 0 0, .slice none 0 0]) := by kernel_rfl
theorem bd_86 : bdD P 86 = some ([(0, 1), (1, 1), (2, 1), (3, 1), (4, 1), (5, 1)], [.int .i64 0, .string ⟨#[]⟩, .bool false, .string ⟨#[]⟩, .int .i64 0, .slice none 0 0]) := by kernel_rfl
theorem bd_92 : bdD P 92 = some ([(0, 1), (1, 1), (2, 1), (3, 2)], [.string ⟨#[]⟩, .string ⟨#[]⟩, .bool false, .bool false, .string ⟨#[]⟩]) := by kernel_rfl
theorem bd_97 : bdD P 97 = some ([(0, 1), (1, 1), (2, 1)], [.slice none 0 0, .slice none 0 0, .bool false]) := by kernel_rfl
theorem cb_10 : Callable P 10 := ⟨⟨_, Go.Proofs.Tryz.func10, by kernel_rfl, by kernel_rfl⟩⟩
theorem cb_102 : Callable P 102 := ⟨⟨_, Go.Proofs.Tryz.func102, by kernel_rfl, by kernel_rfl⟩⟩
theorem cb_103 : Callable P 103 := ⟨⟨_, Go.Proofs.Tryz.func103, by kernel_rfl, by kernel_rfl⟩⟩
theorem cb_104 : Callable P 104 := ⟨⟨_, Go.Proofs.Tryz.func104, by kernel_rfl, by kernel_rfl⟩⟩
theorem cb_105 : Callable P 105 := ⟨⟨_, Go.Proofs.Tryz.func105, by kernel_rfl, by kernel_rfl⟩⟩
theorem cb_106 : Callable P 106 := ⟨⟨_, Go.Proofs.Tryz.func106, by kernel_rfl, by kernel_rfl⟩⟩
theorem cb_107 : Callable P 107 := ⟨⟨_, Go.Proofs.Tryz.func107, by kernel_rfl, by kernel_rfl⟩⟩
theorem cb_108 : Callable P 108 := ⟨⟨_, Go.Proofs.Tryz.func108, by kernel_rfl, by kernel_rfl⟩⟩
theorem cb_109 : Callable P 109 := ⟨⟨_, Go.Proofs.Tryz.func109, by kernel_rfl, by kernel_rfl⟩⟩
theorem cb_11 : Callable P 11 := ⟨⟨_, Go.Proofs.Tryz.func11, by kernel_rfl, by kernel_rfl⟩⟩
theorem cb_110 : Callable P 110 := ⟨⟨_, Go.Proofs.Tryz.func110, by kernel_rfl, by kernel_rfl⟩⟩
theorem cb_111 : Callable P 111 := ⟨⟨_, Go.Proofs.Tryz.func111, by kernel_rfl, by kernel_rfl⟩⟩
theorem cb_112 : Callable P 112 := ⟨⟨_, Go.Proofs.Tryz.func112, by kernel_rfl, by kernel_rfl⟩⟩
theorem cb_118 : Callable P 118 := ⟨⟨_, Go.Proofs.Tryz.func118, by kernel_rfl, by kernel_rfl⟩⟩
theorem cb_119 : Callable P 119 := ⟨⟨_, Go.Proofs.Tryz.func119, by kernel_rfl, by kernel_rfl⟩⟩
theorem cb_12 : Callable P 12 := ⟨⟨_, Go.Proofs.Tryz.func12, by kernel_rfl, by kernel_rfl⟩⟩
theorem cb_120 : Callable P 120 := ⟨⟨_, Go.Proofs.Tryz.func120, by kernel_rfl, by kernel_rfl⟩⟩
theorem cb_13 : Callable P 13 := ⟨⟨_, Go.Proofs.Tryz.func13, by kernel_rfl, by kernel_rfl⟩⟩
theorem cb_131 : Callable P 131 := ⟨⟨_, Go.Proofs.Tryz.func131, by kernel_rfl, by kernel_rfl⟩⟩
theorem cb_132 : Callable P 132 := ⟨⟨_, Go.Proofs.Tryz.func132, by kernel_rfl, by kernel_rfl⟩⟩
theorem cb_133 : Callable P 133 := ⟨⟨_, Go.Proofs.Tryz.func133, by kernel_rfl, by kernel_rfl⟩⟩
theorem cb_134 : Callable P 134 := ⟨⟨_, Go.Proofs.Tryz.func134, by kernel_rfl, by kernel_rfl⟩⟩
theorem cb_135 : Callable P 135 := ⟨⟨_, Go.Proofs.Tryz.func135, by kernel_rfl, by kernel_rfl⟩⟩
theorem cb_138 : Callable P 138 := ⟨⟨_, Go.Proofs.Tryz.func138, by kernel_rfl, by kernel_rfl⟩⟩
theorem cb_139 : Callable P 139 := ⟨⟨_, Go.Proofs.Tryz.func139, by kernel_rfl, by kernel_rfl⟩⟩
theorem cb_14 : Callable P 14 := ⟨⟨_, Go.Proofs.Tryz.func14, by kernel_rfl, by kernel_rfl⟩⟩
theorem cb_140 : Callable P 140 := ⟨⟨_, Go.Proofs.Tryz.func140, by kernel_rfl, by kernel_rfl⟩⟩
theorem cb_141 : Callable P 141 := ⟨⟨_, Go.Proofs.Tryz.func141, by kernel_rfl, by kernel_rfl⟩⟩
theorem cb_142 : Callable P 142 := ⟨⟨_, Go.Proofs.Tryz.func142, by kernel_rfl, by kernel_rfl⟩⟩
theorem cb_143 : Callable P 143 := ⟨⟨_, Go.Proofs.Tryz.func143, by kernel_rfl, by kernel_rfl⟩⟩
theorem cb_144 : Callable P 144 := ⟨⟨_, Go.Proofs.Tryz.func144, by kernel_rfl, by kernel_rfl⟩⟩
theorem cb_145 : Callable P 145 := ⟨⟨_, Go.Proofs.Tryz.func145, by kernel_rfl, by kernel_rfl⟩⟩
theorem cb_146 : Callable P 146 := ⟨⟨_, Go.Proofs.Tryz.func146, by kernel_rfl, by kernel_rfl⟩⟩
theorem cb_15 : Callable P 15 := ⟨⟨_, Go.Proofs.Tryz.func15, by kernel_rfl, by kernel_rfl⟩⟩
theorem cb_158 : Callable P 158 := ⟨⟨_, Go.Proofs.Tryz.func158, by kernel_rfl, by kernel_rfl⟩⟩
theorem cb_159 : Callable P 159 := ⟨⟨_, Go.Proofs.Tryz.func159, by kernel_rfl, by kernel_rfl⟩⟩
theorem cb_16 : Callable P 16 := ⟨⟨_, Go.Proofs.Tryz.func16, by kernel_rfl, by kernel_rfl⟩⟩
theorem cb_160 : Callable P 160 := ⟨⟨_, Go.Proofs.Tryz.func160, by kernel_rfl, by kernel_rfl⟩⟩
theorem cb_179 : Callable P 179 := ⟨⟨_, Go.Proofs.Tryz.func179, by kernel_rfl, by kernel_rfl⟩⟩
theorem cb_182 : Callable P 182 := ⟨⟨_, Go.Proofs.Tryz.func182, by kernel_rfl, by kernel_rfl⟩⟩
theorem cb_183 : Callable P 183 := ⟨⟨_, Go.Proofs.Tryz.func183, by kernel_rfl, by kernel_rfl⟩⟩
theorem cb_184 : Callable P 184 := ⟨⟨_, Go.Proofs.Tryz.func184, by kernel_rfl, by kernel_rfl⟩⟩
theorem cb_200 : Callable P 200 := ⟨⟨_, Go.Proofs.Tryz.func200, by kernel_rfl, by kernel_rfl⟩⟩
theorem cb_201 : Callable P 201 := ⟨⟨_, Go.Proofs.Tryz.func201, by kernel_rfl, by kernel_rfl⟩⟩
theorem cb_202 : Callable P 202 := ⟨⟨_, Go.Proofs.Tryz.func202, by kernel_rfl, by kernel_rfl⟩⟩
theorem cb_29 : Callable P 29 := ⟨⟨_, Go.Proofs.Tryz.func29, by kernel_rfl, by kernel_rfl⟩⟩
theorem cb_30 : Callable P 30 := ⟨⟨_, Go.Proofs.Tryz.func30, by kernel_rfl, by kernel_rfl⟩⟩
theorem cb_31 : Callable P 31 := ⟨⟨_, Go.Proofs.Tryz.func31, by kernel_rfl, by kernel_rfl⟩⟩
theorem cb_32 : Callable P 32 := ⟨⟨_, Go.Proofs.Tryz.func32, by kernel_rfl, by kernel_rfl⟩⟩
theorem cb_33 : Callable P 33 := ⟨⟨_, Go.Proofs.Tryz.func33, by kernel_rfl, by kernel_rfl⟩⟩
theorem cb_34 : Callable P 34 := ⟨⟨_, Go.Proofs.Tryz.func34, by kernel_rfl, by kernel_rfl⟩⟩
theorem cb_35 : Callable P 35 := ⟨⟨_, Go.Proofs.Tryz.func35, by kernel_rfl, by kernel_rfl⟩⟩
theorem cb_36 : Callable P 36 := ⟨⟨_, Go.Proofs.Tryz.func36, by kernel_rfl, by kernel_rfl⟩⟩
theorem cb_37 : Callable P 37 := ⟨⟨_, Go.Proofs.Tryz.func37, by kernel_rfl, by kernel_rfl⟩⟩
theorem cb_38 : Callable P 38 := ⟨⟨_, Go.Proofs.Tryz.func38, by kernel_rfl, by kernel_rfl⟩⟩
theorem cb_39 : Callable P 39 := ⟨⟨_, Go.Proofs.Tryz.func39, by kernel_rfl, by kernel_rfl⟩⟩
theorem cb_40 : Callable P 40 := ⟨⟨_, Go.Proofs.Tryz.func40, by kernel_rfl, by kernel_rfl⟩⟩
theorem cb_44 : Callable P 44 := ⟨⟨_, Go.Proofs.Tryz.func44, by kernel_rfl, by kernel_rfl⟩⟩
theorem cb_48 : Callable P 48 := ⟨⟨_, Go.Proofs.Tryz.func48, by kernel_rfl, by kernel_rfl⟩⟩
theorem cb_50 : Callable P 50 := ⟨⟨_, Go.Proofs.Tryz.func50, by kernel_rfl, by kernel_rfl⟩⟩
theorem cb_58 : Callable P 58 := ⟨⟨_, Go.Proofs.Tryz.func58, by kernel_rfl, by kernel_rfl⟩⟩
theorem cb_59 : Callable P 59 := ⟨⟨_, Go.Proofs.Tryz.func59, by kernel_rfl, by kernel_rfl⟩⟩
theorem cb_60 : Callable P 60 := ⟨⟨_, Go.Proofs.Tryz.func60, by kernel_rfl, by kernel_rfl⟩⟩
theorem cb_61 : Callable P 61 := ⟨⟨_, Go.Proofs.Tryz.func61, by kernel_rfl, by kernel_rfl⟩⟩
theorem cb_62 : Callable P 62 := ⟨⟨_, Go.Proofs.Tryz.func62, by kernel_rfl, by kernel_rfl⟩⟩
theorem cb_63 : Callable P 63 := ⟨⟨_, Go.Proofs.Tryz.func63, by kernel_rfl, by kernel_rfl⟩⟩
theorem cb_64 : Callable P 64 := ⟨⟨_, Go.Proofs.Tryz.func64, by kernel_rfl, by kernel_rfl⟩⟩
theorem cb_65 : Callable P 65 := ⟨⟨_, Go.Proofs.Tryz.func65, by kernel_rfl, by kernel_rfl⟩⟩
theorem cb_66 : Callable P 66 := ⟨⟨_, Go.Proofs.Tryz.func66, by kernel_rfl, by kernel_rfl⟩⟩
theorem cb_67 : Callable P 67 := ⟨⟨_, Go.Proofs.Tryz.func67, by kernel_rfl, by kernel_rfl⟩⟩
theorem cb_68 : Callable P 68 := ⟨⟨_, Go.Proofs.Tryz.func68, by kernel_rfl, by kernel_rfl⟩⟩
theorem cb_69 : Callable P 69 := ⟨⟨_, Go.Proofs.Tryz.func69, by kernel_rfl, by kernel_rfl⟩⟩
theorem cb_7 : Callable P 7 := ⟨⟨_, Go.Proofs.Tryz.func7, by kernel_rfl, by kernel_rfl⟩⟩
theorem cb_70 : Callable P 70 := ⟨⟨_, Go.Proofs.Tryz.func70, by kernel_rfl, by kernel_rfl⟩⟩
theorem cb_71 : Callable P 71 := ⟨⟨_, Go.Proofs.Tryz.func71, by kernel_rfl, by kernel_rfl⟩⟩
theorem cb_72 : Callable P 72 := ⟨⟨_, Go.Proofs.Tryz.func72, by kernel_rfl, by kernel_rfl⟩⟩
theorem cb_73 : Callable P 73 := ⟨⟨_, Go.Proofs.Tryz.func73, by kernel_rfl, by kernel_rfl⟩⟩
theorem cb_74 : Callable P 74 := ⟨⟨_, Go.Proofs.Tryz.func74, by kernel_rfl, by kernel_rfl⟩⟩
theorem cb_75 : Callable P 75 := ⟨⟨_, Go.Proofs.Tryz.func75, by kernel_rfl, by kernel_rfl⟩⟩
theorem cb_76 : Callable P 76 := ⟨⟨_, Go.Proofs.Tryz.func76, by kernel_rfl, by kernel_rfl⟩⟩
theorem cb_77 : Callable P 77 := ⟨⟨_, Go.Proofs.Tryz.func77, by kernel_rfl, by kernel_rfl⟩⟩
theorem cb_8 : Callable P 8 := ⟨⟨_, Go.Proofs.Tryz.func8, by kernel_rfl, by kernel_rfl⟩⟩
theorem cb_82 : Callable P 82 := ⟨⟨_, Go.Proofs.Tryz.func82, by kernel_rfl, by kernel_rfl⟩⟩
theorem cb_86 : Callable P 86 := ⟨⟨_, Go.Proofs.Tryz.func86, by kernel_rfl, by kernel_rfl⟩⟩
theorem cb_87 : Callable P 87 := ⟨⟨_, Go.Proofs.Tryz.func87, by kernel_rfl, by kernel_rfl⟩⟩
theorem cb_9 : Callable P 9 := ⟨⟨_, Go.Proofs.Tryz.func9, by kernel_rfl, by kernel_rfl⟩⟩
theorem cb_93 : Callable P 93 := ⟨⟨_, Go.Proofs.Tryz.func93, by kernel_rfl, by kernel_rfl⟩⟩
theorem cb_94 : Callable P 94 := ⟨⟨_, Go.Proofs.Tryz.func94, by kernel_rfl, by kernel_rfl⟩⟩
theorem cb_95 : Callable P 95 := ⟨⟨_, Go.Proofs.Tryz.func95, by kernel_rfl, by kernel_rfl⟩⟩
theorem cb_96 : Callable P 96 := ⟨⟨_, Go.Proofs.Tryz.func96, by kernel_rfl, by kernel_rfl⟩⟩
theorem cb_97 : Callable P 97 := ⟨⟨_, Go.Proofs.Tryz.func97, by kernel_rfl, by kernel_rfl⟩⟩
theorem cb_98 : Callable P 98 := ⟨⟨_, Go.Proofs.Tryz.func98, by kernel_rfl, by kernel_rfl⟩⟩
theorem el_104 : elD P 104 = some (some 16, 3, 1) := by kernel_rfl
theorem el_163 : elD P 163 = some (some 8, 109, 1) := by kernel_rfl
theorem el_165 : elD P 165 = some (some 64, 109, 1) := by kernel_rfl
theorem el_185 : elD P 185 = some (none, 4, 1) := by kernel_rfl
theorem el_207 : elD P 207 = some (some 64, 5, 1) := by kernel_rfl
theorem el_212 : elD P 212 = some (none, 215, 1) := by kernel_rfl
theorem el_22 : elD P 22 = some (none, 74, 2) := by kernel_rfl
theorem el_244 : elD P 244 = some (some 2, 3, 1) := by kernel_rfl
theorem el_27 : elD P 27 = some (none, 106, 20) := by kernel_rfl
theorem el_28 : elD P 28 = some (none, 9, 1) := by kernel_rfl
theorem el_45 : elD P 45 = some (none, 5, 1) := by kernel_rfl
theorem el_55 : elD P 55 = some (none, 3, 1) := by kernel_rfl
theorem el_95 : elD P 95 = some (none, 86, 6) := by kernel_rfl
theorem fd_103_0 : fdD P 103 0 = some (0, 27, 1) := by kernel_rfl
theorem fd_103_1 : fdD P 103 1 = some (1, 9, 1) := by kernel_rfl
theorem fd_103_2 : fdD P 103 2 = some (2, 55, 1) := by kernel_rfl
theorem fd_106_0 : fdD P 106 0 = some (0, 3, 1) := by kernel_rfl
theorem fd_106_1 : fdD P 106 1 = some (1, 9, 1) := by kernel_rfl
theorem fd_106_2 : fdD P 106 2 = some (2, 4, 1) := by kernel_rfl
theorem fd_106_3 : fdD P 106 3 = some (3, 9, 1) := by kernel_rfl
theorem fd_106_4 : fdD P 106 4 = some (4, 104, 16) := by kernel_rfl
theorem fd_134_1 : fdD P 134 1 = some (1, 4, 1) := by kernel_rfl
theorem fd_187_0 : fdD P 187 0 = some (0, 9, 1) := by kernel_rfl
theorem fd_187_1 : fdD P 187 1 = some (1, 4, 1) := by kernel_rfl
theorem fd_227_0 : fdD P 227 0 = some (0, 27, 1) := by kernel_rfl
theorem fd_227_1 : fdD P 227 1 = some (1, 3, 1) := by kernel_rfl
theorem fd_227_2 : fdD P 227 2 = some (2, 22, 1) := by kernel_rfl
theorem fd_227_3 : fdD P 227 3 = some (3, 28, 1) := by kernel_rfl
theorem fd_250_0 : fdD P 250 0 = some (0, 9, 1) := by kernel_rfl
theorem fd_268_0 : fdD P 268 0 = some (0, 22, 1) := by kernel_rfl
theorem fd_268_1 : fdD P 268 1 = some (1, 28, 1) := by kernel_rfl
theorem fd_268_2 : fdD P 268 2 = some (2, 27, 1) := by kernel_rfl
theorem fd_30_0 : fdD P 30 0 = some (0, 27, 1) := by kernel_rfl
theorem fd_30_2 : fdD P 30 2 = some (2, 4, 1) := by kernel_rfl
theorem fd_74_0 : fdD P 74 0 = some (0, 9, 1) := by kernel_rfl
theorem fd_74_1 : fdD P 74 1 = some (1, 9, 1) := by kernel_rfl
theorem fd_80_0 : fdD P 80 0 = some (0, 22, 1) := by kernel_rfl
theorem fd_80_1 : fdD P 80 1 = some (1, 28, 1) := by kernel_rfl
theorem fd_80_2 : fdD P 80 2 = some (2, 27, 1) := by kernel_rfl
theorem fd_80_3 : fdD P 80 3 = some (3, 28, 1) := by kernel_rfl
theorem fd_86_0 : fdD P 86 0 = some (0, 3, 1) := by kernel_rfl
theorem fd_86_1 : fdD P 86 1 = some (1, 9, 1) := by kernel_rfl
theorem fd_86_2 : fdD P 86 2 = some (2, 4, 1) := by kernel_rfl
theorem fd_86_3 : fdD P 86 3 = some (3, 9, 1) := by kernel_rfl
theorem fd_86_4 : fdD P 86 4 = some (4, 3, 1) := by kernel_rfl
theorem fd_86_5 : fdD P 86 5 = some (5, 28, 1) := by kernel_rfl
theorem fd_92_0 : fdD P 92 0 = some (0, 9, 1) := by kernel_rfl
theorem fd_92_1 : fdD P 92 1 = some (1, 9, 1) := by kernel_rfl
theorem fd_92_2 : fdD P 92 2 = some (2, 4, 1) := by kernel_rfl
theorem fd_92_3 : fdD P 92 3 = some (3, 36, 2) := by kernel_rfl
theorem fd_97_0 : fdD P 97 0 = some (0, 95, 1) := by kernel_rfl
theorem fd_97_1 : fdD P 97 1 = some (1, 28, 1) := by kernel_rfl
theorem fd_97_2 : fdD P 97 2 = some (2, 4, 1) := by kernel_rfl
theorem ty_104 : tyD P 104 = some (true, 16, 128, [.int .i64 0, .int .i64 0, .int .i64 0, .int .i64 0, .int .i64 0, .int .i64 0, .int .i64 0, .int .i64 0, .int .i64 0, .int .i64 0, .int .i64 0, .int .i64 0, .int .i64 0, .int .i64 0, .int .i64 0, .int .i64 0]) := by kernel_rfl
theorem ty_106 : tyD P 106 = some (true, 20, 176, [.int .i64 0, .string ⟨#[]⟩, .bool false, .string ⟨#[]⟩, .int .i64 0, .int .i64 0, .int .i64 0, .int .i64 0, .int .i64 0, .int .i64 0, .int .i64 0, .int .i64 0, .int .i64 0, .int .i64 0, .int .i64 0, .int .i64 0, .int .i64 0, .int .i64 0, .int .i64 0, .int .i64 0]) := by kernel_rfl
theorem ty_109 : tyD P 109 = some (false, 1, 4, [.int .u32 0]) := by kernel_rfl
theorem ty_134 : tyD P 134 = some (true, 2, 32, [.slice none 0 0, .bool false]) := by kernel_rfl
theorem ty_163 : tyD P 163 = some (true, 8, 32, [.int .u32 0, .int .u32 0, .int .u32 0, .int .u32 0, .int .u32 0, .int .u32 0, .int .u32 0, .int .u32 0]) := by kernel_rfl
theorem ty_165 : tyD P 165 = some (true, 64, 256, [.int .u32 0, .int .u32 0, .int .u32 0, .int .u32 0, .int .u32 0, .int .u32 0, .int .u32 0, .int .u32 0, .int .u32 0, .int .u32 0, .int .u32 0, .int .u32 0, .int .u32 0, .int .u32 0, .int .u32 0, .int .u32 0, .int .u32 0, .int .u32 0, .int .u32 0, .int .u32 0, .int .u32 0, .int .u32 0, .int .u32 0, .int .u32 0, .int .u32 0, .int .u32 0, .int .u32 0, .int .u32 0, .int .u32 0, .int .u32 0, .int .u32 0, .int .u32 0, .int .u32 0, .int .u32 0, .int .u32 0, .int .u32 0, .int .u32 0, .int .u32 0, .int .u32 0, .int .u32 0, .int .u32 0, .int .u32 0, .int .u32 0, .int .u32 0, .int .u32 0, .int .u32 0, .int .u32 0, .int .u32 0, .int .u32 0, .int .u32 0, .int .u32 0, .int .u32 0, .int .u32 0, .int .u32 0, .int .u32 0, .int .u32 0, .int .u32 0, .int .u32 0, .int .u32 0, .int .u32 0, .int .u32 0, .int .u32 0, .int .u32 0, .int .u32 0]) := by kernel_rfl
theorem ty_187 : tyD P 187 = some (true, 2, 24, [.string ⟨#[]⟩, .bool false]) := by kernel_rfl
theorem ty_197 : tyD P 197 = some (true, 5, 56, [.int .i64 0, .string ⟨#[]⟩, .bool false, .string ⟨#[]⟩, .int .i64 0]) := by kernel_rfl
theorem ty_207 : tyD P 207 = some (true, 64, 64, [.int .u8 0, .int .u8 0, .int .u8 0, .int .u8 0, .int .u8 0, .int .u8 0, .int .u8 0, .int .u8 0, .int .u8 0, .int .u8 0, .int .u8 0, .int .u8 0, .int .u8 0, .int .u8 0, .int .u8 0, .int .u8 0, .int .u8 0, .int .u8 0, .int .u8 0, .int .u8 0, .int .u8 0, .int .u8 0, .int .u8 0, .int .u8 0, .int .u8 0, .int .u8 0, .int .u8 0, .int .u8 0, .int .u8 0, .int .u8 0, .int .u8 0, .int .u8 0, .int .u8 0, .int .u8 0, .int .u8 0, .int .u8 0, .int .u8 0, .int .u8 0, .int .u8 0, .int .u8 0, .int .u8 0, .int .u8 0, .int .u8 0, .int .u8 0, .int .u8 0, .int .u8 0, .int .u8 0, .int .u8 0, .int .u8 0, .int .u8 0, .int .u8 0, .int .u8 0, .int .u8 0, .int .u8 0, .int .u8 0, .int .u8 0, .int .u8 0, .int .u8 0, .int .u8 0, .int .u8 0, .int .u8 0, .int .u8 0, .int .u8 0, .int .u8 0]) := by kernel_rfl
theorem ty_215 : tyD P 215 = some (false, 1, 8, [.int .u64 0]) := by kernel_rfl
theorem ty_22 : tyD P 22 = some (false, 1, 24, [.slice none 0 0]) := by kernel_rfl
theorem ty_244 : tyD P 244 = some (true, 2, 16, [.int .i64 0, .int .i64 0]) := by kernel_rfl
theorem ty_27 : tyD P 27 = some (false, 1, 24, [.slice none 0 0]) := by kernel_rfl
theorem ty_28 : tyD P 28 = some (false, 1, 24, [.slice none 0 0]) := by kernel_rfl
theorem ty_3 : tyD P 3 = some (false, 1, 8, [.int .i64 0]) := by kernel_rfl
theorem ty_30 : tyD P 30 = some (true, 3, 56, [.slice none 0 0, .slice none 0 0, .bool false]) := by kernel_rfl
theorem ty_36 : tyD P 36 = some (true, 2, 24, [.bool false, .string ⟨#[]⟩]) := by kernel_rfl
theorem ty_4 : tyD P 4 = some (false, 1, 1, [.bool false]) := by kernel_rfl
theorem ty_5 : tyD P 5 = some (false, 1, 1, [.int .u8 0]) := by kernel_rfl
theorem ty_55 : tyD P 55 = some (false, 1, 24, [.slice none 0 0]) := by kernel_rfl
theorem ty_74 : tyD P 74 = some (true, 2, 32, [.string ⟨#[]⟩, .string ⟨#[]⟩]) := by kernel_rfl
theorem ty_86 : tyD P 86 = some (true, 6, 80, [.int .i64 0, .string ⟨#[]⟩, .bool false, .string ⟨#[]⟩, .int .i64 0, .slice none 0 0]) := by kernel_rfl
theorem ty_9 : tyD P 9 = some (false, 1, 16, [.string ⟨#[]⟩]) := by kernel_rfl
theorem ty_92 : tyD P 92 = some (true, 5, 64, [.string ⟨#[]⟩, .string ⟨#[]⟩, .bool false, .bool false, .string ⟨#[]⟩]) := by kernel_rfl
theorem ty_95 : tyD P 95 = some (false, 1, 24, [.slice none 0 0]) := by kernel_rfl
theorem ty_97 : tyD P 97 = some (true, 3, 56, [.slice none 0 0, .slice none 0 0, .bool false]) := by kernel_rfl
theorem und_109 : P.underlying 109 = some (.int .u32) := by kernel_rfl
theorem und_160 : P.underlying 160 = some (.int .u64) := by kernel_rfl
theorem und_215 : P.underlying 215 = some (.int .u64) := by kernel_rfl
theorem und_3 : P.underlying 3 = some (.int .i64) := by kernel_rfl
theorem und_4 : P.underlying 4 = some (.bool) := by kernel_rfl
theorem und_45 : P.underlying 45 = some (.slice 5) := by kernel_rfl
theorem und_5 : P.underlying 5 = some (.int .u8) := by kernel_rfl
theorem und_9 : P.underlying 9 = some (.string) := by kernel_rfl
theorem r_eql_Answer {a : Act} {w : World} {n : Nat} {L : List (Nat × Value)} (hf : Fr n L a) {t' : TypeId} {X Y : Operand} {x y : Answer} (hx : ev L X = some (Value.agg ⟨[Value.bool x.has_, Value.string x.value_]⟩)) (hy : ev L Y = some (Value.agg ⟨[Value.bool y.has_, Value.string y.value_]⟩)) {d : Nat} {ty : TypeId} {pos : String} {aft : Array Edge} {gd : Option (Nat × Bool)} :
    (execOp a.eval (⟨some d, .binOp .eql 36 X Y t', ty, pos, aft, gd⟩ : Oper)).run P w = .ok (.value (.bool (eq_Answer x y))) w :=
  r_eqlS hf (l := [(0, 4), (1, 9)]) (by kernel_rfl) hx hy ⟨_, _, _, _, part_one ty_4 rfl, part_one ty_4 rfl, run_equalIn_bool w _ _ _ _ und_4, ⟨_, _, _, _, part_one ty_9 rfl, part_one ty_9 rfl, run_equalIn_string w _ _ _ _ und_9, rfl, rfl⟩, eqc_Answer x y⟩
theorem r_neq_Node {a : Act} {w : World} {n : Nat} {L : List (Nat × Value)} (hf : Fr n L a) {t' : TypeId} {X Y : Operand} {x y : Node} (hx : ev L X = some (Value.agg ⟨Value.int .i64 x.kind_ :: Value.string x.path_ :: Value.bool x.has_ :: Value.string x.value_ :: arrC .i64 x.kids_⟩)) (hy : ev L Y = some (Value.agg ⟨Value.int .i64 y.kind_ :: Value.string y.path_ :: Value.bool y.has_ :: Value.string y.value_ :: arrC .i64 y.kids_⟩)) {d : Nat} {ty : TypeId} {pos : String} {aft : Array Edge} {gd : Option (Nat × Bool)} :
    (execOp a.eval (⟨some d, .binOp .neq 106 X Y t', ty, pos, aft, gd⟩ : Oper)).run P w = .ok (.value (.bool (!(eq_Node x y)))) w :=
  r_neqS hf (l := [(0, 3), (1, 9), (2, 4), (3, 9), (4, 104)]) (by kernel_rfl) hx hy ⟨_, _, _, _, part_one ty_3 rfl, part_one ty_3 rfl, run_equalIn_int w _ _ .i64 .i64 _ _ und_3, ⟨_, _, _, _, part_one ty_9 rfl, part_one ty_9 rfl, run_equalIn_string w _ _ _ _ und_9, ⟨_, _, _, _, part_one ty_4 rfl, part_one ty_4 rfl, run_equalIn_bool w _ _ _ _ und_4, ⟨_, _, _, _, part_one ty_9 rfl, part_one ty_9 rfl, run_equalIn_string w _ _ _ _ und_9, ⟨_, _, _, _, part_tail (pre := [Value.int .i64 x.kind_, Value.string x.path_, Value.bool x.has_, Value.string x.value_]) ty_104 rfl (arrC_len _ _), part_tail (pre := [Value.int .i64 y.kind_, Value.string y.path_, Value.bool y.has_, Value.string y.value_]) ty_104 rfl (arrC_len _ _), eq_arr el_104 und_3 ty_3, rfl, rfl⟩, rfl⟩, rfl⟩, rfl⟩, eqc_Node x y⟩

theorem r_eql_node_face_T {a : Act} {w : World} {n : Nat} {L : List (Nat × Value)} (hf : Fr n L a) {t' : TypeId} {X Y : Operand} {x y : node_face_T} (hx : ev L X = some (Value.agg ⟨[Value.int .i64 x.p_kind_, Value.string x.p_path_, Value.bool x.p_has_, Value.string x.p_value_, Value.int .i64 x.p_mask_]⟩)) (hy : ev L Y = some (Value.agg ⟨[Value.int .i64 y.p_kind_, Value.string y.p_path_, Value.bool y.p_has_, Value.string y.p_value_, Value.int .i64 y.p_mask_]⟩)) {d : Nat} {ty : TypeId} {pos : String} {aft : Array Edge} {gd : Option (Nat × Bool)} :
    (execOp a.eval (⟨some d, .binOp .eql 197 X Y t', ty, pos, aft, gd⟩ : Oper)).run P w = .ok (.value (.bool (eq_node_face_T x y))) w :=
  r_eqlS hf (l := [(0, 3), (1, 9), (2, 4), (3, 9), (4, 3)]) (by kernel_rfl) hx hy ⟨_, _, _, _, part_one ty_3 rfl, part_one ty_3 rfl, run_equalIn_int w _ _ .i64 .i64 _ _ und_3, ⟨_, _, _, _, part_one ty_9 rfl, part_one ty_9 rfl, run_equalIn_string w _ _ _ _ und_9, ⟨_, _, _, _, part_one ty_4 rfl, part_one ty_4 rfl, run_equalIn_bool w _ _ _ _ und_4, ⟨_, _, _, _, part_one ty_9 rfl, part_one ty_9 rfl, run_equalIn_string w _ _ _ _ und_9, ⟨_, _, _, _, part_one ty_3 rfl, part_one ty_3 rfl, run_equalIn_int w _ _ .i64 .i64 _ _ und_3, rfl, rfl⟩, rfl⟩, rfl⟩, rfl⟩, eqc_node_face_T x y⟩
end Go.Lf

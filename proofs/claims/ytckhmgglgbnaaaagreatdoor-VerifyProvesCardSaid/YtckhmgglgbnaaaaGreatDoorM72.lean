/- The closed run of the laws of layer 17, second part: what the kernel runs. -/
import Derived.Test.YtckhmgglgbnaaaaGreatDoorM71
set_option linter.unusedVariables false
set_option linter.unusedSimpArgs false
namespace Go.Lf
open Go
def l0x : List Pair := [(⟨(⟨#[97]⟩ : ByteArray), (⟨#[49]⟩ : ByteArray)⟩ : Pair), (⟨(⟨#[98]⟩ : ByteArray), (⟨#[]⟩ : ByteArray)⟩ : Pair)]
def tx0 : ByteArray := ⟨#[2, 1, 96, 84, 201, 181, 58, 127, 51, 169, 203, 83, 238, 216, 4, 48, 70, 196, 237, 9, 82, 147, 116, 65, 112, 26, 1, 222, 118, 132, 1, 243, 35, 226, 97]⟩
def tx1 : ByteArray := ⟨#[3, 0, 6, 0, 124, 75, 76, 11, 172, 179, 207, 237, 223, 76, 186, 183, 133, 184, 138, 209, 36, 69, 72, 57, 233, 199, 246, 229, 148, 94, 217, 2, 232, 49, 68, 105, 251, 80, 220, 7, 23, 255, 38, 108, 249, 186, 248, 43, 28, 231, 161, 194, 239, 109, 146, 71, 133, 150, 128, 177, 26, 25, 251, 112, 119, 245, 242, 34]⟩
def tx2 : ByteArray := ⟨#[1, 0, 1, 49]⟩
def rtx : ByteArray := ⟨#[90, 42, 198, 199, 19, 135, 105, 184, 198, 234, 64, 133, 201, 43, 219, 182, 246, 69, 228, 195, 6, 46, 39, 93, 128, 254, 240, 207, 156, 126, 214, 177]⟩
def emx : ByteArray := ⟨#[110, 52, 11, 156, 255, 179, 122, 152, 156, 165, 68, 230, 187, 120, 10, 44, 120, 144, 29, 63, 179, 55, 56, 118, 133, 17, 163, 6, 23, 175, 160, 29]⟩
set_option maxRecDepth 100000 in
theorem x_may : ref10_May.f l0x = some true := by kernel_rfl
set_option maxRecDepth 100000 in
theorem x_pa : ((ref10_Build.f l0x).bind fun y => prove_Of.f y.t_ ⟨#[97]⟩) = some ([tx0, tx1, tx2], 0) := by kernel_rfl
set_option maxRecDepth 100000 in
theorem x_pc : ((ref10_Build.f l0x).bind fun y => prove_Of.f y.t_ ⟨#[99]⟩) = some ([tx0, tx1], 0) := by kernel_rfl
set_option maxRecDepth 100000 in
theorem x_dg : digest_Of.f tx0 = some rtx := by kernel_rfl
set_option maxRecDepth 100000 in
theorem x_em : digest_Of.f ⟨#[0]⟩ = some emx := by kernel_rfl
set_option maxRecDepth 100000 in
theorem x_1 : verify_Of.f rtx ⟨#[97]⟩ [tx0, tx1, tx2] = some (⟨true, ⟨#[49]⟩⟩, true) := by kernel_rfl
set_option maxRecDepth 100000 in
theorem x_2 : verify_Of.f rtx ⟨#[99]⟩ [tx0, tx1] = some (⟨false, ⟨#[]⟩⟩, true) := by kernel_rfl
set_option maxRecDepth 100000 in
theorem x_3 : verify_Of.f rtx ⟨#[97]⟩ [tx0, tx1] = some (⟨false, ⟨#[]⟩⟩, false) := by kernel_rfl
set_option maxRecDepth 100000 in
theorem x_4 : verify_Of.f rtx ⟨#[97]⟩ (([] ++ [tx0, tx1, tx2]) ++ [⟨#[120]⟩]) = some (⟨false, ⟨#[]⟩⟩, false) := by kernel_rfl
set_option maxRecDepth 100000 in
theorem x_5 : verify_Of.f emx ⟨#[97]⟩ [] = some (⟨false, ⟨#[]⟩⟩, true) := by kernel_rfl
set_option maxRecDepth 100000 in
theorem x_6 : verify_Of.f rtx ⟨#[97]⟩ [] = some (⟨false, ⟨#[]⟩⟩, false) := by kernel_rfl
set_option maxRecDepth 100000 in
theorem x_7 : verify_Steps.f rtx ⟨#[97]⟩ [tx0, tx1] = some 2 := by kernel_rfl
set_option maxRecDepth 100000 in
theorem x_8 : verify_Steps.f rtx ⟨#[]⟩ [tx0, tx1, tx2] = some 0 := by kernel_rfl
set_option maxRecDepth 100000 in
theorem x_sz : tx0.size < 1000000000 := by decide
theorem wakes17 : law17_wakes.f = some true := wakes17_of (l0 := l0x) rfl x_sz x_may x_pa x_pc x_dg x_em x_1 x_2 x_3 x_4 x_5 x_6 x_7 x_8
end Go.Lf

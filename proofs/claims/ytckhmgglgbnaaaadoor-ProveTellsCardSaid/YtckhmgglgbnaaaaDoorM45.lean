/- An Item's text as a list of numbers. -/
import Derived.Test.YtckhmgglgbnaaaaDoorMB
set_option linter.unusedVariables false
set_option linter.unusedSimpArgs false
namespace Go.Lf
open Go
theorem B_byte {k : Nat} (h : k < 256) : B (strOfNums [wu8 (k : Int)]) = [k] := by
 have hw : wu8 (k : Int) = (k : Int) := wu8_id (by omega)
 rw [hw, B_strOfNums (by intro x hx; simp at hx; omega)]
 simp
theorem B_pkd {s : ByteArray} (h : s.size ≤ 16) (hs : Sml s) : B (pkd s) = s.size :: pk (B s) := by
 unfold pkd
 rw [B_append, B_byte (by omega), B_pck hs]
 rfl
end Go.Lf

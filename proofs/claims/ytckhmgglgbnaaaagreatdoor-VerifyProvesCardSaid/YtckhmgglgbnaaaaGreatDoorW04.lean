/- The document's constants are the program's. -/
import Derived.Test.YtckhmgglgbnaaaaGreatDoorZD
namespace Go.Lf
open Go
set_option maxRecDepth 100000 in
theorem start04 : ref04_Start.f = some glob_0 := by kernel_rfl
set_option maxRecDepth 100000 in
theorem const04 : ref04_Constants.f = some glob_1 := by kernel_rfl
end Go.Lf

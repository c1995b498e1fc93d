/- The closed part of the laws of layer 16. -/
import Derived.Test.YtckhmgglgbnaaaaDoorZD
namespace Go.Lf
open Go
set_option maxRecDepth 100000 in
theorem wakes16 : law16_wakes.f = some true := by kernel_rfl
end Go.Lf

/- The law's small run. -/
import Derived.Test.YtckhmgglgbnaaaaZD
import Derived.KernelRfl
namespace Go.Lf
open Go
theorem wakes19 : law19_wakes.f = some true := by kernel_rfl
end Go.Lf

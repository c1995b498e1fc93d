/- The law's small run. -/
import Derived.Test.YtckhmgglgbnaaaaZD
import Derived.KernelRfl
namespace Go.Lf
open Go
theorem wakes20 : law20_wakes.f = some true := by kernel_rfl
end Go.Lf

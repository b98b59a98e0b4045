/- The kernel runs awake. -/
import Derived.Test.YtmmjnbpoilicjaaGreatBETabW
import Derived.Test.YtmmjnbpoilicjaaGreatBE5
namespace Go.E
open Go
set_option maxRecDepth 1000000
theorem awake_run : yes (run tabW 4000 (99 + 1) 4 []) = true := by kernel_rfl
end Go.E

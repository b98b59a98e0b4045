/- The kernel runs First of 0. -/
import Derived.Test.YtmmjnbpoilicjaaGreatBETabF
import Derived.Test.YtmmjnbpoilicjaaGreatBE5
namespace Go.E
open Go Go.Proofs
set_option maxRecDepth 1000000
theorem first0_run : firstIs first0St first0Note first0Len first0Cs (run tabF 4000 (99 + 1) 8 [.int .i64 (.ofNat 0)]) = true := by kernel_rfl
theorem tabF_ok : TabOk Tryz.prog tabF := ⟨tabF_mixed, tysCheck_ok tabF_ty, eqsCheck_ok tabF_eq, tabF_fn.all, fun f g h => by cases h⟩
theorem prim_first0 : PrimOk Tryz.prog 8 (pFirst 0 first0St first0Note first0Len first0Cs) := prim_first tabF_ok rfl first0_run
end Go.E

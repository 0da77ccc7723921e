/- Mt27 (printed) -/
import Derived.Test.YtmbinhhlfbgiaaaGvF
import Derived.Test.YtmbinhhlfbgiaaaGvI
namespace Go.Proofs.Ytmbinhhlfbgiaaa
open Go.GV
namespace Ty
theorem mtd : 0 < Try.prog.types.size + Made.depth := of_decide_eq_true (by kernel_rfl)
theorem mt32 : methIs Try.prog 34 "Get" = some 32 := by kernel_rfl
theorem mt54 : methIs Try.prog 34 "Next" = some 54 := by kernel_rfl
end Ty
end Go.Proofs.Ytmbinhhlfbgiaaa

/- Ss: slices.Sort and slices.Compact of strings, by the shelf's contracts. -/
import Derived.Test.YtmbinhhlfbgiaaaSh26b
import Derived.Test.YtmbinhhlfbgiaaaGvN
namespace Go.Proofs.Ytmbinhhlfbgiaaa
open Go.GV Go.RowKit Go.Sort
def srt (xs : List Bytes) : List Bytes := xs.mergeSort fun x y => decide (x ≤ y)
def cmp (xs : List Bytes) : List Bytes := Lib.compact xs
theorem less_iff : ∀ (a b : Bytes), Op.bytesLess a b = true ↔ a < b
  | _, [] => by constructor <;> intro h <;> simp_all [Op.bytesLess]
  | [], y :: b => by simp [Op.bytesLess]
  | x :: a, y :: b => by
    rw [Op.bytesLess, List.cons_lt_cons_iff, Bool.or_eq_true, Bool.and_eq_true, less_iff a b]
    simp
end Go.Proofs.Ytmbinhhlfbgiaaa

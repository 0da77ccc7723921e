/- Pl14j: what Decode accepts is what Encode returns. -/
import Derived.Test.YtodfebhimadaiaaPl14f
namespace Go.Proofs.Ytodfebhimadaiaa
open Go.GV
namespace R14
variable {s : Bytes}
def Strict (up : UInt32 → Bytes → UInt32) (s : Bytes) : Prop := (dcE up s = 0 → okE (valid (dcD up s) (dcN up s) (dcP up s)) = 0 ∧ s = encode up (dcD up s) (dcN up s) (dcP up s) ∧ valid (dcD up s) (dcN up s) (dcP up s) = true) ∧ (dcE up s ≠ 0 → dcE up s = 11 ∧ dcD up s = dz ∧ dcN up s = 0 ∧ dcP up s = [])
end R14
end Go.Proofs.Ytodfebhimadaiaa

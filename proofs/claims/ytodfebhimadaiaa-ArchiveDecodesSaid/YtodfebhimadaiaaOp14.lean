/- Op14 (printed) -/
import Derived.Test.YtodfebhimadaiaaGvO
import Derived.Test.YtodfebhimadaiaaGvF
import Derived.Test.YtodfebhimadaiaaSt14
namespace Go.Proofs.Ytodfebhimadaiaa
open Go.GV
namespace Ty
def _root_.Go.Proofs.Ytodfebhimadaiaa.DataSet.ok (a : DataSet) : Prop := (-9223372036854775808 ≤ a.Id ∧ a.Id ≤ 9223372036854775807) ∧ (-9223372036854775808 ≤ a.Org ∧ a.Org ≤ 9223372036854775807) ∧ (-9223372036854775808 ≤ a.Format ∧ a.Format ≤ 9223372036854775807) ∧ (-9223372036854775808 ≤ a.Length ∧ a.Length ≤ 9223372036854775807) ∧ (-9223372036854775808 ≤ a.Block ∧ a.Block ≤ 9223372036854775807) ∧ (-9223372036854775808 ≤ a.KeyAt ∧ a.KeyAt ≤ 9223372036854775807) ∧ (-9223372036854775808 ≤ a.KeyLength ∧ a.KeyLength ≤ 9223372036854775807) ∧ (-9223372036854775808 ≤ a.Interval ∧ a.Interval ≤ 9223372036854775807) ∧ (-9223372036854775808 ≤ a.Area ∧ a.Area ≤ 9223372036854775807) ∧ (-9223372036854775808 ≤ a.FreeInterval ∧ a.FreeInterval ≤ 9223372036854775807) ∧ (-9223372036854775808 ≤ a.FreeArea ∧ a.FreeArea ≤ 9223372036854775807) ∧ (-9223372036854775808 ≤ a.Base ∧ a.Base ≤ 9223372036854775807) ∧ (-9223372036854775808 ≤ a.AltAt ∧ a.AltAt ≤ 9223372036854775807) ∧ (-9223372036854775808 ≤ a.AltLength ∧ a.AltLength ≤ 9223372036854775807) ∧ (-9223372036854775808 ≤ a.Class ∧ a.Class ≤ 9223372036854775807) ∧ a.Volume.length ≤ 9223372036854775807 ∧ a.Owner.length ≤ 9223372036854775807 ∧ (-9223372036854775808 ≤ a.Created ∧ a.Created ≤ 9223372036854775807) ∧ (-9223372036854775808 ≤ a.Expires ∧ a.Expires ≤ 9223372036854775807)
def _root_.Go.Proofs.Ytodfebhimadaiaa.Pair.ok (a : Pair) : Prop := a.key.length ≤ 9223372036854775807 ∧ a.record.length ≤ 9223372036854775807
def _root_.Go.Proofs.Ytodfebhimadaiaa.Harm.ok (_ : Harm) : Prop := True
end Ty
end Go.Proofs.Ytodfebhimadaiaa

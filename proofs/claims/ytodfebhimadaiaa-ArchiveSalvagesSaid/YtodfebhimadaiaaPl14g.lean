/- Pl14g: the reference of chapters 1 and 14: readers by value, pieces. -/
import Derived.Test.YtodfebhimadaiaaPl14f
namespace Go.Proofs.Ytodfebhimadaiaa
open Go.GV
namespace Rd
section
variable {r : Reader} {most : Int} {s : Bytes} {k : Nat} {n : UInt64}
end
end Rd
end Go.Proofs.Ytodfebhimadaiaa

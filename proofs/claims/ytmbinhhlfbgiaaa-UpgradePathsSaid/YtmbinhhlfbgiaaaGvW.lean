/- GvW: an element of a row of structs is written. -/
import Derived.Test.YtmbinhhlfbgiaaaGvR
namespace Go.GV
open Go.RowKit
section
variable {E : Env} {P : Program} {x y : Operand} {dst : Option Nat} {t ty : TypeId} {pos : String} {af : Array Edge} {g : Option (Nat × Bool)}
end
end Go.GV

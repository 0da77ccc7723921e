/- contracts C44e -/
import Derived.Test.YtnfglkgahlaofaaGreatDoorC44c
import Derived.Test.YtnfglkgahlaofaaGreatDoorExtsortCompares9
import Derived.Test.YtnfglkgahlaofaaGreatDoorExtsortCompares6
namespace Go.Proofs.YtnfglkgahlaofaaGreatDoor
open Go.GV
set_option linter.unusedVariables false
set_option linter.unusedSimpArgs false
end Go.Proofs.YtnfglkgahlaofaaGreatDoor

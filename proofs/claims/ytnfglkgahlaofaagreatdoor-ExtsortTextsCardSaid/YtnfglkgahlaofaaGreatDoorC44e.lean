/- contracts C44e -/
import Derived.Test.YtnfglkgahlaofaaGreatDoorExtsortTexts15
import Derived.Test.YtnfglkgahlaofaaGreatDoorExtsortTexts9
import Derived.Test.YtnfglkgahlaofaaGreatDoorExtsortTexts6
namespace Go.Proofs.YtnfglkgahlaofaaGreatDoor
open Go.GV
set_option linter.unusedVariables false
set_option linter.unusedSimpArgs false
end Go.Proofs.YtnfglkgahlaofaaGreatDoor

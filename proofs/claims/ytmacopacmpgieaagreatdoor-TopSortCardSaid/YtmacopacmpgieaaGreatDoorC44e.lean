/- contracts C44e -/
import Derived.Test.YtmacopacmpgieaaGreatDoorTopSort12
import Derived.Test.YtmacopacmpgieaaGreatDoorTopSort9
import Derived.Test.YtmacopacmpgieaaGreatDoorTopSort6
set_option linter.unusedVariables false
set_option linter.unusedSimpArgs false
namespace Go.Proofs.YtmacopacmpgieaaGreatDoor
open Go.GV
set_option linter.unusedVariables false
set_option linter.unusedSimpArgs false
end Go.Proofs.YtmacopacmpgieaaGreatDoor

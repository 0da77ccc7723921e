/- contracts C44e -/
import Derived.Test.YtggobegaiijhhaaGreatDoorC44c
import Derived.Test.YtggobegaiijhhaaGreatDoorUtilitySorts15
import Derived.Test.YtggobegaiijhhaaGreatDoorUtilitySorts4
set_option linter.unusedVariables false
set_option linter.unusedSimpArgs false
namespace Go.Proofs.YtggobegaiijhhaaGreatDoor
open Go.GV
set_option linter.unusedVariables false
set_option linter.unusedSimpArgs false
end Go.Proofs.YtggobegaiijhhaaGreatDoor

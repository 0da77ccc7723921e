/- contracts C44e -/
import Derived.Test.YtggobegaiijhhaaGreatDoorC44c
set_option linter.unusedVariables false
set_option linter.unusedSimpArgs false
set_option maxRecDepth 20000
namespace Go.Proofs.YtggobegaiijhhaaGreatDoor
open Go.GV Go.Proofs.Tryz Ty
open Go.GV.Ent (blk row mp)
end Go.Proofs.YtggobegaiijhhaaGreatDoor

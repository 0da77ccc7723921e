/- the given Cards and Tie, imported. -/
import Derived.Test.YtngjdmhpljmkpaaDoorCards
import Derived.Test.YtngjdmhpljmkpaaDoorTie
import Derived.Test.YtngjdmhpljmkpaaDoorRows
import GoSem.ClaimSeven
import Derived.LaidByTextLater
import Derived.SevenTiedAt
import Derived.LaidSub
import Derived.LaidOnce
set_option linter.unusedVariables false
set_option linter.unusedSimpArgs false


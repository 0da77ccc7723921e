/- the given Cards and Tie, imported. -/
import Derived.Test.YtbfiibgmgopnaaaDoorCards
import Derived.Test.YtbfiibgmgopnaaaDoorTie
import Derived.Test.YtbfiibgmgopnaaaDoorRows
import GoSem.ClaimSeven
import Derived.LaidByTextLater
import Derived.SevenTiedAt
import Derived.LaidSub
import Derived.LaidOnce
set_option linter.unusedVariables false
set_option linter.unusedSimpArgs false


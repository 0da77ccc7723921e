/- the given Cards and Tie, imported. -/
import Derived.Test.YtnfglkgahlaofaaGreatDoorCards
import Derived.Test.YtnfglkgahlaofaaGreatDoorTie
import Derived.Test.YtnfglkgahlaofaaGreatDoorRows
import GoSem.ClaimSeven
import Derived.LaidByTextLater
import Derived.SevenTiedAt
import Derived.LaidSub
import Derived.LaidOnce
set_option linter.unusedVariables false
set_option linter.unusedSimpArgs false


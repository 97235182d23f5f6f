/- The code that the statement reaches as plain programs, and what they compute. -/
import Derived.Test.YtngflklgdflcdaaGreatDoorPuB
set_option linter.all false

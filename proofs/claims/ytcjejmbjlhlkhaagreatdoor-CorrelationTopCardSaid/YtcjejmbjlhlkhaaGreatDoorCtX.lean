/- What is taken off the shelf. -/
import Derived.Test.YtcjejmbjlhlkhaaGreatDoorCtR1XI
import Derived.Test.YtcjejmbjlhlkhaaGreatDoorCtLayItoa2
import Derived.Test.YtcjejmbjlhlkhaaGreatDoorCtR1Y
import Derived.Test.YtcjejmbjlhlkhaaGreatDoorCtLayCmp
import Derived.Test.YtcjejmbjlhlkhaaGreatDoorCtR1Z
set_option linter.unusedVariables false
set_option linter.unusedSimpArgs false
set_option linter.unusedSectionVars false

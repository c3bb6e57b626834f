/- What is taken off the shelf. -/
import Derived.Test.YtamebpdbedglkaaGreatDoorMgR1XI
import Derived.Test.YtamebpdbedglkaaGreatDoorMgR1Z
set_option linter.unusedVariables false
set_option linter.unusedSimpArgs false
set_option linter.unusedSectionVars false

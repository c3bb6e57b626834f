/- What is taken off the shelf. -/
import Derived.Test.YtbjnddlpdlfknaaGreatDoorQmR1XI
import Derived.Test.YtbjnddlpdlfknaaGreatDoorQmR1Y
set_option linter.unusedVariables false
set_option linter.unusedSimpArgs false
set_option linter.unusedSectionVars false

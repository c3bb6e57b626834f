/- What is taken off the shelf. -/
import Derived.Test.YthefajbigloihaaGreatDoorSlR1XI
import Derived.Test.YthefajbigloihaaGreatDoorSlR1Q
set_option linter.unusedVariables false
set_option linter.unusedSimpArgs false
set_option linter.unusedSectionVars false

/- What is taken off the shelf. -/
import Derived.Test.YthefajbigloihaaGreatDoorQoR1XI
import Derived.Test.YthefajbigloihaaGreatDoorQoLayItoa2
import Derived.Test.YthefajbigloihaaGreatDoorQoR1Y
set_option linter.unusedVariables false
set_option linter.unusedSimpArgs false
set_option linter.unusedSectionVars false

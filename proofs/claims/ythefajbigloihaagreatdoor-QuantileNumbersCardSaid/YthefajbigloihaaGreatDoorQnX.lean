/- What is taken off the shelf. -/
import Derived.Test.YthefajbigloihaaGreatDoorQnR1XI
import Derived.Test.YthefajbigloihaaGreatDoorQnLayItoa2
import Derived.Test.YthefajbigloihaaGreatDoorQnR1Y
set_option linter.unusedVariables false
set_option linter.unusedSimpArgs false
set_option linter.unusedSectionVars false

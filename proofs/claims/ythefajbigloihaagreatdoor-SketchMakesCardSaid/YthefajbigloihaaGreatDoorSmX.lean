/- What is taken off the shelf. -/
import Derived.Test.YthefajbigloihaaGreatDoorSmR1XI
import Derived.Test.YthefajbigloihaaGreatDoorSmLayItoa2
import Derived.Test.YthefajbigloihaaGreatDoorSmR1Y
import Derived.Test.YthefajbigloihaaGreatDoorSmLayCmp
import Derived.Test.YthefajbigloihaaGreatDoorSmR1Z
set_option linter.unusedVariables false
set_option linter.unusedSimpArgs false
set_option linter.unusedSectionVars false

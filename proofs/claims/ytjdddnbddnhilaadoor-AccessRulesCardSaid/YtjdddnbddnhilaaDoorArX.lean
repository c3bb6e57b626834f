/- What is taken off the shelf. -/
import Derived.Test.YtjdddnbddnhilaaDoorArR1XI
import Derived.Test.YtjdddnbddnhilaaDoorArMaydX
set_option linter.unusedVariables false
set_option linter.unusedSimpArgs false
set_option linter.unusedSectionVars false

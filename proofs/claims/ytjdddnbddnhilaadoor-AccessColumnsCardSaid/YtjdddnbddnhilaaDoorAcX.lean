/- What is taken off the shelf. -/
import Derived.Test.YtjdddnbddnhilaaDoorAcR1XI
import Derived.Test.YtjdddnbddnhilaaDoorAcMaydX
set_option linter.unusedVariables false
set_option linter.unusedSimpArgs false
set_option linter.unusedSectionVars false

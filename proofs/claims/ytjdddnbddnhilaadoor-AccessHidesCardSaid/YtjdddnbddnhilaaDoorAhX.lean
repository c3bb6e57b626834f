/- What is taken off the shelf. -/
import Derived.Test.YtjdddnbddnhilaaDoorAhR1XI
import Derived.Test.YtjdddnbddnhilaaDoorAhMaydX
set_option linter.unusedVariables false
set_option linter.unusedSimpArgs false
set_option linter.unusedSectionVars false

/- What is taken off the shelf. -/
import Derived.Test.YtahbkngofdpehaaDoorAaR1XI
import Derived.Test.YtahbkngofdpehaaDoorAaMaydX
set_option linter.unusedVariables false
set_option linter.unusedSimpArgs false
set_option linter.unusedSectionVars false

/- Tables: which are valid; both programs say the same. -/
import Derived.Test.YtjdddnbddnhilaaDoorRrRTp
import Derived.Test.YtjdddnbddnhilaaDoorRrRTr
set_option linter.unusedVariables false
set_option linter.unusedSimpArgs false
set_option linter.unusedSectionVars false

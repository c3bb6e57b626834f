/- Tables: which are valid; both programs say the same. -/
import Derived.Test.YtjdddnbddnhilaaDoorRpRTp
import Derived.Test.YtjdddnbddnhilaaDoorRpRTr
set_option linter.unusedVariables false
set_option linter.unusedSimpArgs false
set_option linter.unusedSectionVars false

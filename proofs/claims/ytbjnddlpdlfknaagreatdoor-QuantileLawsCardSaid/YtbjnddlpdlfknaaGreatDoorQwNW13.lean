/- (Between the two programs' fractions.) -/
import Derived.Test.YtbjnddlpdlfknaaGreatDoorQwNW11
set_option linter.unusedVariables false
set_option linter.unusedSimpArgs false
set_option linter.unusedSectionVars false

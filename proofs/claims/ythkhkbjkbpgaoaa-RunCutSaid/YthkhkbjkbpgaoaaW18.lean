/- A mark of one step. -/
import Derived.Test.YthkhkbjkbpgaoaaW17
import Derived.Test.YthkhkbjkbpgaoaaAT
set_option linter.unusedVariables false
set_option linter.unusedSimpArgs false

/- Lemmas -/
import Derived.Test.YtkpojedpcabojaaDoorK10
import Derived.Test.YtkpojedpcabojaaDoorK9
import Derived.Test.YtkpojedpcabojaaDoorK12
set_option linter.unusedVariables false
set_option linter.unusedSimpArgs false
set_option maxRecDepth 100000
set_option maxHeartbeats 40000000


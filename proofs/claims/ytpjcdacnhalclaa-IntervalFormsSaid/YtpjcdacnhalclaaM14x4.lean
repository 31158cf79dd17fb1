/- A part of a proof: facts of functions that the law calls; conditions stand in each. -/
import Derived.SizedLaws
import Derived.ChangeSlices
set_option linter.unusedVariables false
set_option linter.unusedSimpArgs false

/- Lemmas. -/
import Derived.Test.YtoelgackkclcmaaGreatPc13
set_option linter.unusedSimpArgs false
set_option linter.unusedVariables false
set_option maxRecDepth 20000
set_option maxHeartbeats 64000000



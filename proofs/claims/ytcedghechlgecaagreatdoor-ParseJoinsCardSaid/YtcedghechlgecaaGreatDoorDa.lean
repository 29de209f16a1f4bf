/- The functions of the parser of the document give what the grammar says (names shortened). No condition: lemmas. -/
import Derived.Test.YtcedghechlgecaaGreatDoorQa
set_option maxRecDepth 100000
set_option maxHeartbeats 0
set_option linter.unusedVariables false
set_option linter.unusedSimpArgs false

/-
  Walks: symbols of the reference's lex.
-/
import Derived.Test.YtdlkenpilhakfaaGreatDoorQRefH
set_option linter.unusedSimpArgs false
set_option linter.unusedVariables false
set_option maxHeartbeats 8000000
set_option maxRecDepth 20000

/-
  Walks: names and variables of the reference's lex.
-/
import Derived.Test.YtplgnfciipceiaaGreatDoorQRefA
set_option linter.unusedSimpArgs false
set_option linter.unusedVariables false
set_option maxHeartbeats 8000000
set_option maxRecDepth 20000
namespace Go.Proofs.YtplgnfciipceiaaGreatDoor
open Go.RowKit Go.Lamb

end Go.Proofs.YtplgnfciipceiaaGreatDoor

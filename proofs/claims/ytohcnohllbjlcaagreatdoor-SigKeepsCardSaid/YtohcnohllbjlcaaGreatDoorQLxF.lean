/-
  Walks: all tokens of a text.
-/
import Derived.Test.YtohcnohllbjlcaaGreatDoorQLexE
import Derived.Test.YtohcnohllbjlcaaGreatDoorQLexL
import Derived.OwnWalk
set_option linter.unusedSimpArgs false
set_option linter.unusedVariables false
set_option maxHeartbeats 8000000
set_option maxRecDepth 20000
namespace Go.Proofs.YtohcnohllbjlcaaGreatDoor
open Go.RowKit Go.Lamb

attribute [local go_sem] oneV

end Go.Proofs.YtohcnohllbjlcaaGreatDoor

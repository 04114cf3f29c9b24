/-
  Lex, without addresses.
-/
import Derived.Test.YtohcnohllbjlcaaGreatDoorQLxF
import Derived.Test.YtohcnohllbjlcaaGreatDoorQJ13
import Derived.Test.YtohcnohllbjlcaaGreatDoorQJ11
set_option linter.unusedSimpArgs false
set_option linter.unusedVariables false
set_option maxHeartbeats 8000000
set_option maxRecDepth 20000
namespace Go.Proofs.YtohcnohllbjlcaaGreatDoor
open Go.RowKit Go.Lamb

end Go.Proofs.YtohcnohllbjlcaaGreatDoor

/-
  Walks: names, variables, symbols.
-/
import Derived.Test.YtljjlhdkkbaehaaGreatDoorQLexB
set_option linter.unusedSimpArgs false
set_option linter.unusedVariables false
set_option maxHeartbeats 8000000
set_option maxRecDepth 20000
namespace Go.Proofs.YtljjlhdkkbaehaaGreatDoor
open Go.RowKit Go.Lamb

end Go.Proofs.YtljjlhdkkbaehaaGreatDoor

/- . -/
import Derived.Test.YtpcmcfajfnpjeaaGreatDoorQLexE
import Derived.Lib.AppendIntMem
set_option linter.unusedSimpArgs false
set_option linter.unusedVariables false
set_option maxHeartbeats 8000000
set_option maxRecDepth 20000
namespace Go.Proofs.YtpcmcfajfnpjeaaGreatDoor
open Go.RowKit Go.Lamb

end Go.Proofs.YtpcmcfajfnpjeaaGreatDoor

/- . -/
import Derived.Test.YtpcmcfajfnpjeaaGreatDoorQOpenT
import Derived.Test.YtpcmcfajfnpjeaaGreatDoorQJ15
set_option linter.unusedSimpArgs false
set_option linter.unusedVariables false
set_option maxHeartbeats 8000000
set_option maxRecDepth 20000
namespace Go.Proofs.YtpcmcfajfnpjeaaGreatDoor
open Go.ChangeShapes Go.WideShapes Go.ChangeAt Go.RowKit Go.Lamb

section
variable {H:Type} {enc:TypeId × Value → H} {w:World} {base:Nat} {spare:Nat → Bool} {held:Bool} {v:Value} {d:DataW H} {ps:List MemPlace} {r:Reach} {b0:Nat}
end
end Go.Proofs.YtpcmcfajfnpjeaaGreatDoor

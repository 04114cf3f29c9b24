/-
  Plain: blanks and remarks.
-/
import Derived.Test.YtohcnohllbjlcaaGreatDoorQLexSpec
import Derived.Lib.IndexBytes
import Derived.Lib.IndexMore
import Derived.Lib.SlTrimSet
set_option linter.unusedSimpArgs false
set_option linter.unusedVariables false
set_option maxHeartbeats 8000000
set_option maxRecDepth 20000
namespace Go.Lamb
open Go Go.RowKit

def blanks : List UInt8 := [32, 9, 10, 13]
/-- What stands behind blanks and remarks; 'true': within a remark. -/
def skipL : Bool → List UInt8 → List UInt8
  | _, [] => []
  | false, c :: l => if blanks.contains c then skipL false l else if c == 37 then skipL true l else c :: l
  | true, c :: l => if c == 10 then skipL false l else skipL true l

end Go.Lamb

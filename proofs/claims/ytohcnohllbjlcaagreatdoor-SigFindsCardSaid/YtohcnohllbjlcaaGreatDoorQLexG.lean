/-
  Walks: how a token is written.
-/
import Derived.Test.YtohcnohllbjlcaaGreatDoorQLexE
import Derived.Lib.AppendIntMem
set_option linter.unusedSimpArgs false
set_option linter.unusedVariables false
set_option maxHeartbeats 8000000
set_option maxRecDepth 20000
namespace Go.Proofs.YtohcnohllbjlcaaGreatDoor
open Go.RowKit Go.Lamb

/-- A token as a value. -/
def tokV (kind : Int) (text : List UInt8) (n pos : Int) : Value := .agg #[.int .i64 kind, .string (bs text), .int .i64 n, .int .i64 pos]
attribute [local go_sem] tokV
end Go.Proofs.YtohcnohllbjlcaaGreatDoor

/-
  Walks: one token.
-/
import Derived.Test.YtohcnohllbjlcaaGreatDoorQLexD
import Derived.Test.YtohcnohllbjlcaaGreatDoorQLexNum
import Derived.Lib.SmallJoins
import Derived.Handy
set_option linter.unusedSimpArgs false
set_option linter.unusedVariables false
set_option maxHeartbeats 8000000
set_option maxRecDepth 20000
namespace Go.Proofs.YtohcnohllbjlcaaGreatDoor
open Go.RowKit Go.Lamb

/-- The token, as lex.one hands it back. -/
def oneV (r : OneR) : Value := .tuple #[.agg #[.int .i64 r.kind, .string (bs r.text), .int .i64 r.n, .int .i64 0], .int .i64 r.len, .int .i64 r.err]
end Go.Proofs.YtohcnohllbjlcaaGreatDoor

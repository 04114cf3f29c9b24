/-
  Plain: two texts with a blank between them.
-/
import Derived.Test.YtohcnohllbjlcaaGreatDoorQLexPl
set_option linter.unusedSimpArgs false
set_option linter.unusedVariables false
set_option maxHeartbeats 8000000
set_option maxRecDepth 20000
namespace Go.Lamb
open Go Go.RowKit

def Tok.shift (K : Nat) (t : Tok) : Tok := ⟨t.kind, t.text, t.n, t.pos + K⟩
def LexR.shift (K : Nat) (r : LexR) : LexR := ⟨r.toks.map (Tok.shift K), r.err, if r.err = 0 then 0 else r.pos + K⟩
end Go.Lamb

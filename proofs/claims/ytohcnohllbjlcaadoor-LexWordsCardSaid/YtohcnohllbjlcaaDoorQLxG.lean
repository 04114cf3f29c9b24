/-
  Walks: how a token is written.
-/
import Derived.Test.YtohcnohllbjlcaaDoorQLexG
import Derived.Test.YtohcnohllbjlcaaDoorQLexL
set_option linter.unusedSimpArgs false
set_option linter.unusedVariables false
set_option maxHeartbeats 8000000
set_option maxRecDepth 20000
namespace Go.Proofs.YtohcnohllbjlcaaDoor
open Go.RowKit Go.Lamb

/-- A token as a value. -/
def tokV (kind : Int) (text : List UInt8) (n pos : Int) : Value := .agg #[.int .i64 kind, .string (bs text), .int .i64 n, .int .i64 pos]
attribute [local go_sem] tokV
set_option maxHeartbeats 1000000 in
theorem lex_Text (kind : Int) (text : List UInt8) (n pos : Int) (w : World) (hn : n ≤ 9223372036854775807) (hG : Glob w) :
    Calls Tryd.prog 11 #[tokV kind text n pos] w (RetB (.string (bs (textL kind text n))) w) := by
  have HG := Lib.hid hG
  clear hG
  go_enter Tryd.func11, Tryd.ntmps11
  go_wp2_with (first
        | (go_at_call 25; refine (itoaC _ _ (by omega) (by omega) (HG.out.ext (Below.alloc (Below.refl _ _) (Nat.le_refl _) _))).mono ?_; rintro e w1 ⟨rfl, hb1⟩; have HB1 := Lib.hid (after (w := w) (by go_grown) hb1); clear hb1))
  all_goals go_ret
  all_goals refine ⟨?_, by first | exact HB1.out | go_grown⟩
  all_goals simp [textL, bs, *]
end Go.Proofs.YtohcnohllbjlcaaDoor

/-
  Plain: small aids of the walks.
-/
import Derived.Test.YtohcnohllbjlcaaDoorQJ6
set_option linter.unusedSimpArgs false
set_option linter.unusedVariables false
set_option maxHeartbeats 8000000
set_option maxRecDepth 20000
namespace Go.Lamb
open Go Go.RowKit

theorem fit_str {κ : K} (s : ByteArray) (h : s.size ≤ maxLen) : RV κ (S s.data.toList) (.string s) := by
  have := RC.str (m := κ.m) s.data.toList (by simpa using h)
  rw [← bs_of] at this
  exact .c this
end Go.Lamb

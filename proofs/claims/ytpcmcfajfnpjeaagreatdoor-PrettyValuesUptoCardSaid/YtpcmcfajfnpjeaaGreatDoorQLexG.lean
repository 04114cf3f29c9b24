/-
  Walks: a number as a text.
-/
import Derived.Test.YtpcmcfajfnpjeaaGreatDoorQLexE
import Derived.Lib.AppendIntMem
set_option linter.unusedSimpArgs false
set_option linter.unusedVariables false
set_option maxHeartbeats 8000000
set_option maxRecDepth 20000
namespace Go.Proofs.YtpcmcfajfnpjeaaGreatDoor
open Go.RowKit Go.Lamb

theorem itoaC (n : Int) (w : World) (h0 : -9223372036854775808 ≤ n) (h1 : n ≤ 9223372036854775807) (hG : Glob w) :
    Calls Tryz.prog 69 #[.int .i64 n] w (RetB (.string (bs (Lib.itoa n))) w) :=
  (Tryz.strconv_Itoa n h0 h1 w hG.pow10).mono fun _ _ ⟨he, k, os, hw⟩ => ⟨he, by rw [hw]; exact Go.Lib.below_grow _ _ (Nat.le_refl _) _ _⟩

end Go.Proofs.YtpcmcfajfnpjeaaGreatDoor

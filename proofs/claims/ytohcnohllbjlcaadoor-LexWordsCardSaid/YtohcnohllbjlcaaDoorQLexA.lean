/-
  Walks: the bytes of lex.
-/
import Derived.Test.YtohcnohllbjlcaaDoorChecked
import Derived.Test.YtohcnohllbjlcaaDoorQLexSpec
import Derived.WalkKit
import Derived.WalkSpells
import Derived.WalkLawsBesides
import Derived.Below
import Derived.Lib.Hide
set_option linter.unusedSimpArgs false
set_option linter.unusedVariables false
set_option maxHeartbeats 8000000
set_option maxRecDepth 20000
namespace Go.Proofs.YtohcnohllbjlcaaDoor
open Go.RowKit Go.Lamb

theorem lex_small (c : UInt8) (w : World) : Calls Tryd.prog 15 #[.int .u8 c.toNat] w (Ret (.bool (smallB c)) w) := by
  go_enter Tryd.func15, Tryd.ntmps15
  go_wp2
  all_goals go_ret
  all_goals (refine ret_bool ?_; rw [Bool.eq_iff_iff]; simp [smallB]; omega)

theorem lex_digit (c : UInt8) (w : World) : Calls Tryd.prog 29 #[.int .u8 c.toNat] w (Ret (.bool (digitB c)) w) := by
  go_enter Tryd.func29, Tryd.ntmps29
  go_wp2
  all_goals go_ret
  all_goals (refine ret_bool ?_; rw [Bool.eq_iff_iff]; simp [digitB]; omega)

theorem lex_great (c : UInt8) (w : World) : Calls Tryd.prog 20 #[.int .u8 c.toNat] w (Ret (.bool (greatB c)) w) := by
  go_enter Tryd.func20, Tryd.ntmps20
  go_wp2
  all_goals go_ret
  all_goals (refine ret_bool ?_; rw [Bool.eq_iff_iff]; simp [greatB]; omega)

theorem lex_inside (c : UInt8) (w : World) : Calls Tryd.prog 17 #[.int .u8 c.toNat] w (Ret (.bool (insideB c)) w) := by
  go_enter Tryd.func17, Tryd.ntmps17
  go_wp2_with (first
    | (go_at_call 15; refine (lex_small c _).mono ?_; rintro e w' ⟨rfl, rfl⟩)
    | (go_at_call 20; refine (lex_great c _).mono ?_; rintro e w' ⟨rfl, rfl⟩)
    | (go_at_call 29; refine (lex_digit c _).mono ?_; rintro e w' ⟨rfl, rfl⟩))
  all_goals go_ret
  all_goals (refine ret_bool ?_; rw [Bool.eq_iff_iff]; simp [insideB, *])
  all_goals omega
end Go.Proofs.YtohcnohllbjlcaaDoor

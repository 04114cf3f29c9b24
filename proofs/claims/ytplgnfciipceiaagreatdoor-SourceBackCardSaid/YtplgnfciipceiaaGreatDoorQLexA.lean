/-
  Walks: the bytes of lex.
-/
import Derived.Test.YtplgnfciipceiaaGreatDoorChecked
import Derived.Test.YtplgnfciipceiaaGreatDoorQLexSpec
import Derived.WalkKit
import Derived.WalkSpells
import Derived.WalkLawsBesides
import Derived.Below
import Derived.Lib.Hide
set_option linter.unusedSimpArgs false
set_option linter.unusedVariables false
set_option maxHeartbeats 8000000
set_option maxRecDepth 20000
namespace Go.Proofs.YtplgnfciipceiaaGreatDoor
open Go.RowKit Go.Lamb

theorem lex_small (c : UInt8) (w : World) : Calls Tryz.prog 119 #[.int .u8 c.toNat] w (Ret (.bool (smallB c)) w) := by
  go_enter Tryz.func119, Tryz.ntmps119
  go_wp2
  all_goals go_ret
  all_goals (refine ret_bool ?_; rw [Bool.eq_iff_iff]; simp [smallB]; omega)

theorem lex_digit (c : UInt8) (w : World) : Calls Tryz.prog 137 #[.int .u8 c.toNat] w (Ret (.bool (digitB c)) w) := by
  go_enter Tryz.func137, Tryz.ntmps137
  go_wp2
  all_goals go_ret
  all_goals (refine ret_bool ?_; rw [Bool.eq_iff_iff]; simp [digitB]; omega)

theorem lex_great (c : UInt8) (w : World) : Calls Tryz.prog 139 #[.int .u8 c.toNat] w (Ret (.bool (greatB c)) w) := by
  go_enter Tryz.func139, Tryz.ntmps139
  go_wp2
  all_goals go_ret
  all_goals (refine ret_bool ?_; rw [Bool.eq_iff_iff]; simp [greatB]; omega)

theorem lex_inside (c : UInt8) (w : World) : Calls Tryz.prog 121 #[.int .u8 c.toNat] w (Ret (.bool (insideB c)) w) := by
  go_enter Tryz.func121, Tryz.ntmps121
  go_wp2_with (first
    | (go_at_call 119; refine (lex_small c _).mono ?_; rintro e w' ⟨rfl, rfl⟩)
    | (go_at_call 139; refine (lex_great c _).mono ?_; rintro e w' ⟨rfl, rfl⟩)
    | (go_at_call 137; refine (lex_digit c _).mono ?_; rintro e w' ⟨rfl, rfl⟩))
  all_goals go_ret
  all_goals (refine ret_bool ?_; rw [Bool.eq_iff_iff]; simp [insideB, *])
  all_goals omega
end Go.Proofs.YtplgnfciipceiaaGreatDoor

/-
  Walks: the bytes of lex.
-/
import Derived.Test.YtanmlhplncimpaaDoorChecked
import Derived.Test.YtanmlhplncimpaaDoorLexSpec
import Derived.WalkKit
import Derived.WalkSpells
import Derived.WalkLawsBesides
import Derived.Below
import Derived.Lib.Hide
namespace Go.Proofs.YtanmlhplncimpaaDoor
open Go.RowKit Go.Lamb

theorem lex_small (c : UInt8) (w : World) : Calls Tryd.prog 26 #[.int .u8 c.toNat] w (Ret (.bool (smallB c)) w) := by
  go_enter Tryd.func26, Tryd.ntmps26
  go_wp2
  all_goals go_ret
  all_goals (refine ret_bool ?_; rw [Bool.eq_iff_iff]; simp [smallB]; omega)

theorem lex_digit (c : UInt8) (w : World) : Calls Tryd.prog 42 #[.int .u8 c.toNat] w (Ret (.bool (digitB c)) w) := by
  go_enter Tryd.func42, Tryd.ntmps42
  go_wp2
  all_goals go_ret
  all_goals (refine ret_bool ?_; rw [Bool.eq_iff_iff]; simp [digitB]; omega)

theorem lex_great (c : UInt8) (w : World) : Calls Tryd.prog 31 #[.int .u8 c.toNat] w (Ret (.bool (greatB c)) w) := by
  go_enter Tryd.func31, Tryd.ntmps31
  go_wp2
  all_goals go_ret
  all_goals (refine ret_bool ?_; rw [Bool.eq_iff_iff]; simp [greatB]; omega)

theorem lex_inside (c : UInt8) (w : World) : Calls Tryd.prog 28 #[.int .u8 c.toNat] w (Ret (.bool (insideB c)) w) := by
  go_enter Tryd.func28, Tryd.ntmps28
  go_wp2_with (first
    | (go_at_call 26; refine (lex_small c _).mono ?_; rintro e w' ⟨rfl, rfl⟩)
    | (go_at_call 31; refine (lex_great c _).mono ?_; rintro e w' ⟨rfl, rfl⟩)
    | (go_at_call 42; refine (lex_digit c _).mono ?_; rintro e w' ⟨rfl, rfl⟩))
  all_goals go_ret
  all_goals (refine ret_bool ?_; rw [Bool.eq_iff_iff]; simp [insideB, *])
  all_goals omega
end Go.Proofs.YtanmlhplncimpaaDoor

/- . -/
import Derived.Test.YtpcmcfajfnpjeaaGreatDoorChecked
import Derived.Test.YtpcmcfajfnpjeaaGreatDoorQLexSpec
import Derived.WalkKit
import Derived.WalkSpells
import Derived.WalkLawsBesides
import Derived.Below
import Derived.Lib.Hide
set_option linter.unusedSimpArgs false
set_option linter.unusedVariables false
set_option maxHeartbeats 8000000
set_option maxRecDepth 20000
namespace Go.Proofs.YtpcmcfajfnpjeaaGreatDoor
open Go.RowKit Go.Lamb

theorem lex_small (c:UInt8) (w:World):Calls Tryz.prog 164 #[.int .u8 c.toNat] w (Ret (.bool (smallB c)) w):=by
 go_enter Tryz.func164,Tryz.ntmps164
 go_wp2
 all_goals go_ret
 all_goals (refine ret_bool ?_;rw [Bool.eq_iff_iff];simp [smallB];omega)

theorem lex_digit (c:UInt8) (w:World):Calls Tryz.prog 246 #[.int .u8 c.toNat] w (Ret (.bool (digitB c)) w):=by
 go_enter Tryz.func246,Tryz.ntmps246
 go_wp2
 all_goals go_ret
 all_goals (refine ret_bool ?_;rw [Bool.eq_iff_iff];simp [digitB];omega)

theorem lex_great (c:UInt8) (w:World):Calls Tryz.prog 245 #[.int .u8 c.toNat] w (Ret (.bool (greatB c)) w):=by
 go_enter Tryz.func245,Tryz.ntmps245
 go_wp2
 all_goals go_ret
 all_goals (refine ret_bool ?_;rw [Bool.eq_iff_iff];simp [greatB];omega)

theorem lex_inside (c:UInt8) (w:World):Calls Tryz.prog 166 #[.int .u8 c.toNat] w (Ret (.bool (insideB c)) w):=by
 go_enter Tryz.func166,Tryz.ntmps166
 go_wp2_with (first
  | (go_at_call 164;refine (lex_small c _).mono ?_;rintro e w' ⟨rfl,rfl⟩)
  | (go_at_call 245;refine (lex_great c _).mono ?_;rintro e w' ⟨rfl,rfl⟩)
  | (go_at_call 246;refine (lex_digit c _).mono ?_;rintro e w' ⟨rfl,rfl⟩))
 all_goals go_ret
 all_goals (refine ret_bool ?_;rw [Bool.eq_iff_iff];simp [insideB, *])
 all_goals omega
end Go.Proofs.YtpcmcfajfnpjeaaGreatDoor

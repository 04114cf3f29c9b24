/- . -/
import Derived.Test.YtdlkenpilhakfaaGreatDoorChecked
import Derived.Test.YtdlkenpilhakfaaGreatDoorQLexSpec
import Derived.WalkKit
import Derived.WalkSpells
import Derived.WalkLawsBesides
import Derived.Below
import Derived.Lib.Hide
set_option linter.unusedSimpArgs false
set_option linter.unusedVariables false
set_option maxHeartbeats 8000000
set_option maxRecDepth 20000
open Bool renaming eq_iff_iff->oX
open Go.Proofs.Tryz
namespace Go.Proofs.YtdlkenpilhakfaaGreatDoor
open Go.RowKit Go.Lamb
theorem lB(c:UInt8)(w:World):Calls prog 114 #[.int .u8 c.toNat] w (eL (.bool (jg c)) w):=by
 go_enter func114,ntmps114
 go_wp2
 all_goals go_ret
 all_goals (refine lC ?_;rw[oX];simp[jg];omega)
theorem kI(c:UInt8)(w:World):Calls prog 166 #[.int .u8 c.toNat] w (eL (.bool (cT c)) w):=by
 go_enter func166,ntmps166
 go_wp2
 all_goals go_ret
 all_goals (refine lC ?_;rw[oX];simp[cT];omega)
theorem qn(c:UInt8)(w:World):Calls prog 168 #[.int .u8 c.toNat] w (eL (.bool (mK c)) w):=by
 go_enter func168,ntmps168
 go_wp2
 all_goals go_ret
 all_goals (refine lC ?_;rw[oX];simp[mK];omega)
theorem Yw(c:UInt8)(w:World):Calls prog 116 #[.int .u8 c.toNat] w (eL (.bool (e7 c)) w):=by
 go_enter func116,ntmps116
 go_wp2_with (first
  |(go_at_call 114;refine(lB c _).mono ?_;rintro e w' ⟨rfl,rfl⟩)
  |(go_at_call 168;refine(qn c _).mono ?_;rintro e w' ⟨rfl,rfl⟩)
  |(go_at_call 166;refine(kI c _).mono ?_;rintro e w' ⟨rfl,rfl⟩))
 all_goals go_ret
 all_goals (refine lC ?_;rw[oX];simp[e7, *])
 all_goals omega
end Go.Proofs.YtdlkenpilhakfaaGreatDoor

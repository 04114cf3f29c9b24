/- . -/
import Derived.Test.YtdlkenpilhakfaaGreatDoorChecked
import Derived.Test.YtdlkenpilhakfaaGreatDoorQLexSpec
import Derived.WalkKit
import Derived.WalkSpells
import Derived.WalkLawsBesides
import Derived.Below
import Derived.Lib.Hide
set_option linter.unusedSimpArgs false
set_option linter.unusedVariables false
set_option maxHeartbeats 8000000
set_option maxRecDepth 20000
open Bool renaming eq_iff_iff->oV
open Go.Proofs.Tryz
namespace Go.Proofs.YtdlkenpilhakfaaGreatDoor
open Go.RowKit Go.Lamb
theorem lu(c:UInt8)(w:World):Calls prog 114 #[.int .u8 c.toNat] w (eP (.bool (jd c)) w):=by
 go_enter func114,ntmps114
 go_wp2
 all_goals go_ret
 all_goals (refine lx ?_;rw[oV];simp[jd];omega)
theorem kz(c:UInt8)(w:World):Calls prog 166 #[.int .u8 c.toNat] w (eP (.bool (cT c)) w):=by
 go_enter func166,ntmps166
 go_wp2
 all_goals go_ret
 all_goals (refine lx ?_;rw[oV];simp[cT];omega)
theorem qi(c:UInt8)(w:World):Calls prog 168 #[.int .u8 c.toNat] w (eP (.bool (my c)) w):=by
 go_enter func168,ntmps168
 go_wp2
 all_goals go_ret
 all_goals (refine lx ?_;rw[oV];simp[my];omega)
theorem Yh(c:UInt8)(w:World):Calls prog 116 #[.int .u8 c.toNat] w (eP (.bool (fb c)) w):=by
 go_enter func116,ntmps116
 go_wp2_with (first
  |(go_at_call 114;refine(lu c _).mono ?_;rintro e w' ⟨rfl,rfl⟩)
  |(go_at_call 168;refine(qi c _).mono ?_;rintro e w' ⟨rfl,rfl⟩)
  |(go_at_call 166;refine(kz c _).mono ?_;rintro e w' ⟨rfl,rfl⟩))
 all_goals go_ret
 all_goals (refine lx ?_;rw[oV];simp[fb, *])
 all_goals omega
end Go.Proofs.YtdlkenpilhakfaaGreatDoor

/- . -/
import Derived.Test.YtdlkenpilhakfaaGreatDoorQLexB
set_option linter.unusedSimpArgs false
set_option linter.unusedVariables false
set_option maxHeartbeats 8000000
set_option maxRecDepth 20000
open Go.Lib renaming hid->b9
open Go.Proofs.Tryz
namespace Go.Proofs.YtdlkenpilhakfaaGreatDoor
open Go.RowKit Go.Lamb
set_option maxHeartbeats 400000 in
theorem Td(s:ByteArray)(w:World)(hs:s.size<=maxLen):Calls prog 62 #[.string s] w (eP (.bool (l8 s.data.toList)) w):=by
 have HS:=b9 hs;cases hf:mz s.data.toList
 ·clear hs
  go_enter func62,ntmps62
  go_wp2_with (first
   |(go_at_call 113;refine(vF _ _ HS.out).mono ?_;rintro e w' ⟨rfl,rfl⟩))
  go_ret
  exact lx (by simp[l8,hf])
 ·have h0:=M5 hf;have h32:=M6 hf;have HH:=b9 (M7 (p:=jd) h0);clear hs;cases hm:jd s[0]
  ·go_enter func62,ntmps62
   go_wp2_with (first
    |(go_at_call 113;refine(vF _ _ HS.out).mono ?_;rintro e w' ⟨rfl,rfl⟩)
    |(go_at_call 114;refine(lu _ _).mono ?_;rintro e w' ⟨rfl,rfl⟩))
   go_ret
   exact lx (by simp[l8,HH.out,hm])
  ·go_enter func62,ntmps62
   go_wp2_with (first
    |(go_at_call 113;refine(vF _ _ HS.out).mono ?_;rintro e w' ⟨rfl,rfl⟩)
    |(go_at_call 114;refine(lu _ _).mono ?_;rintro e w' ⟨rfl,rfl⟩)
    |(go_at_call 115;refine(M3 _ _ HS.out).mono ?_;rintro e w' ⟨rfl,rfl⟩))
   go_ret
   refine lx ?_;rw[M8 fb s];simp[l8,HH.out,hm,hf]
set_option maxHeartbeats 400000 in
theorem contains_one(s:ByteArray)(w:World)(h:s.size=1):Calls prog 148 #[.string ⟨#[44,59,33]⟩,.string s] w (eP (.bool (zi kA.contains s.data.toList)) w):=by
 rw[M7 (p:=kA.contains) (show 0<s.size by omega)];have h1:=Yn h;have:=Tryz.strings_Contains_one ⟨#[44,59,33]⟩ s[0] w;rw[<-h1]at this;exact this.mono fun e w' ⟨he,hw⟩=>⟨by rw[he];congr 2;exact(Lib.contains_iff_indexByte kA s[0]).symm,hw.symm⟩
set_option maxHeartbeats 400000 in
theorem Te(s:ByteArray)(w:World)(hs:s.size<=maxLen):Calls prog 103 #[.string s] w (eP (.bool (rl s.data.toList)) w):=by
 have HS:=b9 hs;cases hf:mz s.data.toList
 ·clear hs
  go_enter func103,ntmps103
  go_wp2_with (first
   |(go_at_call 113;refine(vF _ _ HS.out).mono ?_;rintro e w' ⟨rfl,rfl⟩))
  go_ret
  exact lx (by simp[rl,hf])
 ·have h0:=M5 hf;have h32:=M6 hf;have HR:=b9 (M8 gK s);clear hs
  go_enter func103,ntmps103
  go_wp2_with (first
   |(go_at_call 113;refine(vF _ _ HS.out).mono ?_;rintro e w' ⟨rfl,rfl⟩)
   |(go_at_call 115;refine(M4 _ _ HS.out).mono ?_;rintro e w' ⟨rfl,rfl⟩)
   |(go_at_call 148;refine(contains_one _ _ (by omega)).mono ?_;rintro e w' ⟨rfl,rfl⟩))
  all_goals go_ret
  all_goals (refine lx ?_)
  all_goals (simp only[rl,<-HR.out,hf])
  all_goals (rw[Bool.eq_iff_iff];simp[*])
  all_goals omega
end Go.Proofs.YtdlkenpilhakfaaGreatDoor

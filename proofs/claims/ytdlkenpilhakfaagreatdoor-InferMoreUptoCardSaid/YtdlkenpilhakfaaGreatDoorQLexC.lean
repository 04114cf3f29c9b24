/- . -/
import Derived.Test.YtdlkenpilhakfaaGreatDoorQLexB
set_option linter.unusedSimpArgs false
set_option linter.unusedVariables false
set_option maxHeartbeats 8000000
set_option maxRecDepth 20000
open Go.Lib renaming hid->b9
open Go.Proofs.Tryz
namespace Go.Proofs.YtdlkenpilhakfaaGreatDoor
open Go.RowKit Go.Lamb
set_option maxHeartbeats 400000 in
theorem Tv(s:ByteArray)(w:World)(hs:s.size<=maxLen):Calls prog 62 #[.string s] w (eL (.bool (iD s.data.toList)) w):=by
 have HS:=b9 hs;cases hf:mL s.data.toList
 ·clear hs
  go_enter func62,ntmps62
  go_wp2_with (first
   |(go_at_call 113;refine(vJ _ _ HS.out).mono ?_;rintro e w' ⟨rfl,rfl⟩))
  go_ret
  exact lC (by simp[iD,hf])
 ·have h0:=No hf;have h32:=Np hf;have HH:=b9 (Nq (p:=jg) h0);clear hs;cases hm:jg s[0]
  ·go_enter func62,ntmps62
   go_wp2_with (first
    |(go_at_call 113;refine(vJ _ _ HS.out).mono ?_;rintro e w' ⟨rfl,rfl⟩)
    |(go_at_call 114;refine(lB _ _).mono ?_;rintro e w' ⟨rfl,rfl⟩))
   go_ret
   exact lC (by simp[iD,HH.out,hm])
  ·go_enter func62,ntmps62
   go_wp2_with (first
    |(go_at_call 113;refine(vJ _ _ HS.out).mono ?_;rintro e w' ⟨rfl,rfl⟩)
    |(go_at_call 114;refine(lB _ _).mono ?_;rintro e w' ⟨rfl,rfl⟩)
    |(go_at_call 115;refine(Nl _ _ HS.out).mono ?_;rintro e w' ⟨rfl,rfl⟩))
   go_ret
   refine lC ?_;rw[Ns e7 s];simp[iD,HH.out,hm,hf]
set_option maxHeartbeats 400000 in
theorem contains_one(s:ByteArray)(w:World)(h:s.size=1):Calls prog 148 #[.string ⟨#[44,59,33]⟩,.string s] w (eL (.bool (zx kJ.contains s.data.toList)) w):=by
 rw[Nq (p:=kJ.contains) (show 0<s.size by omega)];have h1:=YC h;have:=Tryz.strings_Contains_one ⟨#[44,59,33]⟩ s[0] w;rw[<-h1]at this;exact this.mono fun e w' ⟨he,hw⟩=>⟨by rw[he];congr 2;exact(Lib.contains_iff_indexByte kJ s[0]).symm,hw.symm⟩
set_option maxHeartbeats 400000 in
theorem Tw(s:ByteArray)(w:World)(hs:s.size<=maxLen):Calls prog 103 #[.string s] w (eL (.bool (ll s.data.toList)) w):=by
 have HS:=b9 hs;cases hf:mL s.data.toList
 ·clear hs
  go_enter func103,ntmps103
  go_wp2_with (first
   |(go_at_call 113;refine(vJ _ _ HS.out).mono ?_;rintro e w' ⟨rfl,rfl⟩))
  go_ret
  exact lC (by simp[ll,hf])
 ·have h0:=No hf;have h32:=Np hf;have HR:=b9 (Ns gL s);clear hs
  go_enter func103,ntmps103
  go_wp2_with (first
   |(go_at_call 113;refine(vJ _ _ HS.out).mono ?_;rintro e w' ⟨rfl,rfl⟩)
   |(go_at_call 115;refine(Nn _ _ HS.out).mono ?_;rintro e w' ⟨rfl,rfl⟩)
   |(go_at_call 148;refine(contains_one _ _ (by omega)).mono ?_;rintro e w' ⟨rfl,rfl⟩))
  all_goals go_ret
  all_goals (refine lC ?_)
  all_goals (simp only[ll,<-HR.out,hf])
  all_goals (rw[Bool.eq_iff_iff];simp[*])
  all_goals omega
end Go.Proofs.YtdlkenpilhakfaaGreatDoor

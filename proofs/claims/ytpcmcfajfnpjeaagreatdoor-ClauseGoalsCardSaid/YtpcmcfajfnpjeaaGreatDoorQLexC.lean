/- . -/
import Derived.Test.YtpcmcfajfnpjeaaGreatDoorQLexB
set_option linter.unusedSimpArgs false
set_option linter.unusedVariables false
set_option maxHeartbeats 8000000
set_option maxRecDepth 20000
namespace Go.Proofs.YtpcmcfajfnpjeaaGreatDoor
open Go.RowKit Go.Lamb

set_option maxHeartbeats 400000 in
theorem lex_IsName (s:ByteArray) (w:World) (hs:s.size ≤ maxLen):Calls Tryz.prog 75 #[.string s] w (Ret (.bool (isNameB s.data.toList)) w):=by
 have HS:=Lib.hid hs
 cases hf:fitsB s.data.toList
 ·clear hs
  go_enter Tryz.func75,Tryz.ntmps75
  go_wp2_with (first
   | (go_at_call 163;refine (lex_fits _ _ HS.out).mono ?_;rintro e w' ⟨rfl,rfl⟩))
  go_ret
  exact ret_bool (by simp [isNameB,hf])
 ·have h0:=fits_pos hf
  have h32:=fits_le hf
  have HH:=Lib.hid (headB_eq (p:=smallB) h0)
  clear hs
  cases hm:smallB s[0]
  ·go_enter Tryz.func75,Tryz.ntmps75
   go_wp2_with (first
    | (go_at_call 163;refine (lex_fits _ _ HS.out).mono ?_;rintro e w' ⟨rfl,rfl⟩)
    | (go_at_call 164;refine (lex_small _ _).mono ?_;rintro e w' ⟨rfl,rfl⟩))
   go_ret
   exact ret_bool (by simp [isNameB,HH.out,hm])
  ·go_enter Tryz.func75,Tryz.ntmps75
   go_wp2_with (first
    | (go_at_call 163;refine (lex_fits _ _ HS.out).mono ?_;rintro e w' ⟨rfl,rfl⟩)
    | (go_at_call 164;refine (lex_small _ _).mono ?_;rintro e w' ⟨rfl,rfl⟩)
    | (go_at_call 165;refine (run_inside _ _ HS.out).mono ?_;rintro e w' ⟨rfl,rfl⟩))
   go_ret
   refine ret_bool ?_;rw [runLen_eq insideB s]
   simp [isNameB,HH.out,hm,hf]

set_option maxHeartbeats 400000 in
theorem contains_one (s:ByteArray) (w:World) (h:s.size = 1):Calls Tryz.prog 168 #[.string ⟨#[44,59,33]⟩,.string s] w (Ret (.bool (headB singles.contains s.data.toList)) w):=by
 rw [headB_eq (p:=singles.contains) (show 0 < s.size by omega)]
 have h1:=one_byte h
 have:=Tryz.strings_Contains_one ⟨#[44,59,33]⟩ s[0] w
 rw [← h1] at this
 exact this.mono fun e w' ⟨he,hw⟩=>⟨by rw [he];congr 2;exact (Lib.contains_iff_indexByte singles s[0]).symm,hw.symm⟩

set_option maxHeartbeats 400000 in
theorem lex_IsSym (s:ByteArray) (w:World) (hs:s.size ≤ maxLen):Calls Tryz.prog 76 #[.string s] w (Ret (.bool (isSymB s.data.toList)) w):=by
 have HS:=Lib.hid hs
 cases hf:fitsB s.data.toList
 ·clear hs
  go_enter Tryz.func76,Tryz.ntmps76
  go_wp2_with (first
   | (go_at_call 163;refine (lex_fits _ _ HS.out).mono ?_;rintro e w' ⟨rfl,rfl⟩))
  go_ret
  exact ret_bool (by simp [isSymB,hf])
 ·have h0:=fits_pos hf
  have h32:=fits_le hf
  have HR:=Lib.hid (runLen_eq signB s)
  clear hs
  go_enter Tryz.func76,Tryz.ntmps76
  go_wp2_with (first
   | (go_at_call 163;refine (lex_fits _ _ HS.out).mono ?_;rintro e w' ⟨rfl,rfl⟩)
   | (go_at_call 165;refine (run_sign _ _ HS.out).mono ?_;rintro e w' ⟨rfl,rfl⟩)
   | (go_at_call 168;refine (contains_one _ _ (by omega)).mono ?_;rintro e w' ⟨rfl,rfl⟩))
  all_goals go_ret
  all_goals (refine ret_bool ?_)
  all_goals (simp only [isSymB,← HR.out,hf])
  all_goals (rw [Bool.eq_iff_iff];simp [*])
  all_goals omega
end Go.Proofs.YtpcmcfajfnpjeaaGreatDoor

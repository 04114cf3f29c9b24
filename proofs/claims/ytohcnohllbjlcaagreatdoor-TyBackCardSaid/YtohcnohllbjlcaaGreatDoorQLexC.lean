/-
  Walks: names, variables, symbols.
-/
import Derived.Test.YtohcnohllbjlcaaGreatDoorQLexB
set_option linter.unusedSimpArgs false
set_option linter.unusedVariables false
set_option maxHeartbeats 8000000
set_option maxRecDepth 20000
namespace Go.Proofs.YtohcnohllbjlcaaGreatDoor
open Go.RowKit Go.Lamb

set_option maxHeartbeats 400000 in
theorem lex_IsName (s : ByteArray) (w : World) (hs : s.size ≤ maxLen) : Calls Tryz.prog 59 #[.string s] w (Ret (.bool (isNameB s.data.toList)) w) := by
  have HS := Lib.hid hs
  cases hf : fitsB s.data.toList
  · clear hs
    go_enter Tryz.func59, Tryz.ntmps59
    go_wp2_with (first
        | (go_at_call 108; refine (lex_fits _ _ HS.out).mono ?_; rintro e w' ⟨rfl, rfl⟩))
    go_ret
    exact ret_bool (by simp [isNameB, hf])
  · have h0 := fits_pos hf
    have h32 := fits_le hf
    have HH := Lib.hid (headB_eq (p := smallB) h0)
    clear hs
    cases hm : smallB s[0]
    · go_enter Tryz.func59, Tryz.ntmps59
      go_wp2_with (first
        | (go_at_call 108; refine (lex_fits _ _ HS.out).mono ?_; rintro e w' ⟨rfl, rfl⟩)
        | (go_at_call 109; refine (lex_small _ _).mono ?_; rintro e w' ⟨rfl, rfl⟩))
      go_ret
      exact ret_bool (by simp [isNameB, HH.out, hm])
    · go_enter Tryz.func59, Tryz.ntmps59
      go_wp2_with (first
        | (go_at_call 108; refine (lex_fits _ _ HS.out).mono ?_; rintro e w' ⟨rfl, rfl⟩)
        | (go_at_call 109; refine (lex_small _ _).mono ?_; rintro e w' ⟨rfl, rfl⟩)
        | (go_at_call 110; refine (run_inside _ _ HS.out).mono ?_; rintro e w' ⟨rfl, rfl⟩))
      go_ret
      refine ret_bool ?_
      rw [runLen_eq insideB s]
      simp [isNameB, HH.out, hm, hf]

end Go.Proofs.YtohcnohllbjlcaaGreatDoor

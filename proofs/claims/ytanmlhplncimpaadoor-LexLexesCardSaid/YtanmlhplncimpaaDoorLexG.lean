/-
  Walks: how a token is written.
-/
import Derived.Test.YtanmlhplncimpaaDoorLexF
import Derived.Lib.AppendIntMem
namespace Go.Proofs.YtanmlhplncimpaaDoor
open Go.RowKit Go.Lamb

theorem itoaC (n : Int) (w : World) (h0 : -9223372036854775808 ≤ n) (h1 : n ≤ 9223372036854775807) (hG : Glob w) :
    Calls Tryd.prog 36 #[.int .i64 n] w (RetB (.string (bs (Lib.itoa n))) w) :=
  (Tryd.strconv_Itoa n h0 h1 w hG.pow10).mono fun _ _ ⟨he, k, os, hw⟩ => ⟨he, by rw [hw]; exact Go.Lib.below_grow _ _ (Nat.le_refl _) _ _⟩

/-- A token as a value. -/
def tokV (kind : Int) (text : List UInt8) (n pos : Int) : Value := .agg #[.int .i64 kind, .string (bs text), .int .i64 n, .int .i64 pos]
attribute [local go_sem] tokV
set_option maxHeartbeats 1000000 in
theorem lex_Text (kind : Int) (text : List UInt8) (n pos : Int) (w : World) (hn : n ≤ 9223372036854775807) (hG : Glob w) :
    Calls Tryd.prog 19 #[tokV kind text n pos] w (RetB (.string (bs (textL kind text n))) w) := by
  have HG := Lib.hid hG
  clear hG
  go_enter Tryd.func19, Tryd.ntmps19
  go_wp2_with (first
        | (go_at_call 36; refine (itoaC _ _ (by omega) (by omega) (HG.out.ext (Below.alloc (Below.refl _ _) (Nat.le_refl _) _))).mono ?_; rintro e w1 ⟨rfl, hb1⟩; have HB1 := Lib.hid (after (w := w) (by go_grown) hb1); clear hb1))
  all_goals go_ret
  all_goals refine ⟨?_, by first | exact HB1.out | go_grown⟩
  all_goals simp [textL, bs, *]
end Go.Proofs.YtanmlhplncimpaaDoor

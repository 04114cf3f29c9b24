/-
  Plain: two texts with a blank between them.
-/
import Derived.Test.YtplgnfciipceiaaGreatDoorQLexPl
set_option linter.unusedSimpArgs false
set_option linter.unusedVariables false
set_option maxHeartbeats 8000000
set_option maxRecDepth 20000
namespace Go.Lamb
open Go Go.RowKit

def Tok.shift (K : Nat) (t : Tok) : Tok := ⟨t.kind, t.text, t.n, t.pos + K⟩
def LexR.shift (K : Nat) (r : LexR) : LexR := ⟨r.toks.map (Tok.shift K), r.err, if r.err = 0 then 0 else r.pos + K⟩
theorem one_kind {l : List UInt8} (h : l ≠ []) (he : (oneL l).err = 0) : (oneL l).kind ≠ 0 := fun e => h ((one_text he).1.1 e)
theorem lexAt_nil (N : Nat) : lexAt N [] = ⟨[tokAt N []], 0, 0⟩ := by rw [lexAt_eq]; simp [oneL]
theorem lexF_count (N : Nat) : ∀ (f : Nat) (l : List UInt8), (lexF N f l).toks.length ≤ l.length + 1
  | 0, l => by simp [lexF]
  | f + 1, l => by
    simp only [lexF]
    by_cases he : (oneL l).err = 0
    · by_cases hk : (oneL l).kind = 0
      · simp [he, hk]
      · have h1 := next_lt he hk
        have h2 := lexF_count N f (skipL false (l.drop (oneL l).len))
        simp only [he, hk, ne_eq, not_true, if_false]
        unfold LexR.cons
        split
        · simp only [List.length_cons]
          omega
        · simp
    · simp [he]
theorem lexL_count (l : List UInt8) : (lexL l).toks.length ≤ l.length + 1 := by
  unfold lexL
  split
  · simp
  · have h1 := skipL_le false l
    have h2 := lexF_count l.length ((skipL false l).length + 1) (skipL false l)
    unfold lexAt
    omega
end Go.Lamb

/-
  Plain: tokens written one behind the other, a blank behind each, read the same.
-/
import Derived.Test.YtpcmcfajfnpjeaaGreatDoorQLexGl
set_option linter.unusedSimpArgs false
set_option linter.unusedVariables false
set_option maxHeartbeats 8000000
set_option maxRecDepth 20000
namespace Go.Lamb
open Go Go.RowKit

theorem dig_toNat {i : Nat} (h : i < 10) : (UInt8.ofNat (48 + i)).toNat = 48 + i := by
  rw [UInt8.toNat_ofNat']
  omega
theorem dec_val : ∀ u : Nat, decVal (Lib.decDigits u) = u := by
  intro u
  induction u using Nat.strongRecOn with
  | _ u ih =>
    by_cases h : u < 10
    · rw [Lib.decDigits_one h]
      unfold decVal
      rw [decFrom_cons, decFrom_nil, dig_toNat h]
      omega
    · rw [Lib.decDigits, dif_neg h]
      have h1 := ih (u / 10) (by omega)
      unfold decVal decFrom at h1 ⊢
      rw [List.foldl_append, h1, List.foldl_cons, List.foldl_nil, dig_toNat (by omega)]
      omega
theorem nDigits_le : ∀ (k u : Nat), u < 10 ^ (k + 1) → Lib.nDigits u ≤ k + 1
  | 0, u, h => by rw [Lib.nDigits_small (by simpa using h)]; omega
  | k + 1, u, h => by
    by_cases hu : u < 10
    · rw [Lib.nDigits_small hu]; omega
    · rw [Lib.nDigits_big hu]
      have := nDigits_le k (u / 10) (by
        rw [Nat.pow_succ] at h
        omega)
      omega
end Go.Lamb

/-
  Plain: tokens written one behind the other, a blank behind each, read the same.
-/
import Derived.Test.YtljjlhdkkbaehaaGreatDoorQLexGl
set_option linter.unusedSimpArgs false
set_option linter.unusedVariables false
set_option maxHeartbeats 8000000
set_option maxRecDepth 20000
namespace Go.Lamb
open Go Go.RowKit

theorem dig_toNat {i : Nat} (h : i < 10) : (UInt8.ofNat (48 + i)).toNat = 48 + i := by
  rw [UInt8.toNat_ofNat']
  omega
theorem dec_all : ∀ u : Nat, (Lib.decDigits u).all digitB = true := by
  intro u
  induction u using Nat.strongRecOn with
  | _ u ih =>
    by_cases h : u < 10
    · rw [Lib.decDigits_one h]
      simp [digitB]
      omega
    · rw [Lib.decDigits, dif_neg h, List.all_append, ih (u / 10) (by omega)]
      simp [digitB]
      omega
theorem dec_val : ∀ u : Nat, decVal (Lib.decDigits u) = u := by
  intro u
  induction u using Nat.strongRecOn with
  | _ u ih =>
    by_cases h : u < 10
    · rw [Lib.decDigits_one h]
      unfold decVal
      rw [decFrom_cons, decFrom_nil, dig_toNat h]
      omega
    · rw [Lib.decDigits, dif_neg h]
      have h1 := ih (u / 10) (by omega)
      unfold decVal decFrom at h1 ⊢
      rw [List.foldl_append, h1, List.foldl_cons, List.foldl_nil, dig_toNat (by omega)]
      omega
theorem head_ok {c : UInt8} {l : List UInt8} (he : (oneL (c :: l)).err = 0) : blanks.contains c = false ∧ (c == 37) = false := by
  have no : ∀ d : UInt8, markN d = 0 → digitB d = false → smallB d = false → greatB d = false → signB d = false → singles.contains d = false → (oneL (d :: l)).err = 10 := by
    intro d h1 h2 h3 h4 h5 h6
    simp only [oneL, h1, h2, h3, h4, h5, h6, ne_eq, not_true, if_false, Bool.false_eq_true]
  constructor
  · rw [Bool.eq_false_iff]
    intro h
    simp [blanks] at h
    rcases h with rfl | rfl | rfl | rfl
    all_goals rw [no _ (by decide) (by decide) (by decide) (by decide) (by decide) (by decide)] at he
    all_goals simp at he
  · rw [Bool.eq_false_iff]
    intro h
    obtain rfl := beq_iff_eq.1 h
    rw [no _ (by decide) (by decide) (by decide) (by decide) (by decide) (by decide)] at he
    simp at he
/-- Written and read again, it is the same. -/
structure Relex (t : Tok) : Prop where
  one : ∀ r, oneL (t.w ++ 32 :: r) = ⟨t.kind, t.text, t.n, t.w.length, 0⟩
  ne : t.w ≠ []
  kind : t.kind ≠ 0
theorem Relex.skip {t : Tok} (h : Relex t) (r : List UInt8) : skipL false (t.w ++ 32 :: r) = t.w ++ 32 :: r := by
  have h1 := h.one r
  have h2 := h.ne
  generalize t.w = w at h1 h2 ⊢
  cases w with
  | nil => exact absurd rfl h2
  | cons c w =>
    have := head_ok (c := c) (l := w ++ 32 :: r) (by rw [show c :: (w ++ 32 :: r) = c :: w ++ 32 :: r from rfl, h1])
    simp only [List.cons_append, skipL, this.1, this.2, Bool.false_eq_true, if_false]
theorem digit_mark {c : UInt8} (h : digitB c = true) : markN c = 0 := by
  have h := digitB_iff.1 h
  unfold markN
  rw [if_neg (by simp; omega), if_neg (by simp; omega), if_neg (by simp; omega), if_neg (by simp; omega)]
def Tok.key (t : Tok) : Int × List UInt8 × Int := (t.kind, t.text, t.n)
theorem skip_blank (l : List UInt8) : skipL false (32 :: l) = skipL false l := by simp [skipL, blanks]
end Go.Lamb

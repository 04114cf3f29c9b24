/-
  Plain: two texts with an end of a line between them.
-/
import Derived.Test.YtlogjjnimlnpkaaGreatDoorQLexGl
set_option linter.unusedSimpArgs false
set_option linter.unusedVariables false
set_option maxHeartbeats 8000000
set_option maxRecDepth 20000
namespace Go.Lamb
open Go Go.RowKit

theorem run_glueN {p : UInt8 → Bool} (h : p 10 = false) : ∀ u b : List UInt8, runLen p (u ++ 10 :: b) = runLen p u
  | [], b => by simp [runLen, h]
  | c :: u, b => by simp only [List.cons_append, runLen, run_glueN h u b]
theorem one_glueN {u b : List UInt8} (hu : u ≠ []) : oneL (u ++ 10 :: b) = oneL u := by
  cases u with
  | nil => exact absurd rfl hu
  | cons c u =>
    have e : c :: u ++ 10 :: b = c :: (u ++ 10 :: b) := rfl
    have r1 := run_glueN (p := digitB) (by decide) (c :: u) b
    have r2 := run_glueN (p := insideB) (by decide) (c :: u) b
    have r3 := run_glueN (p := signB) (by decide) (c :: u) b
    have t1 : (c :: u ++ 10 :: b).take (runLen digitB (c :: u)) = (c :: u).take (runLen digitB (c :: u)) := List.take_append_of_le_length (runLen_le _ _)
    have t2 : (c :: u ++ 10 :: b).take (runLen insideB (c :: u)) = (c :: u).take (runLen insideB (c :: u)) := List.take_append_of_le_length (runLen_le _ _)
    have t3 : (c :: u ++ 10 :: b).take (runLen signB (c :: u)) = (c :: u).take (runLen signB (c :: u)) := List.take_append_of_le_length (runLen_le _ _)
    have t4 : (c :: u ++ 10 :: b).take 1 = (c :: u).take 1 := List.take_append_of_le_length (by simp)
    rw [e] at r1 r2 r3 t1 t2 t3 t4 ⊢
    simp only [oneL, numR, wordR, r1, r2, r3, t1, t2, t3, t4]
theorem skip_glueN (b : List UInt8) : ∀ (u : List UInt8) (q : Bool), skipL q (u ++ 10 :: b) = if skipL q u = [] then skipL false b else skipL q u ++ 10 :: b
  | [], q => by cases q <;> simp [skipL, blanks]
  | c :: u, true => by
    simp only [List.cons_append, skipL]
    split
    · exact skip_glueN b u false
    · exact skip_glueN b u true
  | c :: u, false => by
    simp only [List.cons_append, skipL]
    split
    · exact skip_glueN b u false
    · split
      · exact skip_glueN b u true
      · simp
theorem lex_glueN (a b : List UInt8) : ∀ (m : Nat) (u : List UInt8), u.length ≤ m → u.length ≤ a.length →
    ((lexAt a.length (skipL false u)).err = 0 → (lexAt a.length (skipL false u)).toks ≠ []) ∧
    lexAt (b.length + (a.length + 1)) (skipL false (u ++ 10 :: b)) = if (lexAt a.length (skipL false u)).err = 0 then (lexAt (b.length + (a.length + 1)) (skipL false b)).after (lexAt a.length (skipL false u)).toks.dropLast
      else ⟨[], (lexAt a.length (skipL false u)).err, (lexAt a.length (skipL false u)).pos⟩ := by
  intro m
  induction m with
  | zero =>
    intro u hm _
    obtain rfl : u = [] := List.eq_nil_of_length_eq_zero (by omega)
    have e : skipL false ([] : List UInt8) = [] := by simp [skipL]
    rw [skip_glueN b [] false, e, lexAt_nil, if_pos rfl, if_pos rfl]
    simp [lexAt_after]
  | succ m ih =>
    intro u hm ha
    have hv := skipL_le false u
    rw [skip_glueN b u false]
    generalize skipL false u = v at hv ⊢
    by_cases hn : v = []
    · subst hn
      rw [lexAt_nil, if_pos rfl, if_pos rfl]
      simp [lexAt_after]
    · rw [if_neg hn]
      have hone := one_glueN (b := b) hn
      have hl : 0 < v.length := List.length_pos_iff.2 hn
      rw [lexAt_eq _ (v ++ 10 :: b), lexAt_eq _ v, hone]
      by_cases he : (oneL v).err = 0
      · have hk := one_kind hn he
        have hp := one_pos he hk
        have hle := @one_len v
        have hd : (v ++ 10 :: b).drop (oneL v).len = v.drop (oneL v).len ++ 10 :: b := List.drop_append_of_le_length hle
        obtain ⟨i1, i2⟩ := ih (v.drop (oneL v).len) (by rw [List.length_drop]; omega) (by rw [List.length_drop]; omega)
        have ht : tokAt (b.length + (a.length + 1)) (v ++ 10 :: b) = tokAt a.length v := by
          simp only [tokAt, hone, Tok.mk.injEq, true_and, List.length_append, List.length_cons]
          omega
        rw [if_neg (by simp [he]), if_neg hk, if_neg (by simp [he]), if_neg hk, hd, i2, ht]
        generalize lexAt a.length (skipL false (v.drop (oneL v).len)) = r at i1 ⊢
        by_cases hr : r.err = 0
        · refine ⟨fun _ => by simp [LexR.cons, hr], ?_⟩
          rw [if_pos hr, after_consd]
          have hne := i1 hr
          simp only [LexR.cons, hr, if_true]
          rw [List.dropLast_cons_of_ne_nil hne]
        · refine ⟨fun h => ?_, ?_⟩
          · simp [LexR.cons, hr] at h
          · simp [LexR.cons, hr]
      · rw [if_pos he, if_pos he]
        refine ⟨fun h => absurd h he, ?_⟩
        simp only [if_neg he, LexR.mk.injEq, true_and, List.length_append, List.length_cons]
        omega
/-- What the two together are. -/
theorem glueN_lexL {a b : List UInt8} (ha : a.length ≤ 2048) (hb : b.length ≤ 2048) : lexL (a ++ 10 :: b) =
    if (lexL a).err = 0 then ((lexL b).shift (a.length + 1)).after (lexL a).toks.dropLast else ⟨[], (lexL a).err, (lexL a).pos⟩ := by
  have hs := skipL_le false b
  have eA : lexL a = lexAt a.length (skipL false a) := if_neg (by omega)
  have eB : lexL b = lexAt b.length (skipL false b) := if_neg (by omega)
  have eC : lexL (a ++ 10 :: b) = lexAt (b.length + (a.length + 1)) (skipL false (a ++ 10 :: b)) := by
    unfold lexL
    rw [if_neg (by simp; omega)]
    congr 1
    simp
    omega
  rw [eA, eB, eC, ← lexAt_shift _ _ hs]
  exact (lex_glueN a b a.length a (Nat.le_refl _) (Nat.le_refl _)).2
end Go.Lamb

/-
  Plain: texts made of words, and their tokens.
-/
import Derived.Test.YtplgnfciipceiaaGreatDoorQLexBk
import Derived.Test.YtplgnfciipceiaaGreatDoorQJ11
set_option linter.unusedSimpArgs false
set_option linter.unusedVariables false
set_option maxHeartbeats 8000000
set_option maxRecDepth 20000
namespace Go.Lamb
open Go Go.RowKit

abbrev Key := Int × List UInt8 × Int
def LX (u : List UInt8) (ks : List Key) : Prop := ∀ N, (lexAt N (skipL false u)).err = 0 ∧ (lexAt N (skipL false u)).toks.map Tok.key = ks
theorem lx_nil : LX [] [(0, [], 0)] := fun N => by
  have : skipL false [] = [] := rfl
  rw [this, lexAt_nil]
  exact ⟨rfl, rfl⟩
theorem lx_blank {u : List UInt8} {ks : List Key} (h : LX u ks) : LX (32 :: u) ks := fun N => by rw [skip_blank]; exact h N
theorem lx_one {w r : List UInt8} {kind : Int} {text : List UInt8} {ks : List Key} (hs : skipL false (w ++ r) = w ++ r) (h1 : oneL (w ++ r) = ⟨kind, text, 0, w.length, 0⟩) (hk : kind ≠ 0) (h : LX r ks) : LX (w ++ r) ((kind, text, 0) :: ks) := fun N => by
  obtain ⟨i1, i2⟩ := h N
  rw [hs, lexAt_eq, h1]
  have hd : (w ++ r).drop w.length = r := List.drop_left
  simp only [ne_eq, not_true, if_false, hk, hd]
  unfold LexR.cons
  rw [if_pos i1]
  refine ⟨rfl, ?_⟩
  rw [List.map_cons, i2]
  simp [tokAt, h1, Tok.key]
theorem small_not {c : UInt8} (h : smallB c = true) : blanks.contains c = false ∧ (c == 37) = false ∧ markN c = 0 ∧ digitB c = false := by
  simp only [smallB, Bool.and_eq_true, decide_eq_true_eq] at h
  have hne : ∀ k : Nat, k < 97 → (c.toNat : Int) ≠ (k : Int) := fun k hk => by omega
  refine ⟨?_, ?_, ?_, ?_⟩
  · simp only [blanks, List.contains_cons, List.contains_nil, Bool.or_false, Bool.or_eq_false_iff, beq_eq_false_iff_ne, ne_eq]
    refine ⟨fun e => ?_, fun e => ?_, fun e => ?_, fun e => ?_⟩ <;> (rw [e] at h; revert h; decide)
  · simp only [beq_eq_false_iff_ne, ne_eq]
    intro e; rw [e] at h; revert h; decide
  · unfold markN
    have h0 := hne 40 (by decide); have h1 := hne 41 (by decide); have h2 := hne 46 (by decide); have h3 := hne 92 (by decide)
    simp only [beq_iff_eq]
    rw [if_neg (by simpa using h0), if_neg (by simpa using h1), if_neg (by simpa using h2), if_neg (by simpa using h3)]
  · simp only [digitB, Bool.and_eq_false_iff, decide_eq_false_iff_not]
    right; omega
theorem great_not {c : UInt8} (h : greatB c = true) : blanks.contains c = false ∧ (c == 37) = false ∧ markN c = 0 ∧ digitB c = false ∧ smallB c = false := by
  simp only [greatB, Bool.or_eq_true, Bool.and_eq_true, decide_eq_true_eq] at h
  have hne : ∀ k : Nat, k < 65 ∨ k = 92 → (c.toNat : Int) ≠ (k : Int) := fun k hk => by omega
  refine ⟨?_, ?_, ?_, ?_, ?_⟩
  · simp only [blanks, List.contains_cons, List.contains_nil, Bool.or_false, Bool.or_eq_false_iff, beq_eq_false_iff_ne, ne_eq]
    refine ⟨fun e => ?_, fun e => ?_, fun e => ?_, fun e => ?_⟩ <;> (rw [e] at h; revert h; decide)
  · simp only [beq_eq_false_iff_ne, ne_eq]
    intro e; rw [e] at h; revert h; decide
  · unfold markN
    have h0 := hne 40 (by decide); have h1 := hne 41 (by decide); have h2 := hne 46 (by decide); have h3 := hne 92 (by decide)
    simp only [beq_iff_eq]
    rw [if_neg (by simpa using h0), if_neg (by simpa using h1), if_neg (by simpa using h2), if_neg (by simpa using h3)]
  · simp only [digitB, Bool.and_eq_false_iff, decide_eq_false_iff_not]
    right; omega
  · simp only [smallB, Bool.and_eq_false_iff, decide_eq_false_iff_not]
    left; omega
def Dlm (r : List UInt8) : Prop := ∀ c l, r = c :: l → insideB c = false
theorem run_dlm {r : List UInt8} (h : Dlm r) : ∀ u : List UInt8, u.all insideB = true → runLen insideB (u ++ r) = u.length
  | [], _ => by
    cases r with
    | nil => rfl
    | cons c l => simp [runLen, h c l rfl]
  | c :: u, hu => by
    rw [List.all_cons, Bool.and_eq_true] at hu
    simp only [List.cons_append, runLen, hu.1, if_true, run_dlm h u hu.2, List.length_cons]
theorem lx_name {w r : List UInt8} {ks : List Key} (hw : isNameB w = true) (hr : Dlm r) (h : LX r ks) : LX (w ++ r) ((1, w, 0) :: ks) := by
  simp only [isNameB, Bool.and_eq_true, fitsB, decide_eq_true_eq] at hw
  obtain ⟨⟨⟨h1, h2⟩, h3⟩, h4⟩ := hw
  cases w with
  | nil => exact absurd rfl h1
  | cons c u =>
    have h3' : smallB c = true := h3
    obtain ⟨q1, q2, q3, q4⟩ := small_not h3'
    have hrun := run_dlm hr (c :: u) h4
    refine lx_one ?_ ?_ (by decide) h
    · simp only [List.cons_append, skipL, q1, q2, Bool.false_eq_true, if_false]
    · simp only [List.cons_append, oneL, q3, q4, h3', Bool.false_eq_true, if_false, if_true, ne_eq, not_true]
      rw [List.cons_append] at hrun
      rw [hrun]
      unfold wordR
      rw [if_neg (by omega)]
      have : (c :: (u ++ r)).take (c :: u).length = c :: u := by
        rw [← List.cons_append]; exact List.take_left
      rw [this]
theorem lx_var {w r : List UInt8} {ks : List Key} (hw : isVarB w = true) (hr : Dlm r) (h : LX r ks) : LX (w ++ r) ((2, w, 0) :: ks) := by
  simp only [isVarB, Bool.and_eq_true, fitsB, decide_eq_true_eq] at hw
  obtain ⟨⟨⟨h1, h2⟩, h3⟩, h4⟩ := hw
  cases w with
  | nil => exact absurd rfl h1
  | cons c u =>
    have h3' : greatB c = true := h3
    obtain ⟨q1, q2, q3, q4, q5⟩ := great_not h3'
    have hrun := run_dlm hr (c :: u) h4
    refine lx_one ?_ ?_ (by decide) h
    · simp only [List.cons_append, skipL, q1, q2, Bool.false_eq_true, if_false]
    · simp only [List.cons_append, oneL, q3, q4, q5, h3', Bool.false_eq_true, if_false, if_true, ne_eq, not_true]
      rw [List.cons_append] at hrun
      rw [hrun]
      unfold wordR
      rw [if_neg (by omega)]
      have : (c :: (u ++ r)).take (c :: u).length = c :: u := by
        rw [← List.cons_append]; exact List.take_left
      rw [this]
theorem lx_open {r : List UInt8} {ks : List Key} (h : LX r ks) : LX (40 :: r) ((5, [], 0) :: ks) := lx_one (w := [40]) rfl rfl (by decide) h
theorem lx_close {r : List UInt8} {ks : List Key} (h : LX r ks) : LX (41 :: r) ((6, [], 0) :: ks) := lx_one (w := [41]) rfl rfl (by decide) h
def brK (ks : List Key) (b : Bool) : List Key := if b then (5, [], 0) :: (ks ++ [(6, [], 0)]) else ks
theorem dlm_32 (r : List UInt8) : Dlm (32 :: r) := fun c l h => by injection h with h _; subst h; rfl
theorem dlm_41 (r : List UInt8) : Dlm (41 :: r) := fun c l h => by injection h with h _; subst h; rfl
/-! ### places -/
theorem tokL_here {t : List Tok} {i : Nat} (h : i < t.length) : tokL t i = t[i] := by rw [tokL, List.getElem?_eq_getElem h]; rfl
def KAt (t : List Tok) (i : Nat) (ks : List Key) : Prop := (t.drop i).map Tok.key = ks
theorem KAt.cons {t : List Tok} {i : Nat} {k : Key} {ks : List Key} (h : KAt t i (k :: ks)) : (tokL t i).key = k ∧ i < t.length ∧ KAt t (i + 1) ks := by
  unfold KAt at h ⊢
  have hl : i < t.length := by
    rcases Nat.lt_or_ge i t.length with h' | h'
    · exact h'
    · rw [List.drop_eq_nil_of_le h'] at h; cases h
  rw [List.drop_eq_getElem_cons hl, List.map_cons] at h
  injection h with h1 h2
  rw [tokL_here hl]
  exact ⟨h1, hl, h2⟩
theorem KAt.app {t : List Tok} : ∀ {ks : List Key} {i : Nat} {rest : List Key}, KAt t i (ks ++ rest) → KAt t (i + ks.length) rest
  | [], i, rest, h => h
  | k :: ks, i, rest, h => by
    have h1 := (KAt.cons (ks := ks ++ rest) h).2.2.app
    rw [List.length_cons]
    rwa [show i + (ks.length + 1) = i + 1 + ks.length by omega]
theorem KAt.of {t : List Tok} {ks : List Key} (h : t.map Tok.key = ks) : KAt t 0 ks := h
theorem key_kind {x : Tok} {k : Key} (h : x.key = k) : x.kind = k.1 ∧ x.text = k.2.1 := by subst h; exact ⟨rfl, rfl⟩
end Go.Lamb

/-
  Plain: two texts with a blank between them.
-/
import Derived.Test.YtpgkhkojjklakaaGreatDoorQLexPl
set_option linter.unusedSimpArgs false
set_option linter.unusedVariables false
set_option maxHeartbeats 8000000
set_option maxRecDepth 20000
namespace Go.Lamb
open Go Go.RowKit

theorem run_glue {p : UInt8 → Bool} (h : p 32 = false) : ∀ u b : List UInt8, runLen p (u ++ 32 :: b) = runLen p u
  | [], b => by simp [runLen, h]
  | c :: u, b => by simp only [List.cons_append, runLen, run_glue h u b]
theorem one_glue {u b : List UInt8} (hu : u ≠ []) : oneL (u ++ 32 :: b) = oneL u := by
  cases u with
  | nil => exact absurd rfl hu
  | cons c u =>
    have e : c :: u ++ 32 :: b = c :: (u ++ 32 :: b) := rfl
    have r1 := run_glue (p := digitB) (by decide) (c :: u) b
    have r2 := run_glue (p := insideB) (by decide) (c :: u) b
    have r3 := run_glue (p := signB) (by decide) (c :: u) b
    have t1 : (c :: u ++ 32 :: b).take (runLen digitB (c :: u)) = (c :: u).take (runLen digitB (c :: u)) := List.take_append_of_le_length (runLen_le _ _)
    have t2 : (c :: u ++ 32 :: b).take (runLen insideB (c :: u)) = (c :: u).take (runLen insideB (c :: u)) := List.take_append_of_le_length (runLen_le _ _)
    have t3 : (c :: u ++ 32 :: b).take (runLen signB (c :: u)) = (c :: u).take (runLen signB (c :: u)) := List.take_append_of_le_length (runLen_le _ _)
    have t4 : (c :: u ++ 32 :: b).take 1 = (c :: u).take 1 := List.take_append_of_le_length (by simp)
    rw [e] at r1 r2 r3 t1 t2 t3 t4 ⊢
    simp only [oneL, numR, wordR, r1, r2, r3, t1, t2, t3, t4]
theorem skip_glue (b : List UInt8) : ∀ u : List UInt8, 37 ∉ u → skipL false (u ++ 32 :: b) = if skipL false u = [] then skipL false b else skipL false u ++ 32 :: b
  | [], _ => by simp [skipL, blanks]
  | c :: u, h => by
    simp only [List.mem_cons, not_or] at h
    have hc : (c == 37) = false := by simpa using fun e => h.1 e.symm
    simp only [List.cons_append, skipL, hc, Bool.false_eq_true, if_false]
    by_cases hb : blanks.contains c = true
    · simp only [hb, if_true]
      exact skip_glue b u h.2
    · simp only [hb]
      simp
def Tok.shift (K : Nat) (t : Tok) : Tok := ⟨t.kind, t.text, t.n, t.pos + K⟩
def LexR.shift (K : Nat) (r : LexR) : LexR := ⟨r.toks.map (Tok.shift K), r.err, if r.err = 0 then 0 else r.pos + K⟩
theorem tokAt_shift (K N : Nat) {l : List UInt8} (h : l.length ≤ N) : tokAt (N + K) l = (tokAt N l).shift K := by
  simp only [tokAt, Tok.shift, Tok.mk.injEq, true_and]
  omega
theorem cons_shift (K : Nat) (t : Tok) (r : LexR) : (r.cons t).shift K = (r.shift K).cons (t.shift K) := by
  by_cases h : r.err = 0 <;> simp [LexR.cons, LexR.shift, h]
theorem lexF_shift (K N : Nat) : ∀ (f : Nat) (l : List UInt8), l.length ≤ N → lexF (N + K) f l = (lexF N f l).shift K
  | 0, _, _ => by simp [lexF, LexR.shift]
  | f + 1, l, h => by
    simp only [lexF]
    by_cases he : (oneL l).err = 0
    · by_cases hk : (oneL l).kind = 0
      · simp [he, hk, LexR.shift, tokAt_shift K N h]
      · have h1 := skipL_le false (l.drop (oneL l).len)
        rw [List.length_drop] at h1
        simp only [he, hk, ne_eq, not_true, if_false]
        rw [lexF_shift K N f _ (by omega), tokAt_shift K N h, cons_shift]
    · simp [he, LexR.shift]
      omega
theorem lexAt_shift (K N : Nat) {l : List UInt8} (h : l.length ≤ N) : lexAt (N + K) l = (lexAt N l).shift K := lexF_shift K N _ l h
theorem one_kind {l : List UInt8} (h : l ≠ []) (he : (oneL l).err = 0) : (oneL l).kind ≠ 0 := fun e => h ((one_text he).1.1 e)
theorem after_consd (d : List Tok) (t : Tok) (r : LexR) : (r.after d).cons t = r.after (t :: d) := by
  by_cases h : r.err = 0 <;> simp [LexR.cons, LexR.after, h]
theorem lexAt_nil (N : Nat) : lexAt N [] = ⟨[tokAt N []], 0, 0⟩ := by rw [lexAt_eq]; simp [oneL]
theorem mem_skip {u : List UInt8} {c : UInt8} (h : c ∈ skipL false u) : c ∈ u := by
  rw [← drop_skipN] at h
  exact List.mem_of_mem_drop h
theorem lex_glue (a b : List UInt8) : ∀ (m : Nat) (u : List UInt8), u.length ≤ m → u.length ≤ a.length → 37 ∉ u →
    ((lexAt a.length (skipL false u)).err = 0 → (lexAt a.length (skipL false u)).toks ≠ []) ∧
    lexAt (b.length + (a.length + 1)) (skipL false (u ++ 32 :: b)) = if (lexAt a.length (skipL false u)).err = 0 then (lexAt (b.length + (a.length + 1)) (skipL false b)).after (lexAt a.length (skipL false u)).toks.dropLast
      else ⟨[], (lexAt a.length (skipL false u)).err, (lexAt a.length (skipL false u)).pos⟩ := by
  intro m
  induction m with
  | zero =>
    intro u hm _ hc
    obtain rfl : u = [] := List.eq_nil_of_length_eq_zero (by omega)
    have e : skipL false ([] : List UInt8) = [] := by simp [skipL]
    rw [skip_glue b [] hc, e, lexAt_nil, if_pos rfl, if_pos rfl]
    simp [lexAt_after]
  | succ m ih =>
    intro u hm ha hc
    have hv := skipL_le false u
    have hcv : 37 ∉ skipL false u := fun h => hc (mem_skip h)
    rw [skip_glue b u hc]
    generalize skipL false u = v at hv hcv ⊢
    by_cases hn : v = []
    · subst hn
      rw [lexAt_nil, if_pos rfl, if_pos rfl]
      simp [lexAt_after]
    · rw [if_neg hn]
      have hone := one_glue (b := b) hn
      have hl : 0 < v.length := List.length_pos_iff.2 hn
      rw [lexAt_eq _ (v ++ 32 :: b), lexAt_eq _ v, hone]
      by_cases he : (oneL v).err = 0
      · have hk := one_kind hn he
        have hp := one_pos he hk
        have hle := @one_len v
        have hd : (v ++ 32 :: b).drop (oneL v).len = v.drop (oneL v).len ++ 32 :: b := List.drop_append_of_le_length hle
        obtain ⟨i1, i2⟩ := ih (v.drop (oneL v).len) (by rw [List.length_drop]; omega) (by rw [List.length_drop]; omega) (fun h => hcv (List.mem_of_mem_drop h))
        have ht : tokAt (b.length + (a.length + 1)) (v ++ 32 :: b) = tokAt a.length v := by
          simp only [tokAt, hone, Tok.mk.injEq, true_and, List.length_append, List.length_cons]
          omega
        rw [if_neg (by simp [he]), if_neg hk, if_neg (by simp [he]), if_neg hk, hd, i2, ht]
        generalize lexAt a.length (skipL false (v.drop (oneL v).len)) = r at i1 ⊢
        by_cases hr : r.err = 0
        · refine ⟨fun _ => by simp [LexR.cons, hr], ?_⟩
          rw [if_pos hr, after_consd]
          have hne := i1 hr
          simp only [LexR.cons, hr, if_true]
          rw [List.dropLast_cons_of_ne_nil hne]
        · refine ⟨fun h => ?_, ?_⟩
          · simp [LexR.cons, hr] at h
          · simp [LexR.cons, hr]
      · rw [if_pos he, if_pos he]
        refine ⟨fun h => absurd h he, ?_⟩
        simp only [if_neg he, LexR.mk.injEq, true_and, List.length_append, List.length_cons]
        omega
theorem lexF_count (N : Nat) : ∀ (f : Nat) (l : List UInt8), (lexF N f l).toks.length ≤ l.length + 1
  | 0, l => by simp [lexF]
  | f + 1, l => by
    simp only [lexF]
    by_cases he : (oneL l).err = 0
    · by_cases hk : (oneL l).kind = 0
      · simp [he, hk]
      · have h1 := next_lt he hk
        have h2 := lexF_count N f (skipL false (l.drop (oneL l).len))
        simp only [he, hk, ne_eq, not_true, if_false]
        unfold LexR.cons
        split
        · simp only [List.length_cons]
          omega
        · simp
    · simp [he]
theorem lexL_count (l : List UInt8) : (lexL l).toks.length ≤ l.length + 1 := by
  unfold lexL
  split
  · simp
  · have h1 := skipL_le false l
    have h2 := lexF_count l.length ((skipL false l).length + 1) (skipL false l)
    unfold lexAt
    omega
/-- What the two together are. -/
theorem glue_lexL {a b : List UInt8} (ha : a.length ≤ 2048) (hb : b.length ≤ 2048) (hc : 37 ∉ a) : lexL (a ++ 32 :: b) =
    if (lexL a).err = 0 then ((lexL b).shift (a.length + 1)).after (lexL a).toks.dropLast else ⟨[], (lexL a).err, (lexL a).pos⟩ := by
  have hs := skipL_le false b
  have eA : lexL a = lexAt a.length (skipL false a) := if_neg (by omega)
  have eB : lexL b = lexAt b.length (skipL false b) := if_neg (by omega)
  have eC : lexL (a ++ 32 :: b) = lexAt (b.length + (a.length + 1)) (skipL false (a ++ 32 :: b)) := by
    unfold lexL
    rw [if_neg (by simp; omega)]
    congr 1
    simp
    omega
  rw [eA, eB, eC, ← lexAt_shift _ _ hs]
  exact (lex_glue a b a.length a (Nat.le_refl _) (Nat.le_refl _) hc).2
end Go.Lamb

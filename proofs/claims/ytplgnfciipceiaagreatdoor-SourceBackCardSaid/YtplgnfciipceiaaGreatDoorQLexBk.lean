/-
  Plain: tokens written one behind the other, a blank behind each, read the same.
-/
import Derived.Test.YtplgnfciipceiaaGreatDoorQLexGl
set_option linter.unusedSimpArgs false
set_option linter.unusedVariables false
set_option maxHeartbeats 8000000
set_option maxRecDepth 20000
namespace Go.Lamb
open Go Go.RowKit

theorem run_all {p : UInt8 → Bool} (h : p 32 = false) (r : List UInt8) : ∀ u : List UInt8, u.all p = true → runLen p (u ++ 32 :: r) = u.length
  | [], _ => by simp [runLen, h]
  | c :: u, hu => by
    rw [List.all_cons, Bool.and_eq_true] at hu
    simp only [List.cons_append, runLen, hu.1, if_true, run_all h r u hu.2, List.length_cons]
theorem dig_toNat {i : Nat} (h : i < 10) : (UInt8.ofNat (48 + i)).toNat = 48 + i := by
  rw [UInt8.toNat_ofNat']
  omega
theorem dec_all : ∀ u : Nat, (Lib.decDigits u).all digitB = true := by
  intro u
  induction u using Nat.strongRecOn with
  | _ u ih =>
    by_cases h : u < 10
    · rw [Lib.decDigits_one h]
      simp [digitB]
      omega
    · rw [Lib.decDigits, dif_neg h, List.all_append, ih (u / 10) (by omega)]
      simp [digitB]
      omega
theorem dec_val : ∀ u : Nat, decVal (Lib.decDigits u) = u := by
  intro u
  induction u using Nat.strongRecOn with
  | _ u ih =>
    by_cases h : u < 10
    · rw [Lib.decDigits_one h]
      unfold decVal
      rw [decFrom_cons, decFrom_nil, dig_toNat h]
      omega
    · rw [Lib.decDigits, dif_neg h]
      have h1 := ih (u / 10) (by omega)
      unfold decVal decFrom at h1 ⊢
      rw [List.foldl_append, h1, List.foldl_cons, List.foldl_nil, dig_toNat (by omega)]
      omega
theorem nDigits_le : ∀ (k u : Nat), u < 10 ^ (k + 1) → Lib.nDigits u ≤ k + 1
  | 0, u, h => by rw [Lib.nDigits_small (by simpa using h)]; omega
  | k + 1, u, h => by
    by_cases hu : u < 10
    · rw [Lib.nDigits_small hu]; omega
    · rw [Lib.nDigits_big hu]
      have := nDigits_le k (u / 10) (by
        rw [Nat.pow_succ] at h
        omega)
      omega
theorem decFrom_lt : ∀ (l : List UInt8) (acc : Nat), l.all digitB = true → decFrom acc l < (acc + 1) * 10 ^ l.length
  | [], acc, _ => by rw [decFrom_nil]; simp
  | c :: l, acc, h => by
    rw [List.all_cons, Bool.and_eq_true] at h
    have hc := digitB_iff.1 h.1
    have := decFrom_lt l (acc * 10 + (c.toNat - 48)) h.2
    rw [decFrom_cons, List.length_cons, Nat.pow_succ]
    refine Nat.lt_of_lt_of_le this ?_
    rw [Nat.mul_comm (10 ^ l.length) 10, ← Nat.mul_assoc]
    exact Nat.mul_le_mul_right _ (by omega)
theorem word_back {p : UInt8 → Bool} (h32 : p 32 = false) {c : UInt8} {l : List UInt8} (hc : p c = true) : ∃ t, (c :: l).take (runLen p (c :: l)) = c :: t ∧ (c :: t).length = runLen p (c :: l) ∧
    ∀ r, runLen p (c :: (t ++ 32 :: r)) = runLen p (c :: l) ∧ (c :: (t ++ 32 :: r)).take (runLen p (c :: l)) = c :: t := by
  have hr := run_take p (c :: l)
  have hle := runLen_le p (c :: l)
  have hlen : ((c :: l).take (runLen p (c :: l))).length = runLen p (c :: l) := by rw [List.length_take]; omega
  have e : (c :: l).take (runLen p (c :: l)) = c :: l.take (runLen p l) := by simp [runLen, hc]
  rw [e] at hr hlen ⊢
  refine ⟨_, rfl, hlen, fun r => ?_⟩
  have h1 := run_all h32 r _ hr
  rw [hlen] at h1
  refine ⟨h1, ?_⟩
  rw [← hlen]
  exact List.take_left' (l₁ := c :: l.take (runLen p l)) (l₂ := 32 :: r) rfl
theorem head_ok {c : UInt8} {l : List UInt8} (he : (oneL (c :: l)).err = 0) : blanks.contains c = false ∧ (c == 37) = false := by
  have no : ∀ d : UInt8, markN d = 0 → digitB d = false → smallB d = false → greatB d = false → signB d = false → singles.contains d = false → (oneL (d :: l)).err = 10 := by
    intro d h1 h2 h3 h4 h5 h6
    simp only [oneL, h1, h2, h3, h4, h5, h6, ne_eq, not_true, if_false, Bool.false_eq_true]
  constructor
  · rw [Bool.eq_false_iff]
    intro h
    simp [blanks] at h
    rcases h with rfl | rfl | rfl | rfl
    all_goals rw [no _ (by decide) (by decide) (by decide) (by decide) (by decide) (by decide)] at he
    all_goals simp at he
  · rw [Bool.eq_false_iff]
    intro h
    obtain rfl := beq_iff_eq.1 h
    rw [no _ (by decide) (by decide) (by decide) (by decide) (by decide) (by decide)] at he
    simp at he
structure Relex (t : Tok) : Prop where
  one : ∀ r, oneL (t.w ++ 32 :: r) = ⟨t.kind, t.text, t.n, t.w.length, 0⟩
  ne : t.w ≠ []
  kind : t.kind ≠ 0
theorem Relex.skip {t : Tok} (h : Relex t) (r : List UInt8) : skipL false (t.w ++ 32 :: r) = t.w ++ 32 :: r := by
  have h1 := h.one r
  have h2 := h.ne
  generalize t.w = w at h1 h2 ⊢
  cases w with
  | nil => exact absurd rfl h2
  | cons c w =>
    have := head_ok (c := c) (l := w ++ 32 :: r) (by rw [show c :: (w ++ 32 :: r) = c :: w ++ 32 :: r from rfl, h1])
    simp only [List.cons_append, skipL, this.1, this.2, Bool.false_eq_true, if_false]
def tok1 (l : List UInt8) (pos : Int) : Tok := ⟨(oneL l).kind, (oneL l).text, (oneL l).n, pos⟩
theorem digit_mark {c : UInt8} (h : digitB c = true) : markN c = 0 := by
  have h := digitB_iff.1 h
  unfold markN
  rw [if_neg (by simp; omega), if_neg (by simp; omega), if_neg (by simp; omega), if_neg (by simp; omega)]
theorem one_back {l : List UInt8} (hn : l ≠ []) (he : (oneL l).err = 0) (pos : Int) : Relex (tok1 l pos) ∧ (tok1 l pos).w.length ≤ (oneL l).len := by
  have hk := one_kind hn he
  cases l with
  | nil => exact absurd rfl hn
  | cons c l =>
    unfold tok1
    simp only [oneL, numR, wordR] at he ⊢
    by_cases hm : markN c ≠ 0
    · simp only [if_pos hm]
      have hw : Tok.w ⟨markN c, [], 0, pos⟩ = [c] := mark_text hm
      refine ⟨⟨fun r => ?_, ?_, hm⟩, ?_⟩
      · rw [hw]
        simp only [List.cons_append, List.nil_append, oneL, if_pos hm]
        rfl
      · rw [hw]; simp
      · rw [hw]; simp
    · simp only [if_neg hm] at he ⊢
      cases hd : digitB c
      · simp only [hd, Bool.false_eq_true, if_false] at he ⊢
        cases hs : smallB c
        · simp only [hs, Bool.false_eq_true, if_false] at he ⊢
          cases hg : greatB c
          · simp only [hg, Bool.false_eq_true, if_false] at he ⊢
            cases hi : signB c
            · simp only [hi, Bool.false_eq_true, if_false] at he ⊢
              cases hsi : singles.contains c
              · simp only [hsi, Bool.false_eq_true, if_false] at he
                simp at he
              · have hw : Tok.w ⟨4, [c], 0, pos⟩ = [c] := rfl
                simp only [if_true, if_neg (show ¬ 32 < 1 by decide), List.take_succ_cons, List.take_zero]
                refine ⟨⟨fun r => ?_, ?_, by simp⟩, ?_⟩
                · rw [hw]
                  simp only [List.cons_append, List.nil_append, oneL, wordR, if_neg hm, hd, hs, hg, hi, hsi, Bool.false_eq_true, if_false, if_true, if_neg (show ¬ 32 < 1 by decide), List.take_succ_cons, List.take_zero]
                  rfl
                · rw [hw]; simp
                · rw [hw]; simp
            · simp only [hi, if_true] at he ⊢
              split
              · rename_i h; rw [if_pos h] at he; simp at he
              · rename_i hle
                obtain ⟨t, h1, h2, h3⟩ := word_back (p := signB) (by decide) (l := l) hi
                have hw : Tok.w ⟨4, c :: t, 0, pos⟩ = c :: t := rfl
                rw [h1]
                refine ⟨⟨fun r => ?_, ?_, by simp⟩, ?_⟩
                · rw [hw]
                  simp only [List.cons_append, oneL, wordR, if_neg hm, hd, hs, hg, hi, Bool.false_eq_true, if_false, if_true, (h3 r).1, (h3 r).2, if_neg hle, h2]
                · rw [hw]; simp
                · rw [hw, h2]; exact Nat.le_refl _
          · simp only [hg, if_true] at he ⊢
            split
            · rename_i h; rw [if_pos h] at he; simp at he
            · rename_i hle
              obtain ⟨t, h1, h2, h3⟩ := word_back (p := insideB) (by decide) (l := l) (show insideB c = true by simp [insideB, hg])
              have hw : Tok.w ⟨2, c :: t, 0, pos⟩ = c :: t := rfl
              rw [h1]
              refine ⟨⟨fun r => ?_, ?_, by simp⟩, ?_⟩
              · rw [hw]
                simp only [List.cons_append, oneL, wordR, if_neg hm, hd, hs, hg, Bool.false_eq_true, if_false, if_true, (h3 r).1, (h3 r).2, if_neg hle, h2]
              · rw [hw]; simp
              · rw [hw, h2]; exact Nat.le_refl _
        · simp only [hs, if_true] at he ⊢
          split
          · rename_i h; rw [if_pos h] at he; simp at he
          · rename_i hle
            obtain ⟨t, h1, h2, h3⟩ := word_back (p := insideB) (by decide) (l := l) (show insideB c = true by simp [insideB, hs])
            have hw : Tok.w ⟨1, c :: t, 0, pos⟩ = c :: t := rfl
            rw [h1]
            refine ⟨⟨fun r => ?_, ?_, by simp⟩, ?_⟩
            · rw [hw]
              simp only [List.cons_append, oneL, wordR, if_neg hm, hd, hs, Bool.false_eq_true, if_false, if_true, (h3 r).1, (h3 r).2, if_neg hle, h2]
            · rw [hw]; simp
            · rw [hw, h2]; exact Nat.le_refl _
      · simp only [hd, if_true] at he ⊢
        split
        · rename_i hlt
          simp only
          have hrp := run_pos (l := l) hd
          have hrt := run_take digitB (c :: l)
          have hlen : ((c :: l).take (runLen digitB (c :: l))).length = runLen digitB (c :: l) := by
            have := runLen_le digitB (c :: l)
            rw [List.length_take]; omega
          have hlt2 := decFrom_lt _ 0 hrt
          rw [hlen] at hlt2
          generalize hv : decVal ((c :: l).take (runLen digitB (c :: l))) = v at hlt ⊢
          unfold decVal at hv
          rw [hv] at hlt2
          have hnd := nDigits_le (runLen digitB (c :: l) - 1) v (by rw [show runLen digitB (c :: l) - 1 + 1 = runLen digitB (c :: l) from by omega]; omega)
          have hw : Tok.w ⟨3, [], (v : Int), pos⟩ = Lib.decDigits v := by
            unfold Tok.w textL
            simp only
            rw [if_neg (by decide), if_neg (by decide), if_neg (by decide), if_pos (by decide), show max (v : Int) 0 = v from by omega]
            unfold Lib.itoa
            rw [if_neg (by omega), Int.toNat_natCast]
          have hda := dec_all v
          have hdv := dec_val v
          have hdl := Lib.decDigits_length v
          have hdp := Lib.nDigits_pos v
          rw [hw]
          refine ⟨⟨fun r => ?_, ?_, by simp⟩, by omega⟩
          · rw [hw]
            clear hw
            generalize Lib.decDigits v = ds at hda hdv hdl ⊢
            have hru := run_all (p := digitB) (by decide) r ds hda
            cases ds with
            | nil => simp at hdl; omega
            | cons d ds =>
              rw [List.all_cons, Bool.and_eq_true] at hda
              have htk : (d :: (ds ++ 32 :: r)).take (d :: ds).length = d :: ds := List.take_left' (l₁ := d :: ds) (l₂ := 32 :: r) rfl
              rw [List.cons_append] at hru ⊢
              simp only [oneL, numR, digit_mark hda.1, hda.1, ne_eq, not_true, if_false, if_true, hru, htk, hdv, hlt]
          · rw [hw]
            intro h
            rw [h] at hdl
            simp at hdl
            omega
        · rename_i h; rw [if_neg h] at he; simp at he
def Tok.key (t : Tok) : Int × List UInt8 × Int := (t.kind, t.text, t.n)
def BackOk : List Tok → Prop
  | [] => False
  | t :: l => (l = [] ∧ t.key = (0, [], 0)) ∨ (Relex t ∧ BackOk l)
def flatW (l : List Tok) : List UInt8 := l.flatMap fun t => t.w ++ [32]
theorem flatW_cons (t : Tok) (l : List Tok) : flatW (t :: l) = t.w ++ 32 :: flatW l := by simp [flatW]
theorem end_w {t : Tok} (h : t.key = (0, [], 0)) : t.w = [] := by
  simp only [Tok.key, Prod.mk.injEq] at h
  unfold Tok.w
  rw [h.1, h.2.1, h.2.2]
  rfl
theorem skip_blank (l : List UInt8) : skipL false (32 :: l) = skipL false l := by simp [skipL, blanks]
theorem back_ok (N : Nat) : ∀ (f : Nat) (l : List UInt8), l.length < f → (lexF N f l).err = 0 → BackOk (lexF N f l).toks ∧ (flatW (lexF N f l).toks).length ≤ 2 * l.length + 1
  | 0, l, h, _ => by omega
  | f + 1, l, h, he => by
    simp only [lexF] at he ⊢
    by_cases h1 : (oneL l).err = 0
    · by_cases hk : (oneL l).kind = 0
      · have hnil := (one_text h1).1.1 hk
        subst hnil
        have hkey : (tokAt N []).key = (0, [], 0) := by simp [tokAt, oneL, Tok.key]
        simp only [h1, hk, ne_eq, not_true, if_false, if_true]
        exact ⟨.inl ⟨rfl, hkey⟩, by rw [flatW_cons, end_w hkey]; simp [flatW]⟩
      · have hn : l ≠ [] := fun e => hk ((one_text h1).1.2 e)
        have hlt := next_lt h1 hk
        have hpos := one_pos h1 hk
        have hle := @one_len l
        have hsl := skipL_le false (l.drop (oneL l).len)
        rw [List.length_drop] at hsl
        simp only [h1, hk, ne_eq, not_true, if_false] at he ⊢
        have he2 : (lexF N f (skipL false (l.drop (oneL l).len))).err = 0 := by
          unfold LexR.cons at he
          split at he
          · assumption
          · exact he
        obtain ⟨i1, i2⟩ := back_ok N f _ (by omega) he2
        obtain ⟨b1, b2⟩ := one_back hn h1 ((N - l.length : Nat) : Int)
        unfold LexR.cons
        rw [if_pos he2]
        refine ⟨.inr ⟨b1, i1⟩, ?_⟩
        simp only
        rw [flatW_cons, List.length_append, List.length_cons]
        have : (tokAt N l).w.length ≤ (oneL l).len := b2
        omega
    · simp [h1] at he
end Go.Lamb

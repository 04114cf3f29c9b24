/-
  Plain: where tokens stand.
-/
import Derived.Test.YtplgnfciipceiaaGreatDoorQLexL
set_option linter.unusedSimpArgs false
set_option linter.unusedVariables false
set_option maxHeartbeats 8000000
set_option maxRecDepth 20000
namespace Go.Lamb
open Go Go.RowKit

def Tok.w (t : Tok) : List UInt8 := textL t.kind t.text t.n
def Tok.to (t : Tok) : Nat := if t.kind = 3 then t.pos.toNat + 1 else t.pos.toNat + t.w.length
structure TokOk (s : List UInt8) (to : Nat) (t : Tok) (last : Bool) : Prop where
  pos : ((t.pos.toNat : Nat) : Int) = t.pos
  ge : to ≤ t.pos.toNat
  le : t.pos.toNat ≤ s.length
  iff : t.kind = 0 ↔ last = true
  fin : last = true → t.pos.toNat = s.length
  wle : t.kind ≠ 3 → t.pos.toNat + t.w.length ≤ s.length
  weq : t.kind ≠ 3 → (s.drop t.pos.toNat).take t.w.length = t.w
  nb : 0 ≤ t.n ∧ t.n ≤ 9223372036854775807
def Good (s : List UInt8) : Nat → List Tok → Prop
  | _, [] => True
  | to, t :: l => TokOk s to t l.isEmpty ∧ Good s t.to l
def toAt (l : List Tok) : Nat → Nat
  | 0 => 0
  | i + 1 => (l[i]?).elim 0 Tok.to
theorem good_at {s : List UInt8} : ∀ (l : List Tok) (to : Nat) (i : Nat) (h : i < l.length), Good s to l → TokOk s (if i = 0 then to else toAt l i) l[i] (decide (i + 1 = l.length))
  | [], _, _, h, _ => by simp at h
  | t :: l, to, 0, _, hg => by
    have := hg.1
    cases l with
    | nil => simpa using this
    | cons x r => simpa using this
  | t :: l, to, i + 1, h, hg => by
    have h' : i < l.length := by simpa using h
    have := good_at l t.to i h' hg.2
    simp only [List.getElem_cons_succ, List.length_cons]
    rw [show decide (i + 1 + 1 = l.length + 1) = decide (i + 1 = l.length) from by simp]
    cases i with
    | zero => exact this
    | succ j => exact this
theorem toAt_ok {s : List UInt8} {l : List Tok} {i : Nat} (h : i < l.length) (hg : Good s 0 l) : TokOk s (toAt l i) l[i] (decide (i + 1 = l.length)) := by
  have := good_at l 0 i h hg
  cases i with
  | zero => exact this
  | succ j => exact this
theorem mark_text {c : UInt8} (h : markN c ≠ 0) : textL (markN c) [] 0 = [c] := by
  have e : ∀ n : Nat, n < 256 → c.toNat = n → c = UInt8.ofNat n := fun n hn hc => by
    apply UInt8.toNat_inj.1
    rw [hc, UInt8.toNat_ofNat']
    omega
  unfold markN at h ⊢
  by_cases h1 : (c.toNat : Int) == 40
  · rw [if_pos h1, e 40 (by omega) (by have := beq_iff_eq.1 h1; omega)]; decide
  · by_cases h2 : (c.toNat : Int) == 41
    · rw [if_neg h1, if_pos h2, e 41 (by omega) (by have := beq_iff_eq.1 h2; omega)]; decide
    · by_cases h3 : (c.toNat : Int) == 46
      · rw [if_neg h1, if_neg h2, if_pos h3, e 46 (by omega) (by have := beq_iff_eq.1 h3; omega)]; decide
      · by_cases h4 : (c.toNat : Int) == 92
        · rw [if_neg h1, if_neg h2, if_neg h3, if_pos h4, e 92 (by omega) (by have := beq_iff_eq.1 h4; omega)]; decide
        · rw [if_neg h1, if_neg h2, if_neg h3, if_neg h4] at h
          exact absurd rfl h
theorem one_text {l : List UInt8} (he : (oneL l).err = 0) : ((oneL l).kind = 0 ↔ l = []) ∧ ((oneL l).kind ≠ 3 → textL (oneL l).kind (oneL l).text (oneL l).n = l.take (oneL l).len) := by
  cases l with
  | nil => exact ⟨by simp [oneL], fun _ => by simp [oneL, textL]⟩
  | cons c l =>
    simp only [oneL, numR, wordR] at he ⊢
    by_cases hm : markN c ≠ 0
    · simp only [if_pos hm]
      refine ⟨by simp [hm], fun _ => ?_⟩
      rw [mark_text hm]
      simp
    · simp only [if_neg hm] at he ⊢
      cases hd : digitB c
      · simp only [hd, Bool.false_eq_true, if_false] at he ⊢
        cases hs : smallB c
        · simp only [hs, Bool.false_eq_true, if_false] at he ⊢
          cases hg : greatB c
          · simp only [hg, Bool.false_eq_true, if_false] at he ⊢
            cases hi : signB c
            · simp only [hi, Bool.false_eq_true, if_false] at he ⊢
              cases hn : singles.contains c
              · simp only [hn, Bool.false_eq_true, if_false] at he
                simp at he
              · simp [textL]
            · simp only [hi, if_true] at he ⊢
              split
              · rename_i h; rw [if_pos h] at he; simp at he
              · simp [textL]
          · simp only [hg, if_true] at he ⊢
            split
            · rename_i h; rw [if_pos h] at he; simp at he
            · simp [textL]
        · simp only [hs, if_true] at he ⊢
          split
          · rename_i h; rw [if_pos h] at he; simp at he
          · simp [textL]
      · simp only [hd, if_true] at he ⊢
        split
        · simp
        · rename_i h; rw [if_neg h] at he; simp at he
theorem one_n (l : List UInt8) : 0 ≤ (oneL l).n ∧ (oneL l).n ≤ 9223372036854775807 := by
  cases l with
  | nil => simp [oneL]
  | cons c l =>
    simp only [oneL, numR, wordR]
    repeat' split
    all_goals simp
    all_goals omega
theorem good_lexAt (s : List UInt8) : ∀ (m k to : Nat), s.length - k ≤ m → k ≤ s.length → to ≤ k → (lexAt s.length (s.drop k)).err = 0 →
    Good s to (lexAt s.length (s.drop k)).toks ∧ (lexAt s.length (s.drop k)).toks ≠ [] ∧ (lexAt s.length (s.drop k)).pos = 0 := by
  intro m
  induction m with
  | zero =>
    intro k to hm hk ht he
    have hk' : s.drop k = [] := by simp; omega
    have e : lexAt s.length (s.drop k) = ⟨[tokAt s.length (s.drop k)], 0, 0⟩ := lexAt_end (by rw [hk']; rfl) (by rw [hk']; rfl)
    rw [e, tokAt_drop hk, hk']
    refine ⟨⟨⟨by simp, by simp; omega, by simp; omega, by simp [oneL], by simp; omega, fun _ => by simp [Tok.w, oneL, textL]; omega, fun _ => by simp [Tok.w, oneL, textL], by simp [oneL]⟩, trivial⟩, by simp, rfl⟩
  | succ m ih =>
    intro k to hm hk ht he
    by_cases he1 : (oneL (s.drop k)).err = 0
    · obtain ⟨hk0, htx⟩ := one_text he1
      by_cases h0 : (oneL (s.drop k)).kind = 0
      · have hnil := hk0.1 h0
        have hlen : s.length ≤ k := by simpa using hnil
        rw [lexAt_end he1 h0, tokAt_drop hk, hnil]
        refine ⟨⟨⟨by simp, by simp; omega, by simp; omega, by simp [oneL], by simp; omega, fun _ => by simp [Tok.w, oneL, textL]; omega, fun _ => by simp [Tok.w, oneL, textL], by simp [oneL]⟩, trivial⟩, by simp, rfl⟩
      · have hpos := one_pos he1 h0
        have hle := @one_len (s.drop k)
        rw [List.length_drop] at hle
        have hsk := skipN_le (s.drop (k + (oneL (s.drop k)).len))
        rw [List.length_drop] at hsk
        rw [lexAt_next he1 h0] at he ⊢
        have he2 : (lexAt s.length (s.drop (k + (oneL (s.drop k)).len + skipN (s.drop (k + (oneL (s.drop k)).len))))).err = 0 := by
          unfold LexR.cons at he
          split at he
          · assumption
          · exact he
        have hto : (tokAt s.length (s.drop k)).to ≤ k + (oneL (s.drop k)).len + skipN (s.drop (k + (oneL (s.drop k)).len)) := by
          rw [tokAt_drop hk]
          unfold Tok.to Tok.w
          simp only [Int.toNat_natCast]
          split
          · omega
          · rename_i h3
            rw [htx h3, List.length_take, List.length_drop]
            omega
        obtain ⟨g1, g2, g3⟩ := ih _ _ (by omega) (by omega) hto he2
        unfold LexR.cons
        rw [if_pos he2]
        refine ⟨⟨?_, g1⟩, by simp, rfl⟩
        have hlast : (lexAt s.length (s.drop (k + (oneL (s.drop k)).len + skipN (s.drop (k + (oneL (s.drop k)).len))))).toks.isEmpty = false := by simpa using g2
        rw [hlast, tokAt_drop hk]
        refine ⟨by simp, by simpa using ht, by simpa using hk, by simpa using h0, by simp, fun h3 => ?_, fun h3 => ?_, one_n _⟩
        · unfold Tok.w
          simp only [Int.toNat_natCast]
          rw [htx h3, List.length_take, List.length_drop]
          omega
        · unfold Tok.w
          simp only [Int.toNat_natCast]
          rw [htx h3, List.length_take, List.length_drop, Nat.min_eq_left (by omega)]
    · rw [lexAt_err hk he1] at he
      exact absurd he he1
theorem good_lexL {s : List UInt8} (hs : s.length ≤ 65536) (he : (lexL s).err = 0) : Good s 0 (lexL s).toks ∧ (lexL s).toks ≠ [] ∧ (lexL s).pos = 0 := by
  unfold lexL at he ⊢
  rw [if_neg (by omega), ← drop_skipN] at he ⊢
  exact good_lexAt s _ _ 0 (Nat.le_refl _) (skipN_le s) (Nat.zero_le _) he
end Go.Lamb

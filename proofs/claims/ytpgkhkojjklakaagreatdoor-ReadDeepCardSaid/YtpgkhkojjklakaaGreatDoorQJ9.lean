/-
  Plain: what is read hangs on the tokens that are read alone.
  Plain: how deep may be nested.
  Plain: the tokens of texts that are nested.
-/
import Derived.Test.YtpgkhkojjklakaaGreatDoorQJ8
import Derived.Test.YtpgkhkojjklakaaGreatDoorQLexGl
set_option linter.unusedSimpArgs false
set_option linter.unusedVariables false
set_option maxHeartbeats 8000000
set_option maxRecDepth 20000
namespace Go.Lamb
open Go Go.RowKit

/-- The first n tokens stand in the other row, further on by s; behind them nothing. -/
structure Part (t t' : List Tok) (s n : Nat) : Prop where
  same : ∀ k, k < n → tokL t' (k + s) = tokL t k
  out : ∀ k, n ≤ k → (tokL t' (k + s)).kind = 0
theorem part_of {t ahead : List Tok} {n : Nat} (hn : n ≤ t.length) : Part t (ahead ++ t.take n) ahead.length n :=
  ⟨fun k hk => by
    rw [tokL, tokL, List.getElem?_append_right (by omega), Nat.add_sub_cancel, List.getElem?_take, if_pos hk, List.getElem?_eq_getElem (by omega)]
    rfl, fun k hk => by
    rw [tokL, List.getElem?_append_right (by omega), Nat.add_sub_cancel, List.getElem?_take, if_neg (by omega)]
    rfl⟩
theorem lam_far {f : Nat} {l : List OpT} {t : List Tok} {depth i : Nat} {p : Pre} {j : Nat} (h : atomF f l t depth i = some (.ok (p, j))) (hl : lamAt t i = true) : i + 2 ≤ j := by
  cases f with
  | zero => simp [atomF] at h
  | succ f =>
    simp only [lamAt, decide_eq_true_eq] at hl
    obtain ⟨hk, hn⟩ := hl
    rw [atomF] at h
    simp only at h
    split at h
    · cases h
    · split at h
      · rename_i h5; omega
      · split at h
        · rename_i h3; omega
        · rw [if_pos ⟨by omega, hn⟩] at h
          split at h
          · cases h
          · split at h
            · cases h
            · cases h
            · rename_i m k he
              injection h with h; injection h with h; injection h with _ h
              have := ((fuel_bounds f).2.2.1 _ _ _ _ _ _ _ he).1
              omega
theorem lam_same {t t' : List Tok} {s n : Nat} (P : Part t t' s n) {f : Nat} {l : List OpT} {depth i : Nat} {p : Pre} {j : Nat} (h : atomF f l t depth i = some (.ok (p, j))) (hj : j ≤ n) : lamAt t' (i + s) = lamAt t i := by
  have hi := ((fuel_bounds f).1 _ _ _ _ _ _ h).1
  have e0 := P.same i (by omega)
  rcases Nat.lt_or_ge (i + 1) n with h1 | h1
  · have e1 := P.same (i + 1) h1
    rw [Nat.add_right_comm] at e1
    simp only [lamAt, e0, e1]
  · have e1 := P.out (i + 1) h1
    rw [Nat.add_right_comm] at e1
    have hf : lamAt t i = false := by
      cases hl : lamAt t i
      · rfl
      · have := lam_far h hl; omega
    rw [hf]
    simp [lamAt, e1]
theorem part_fuel {t t' : List Tok} {s n : Nat} (P : Part t t' s n) (hn : n ≤ t.length) : ∀ (f : Nat),
    (∀ l depth i p j, atomF f l t depth i = some (.ok (p, j)) → j ≤ n → atomF f l t' depth (i + s) = some (.ok (p, j + s))) ∧
    (∀ l depth i p pos last q j, argsF f l t depth i p pos last = some (.ok (q, j)) → i ≤ n → j ≤ n → argsF f l t' depth (i + s) p pos last = some (.ok (q, j + s))) ∧
    (∀ l least depth i m j, exprF f l t least depth i = some (.ok (m, j)) → j ≤ n → exprF f l t' least depth (i + s) = some (.ok (m, j + s))) ∧
    (∀ l least depth i m r j, chainF f l t least depth i m = some (.ok (r, j)) → i ≤ n → j ≤ n → chainF f l t' least depth (i + s) m = some (.ok (r, j + s)))
  | 0 => ⟨fun _ _ _ _ _ h => by simp [atomF] at h, fun _ _ _ _ _ _ _ _ h => by simp [argsF] at h, fun _ _ _ _ _ _ h => by simp [exprF] at h, fun _ _ _ _ _ _ _ h => by simp [chainF] at h⟩
  | f + 1 => by
    obtain ⟨h1, h2, h3, h4⟩ := part_fuel P hn f
    refine ⟨fun l depth i p j h hj => ?_, fun l depth i p pos last q j h hi hj => ?_, fun l least depth i m j h hj => ?_, fun l least depth i m r j h hi hj => ?_⟩
    · have hlt := ((fuel_bounds (f + 1)).1 _ _ _ _ _ _ h).1
      have e0 := P.same i (by omega)
      rw [atomF] at h ⊢
      simp only [e0] at h ⊢
      split at h
      · cases h
      · rename_i hb
        rw [if_neg hb]
        split at h
        · rename_i h5
          rw [if_pos h5]
          split at h
          · rename_i hc
            injection h with h; injection h with h; injection h with ha hb'
            subst hb'
            have e1 := P.same (i + 1) (by omega)
            have e2 := P.same (i + 2) (by omega)
            rw [Nat.add_right_comm] at e1 e2
            rw [e1, e2, if_pos hc, ← ha, Nat.add_right_comm]
          · rename_i hc
            split at h
            · cases h
            · rename_i hd
              split at h
              · cases h
              · cases h
              · rename_i m k he
                split at h
                · rename_i hk6
                  injection h with h; injection h with h; injection h with ha hb'
                  subst hb'
                  have hk := ((fuel_bounds f).2.2.1 _ _ _ _ _ _ _ he).1
                  have e1 := P.same (i + 1) (by omega)
                  have e2 := P.same (i + 2) (by omega)
                  have e3 := P.same k (by omega)
                  have he' := h3 _ _ _ _ _ _ he (by omega)
                  rw [Nat.add_right_comm] at e1 e2 he'
                  rw [e1, e2, if_neg hc, if_neg hd, he']
                  simp only [e3]
                  rw [if_pos hk6, ← ha, Nat.add_right_comm]
                · cases h
        · rename_i h5
          rw [if_neg h5]
          split at h
          · rename_i h3'
            rw [if_pos h3']
            injection h with h; injection h with h; injection h with ha hb'
            subst hb'
            rw [← ha, Nat.add_right_comm]
          · rename_i h3'
            rw [if_neg h3']
            split at h
            · rename_i hc
              split at h
              · cases h
              · rename_i hd
                split at h
                · cases h
                · cases h
                · rename_i m k he
                  injection h with h; injection h with h; injection h with ha hb'
                  subst hb'
                  have hk := ((fuel_bounds f).2.2.1 _ _ _ _ _ _ _ he).1
                  have e1 := P.same (i + 1) (by omega)
                  have he' := h3 _ _ _ _ _ _ he (by omega)
                  rw [Nat.add_right_comm] at e1 he'
                  rw [e1, if_pos hc, if_neg hd, he', ← ha]
            · rename_i hc
              injection h with h; injection h with h; injection h with ha hb'
              subst hb'
              have hc' : ¬ ((tokL t i).kind ≠ 4 ∧ (tokL t' (i + s + 1)).kind = 8) := by
                rcases Nat.lt_or_ge (i + 1) n with h1' | h1'
                · have e1 := P.same (i + 1) h1'
                  rw [Nat.add_right_comm] at e1
                  rw [e1]; exact hc
                · have e1 := P.out (i + 1) h1'
                  rw [Nat.add_right_comm] at e1
                  rw [e1]; simp
              rw [if_neg hc', ← ha, Nat.add_right_comm]
    · rw [argsF] at h ⊢
      split at h
      · rename_i hc
        injection h with h; injection h with h; injection h with ha hb
        subst hb ha
        have hc' : last = true ∨ beginsL l (tokL t' (i + s)) = false := by
          rcases hc with hc | hc
          · exact .inl hc
          · right
            rcases Nat.lt_or_ge i n with h1' | h1'
            · rw [P.same i h1']; exact hc
            · have e1 := P.out i h1'
              simp [beginsL, e1]
        rw [if_pos hc']
      · rename_i hc
        split at h
        · cases h
        · cases h
        · rename_i q' k he
          have hkj := ((fuel_bounds f).2.1 _ _ _ _ _ _ _ _ _ h ((fuel_bounds f).1 _ _ _ _ _ _ he).2).1
          have hik := ((fuel_bounds f).1 _ _ _ _ _ _ he).1
          have e0 := P.same i (by omega)
          rw [if_neg (by rw [e0]; exact hc), h1 _ _ _ _ _ he (by omega)]
          simp only
          rw [lam_same P he (by omega)]
          exact h2 _ _ _ _ _ _ _ _ h (by omega) hj
    · rw [exprF] at h ⊢
      split at h
      · cases h
      · cases h
      · rename_i p k he
        split at h
        · cases h
        · cases h
        · rename_i q k2 hg
          have b1 := (fuel_bounds f).1 _ _ _ _ _ _ he
          have b2 := (fuel_bounds f).2.1 _ _ _ _ _ _ _ _ _ hg b1.2
          have b3 := (fuel_bounds f).2.2.2 _ _ _ _ _ _ _ _ h b2.2
          rw [h1 _ _ _ _ _ he (by omega)]
          simp only
          rw [lam_same P he (by omega), h2 _ _ _ _ _ _ _ _ hg (by omega) (by omega)]
          exact h4 _ _ _ _ _ _ _ h (by omega) hj
    · rw [chainF] at h ⊢
      cases ho : opOf l (tokL t i) with
      | none =>
        rw [ho] at h
        injection h with h; injection h with h; injection h with ha hb
        subst hb ha
        have ho' : opOf l (tokL t' (i + s)) = none := by
          rcases Nat.lt_or_ge i n with h1' | h1'
          · rw [P.same i h1']; exact ho
          · have e1 := P.out i h1'
            rw [opOf, e1]; simp
        rw [ho']
      | some o =>
        rw [ho] at h
        simp only at h
        split at h
        · rename_i hc
          injection h with h; injection h with h; injection h with ha hb
          subst hb ha
          rcases Nat.lt_or_ge i n with h1' | h1'
          · rw [P.same i h1', ho]
            simp only
            rw [if_pos hc]
          · have e1 := P.out i h1'
            have ho' : opOf l (tokL t' (i + s)) = none := by rw [opOf, e1]; simp
            rw [ho']
        · rename_i hc
          split at h
          · cases h
          · rename_i hcl
            split at h
            · cases h
            · rename_i hd
              split at h
              · cases h
              · cases h
              · rename_i r' k he
                have b1 := (fuel_bounds f).2.2.1 _ _ _ _ _ _ _ he
                have hkj : k ≤ j := by
                  split at h
                  · split at h
                    · exact ((fuel_bounds f).2.2.2 _ _ _ _ _ _ _ _ h b1.2).1
                    · cases h
                  · exact ((fuel_bounds f).2.2.2 _ _ _ _ _ _ _ _ h b1.2).1
                have he' := h3 _ _ _ _ _ _ he (by omega)
                rw [Nat.add_right_comm] at he'
                have e0 := P.same i (by omega)
                rw [e0, ho]
                simp only
                rw [if_neg hc, if_neg hcl, if_neg hd, he']
                simp only
                split at h
                · rename_i b pos hby
                  split at h
                  · rename_i hbs
                    rw [if_pos hbs]
                    exact h4 _ _ _ _ _ _ _ h (by omega) hj
                  · cases h
                · exact h4 _ _ _ _ _ _ _ h (by omega) hj
/-- The same tokens alone, and further on, are the same tree. -/
theorem Expr.part {l : List OpT} {t ahead : List Tok} {least : Int} {depth n : Nat} {m : Made} (h : Expr l t least depth 0 (.ok (m, n))) : Expr l (ahead ++ t.take n) least depth ahead.length (.ok (m, n + ahead.length)) := by
  obtain ⟨f, h⟩ := h
  have hn := ((fuel_bounds f).2.2.1 _ _ _ _ _ _ _ h).2
  have := (part_fuel (part_of (ahead := ahead) hn) hn f).2.2.1 _ _ _ _ _ _ h (Nat.le_refl _)
  rw [Nat.zero_add] at this
  exact ⟨f, this⟩
/-- What is wrong has a number. -/
theorem err_fuel : ∀ (f : Nat),
    (∀ l t depth i b, atomF f l t depth i = some (.error b) → (b.e != 0) = true) ∧
    (∀ l t depth i p pos last b, argsF f l t depth i p pos last = some (.error b) → (b.e != 0) = true) ∧
    (∀ l t least depth i b, exprF f l t least depth i = some (.error b) → (b.e != 0) = true) ∧
    (∀ l t least depth i m b, chainF f l t least depth i m = some (.error b) → (b.e != 0) = true)
  | 0 => ⟨fun _ _ _ _ _ h => by simp [atomF] at h, fun _ _ _ _ _ _ _ _ h => by simp [argsF] at h, fun _ _ _ _ _ _ h => by simp [exprF] at h, fun _ _ _ _ _ _ _ h => by simp [chainF] at h⟩
  | f + 1 => by
    obtain ⟨h1, h2, h3, h4⟩ := err_fuel f
    refine ⟨fun l t depth i b h => ?_, fun l t depth i p pos last b h => ?_, fun l t least depth i b h => ?_, fun l t least depth i m b h => ?_⟩
    · rw [atomF] at h
      simp only at h
      repeat' split at h
      all_goals first
        | (cases h; done)
        | (injection h with h; injection h with h; subst h; rfl)
        | (injection h with h; injection h with h; subst h; rename_i he; exact h3 _ _ _ _ _ _ he)
        | (injection h with h; cases h)
    · rw [argsF] at h
      repeat' split at h
      all_goals first
        | (cases h; done)
        | (injection h with h; injection h with h; subst h; rename_i he; exact h1 _ _ _ _ _ he)
        | exact h2 _ _ _ _ _ _ _ _ h
        | (injection h with h; cases h)
    · rw [exprF] at h
      repeat' split at h
      all_goals first
        | (cases h; done)
        | (injection h with h; injection h with h; subst h; rename_i he; exact h1 _ _ _ _ _ he)
        | (injection h with h; injection h with h; subst h; rename_i he; exact h2 _ _ _ _ _ _ _ _ he)
        | exact h4 _ _ _ _ _ _ _ h
        | (injection h with h; cases h)
    · rw [chainF] at h
      repeat' split at h
      all_goals first
        | (cases h; done)
        | (injection h with h; injection h with h; subst h; rfl)
        | (injection h with h; injection h with h; subst h; rename_i he; exact h3 _ _ _ _ _ _ he)
        | exact h4 _ _ _ _ _ _ _ h
        | (injection h with h; cases h)
theorem Expr.err {l : List OpT} {t : List Tok} {least : Int} {depth i : Nat} {b : Bad} (h : Expr l t least depth i (.error b)) : (b.e != 0) = true := by
  obtain ⟨f, h⟩ := h
  exact (err_fuel f).2.2.1 _ _ _ _ _ _ h
end Go.Lamb
namespace Go.Lamb
open Go Go.RowKit

section
variable {l : List OpT} {t : List Tok} {least : Int} {d i j k : Nat}
theorem Expr.mk {p q : Pre} {r : Except Bad (Made × Nat)} (h1 : Atom l t d i (.ok (p, j))) (h2 : Args l t d j p p.pos (lamAt t i) (.ok (q, k))) (h3 : Chain l t least d k ⟨q, none⟩ r) : Expr l t least d i r := by
  obtain ⟨f1, h1⟩ := h1
  obtain ⟨f2, h2⟩ := h2
  obtain ⟨f3, h3⟩ := h3
  refine ⟨max f1 (max f2 f3) + 1, ?_⟩
  rw [exprF, (fuel_le (Nat.le_max_left _ _)).1 _ _ _ _ _ h1]
  simp only
  rw [(fuel_le (Nat.le_trans (Nat.le_max_left _ _) (Nat.le_max_right _ _))).2.1 _ _ _ _ _ _ _ _ h2]
  exact (fuel_le (Nat.le_trans (Nat.le_max_right _ _) (Nat.le_max_right _ _))).2.2.2 _ _ _ _ _ _ _ h3
theorem Expr.bad {b : Bad} (h1 : Atom l t d i (.error b)) : Expr l t least d i (.error b) := by
  obtain ⟨f, h⟩ := h1
  exact ⟨f + 1, by rw [exprF, h]⟩
theorem Args.stop {p : Pre} {pos : Int} {last : Bool} (h : last = true ∨ beginsL l (tokL t i) = false) : Args l t d i p pos last (.ok (p, i)) := ⟨1, by rw [argsF, if_pos h]⟩
theorem Chain.stop {m : Made} (h : opOf l (tokL t i) = none) : Chain l t least d i m (.ok (m, i)) := ⟨1, by rw [chainF, h]⟩
theorem Atom.name (hb : beginsL l (tokL t i) = true) (hk : (tokL t i).kind = 1) (hn : (tokL t (i + 1)).kind ≠ 8) : Atom l t d i (.ok (.mk 0 (tokL t i).text 0 [] (tokL t i).pos, i + 1)) := ⟨1, by
  rw [atomF]
  simp only [hb, hk]
  simp [hn]⟩
/-- A bracket. -/
theorem Atom.open_ {m : Made} (hd : d < 200) (hk : (tokL t i).kind = 5) (ho : opOf l (tokL t (i + 1)) = none) (h : Expr l t 0 (d + 1) (i + 1) (.ok (m, j))) (hc : (tokL t j).kind = 6) : Atom l t d i (.ok (m.p, j + 1)) := by
  obtain ⟨f, h⟩ := h
  refine ⟨f + 1, ?_⟩
  have hb : beginsL l (tokL t i) = true := by simp [beginsL, hk]
  rw [atomF]
  simp only [hb, hk, ho, h, hc]
  simp
  omega
theorem Atom.open_bad {b : Bad} (hd : d < 200) (hk : (tokL t i).kind = 5) (ho : opOf l (tokL t (i + 1)) = none) (h : Expr l t 0 (d + 1) (i + 1) (.error b)) : Atom l t d i (.error b) := by
  obtain ⟨f, h⟩ := h
  refine ⟨f + 1, ?_⟩
  have hb : beginsL l (tokL t i) = true := by simp [beginsL, hk]
  rw [atomF]
  simp only [hb, hk, ho, h]
  simp
  omega
theorem Atom.open_deep (hd : 200 ≤ d) (hk : (tokL t i).kind = 5) (ho : opOf l (tokL t (i + 1)) = none) : Atom l t d i (.error ⟨31, (tokL t i).pos⟩) := ⟨1, by
  have hb : beginsL l (tokL t i) = true := by simp [beginsL, hk]
  rw [atomF]
  simp only [hb, hk, ho]
  simp
  omega⟩
/-- An abstraction. -/
theorem Atom.lam {m : Made} (hd : d < 200) (hb : beginsL l (tokL t i) = true) (hk : (tokL t i).kind = 1) (hn : (tokL t (i + 1)).kind = 8) (h : Expr l t 0 (d + 1) (i + 2) (.ok (m, j))) : Atom l t d i (.ok (.mk 4 (tokL t i).text 0 [m.p] (tokL t i).pos, j)) := by
  obtain ⟨f, h⟩ := h
  refine ⟨f + 1, ?_⟩
  rw [atomF]
  simp only [hb, hk, hn, h]
  simp
  omega
theorem Atom.lam_bad {b : Bad} (hd : d < 200) (hb : beginsL l (tokL t i) = true) (hk : (tokL t i).kind = 1) (hn : (tokL t (i + 1)).kind = 8) (h : Expr l t 0 (d + 1) (i + 2) (.error b)) : Atom l t d i (.error b) := by
  obtain ⟨f, h⟩ := h
  refine ⟨f + 1, ?_⟩
  rw [atomF]
  simp only [hb, hk, hn, h]
  simp
  omega
theorem Atom.lam_deep (hd : 200 ≤ d) (hb : beginsL l (tokL t i) = true) (hk : (tokL t i).kind = 1) (hn : (tokL t (i + 1)).kind = 8) : Atom l t d i (.error ⟨31, (tokL t i).pos⟩) := ⟨1, by
  rw [atomF]
  simp only [hb, hk, hn]
  simp
  omega⟩
/-- An operator of which the last one is done first. -/
theorem Chain.op {o : OpT} {m : Made} {r : Made} {q : Except Bad (Made × Nat)} (hd : d < 200) (ho : opOf l (tokL t i) = some o) (hp : ¬ o.prec < least) (hm : m.by_ = none) (h : Expr l t (nextL o) (d + 1) (i + 1) (.ok (r, j))) (hr : ∀ b pos, r.by_ = some (b, pos) → besideL o b 2 = true)
    (hc : Chain l t least d j ⟨applyL o (tokL t i).pos m.p r.p, some (o, (tokL t i).pos)⟩ q) : Chain l t least d i m q := by
  obtain ⟨f1, h⟩ := h
  obtain ⟨f2, hc⟩ := hc
  refine ⟨max f1 f2 + 1, ?_⟩
  rw [chainF, ho]
  simp only
  rw [if_neg hp, if_neg (by simp [clashL, hm]), if_neg (by omega), (fuel_le (Nat.le_max_left _ _)).2.2.1 _ _ _ _ _ _ h]
  simp only
  have hc' := (fuel_le (Nat.le_max_right f1 _)).2.2.2 _ _ _ _ _ _ _ hc
  cases hb : r.by_ with
  | none => exact hc'
  | some x => obtain ⟨b, pos⟩ := x; simp only; rw [if_pos (hr b pos hb)]; exact hc'
theorem Chain.op_bad {o : OpT} {m : Made} {b : Bad} (hd : d < 200) (ho : opOf l (tokL t i) = some o) (hp : ¬ o.prec < least) (hm : m.by_ = none) (h : Expr l t (nextL o) (d + 1) (i + 1) (.error b)) : Chain l t least d i m (.error b) := by
  obtain ⟨f1, h⟩ := h
  refine ⟨f1 + 1, ?_⟩
  rw [chainF, ho]
  simp only
  rw [if_neg hp, if_neg (by simp [clashL, hm]), if_neg (by omega), h]
theorem Chain.op_deep {o : OpT} {m : Made} (hd : 200 ≤ d) (ho : opOf l (tokL t i) = some o) (hp : ¬ o.prec < least) (hm : m.by_ = none) : Chain l t least d i m (.error ⟨31, (tokL t i).pos⟩) := ⟨1, by
  rw [chainF, ho]
  simp only
  rw [if_neg hp, if_neg (by simp [clashL, hm]), if_pos hd]⟩
end
theorem opOf_kind {l : List OpT} {x : Tok} (h1 : x.kind ≠ 1) (h4 : x.kind ≠ 4) : opOf l x = none := by rw [opOf, if_neg (by omega)]
theorem begins_kind {l : List OpT} {x : Tok} (h : x.kind = 0 ∨ x.kind = 6 ∨ x.kind = 7 ∨ x.kind = 8) : beginsL l x = false := by
  rw [beginsL, if_neg (by omega)]
  simp; omega
/-- Brackets in brackets, n of them, around a name that is no operator. -/
theorem deep0 {l : List OpT} {t : List Tok} {n : Nat} (h5 : ∀ i, i < n → (tokL t i).kind = 5) (hk : (tokL t n).kind = 1) (ho : opOf l (tokL t n) = none) (h6 : ∀ i, i < n → (tokL t (n + 1 + i)).kind = 6) (h0 : (tokL t (2 * n + 1)).kind = 0) :
    ∀ (k d : Nat), k ≤ n → d = n - k → (n ≤ 200 → ∃ m, Expr l t 0 d d (.ok (⟨m, none⟩, n + 1 + k))) ∧ (200 < n → d ≤ 200 → ∃ p, Expr l t 0 d d (.error ⟨31, p⟩)) := by
  have hafter : ∀ k, k ≤ n → (tokL t (n + 1 + k)).kind = 0 ∨ (tokL t (n + 1 + k)).kind = 6 := fun k hkn => by
    rcases Nat.lt_or_ge k n with h | h
    · exact .inr (h6 k h)
    · have : n + 1 + k = 2 * n + 1 := by omega
      rw [this]; exact .inl h0
  have hstop : ∀ k, k ≤ n → beginsL l (tokL t (n + 1 + k)) = false ∧ opOf l (tokL t (n + 1 + k)) = none := fun k hkn => by
    have := hafter k hkn
    exact ⟨begins_kind (by omega), opOf_kind (by omega) (by omega)⟩
  intro k
  induction k with
  | zero =>
    intro d _ hd
    have hdn : d = n := by omega
    subst hdn
    refine ⟨fun _ => ?_, fun h1 h2 => by omega⟩
    obtain ⟨s1, s2⟩ := hstop 0 (Nat.zero_le _)
    have hb : beginsL l (tokL t d) = true := by rw [beginsL, if_pos (.inl hk), ho]; rfl
    have hn8 : (tokL t (d + 1)).kind ≠ 8 := by have := hafter 0 (Nat.zero_le _); simp only [Nat.add_zero] at this; omega
    exact ⟨_, Expr.mk (Atom.name hb hk hn8) (Args.stop (.inr s1)) (Chain.stop s2)⟩
  | succ k ih =>
    intro d hk' hd
    have hdn : d < n := by omega
    obtain ⟨i1, i2⟩ := ih (d + 1) (by omega) (by omega)
    have hd5 := h5 d hdn
    have hno : opOf l (tokL t (d + 1)) = none := by
      rcases Nat.lt_or_ge (d + 1) n with h | h
      · exact opOf_kind (by rw [h5 _ h]; decide) (by rw [h5 _ h]; decide)
      · have : d + 1 = n := by omega
        rw [this]; exact ho
    refine ⟨fun hn => ?_, fun hn hd2 => ?_⟩
    · obtain ⟨m, hm⟩ := i1 hn
      obtain ⟨s1, s2⟩ := hstop (k + 1) hk'
      have ha := Atom.open_ (by omega) hd5 hno hm (h6 k (by omega))
      exact ⟨_, Expr.mk ha (Args.stop (.inr s1)) (Chain.stop s2)⟩
    · rcases Nat.lt_or_ge d 200 with h | h
      · obtain ⟨p, hp⟩ := i2 hn (by omega)
        exact ⟨p, Expr.bad (Atom.open_bad h hd5 hno hp)⟩
      · exact ⟨_, Expr.bad (Atom.open_deep h hd5 hno)⟩
/-- Abstractions in abstractions. -/
theorem deep1 {l : List OpT} {t : List Tok} {n : Nat} (h1 : ∀ i, i ≤ n → (tokL t (2 * i)).kind = 1 ∧ opOf l (tokL t (2 * i)) = none) (h8 : ∀ i, i < n → (tokL t (2 * i + 1)).kind = 8) (h0 : (tokL t (2 * n + 1)).kind = 0) :
    ∀ (k d : Nat), k ≤ n → d = n - k → (n ≤ 200 → ∃ m, Expr l t 0 d (2 * d) (.ok (⟨m, none⟩, 2 * n + 1))) ∧ (200 < n → d ≤ 200 → ∃ p, Expr l t 0 d (2 * d) (.error ⟨31, p⟩)) := by
  have hb : ∀ i, i ≤ n → beginsL l (tokL t (2 * i)) = true := fun i hi => by rw [beginsL, if_pos (.inl (h1 i hi).1), (h1 i hi).2]; rfl
  have s1 : beginsL l (tokL t (2 * n + 1)) = false := begins_kind (.inl h0)
  have s2 : opOf l (tokL t (2 * n + 1)) = none := opOf_kind (by omega) (by omega)
  intro k
  induction k with
  | zero =>
    intro d _ hd
    have hdn : d = n := by omega
    subst hdn
    refine ⟨fun _ => ?_, fun h1 h2 => by omega⟩
    exact ⟨_, Expr.mk (Atom.name (hb d (Nat.le_refl _)) (h1 d (Nat.le_refl _)).1 (by omega)) (Args.stop (.inr s1)) (Chain.stop s2)⟩
  | succ k ih =>
    intro d hk' hd
    have hdn : d < n := by omega
    obtain ⟨i1, i2⟩ := ih (d + 1) (by omega) (by omega)
    have hl : lamAt t (2 * d) = true := by simp [lamAt, (h1 d (by omega)).1, h8 d hdn]
    refine ⟨fun hn => ?_, fun hn hd2 => ?_⟩
    · obtain ⟨m, hm⟩ := i1 hn
      have ha := Atom.lam (by omega) (hb d (by omega)) (h1 d (by omega)).1 (h8 d hdn) hm
      exact ⟨_, Expr.mk ha (Args.stop (.inl hl)) (Chain.stop s2)⟩
    · rcases Nat.lt_or_ge d 200 with h | h
      · obtain ⟨p, hp⟩ := i2 hn (by omega)
        exact ⟨p, Expr.bad (Atom.lam_bad h (hb d (by omega)) (h1 d (by omega)).1 (h8 d hdn) hp)⟩
      · exact ⟨_, Expr.bad (Atom.lam_deep h (hb d (by omega)) (h1 d (by omega)).1 (h8 d hdn))⟩
/-- Operators of which the last one is done first. -/
theorem deep2 {l : List OpT} {t : List Tok} {n : Nat} {o : OpT} (hf : o.fix = 2) (hp : 0 ≤ o.prec) (h1 : ∀ i, i ≤ n → (tokL t (2 * i)).kind = 1 ∧ opOf l (tokL t (2 * i)) = none) (h4 : ∀ i, i < n → (tokL t (2 * i + 1)).kind = 4 ∧ opOf l (tokL t (2 * i + 1)) = some o) (h0 : (tokL t (2 * n + 1)).kind = 0) :
    ∀ (k d : Nat), k ≤ n → d = n - k → ∀ least, least ≤ o.prec → (n ≤ 200 → ∃ m, (∀ b pos, m.by_ = some (b, pos) → b = o) ∧ Expr l t least d (2 * d) (.ok (m, 2 * n + 1))) ∧ (200 < n → d ≤ 200 → ∃ p, Expr l t least d (2 * d) (.error ⟨31, p⟩)) := by
  have hb : ∀ i, i ≤ n → beginsL l (tokL t (2 * i)) = true := fun i hi => by rw [beginsL, if_pos (.inl (h1 i hi).1), (h1 i hi).2]; rfl
  have s1 : beginsL l (tokL t (2 * n + 1)) = false := begins_kind (.inl h0)
  have s2 : opOf l (tokL t (2 * n + 1)) = none := opOf_kind (by omega) (by omega)
  have hn : nextL o = o.prec := by rw [nextL, if_pos hf]
  have hbs : besideL o o 2 = true := by simp [besideL, hf]
  intro k
  induction k with
  | zero =>
    intro d _ hd least hl
    have hdn : d = n := by omega
    subst hdn
    refine ⟨fun _ => ?_, fun h1 h2 => by omega⟩
    exact ⟨⟨_, none⟩, (fun _ _ h => by cases h), Expr.mk (Atom.name (hb d (Nat.le_refl _)) (h1 d (Nat.le_refl _)).1 (by omega)) (Args.stop (.inr s1)) (Chain.stop s2)⟩
  | succ k ih =>
    intro d hk' hd least hl
    have hdn : d < n := by omega
    obtain ⟨i1, i2⟩ := ih (d + 1) (by omega) (by omega) (nextL o) (by rw [hn]; exact Int.le_refl _)
    have hat : Atom l t d (2 * d) _ := Atom.name (hb d (by omega)) (h1 d (by omega)).1 (by rw [(h4 d hdn).1]; decide)
    have hst : beginsL l (tokL t (2 * d + 1)) = false := by rw [beginsL, if_pos (.inr (h4 d hdn).1), (h4 d hdn).2]; rfl
    have hnl : ¬ o.prec < least := by omega
    refine ⟨fun hn' => ?_, fun hn' hd2 => ?_⟩
    · obtain ⟨m, hm1, hm⟩ := i1 hn'
      refine ⟨⟨_, some (o, _)⟩, (fun b pos h => by injection h with h; injection h with h; exact h.symm), Expr.mk hat (Args.stop (.inr hst)) (Chain.op (by omega) (h4 d hdn).2 hnl rfl hm (fun b pos h => by rw [hm1 b pos h]; exact hbs) (Chain.stop s2))⟩
    · rcases Nat.lt_or_ge d 200 with h | h
      · obtain ⟨p, hp'⟩ := i2 hn' (by omega)
        exact ⟨p, Expr.mk hat (Args.stop (.inr hst)) (Chain.op_bad h (h4 d hdn).2 hnl rfl hp')⟩
      · exact ⟨_, Expr.mk hat (Args.stop (.inr hst)) (Chain.op_deep h (h4 d hdn).2 hnl rfl)⟩
end Go.Lamb
namespace Go.Lamb
open Go Go.RowKit

def tokK (x : Tok) : Int × List UInt8 := (x.kind, x.text)
/-- All is right, and these are the kinds and the texts. -/
def LexK (N : Nat) (l : List UInt8) (ks : List (Int × List UInt8)) : Prop := ∃ T, lexAt N l = ⟨T, 0, 0⟩ ∧ T.map tokK = ks
theorem LexK.nil (N : Nat) : LexK N [] [(0, [])] := ⟨_, by rw [lexAt_eq]; rfl, rfl⟩
theorem LexK.one {N : Nat} {l : List UInt8} {ks : List (Int × List UInt8)} (k : Int) (s : List UInt8) (he : (oneL l).err = 0) (hk : (oneL l).kind = k) (hk0 : k ≠ 0) (hs : (oneL l).text = s) (h : LexK N (skipL false (l.drop (oneL l).len)) ks) : LexK N l ((k, s) :: ks) := by
  obtain ⟨T, h1, h2⟩ := h
  refine ⟨tokAt N l :: T, ?_, ?_⟩
  · rw [lexAt_eq, if_neg (by omega), if_neg (by omega), h1]
    rfl
  · rw [List.map_cons, h2]
    simp only [tokK, tokAt, hk, hs]
theorem skip_here {c : UInt8} {l : List UInt8} (h : blanks.contains c = false) (h2 : (c == 37) = false) : skipL false (c :: l) = c :: l := by rw [skipL, h, h2]; rfl
/-- Something that a word ends at. -/
def Ends (l : List UInt8) : Prop := ∀ c r, l = c :: r → insideB c = false
theorem one_a {c : UInt8} {l : List UInt8} (h : Ends l) (hm : markN c = 0) (hd : digitB c = false) (hs : smallB c = true) : oneL (c :: l) = ⟨1, [c], 0, 1, 0⟩ := by
  have hin : insideB c = true := by simp [insideB, hs]
  have hr : runLen insideB (c :: l) = 1 := by
    rw [runLen, if_pos hin]
    cases l with
    | nil => rfl
    | cons d r => rw [runLen, h d r rfl]; rfl
  simp [oneL, hm, hd, hs, hr, wordR]
theorem LexK.name_ {N : Nat} {c : UInt8} {l : List UInt8} {ks : List (Int × List UInt8)} (he : Ends l) (hm : markN c = 0) (hd : digitB c = false) (hs : smallB c = true) (h : LexK N (skipL false l) ks) : LexK N (c :: l) ((1, [c]) :: ks) := by
  have h1 := one_a he hm hd hs
  exact LexK.one 1 [c] (by rw [h1]) (by rw [h1]) (by decide) (by rw [h1]) (by rw [h1]; exact h)
theorem LexK.mark {N : Nat} {c : UInt8} {l : List UInt8} {ks : List (Int × List UInt8)} (k : Int) (hm : markN c = k) (hk : k ≠ 0) (h : LexK N (skipL false l) ks) : LexK N (c :: l) ((k, []) :: ks) := by
  have h1 : oneL (c :: l) = ⟨k, [], 0, 1, 0⟩ := by simp [oneL, hm, hk]
  exact LexK.one k [] (by rw [h1]) (by rw [h1]) hk (by rw [h1]) (by rw [h1]; exact h)
theorem LexK.comma {N : Nat} {l : List UInt8} {ks : List (Int × List UInt8)} (h : LexK N (skipL false l) ks) : LexK N (44 :: l) ((4, [44]) :: ks) := by
  have h1 : oneL (44 :: l) = ⟨4, [44], 0, 1, 0⟩ := by
    have a1 : markN 44 = 0 := by decide
    have a2 : digitB 44 = false := by decide
    have a3 : smallB 44 = false := by decide
    have a4 : greatB 44 = false := by decide
    have a5 : signB 44 = false := by decide
    have a6 : singles.contains 44 = true := by decide
    have a7 : (44 : UInt8) ∈ singles := by decide
    simp [oneL, a1, a2, a3, a4, a5, a6, a7, wordR]
  exact LexK.one 4 [44] (by rw [h1]) (by rw [h1]) (by decide) (by rw [h1]) (by rw [h1]; exact h)
theorem skip_blank {l : List UInt8} : skipL false (32 :: l) = skipL false l := by rw [skipL, if_pos (by decide)]
/-! ### the three kinds of texts -/
def nest0 : Nat → List UInt8
  | 0 => [97]
  | n + 1 => 40 :: (nest0 n ++ [41])
def nest1 : Nat → List UInt8
  | 0 => [97]
  | n + 1 => [120, 92, 32] ++ nest1 n
def nest2 : Nat → List UInt8
  | 0 => [97]
  | n + 1 => [97, 32, 44, 32] ++ nest2 n
theorem nest0_eq (n : Nat) : nest0 n = List.replicate n 40 ++ 97 :: List.replicate n 41 := by
  induction n with
  | zero => rfl
  | succ n ih => rw [nest0, ih, List.replicate_succ, List.replicate_succ']; simp
theorem nest_len (n : Nat) : (nest0 n).length = 2 * n + 1 ∧ (nest1 n).length = 3 * n + 1 ∧ (nest2 n).length = 4 * n + 1 := by
  induction n with
  | zero => exact ⟨rfl, rfl, rfl⟩
  | succ n ih => simp [nest0, nest1, nest2, ih]; omega
theorem lex_close (N : Nat) : ∀ n, LexK N (List.replicate n 41) (List.replicate n (6, []) ++ [(0, [])])
  | 0 => LexK.nil N
  | n + 1 => by
    rw [List.replicate_succ, List.replicate_succ, List.cons_append]
    refine LexK.mark 6 (by decide) (by decide) ?_
    have : skipL false (List.replicate n 41) = List.replicate n 41 := by
      cases n with
      | zero => rfl
      | succ n => rw [List.replicate_succ]; exact skip_here (by decide) (by decide)
    rw [this]
    exact lex_close N n
theorem lex_nest0 (N m : Nat) : ∀ n, LexK N (List.replicate n 40 ++ 97 :: List.replicate m 41) (List.replicate n (5, []) ++ (1, [97]) :: (List.replicate m (6, []) ++ [(0, [])]))
  | 0 => by
    refine LexK.name_ ?_ (by decide) (by decide) (by decide) ?_
    · intro c r h
      cases m with
      | zero => simp at h
      | succ m => rw [List.replicate_succ] at h; injection h with h; subst h; decide
    · have : skipL false (List.replicate m 41) = List.replicate m 41 := by
        cases m with
        | zero => rfl
        | succ n => rw [List.replicate_succ]; exact skip_here (by decide) (by decide)
      rw [this]
      exact lex_close N m
  | n + 1 => by
    rw [List.replicate_succ, List.replicate_succ, List.cons_append, List.cons_append]
    refine LexK.mark 5 (by decide) (by decide) ?_
    have : skipL false (List.replicate n 40 ++ 97 :: List.replicate m 41) = List.replicate n 40 ++ 97 :: List.replicate m 41 := by
      cases n with
      | zero => exact skip_here (by decide) (by decide)
      | succ n => rw [List.replicate_succ, List.cons_append]; exact skip_here (by decide) (by decide)
    rw [this]
    exact lex_nest0 N m n
def row1 : Nat → List (Int × List UInt8)
  | 0 => [(1, [97]), (0, [])]
  | n + 1 => (1, [120]) :: (8, []) :: row1 n
def row2 : Nat → List (Int × List UInt8)
  | 0 => [(1, [97]), (0, [])]
  | n + 1 => (1, [97]) :: (4, [44]) :: row2 n
theorem skip_nest1 (n : Nat) : skipL false (nest1 n) = nest1 n := by
  cases n with
  | zero => exact skip_here (by decide) (by decide)
  | succ n => exact skip_here (by decide) (by decide)
theorem skip_nest2 (n : Nat) : skipL false (nest2 n) = nest2 n := by
  cases n with
  | zero => exact skip_here (by decide) (by decide)
  | succ n => exact skip_here (by decide) (by decide)
theorem lex_a (N : Nat) : LexK N [97] [(1, [97]), (0, [])] := LexK.name_ (by intro c r h; cases h) (by decide) (by decide) (by decide) (LexK.nil N)
theorem lex_nest1 (N : Nat) : ∀ n, LexK N (nest1 n) (row1 n)
  | 0 => lex_a N
  | n + 1 => by
    refine LexK.name_ ?_ (by decide) (by decide) (by decide) ?_
    · intro c r h; injection h with h; subst h; decide
    · show LexK N (skipL false (92 :: 32 :: nest1 n)) _
      rw [skip_here (by decide) (by decide)]
      refine LexK.mark 8 (by decide) (by decide) ?_
      rw [skip_blank, skip_nest1]
      exact lex_nest1 N n
theorem lex_nest2 (N : Nat) : ∀ n, LexK N (nest2 n) (row2 n)
  | 0 => lex_a N
  | n + 1 => by
    refine LexK.name_ ?_ (by decide) (by decide) (by decide) ?_
    · intro c r h; injection h with h; subst h; decide
    · show LexK N (skipL false (32 :: 44 :: 32 :: nest2 n)) _
      rw [skip_blank, skip_here (by decide) (by decide)]
      refine LexK.comma ?_
      rw [skip_blank, skip_nest2]
      exact lex_nest2 N n
theorem lexL_of {l : List UInt8} {ks : List (Int × List UInt8)} (hl : l.length ≤ 65536) (hs : skipL false l = l) (h : LexK l.length l ks) : (lexL l).toks.map tokK = ks := by
  obtain ⟨T, h1, h2⟩ := h
  rw [lexL, if_neg (by omega), hs, h1]
  exact h2
theorem tokL_k {t : List Tok} {ks : List (Int × List UInt8)} (h : t.map tokK = ks) {i : Nat} {k : Int} {s : List UInt8} (hi : ks[i]? = some (k, s)) : (tokL t i).kind = k ∧ (tokL t i).text = s := by
  subst h
  rw [List.getElem?_map] at hi
  cases ht : t[i]? with
  | none => rw [ht] at hi; cases hi
  | some x =>
    rw [ht] at hi
    injection hi with hi
    injection hi with h1 h2
    rw [tokL, ht]
    exact ⟨h1, h2⟩
theorem row1_at : ∀ (n i : Nat), i ≤ n → (∃ s, (row1 n)[2 * i]? = some (1, s) ∧ (s = [97] ∨ s = [120])) ∧ (i < n → (row1 n)[2 * i + 1]? = some (8, [])) ∧ (row1 n)[2 * n + 1]? = some (0, [])
  | 0, i, h => by
    have : i = 0 := by omega
    subst this
    exact ⟨⟨_, rfl, .inl rfl⟩, fun h => by omega, rfl⟩
  | n + 1, 0, _ => ⟨⟨_, rfl, .inr rfl⟩, fun _ => rfl, by
    have := (row1_at n 0 (Nat.zero_le _)).2.2
    show (row1 n)[2 * n + 1]? = _
    exact this⟩
  | n + 1, i + 1, h => by
    obtain ⟨h1, h2, h3⟩ := row1_at n i (by omega)
    exact ⟨h1, fun hi => h2 (by omega), h3⟩
theorem row2_at : ∀ (n i : Nat), i ≤ n → (row2 n)[2 * i]? = some (1, [97]) ∧ (i < n → (row2 n)[2 * i + 1]? = some (4, [44])) ∧ (row2 n)[2 * n + 1]? = some (0, [])
  | 0, i, h => by
    have : i = 0 := by omega
    subst this
    exact ⟨rfl, fun h => by omega, rfl⟩
  | n + 1, 0, _ => ⟨rfl, fun _ => rfl, by
    have := (row2_at n 0 (Nat.zero_le _)).2.2
    show (row2 n)[2 * n + 1]? = _
    exact this⟩
  | n + 1, i + 1, h => by
    obtain ⟨h1, h2, h3⟩ := row2_at n i (by omega)
    exact ⟨h1, fun hi => h2 (by omega), h3⟩
/-- What is read of them. -/
theorem nested0 {l : List OpT} (n : Nat) (hn : n ≤ 1000) (ho : findL l [97] = none) : (n ≤ 200 → ∃ m j, Expr l (lexL (nest0 n)).toks 0 0 0 (.ok (m, j))) ∧ (200 < n → ∃ p, Expr l (lexL (nest0 n)).toks 0 0 0 (.error ⟨31, p⟩)) := by
  have hl := nest_len n
  have hs : skipL false (nest0 n) = nest0 n := by
    cases n with
    | zero => exact skip_here (by decide) (by decide)
    | succ n => exact skip_here (by decide) (by decide)
  have hk := lexL_of (l := nest0 n) (by omega) hs (by have := lex_nest0 (nest0 n).length n n; rwa [← nest0_eq] at this)
  generalize (lexL (nest0 n)).toks = t at hk ⊢
  have g5 : ∀ i, i < n → (tokL t i).kind = 5 := fun i hi => (tokL_k hk (by rw [List.getElem?_append_left (by simpa using hi), List.getElem?_replicate, if_pos hi])).1
  have gk := tokL_k hk (i := n) (k := 1) (s := [97]) (by rw [List.getElem?_append_right (by simp)]; simp)
  have g6 : ∀ i, i < n → (tokL t (n + 1 + i)).kind = 6 := fun i hi => (tokL_k hk (by
    rw [List.getElem?_append_right (by simp; omega), List.length_replicate, show n + 1 + i - n = i + 1 by omega, List.getElem?_cons_succ, List.getElem?_append_left (by simpa using hi), List.getElem?_replicate, if_pos hi])).1
  have g0 : (tokL t (2 * n + 1)).kind = 0 := (tokL_k hk (s := []) (by
    rw [List.getElem?_append_right (by simp; omega), List.length_replicate, show 2 * n + 1 - n = n + 1 by omega, List.getElem?_cons_succ, List.getElem?_append_right (by simp)]; simp)).1
  have hop : opOf l (tokL t n) = none := by rw [opOf, if_pos (.inl gk.1), gk.2]; exact ho
  obtain ⟨a, b⟩ := deep0 g5 gk.1 hop g6 g0 n 0 (Nat.le_refl _) (by omega)
  exact ⟨fun h => let ⟨m, hm⟩ := a h; ⟨_, _, hm⟩, fun h => b h (Nat.zero_le _)⟩
theorem nested1 {l : List OpT} (n : Nat) (hn : n ≤ 1000) (ho : findL l [97] = none) (hx : findL l [120] = none) : (n ≤ 200 → ∃ m j, Expr l (lexL (nest1 n)).toks 0 0 0 (.ok (m, j))) ∧ (200 < n → ∃ p, Expr l (lexL (nest1 n)).toks 0 0 0 (.error ⟨31, p⟩)) := by
  have hl := nest_len n
  have hk := lexL_of (l := nest1 n) (by omega) (skip_nest1 n) (lex_nest1 _ n)
  generalize (lexL (nest1 n)).toks = t at hk ⊢
  have g1 : ∀ i, i ≤ n → (tokL t (2 * i)).kind = 1 ∧ opOf l (tokL t (2 * i)) = none := fun i hi => by
    obtain ⟨s, h1, h2⟩ := (row1_at n i hi).1
    have := tokL_k hk h1
    refine ⟨this.1, ?_⟩
    rw [opOf, if_pos (.inl this.1), this.2]
    rcases h2 with rfl | rfl
    · exact ho
    · exact hx
  have g8 : ∀ i, i < n → (tokL t (2 * i + 1)).kind = 8 := fun i hi => (tokL_k hk ((row1_at n i (by omega)).2.1 hi)).1
  have g0 : (tokL t (2 * n + 1)).kind = 0 := (tokL_k hk (row1_at n 0 (Nat.zero_le _)).2.2).1
  obtain ⟨a, b⟩ := deep1 g1 g8 g0 n 0 (Nat.le_refl _) (by omega)
  exact ⟨fun h => let ⟨m, hm⟩ := a h; ⟨_, _, hm⟩, fun h => b h (Nat.zero_le _)⟩
theorem nested2 {l : List OpT} (n : Nat) (hn : n ≤ 1000) (ho : findL l [97] = none) {o : OpT} (hc : findL l [44] = some o) (hf : o.fix = 2) (hp : 0 ≤ o.prec) : (n ≤ 200 → ∃ m j, Expr l (lexL (nest2 n)).toks 0 0 0 (.ok (m, j))) ∧ (200 < n → ∃ p, Expr l (lexL (nest2 n)).toks 0 0 0 (.error ⟨31, p⟩)) := by
  have hl := nest_len n
  have hk := lexL_of (l := nest2 n) (by omega) (skip_nest2 n) (lex_nest2 _ n)
  generalize (lexL (nest2 n)).toks = t at hk ⊢
  have g1 : ∀ i, i ≤ n → (tokL t (2 * i)).kind = 1 ∧ opOf l (tokL t (2 * i)) = none := fun i hi => by
    have := tokL_k hk (row2_at n i hi).1
    refine ⟨this.1, ?_⟩
    rw [opOf, if_pos (.inl this.1), this.2]
    exact ho
  have g4 : ∀ i, i < n → (tokL t (2 * i + 1)).kind = 4 ∧ opOf l (tokL t (2 * i + 1)) = some o := fun i hi => by
    have := tokL_k hk ((row2_at n i (by omega)).2.1 hi)
    refine ⟨this.1, ?_⟩
    rw [opOf, if_pos (.inr this.1), this.2]
    exact hc
  have g0 : (tokL t (2 * n + 1)).kind = 0 := (tokL_k hk (row2_at n 0 (Nat.zero_le _)).2.2).1
  obtain ⟨a, b⟩ := deep2 hf hp g1 g4 g0 n 0 (Nat.le_refl _) (by omega) 0 hp
  exact ⟨fun h => let ⟨m, _, hm⟩ := a h; ⟨_, _, hm⟩, fun h => b h (Nat.zero_le _)⟩
end Go.Lamb

/-
  Plain: tokens, operators and trees as cells.
  Plain: small aids of the walks.
  Plain: which trees could have been read, which are the same, and how large they are.
  Plain: how far is read.
  Plain: types, and how types are read of tokens.
  Plain: what a type takes, what comes of it, and which types may be.
  Plain: a type's text, its size, its variables.
  Plain: a type's text is no shorter than its parts'; types whose numbers are ints.
  Plain: how many types there are in one, and how long its text may be.
  Plain: types with others in the place of variables, as they come; numbered anew.
  Plain: what a type's text is lexed as.
  Plain: what is written of a type is read as it, numbered anew.
  Plain: how a tree is written.
  Plain: how long a tree's text is.
  Plain: words at the head of a text, whatever stands behind them; trees without their places.
  Plain: what is read hangs on the tokens that are read alone.
  Plain: how deep may be nested.
  Plain: what is written of a tree is read as it.
  Plain: what is written of a tree is read as it: words, abstractions, applications, operators.
  Plain: what is written of a tree is read as it: operators; all.
  Plain: what is read of tokens is a tree that could have been read.
  Plain: a type that was read: it may be, it is numbered as it is met, and it is not nested too deep.
  Plain: how long a text is that is written of what was read.
  Plain: sentences, and how they are read of tokens.
-/
import Derived.Test.YtplgnfciipceiaaGreatDoorQJ11
import Derived.Test.YtplgnfciipceiaaGreatDoorQJ10
import Derived.Lib.Join
import Derived.Lib.ItoaNum
import Derived.Lib.ItoaLen
import Derived.Test.YtplgnfciipceiaaGreatDoorQLexBk
import Derived.Test.YtplgnfciipceiaaGreatDoorQLxK
set_option linter.unusedSimpArgs false
set_option linter.unusedVariables false
set_option maxHeartbeats 8000000
set_option maxRecDepth 20000
namespace Go.Lamb
open Go Go.RowKit

theorem beq_t (b : Bool) : (b == true) = b := by cases b <;> rfl
theorem beq_f (b : Bool) : (b == false) = !b := by cases b <;> rfl
def I (n : Int) : V := .c (.int .i64 n)
def S (l : List UInt8) : V := .c (.str l)
def B (b : Bool) : V := .c (.bool b)
def OpT.cs (o : OpT) : List C := [.str o.name, .int .i64 o.prec, .int .i64 o.fix]
def OpT.v (o : OpT) : V := .agg [.c (.str o.name), .c (.int .i64 o.prec), .c (.int .i64 o.fix)]
def opsC (l : List OpT) : C := .sl (l.map OpT.cs)
def Tok.cs (t : Tok) : List C := [.int .i64 t.kind, .str t.text, .int .i64 t.n, .int .i64 t.pos]
def Tok.v (t : Tok) : V := .agg [.c (.int .i64 t.kind), .c (.str t.text), .c (.int .i64 t.n), .c (.int .i64 t.pos)]
def toksC (l : List Tok) : C := .sl (l.map Tok.cs)
mutual
def Pre.cs : Pre → List C
  | .mk k s n l a => [.int .i64 k, .str s, .int .i64 n, .sl (Pre.rows l), .int .i64 a]
def Pre.rows : List Pre → List (List C)
  | [] => []
  | p :: l => p.cs :: Pre.rows l
end
theorem Pre.rows_map (l : List Pre) : Pre.rows l = l.map Pre.cs := by
  induction l with
  | nil => rfl
  | cons p l ih => simp [Pre.rows, ih]
def Pre.v (p : Pre) : V := .agg [.c (.int .i64 p.k), .c (.str p.name), .c (.int .i64 p.n), .c (.sl (p.l.map Pre.cs)), .c (.int .i64 p.pos)]
theorem Pre.cs_eq (p : Pre) : p.cs = [.int .i64 p.k, .str p.name, .int .i64 p.n, .sl (p.l.map Pre.cs), .int .i64 p.pos] := by
  cases p
  simp [Pre.cs, Pre.k, Pre.name, Pre.n, Pre.l, Pre.pos, Pre.rows_map]
def UpTo {α : Type} (p : α → Bool) (l : List α) (i : Nat) : Prop := ∀ j (hj : j < l.length), j < i → p l[j] = false
def idxI {α : Type} (p : α → Bool) (l : List α) : Int := match l.findIdx? p with
  | some k => k
  | none => -1
theorem idxI_at {α : Type} {p : α → Bool} {l : List α} {i : Nat} (h : UpTo p l i) (hi : i < l.length) (hp : p l[i] = true) : idxI p l = i := by
  unfold idxI
  rw [List.findIdx?_eq_some_iff_getElem.2 ⟨hi, hp, fun j hj => by rw [h j (by omega) hj]; simp⟩]
theorem idxI_none {α : Type} {p : α → Bool} {l : List α} (h : ∀ j (hj : j < l.length), p l[j] = false) : idxI p l = -1 := by
  unfold idxI
  rw [List.findIdx?_eq_none_iff.2 fun x hx => by obtain ⟨j, hj, rfl⟩ := List.getElem_of_mem hx; exact h j hj]
theorem idxI_cases {α : Type} (p : α → Bool) (l : List α) : (idxI p l = -1 ∧ l.find? p = none) ∨ ∃ i, ∃ (hi : i < l.length), idxI p l = (i : Int) ∧ l.find? p = some l[i] := by
  unfold idxI
  cases h : l.findIdx? p with
  | none =>
    left
    rw [List.findIdx?_eq_none_iff] at h
    exact ⟨rfl, List.find?_eq_none.2 fun x hx => by rw [h x hx]; simp⟩
  | some k =>
    right
    obtain ⟨hk, h1, h2⟩ := List.findIdx?_eq_some_iff_getElem.1 h
    refine ⟨k, hk, rfl, ?_⟩
    rw [List.find?_eq_some_iff_getElem]
    exact ⟨h1, k, hk, rfl, fun j hj => by simpa using h2 j hj⟩
theorem idxI_none_iff {α : Type} {p : α → Bool} {l : List α} : idxI p l = -1 ↔ ∀ x ∈ l, p x = false := by
  unfold idxI
  cases h : l.findIdx? p with
  | none => simpa [List.findIdx?_eq_none_iff] using h
  | some k =>
    obtain ⟨hk, h1, _⟩ := List.findIdx?_eq_some_iff_getElem.1 h
    constructor
    · intro e; simp only at e; omega
    · intro e; rw [e _ (List.getElem_mem hk)] at h1; cases h1
def OpT.zero : OpT := ⟨[], 0, 0⟩
def foundV (o : Option OpT) : V := .tup [(o.getD OpT.zero).v, B o.isSome]
theorem upTo_next {α : Type} {p : α → Bool} {l : List α} {i : Nat} (h : UpTo p l i) (hi : i < l.length) (hp : p l[i] = false) : UpTo p l (i + 1) := fun j hj hji => by
  rcases Nat.lt_succ_iff_lt_or_eq.1 hji with h' | h'
  · exact h j hj h'
  · subst h'; exact hp
theorem upTo_zero {α : Type} {p : α → Bool} {l : List α} : UpTo p l 0 := fun j _ h => absurd h (by omega)
theorem sz_rows {α : Type} {f : α → List C} {l : List α} (h : V.Sz (.c (.sl (l.map f)))) : l.length ≤ 9223372036854775807 := by
  rw [sz_c, sz_sl] at h
  simpa [maxLen] using h.1
theorem wrap_next {i n : Nat} (h : i < n) (hn : n ≤ 9223372036854775807) : IntKind.i64.wrap ((i : Int) + 1) = ((i + 1 : Nat) : Int) := by rw [wrap_in] <;> omega
theorem nat0 (i : Nat) : (0 : Int) ≤ (i : Int) := by omega
theorem natCast0 : ((0 : Nat) : Int) = 0 := rfl
theorem natCast1 : ((1 : Nat) : Int) = 1 := rfl
theorem natCast2 : ((2 : Nat) : Int) = 2 := rfl
theorem k_mk (k : Int) (s : List UInt8) (n : Int) (l : List Pre) (a : Int) : (Pre.mk k s n l a).k = k := rfl
theorem name_mk (k : Int) (s : List UInt8) (n : Int) (l : List Pre) (a : Int) : (Pre.mk k s n l a).name = s := rfl
theorem n_mk (k : Int) (s : List UInt8) (n : Int) (l : List Pre) (a : Int) : (Pre.mk k s n l a).n = n := rfl
theorem l_mk (k : Int) (s : List UInt8) (n : Int) (l : List Pre) (a : Int) : (Pre.mk k s n l a).l = l := rfl
theorem pos_mk (k : Int) (s : List UInt8) (n : Int) (l : List Pre) (a : Int) : (Pre.mk k s n l a).pos = a := rfl
end Go.Lamb
namespace Go.Lamb
open Go Go.RowKit

theorem fit_str {κ : K} (s : ByteArray) (h : s.size ≤ maxLen) : RV κ (S s.data.toList) (.string s) := by
  have := RC.str (m := κ.m) s.data.toList (by simpa using h)
  rw [← bs_of] at this
  exact .c this
end Go.Lamb
namespace Go.Lamb
open Go Go.RowKit

def zipAll {α β : Type} (f : α → β → Bool) : List α → List β → Bool
  | [], [] => true
  | x :: l, y :: r => f x y && zipAll f l r
  | _, _ => false
theorem zipAll_len {α β : Type} {f : α → β → Bool} : ∀ {l : List α} {r : List β}, l.length ≠ r.length → zipAll f l r = false
  | [], [], h => absurd rfl h
  | x :: l, y :: r, h => by
    rw [zipAll, zipAll_len (l := l) (r := r) (fun e => h (by simp [e])), Bool.and_false]
  | [], _ :: _, _ => rfl
  | _ :: _, [], _ => rfl
theorem zipAll_no {α β : Type} {f : α → β → Bool} : ∀ {l : List α} {r : List β} {j : Nat} (hj : j < l.length) (hj' : j < r.length), f l[j] r[j] = false → zipAll f l r = false
  | x :: l, y :: r, 0, _, _, h => by rw [zipAll]; simp only [List.getElem_cons_zero] at h; rw [h]; rfl
  | x :: l, y :: r, j + 1, hj, hj', h => by
    rw [zipAll, zipAll_no (j := j) (by simpa using hj) (by simpa using hj') (by simpa using h), Bool.and_false]
  | [], _, _, hj, _, _ => by simp at hj
  | _ :: _, [], _, _, hj', _ => by simp at hj'
theorem zipAll_yes {α β : Type} {f : α → β → Bool} : ∀ {l : List α} {r : List β}, l.length = r.length → (∀ j (hj : j < l.length) (hj' : j < r.length), f l[j] r[j] = true) → zipAll f l r = true
  | [], [], _, _ => rfl
  | x :: l, y :: r, hl, h => by
    rw [zipAll, zipAll_yes (by simpa using hl) (fun j hj hj' => h (j + 1) (Nat.succ_lt_succ hj) (Nat.succ_lt_succ hj'))]
    have := h 0 (by simp) (by simp)
    simp only [List.getElem_cons_zero] at this
    rw [this]; rfl
  | [], _ :: _, hl, _ => by simp at hl
  | _ :: _, [], hl, _ => by simp at hl
theorem Pre.ind {P : Pre → Prop} (h : ∀ p, (∀ q ∈ p.l, P q) → P p) : ∀ p, P p
  | .mk k s n l a => h _ fun q hq => Pre.ind h q
termination_by p => SizeOf.sizeOf p
decreasing_by
  have := List.sizeOf_lt_of_mem hq
  simp only [Pre.l] at this
  simp only [Pre.mk.sizeOf_spec]
  omega
mutual
def samePre : Pre → Pre → Bool
  | .mk k s n l _, .mk k' s' n' l' _ => k == k' && s == s' && n == n' && samePres l l'
def samePres : List Pre → List Pre → Bool
  | [], [] => true
  | x :: l, y :: r => samePre x y && samePres l r
  | _, _ => false
end
theorem samePres_zip : ∀ (l r : List Pre), samePres l r = zipAll samePre l r
  | [], [] => by simp [samePres, zipAll]
  | x :: l, y :: r => by rw [samePres, zipAll, samePres_zip l r]
  | [], _ :: _ => by simp [samePres, zipAll]
  | _ :: _, [] => by simp [samePres, zipAll]
theorem samePre_eq (p q : Pre) : samePre p q = (p.k == q.k && p.name == q.name && p.n == q.n && zipAll samePre p.l q.l) := by
  cases p; cases q
  simp only [samePre, samePres_zip, Pre.k, Pre.name, Pre.n, Pre.l]
def nodeOk (l : List OpT) (k : Int) (s : List UInt8) (n : Int) (len : Nat) : Bool :=
  if k = 0 then (isNameB s || isSymB s) && n == 0 && len == 0
  else if k = 1 then isVarB s && !(findL l s).isSome && n == 0 && len == 0
  else if k = 2 then s == [] && decide (0 ≤ n) && len == 0
  else if k = 3 then s == [] && n == 0 && len == 2
  else if k = 4 then (isNameB s || isVarB s) && !(findL l s).isSome && n == 0 && len == 1
  else false
mutual
def validPre (o : List OpT) : Pre → Bool
  | .mk k s n l _ => nodeOk o k s n l.length && validPres o l
def validPres (o : List OpT) : List Pre → Bool
  | [] => true
  | x :: l => validPre o x && validPres o l
end
theorem validPres_all (o : List OpT) : ∀ (l : List Pre), validPres o l = l.all (validPre o)
  | [] => by simp [validPres]
  | x :: l => by rw [validPres, List.all_cons, validPres_all o l]
theorem validPre_eq (o : List OpT) (p : Pre) : validPre o p = (nodeOk o p.k p.name p.n p.l.length && p.l.all (validPre o)) := by
  cases p
  simp only [validPre, validPres_all, Pre.k, Pre.name, Pre.n, Pre.l]
mutual
def leftP : Pre → Int → Int
  | .mk _ _ _ l _, n => leftPs l (n - 1)
def leftPs : List Pre → Int → Int
  | [], n => n
  | p :: l, n => if 0 ≤ n then leftPs l (leftP p n) else n
end
theorem leftP_eq (p : Pre) (n : Int) : leftP p n = leftPs p.l (n - 1) := by cases p; simp [leftP, Pre.l]
theorem leftPs_neg {l : List Pre} {n : Int} (h : ¬ 0 ≤ n) : leftPs l n = n := by
  cases l with
  | nil => rfl
  | cons p l => rw [leftPs, if_neg h]
mutual
theorem leftP_le : ∀ (p : Pre) (n : Int), 0 ≤ n → -1 ≤ leftP p n ∧ leftP p n ≤ n - 1
  | .mk _ _ _ l _, n, h => by rw [leftP]; exact leftPs_le l (n - 1) (by omega)
theorem leftPs_le : ∀ (l : List Pre) (n : Int), -1 ≤ n → -1 ≤ leftPs l n ∧ leftPs l n ≤ n
  | [], n, h => by rw [leftPs]; omega
  | p :: l, n, h => by
    rw [leftPs]
    split
    · rename_i h0
      have h1 := leftP_le p n h0
      have h2 := leftPs_le l (leftP p n) h1.1
      omega
    · omega
end
theorem leftPs_step {l : List Pre} {i : Nat} {n : Int} (hi : i < l.length) (hn : 0 ≤ n) : leftPs (l.drop i) n = leftPs (l.drop (i + 1)) (leftP l[i] n) := by
  rw [List.drop_eq_getElem_cons hi, leftPs, if_pos hn]
theorem leftPs_end {l : List Pre} {i : Nat} {n : Int} (hi : l.length ≤ i) : leftPs (l.drop i) n = n := by
  rw [List.drop_eq_nil_of_le hi, leftPs]
end Go.Lamb
namespace Go.Lamb
open Go Go.RowKit

theorem tokL_lt {t : List Tok} {i : Nat} (h : (tokL t i).kind ≠ 0) : i < t.length := by
  rcases Nat.lt_or_ge i t.length with h' | h'
  · exact h'
  · rw [tokL, List.getElem?_eq_none h'] at h
    exact absurd rfl h
theorem begins_lt {l : List OpT} {t : List Tok} {i : Nat} (h : beginsL l (tokL t i) ≠ false) : i < t.length := by
  refine tokL_lt fun e => h ?_
  rw [beginsL, e]
  simp
theorem opOf_lt {l : List OpT} {t : List Tok} {i : Nat} {o : OpT} (h : opOf l (tokL t i) = some o) : i < t.length := by
  refine tokL_lt fun e => ?_
  rw [opOf, e] at h
  simp at h
theorem fuel_bounds : ∀ (f : Nat),
    (∀ l t depth i p j, atomF f l t depth i = some (.ok (p, j)) → i < j ∧ j ≤ t.length) ∧
    (∀ l t depth i p pos last q j, argsF f l t depth i p pos last = some (.ok (q, j)) → i ≤ t.length → i ≤ j ∧ j ≤ t.length) ∧
    (∀ l t least depth i m j, exprF f l t least depth i = some (.ok (m, j)) → i < j ∧ j ≤ t.length) ∧
    (∀ l t least depth i m r j, chainF f l t least depth i m = some (.ok (r, j)) → i ≤ t.length → i ≤ j ∧ j ≤ t.length)
  | 0 => ⟨fun _ _ _ _ _ _ h => by simp [atomF] at h, fun _ _ _ _ _ _ _ _ _ h => by simp [argsF] at h, fun _ _ _ _ _ _ _ h => by simp [exprF] at h, fun _ _ _ _ _ _ _ _ h => by simp [chainF] at h⟩
  | f + 1 => by
    obtain ⟨h1, h2, h3, h4⟩ := fuel_bounds f
    refine ⟨fun l t depth i p j h => ?_, fun l t depth i p pos last q j h hi => ?_, fun l t least depth i m j h => ?_, fun l t least depth i m r j h hi => ?_⟩
    · rw [atomF] at h
      simp only at h
      split at h
      · cases h
      · rename_i hb
        have hlt := begins_lt hb
        split at h
        · split at h
          · rename_i hc
            have := tokL_lt (t := t) (i := i + 2) (by rw [hc.2]; decide)
            injection h with h; injection h with h; injection h with _ h
            omega
          · split at h
            · cases h
            · cases he : exprF f l t 0 (depth + 1) (i + 1) with
              | none => rw [he] at h; cases h
              | some x =>
                rw [he] at h
                cases x with
                | error b => cases h
                | ok x =>
                  obtain ⟨m, k⟩ := x
                  simp only at h
                  split at h
                  · rename_i hk
                    have := tokL_lt (t := t) (i := k) (by rw [hk]; decide)
                    have := h3 _ _ _ _ _ _ _ he
                    injection h with h; injection h with h; injection h with _ h
                    omega
                  · cases h
        · split at h
          · injection h with h; injection h with h; injection h with _ h
            omega
          · split at h
            · split at h
              · cases h
              · cases he : exprF f l t 0 (depth + 1) (i + 2) with
                | none => rw [he] at h; cases h
                | some x =>
                  rw [he] at h
                  cases x with
                  | error b => cases h
                  | ok x =>
                    obtain ⟨m, k⟩ := x
                    have := h3 _ _ _ _ _ _ _ he
                    injection h with h; injection h with h; injection h with _ h
                    omega
            · injection h with h; injection h with h; injection h with _ h
              omega
    · rw [argsF] at h
      split at h
      · injection h with h; injection h with h; injection h with _ h
        omega
      · cases he : atomF f l t depth i with
        | none => rw [he] at h; cases h
        | some x =>
          rw [he] at h
          cases x with
          | error b => cases h
          | ok x =>
            have := h1 _ _ _ _ _ _ he
            have := h2 _ _ _ _ _ _ _ _ _ h this.2
            omega
    · rw [exprF] at h
      cases he : atomF f l t depth i with
      | none => rw [he] at h; cases h
      | some x =>
        rw [he] at h
        cases x with
        | error b => cases h
        | ok x =>
          simp only at h
          have k1 := h1 _ _ _ _ _ _ he
          cases hg : argsF f l t depth x.2 x.1 x.1.pos (lamAt t i) with
          | none => rw [hg] at h; cases h
          | some y =>
            rw [hg] at h
            cases y with
            | error b => cases h
            | ok y =>
              have k2 := h2 _ _ _ _ _ _ _ _ _ hg k1.2
              have k3 := h4 _ _ _ _ _ _ _ _ h k2.2
              omega
    · rw [chainF] at h
      cases ho : opOf l (tokL t i) with
      | none =>
        rw [ho] at h
        injection h with h; injection h with h; injection h with _ h
        omega
      | some o =>
        rw [ho] at h
        simp only at h
        have hlt := opOf_lt ho
        split at h
        · injection h with h; injection h with h; injection h with _ h
          omega
        · split at h
          · cases h
          · split at h
            · cases h
            · cases he : exprF f l t (nextL o) (depth + 1) (i + 1) with
              | none => rw [he] at h; cases h
              | some x =>
                rw [he] at h
                cases x with
                | error b => cases h
                | ok x =>
                  have k1 := h3 _ _ _ _ _ _ _ he
                  simp only at h
                  cases hb : x.1.by_ with
                  | none =>
                    rw [hb] at h
                    have := h4 _ _ _ _ _ _ _ _ h k1.2
                    omega
                  | some y =>
                    rw [hb] at h
                    simp only at h
                    split at h
                    · have := h4 _ _ _ _ _ _ _ _ h k1.2
                      omega
                    · cases h
theorem fuel_enough (l : List OpT) (t : List Tok) : ∀ (n : Nat),
    (∀ depth i, t.length ≤ i + n → ∃ f r, atomF f l t depth i = some r) ∧
    (∀ depth i p pos last, t.length ≤ i + n → ∃ f r, argsF f l t depth i p pos last = some r) ∧
    (∀ least depth i, t.length ≤ i + n → ∃ f r, exprF f l t least depth i = some r) ∧
    (∀ least depth i m, t.length ≤ i + n → ∃ f r, chainF f l t least depth i m = some r) := by
  intro n
  induction n using Nat.strongRecOn with
  | ind n ih =>
    have hA : ∀ depth i, t.length ≤ i + n → ∃ f r, atomF f l t depth i = some r := fun depth i hi => by
      by_cases hb : beginsL l (tokL t i) = false
      · exact ⟨1, _, by rw [atomF]; simp only; rw [if_pos hb]⟩
      · have hlt := begins_lt hb
        obtain ⟨n', rfl⟩ : ∃ n', n = n' + 1 := ⟨n - 1, by omega⟩
        obtain ⟨f1, r1, h1⟩ := (ih n' (by omega)).2.2.1 0 (depth + 1) (i + 1) (by omega)
        obtain ⟨f2, r2, h2⟩ : ∃ f r, exprF f l t 0 (depth + 1) (i + 2) = some r := by
          rcases Nat.lt_or_ge 0 n' with h | h
          · obtain ⟨n2, rfl⟩ : ∃ n2, n' = n2 + 1 := ⟨n' - 1, by omega⟩
            exact (ih n2 (by omega)).2.2.1 0 (depth + 1) (i + 2) (by omega)
          · exact (ih n' (by omega)).2.2.1 0 (depth + 1) (i + 2) (by omega)
        have h1' := (fuel_le (Nat.le_max_left f1 f2)).2.2.1 _ _ _ _ _ _ h1
        have h2' := (fuel_le (Nat.le_max_right f1 f2)).2.2.1 _ _ _ _ _ _ h2
        refine ⟨max f1 f2 + 1, ?_⟩
        rw [atomF]
        simp only
        rw [if_neg hb, h1', h2']
        split
        · split
          · exact ⟨_, rfl⟩
          · split
            · exact ⟨_, rfl⟩
            · cases r1 with
              | error b => exact ⟨_, rfl⟩
              | ok x =>
                simp only
                split
                · exact ⟨_, rfl⟩
                · exact ⟨_, rfl⟩
        · split
          · exact ⟨_, rfl⟩
          · split
            · split
              · exact ⟨_, rfl⟩
              · cases r2 with
                | error b => exact ⟨_, rfl⟩
                | ok x => exact ⟨_, rfl⟩
            · exact ⟨_, rfl⟩
    have hG : ∀ depth i p pos last, t.length ≤ i + n → ∃ f r, argsF f l t depth i p pos last = some r := fun depth i p pos last hi => by
      by_cases hc : last = true ∨ beginsL l (tokL t i) = false
      · exact ⟨1, _, by rw [argsF, if_pos hc]⟩
      · have hlt : i < t.length := begins_lt fun e => hc (.inr e)
        obtain ⟨f1, r1, h1⟩ := hA depth i hi
        cases r1 with
        | error b => exact ⟨f1 + 1, _, by rw [argsF, if_neg hc, h1]⟩
        | ok x =>
          obtain ⟨q, j⟩ := x
          have hj := (fuel_bounds f1).1 _ _ _ _ _ _ h1
          obtain ⟨n', rfl⟩ : ∃ n', n = n' + 1 := ⟨n - 1, by omega⟩
          obtain ⟨f2, r2, h2⟩ := (ih n' (by omega)).2.1 depth j (Pre.app p q pos) pos (lamAt t i) (by omega)
          refine ⟨max f1 f2 + 1, r2, ?_⟩
          rw [argsF, if_neg hc, (fuel_le (Nat.le_max_left f1 f2)).1 _ _ _ _ _ h1]
          exact (fuel_le (Nat.le_max_right f1 f2)).2.1 _ _ _ _ _ _ _ _ h2
    have hC : ∀ least depth i m, t.length ≤ i + n → ∃ f r, chainF f l t least depth i m = some r := fun least depth i m hi => by
      cases ho : opOf l (tokL t i) with
      | none => exact ⟨1, _, by rw [chainF, ho]⟩
      | some o =>
        have hlt := opOf_lt ho
        obtain ⟨n', rfl⟩ : ∃ n', n = n' + 1 := ⟨n - 1, by omega⟩
        obtain ⟨f1, r1, h1⟩ := (ih n' (by omega)).2.2.1 (nextL o) (depth + 1) (i + 1) (by omega)
        cases r1 with
        | error b =>
          refine ⟨f1 + 1, ?_⟩
          rw [chainF, ho]
          simp only
          rw [h1]
          split
          · exact ⟨_, rfl⟩
          · split
            · exact ⟨_, rfl⟩
            · split
              · exact ⟨_, rfl⟩
              · exact ⟨_, rfl⟩
        | ok x =>
          obtain ⟨r, j⟩ := x
          have hj := (fuel_bounds f1).2.2.1 _ _ _ _ _ _ _ h1
          obtain ⟨f2, r2, h2⟩ := (ih n' (by omega)).2.2.2 least depth j ⟨applyL o (tokL t i).pos m.p r.p, some (o, (tokL t i).pos)⟩ (by omega)
          refine ⟨max f1 f2 + 1, ?_⟩
          rw [chainF, ho]
          simp only
          rw [(fuel_le (Nat.le_max_left f1 f2)).2.2.1 _ _ _ _ _ _ h1]
          simp only
          rw [(fuel_le (Nat.le_max_right f1 f2)).2.2.2 _ _ _ _ _ _ _ h2]
          split
          · exact ⟨_, rfl⟩
          · split
            · exact ⟨_, rfl⟩
            · split
              · exact ⟨_, rfl⟩
              · cases hb : r.by_ with
                | none => exact ⟨_, rfl⟩
                | some y =>
                  simp only
                  split
                  · exact ⟨_, rfl⟩
                  · exact ⟨_, rfl⟩
    refine ⟨hA, hG, fun least depth i hi => ?_, hC⟩
    obtain ⟨f1, r1, h1⟩ := hA depth i hi
    cases r1 with
    | error b => exact ⟨f1 + 1, _, by rw [exprF, h1]⟩
    | ok x =>
      obtain ⟨p, j⟩ := x
      have hj := (fuel_bounds f1).1 _ _ _ _ _ _ h1
      obtain ⟨f2, r2, h2⟩ := hG depth j p p.pos (lamAt t i) (by omega)
      cases r2 with
      | error b =>
        refine ⟨max f1 f2 + 1, .error b, ?_⟩
        rw [exprF, (fuel_le (Nat.le_max_left f1 f2)).1 _ _ _ _ _ h1]
        simp only
        rw [(fuel_le (Nat.le_max_right f1 f2)).2.1 _ _ _ _ _ _ _ _ h2]
      | ok y =>
        obtain ⟨q, k⟩ := y
        have hk := (fuel_bounds f2).2.1 _ _ _ _ _ _ _ _ _ h2 hj.2
        obtain ⟨f3, r3, h3⟩ := hC least depth k ⟨q, none⟩ (by omega)
        refine ⟨max (max f1 f2) f3 + 1, r3, ?_⟩
        rw [exprF, (fuel_le (by omega : f1 ≤ max (max f1 f2) f3)).1 _ _ _ _ _ h1]
        simp only
        rw [(fuel_le (by omega : f2 ≤ max (max f1 f2) f3)).2.1 _ _ _ _ _ _ _ _ h2]
        exact (fuel_le (by omega : f3 ≤ max (max f1 f2) f3)).2.2.2 _ _ _ _ _ _ _ h3
theorem Expr.some (l : List OpT) (t : List Tok) (least : Int) (depth i : Nat) : ∃ r, Expr l t least depth i r := by
  obtain ⟨f, r, h⟩ := (fuel_enough l t t.length).2.2.1 least depth i (by omega)
  exact ⟨r, f, h⟩
end Go.Lamb
namespace Go.Lamb
open Go Go.RowKit

inductive Typ where
  | mk (k : Int) (name : List UInt8) (n : Int) (l : List Typ)
  deriving Inhabited
def Typ.k : Typ → Int | .mk k _ _ _ => k
def Typ.name : Typ → List UInt8 | .mk _ s _ _ => s
def Typ.n : Typ → Int | .mk _ _ n _ => n
def Typ.l : Typ → List Typ | .mk _ _ _ l => l
theorem tk_mk (k : Int) (s : List UInt8) (n : Int) (l : List Typ) : (Typ.mk k s n l).k = k := rfl
theorem tname_mk (k : Int) (s : List UInt8) (n : Int) (l : List Typ) : (Typ.mk k s n l).name = s := rfl
theorem tn_mk (k : Int) (s : List UInt8) (n : Int) (l : List Typ) : (Typ.mk k s n l).n = n := rfl
theorem tl_mk (k : Int) (s : List UInt8) (n : Int) (l : List Typ) : (Typ.mk k s n l).l = l := rfl
mutual
def Typ.cs : Typ → List C
  | .mk k s n l => [.int .i64 k, .str s, .int .i64 n, .sl (Typ.rows l)]
def Typ.rows : List Typ → List (List C)
  | [] => []
  | p :: l => p.cs :: Typ.rows l
end
theorem Typ.rows_map (l : List Typ) : Typ.rows l = l.map Typ.cs := by
  induction l with
  | nil => rfl
  | cons p l ih => simp [Typ.rows, ih]
def Typ.v (p : Typ) : V := .agg [.c (.int .i64 p.k), .c (.str p.name), .c (.int .i64 p.n), .c (.sl (p.l.map Typ.cs))]
theorem Typ.cs_eq (p : Typ) : p.cs = [.int .i64 p.k, .str p.name, .int .i64 p.n, .sl (p.l.map Typ.cs)] := by
  cases p
  simp [Typ.cs, Typ.k, Typ.name, Typ.n, Typ.l, Typ.rows_map]
def tysC (l : List Typ) : C := .sl (l.map Typ.cs)
def Typ.none : Typ := .mk 0 [] 0 []
def Typ.con (s : List UInt8) : Typ := .mk 0 s 0 []
def Typ.var (n : Int) : Typ := .mk 1 [] n []
def Typ.arr (a b : Typ) : Typ := .mk 2 [] 0 [a, b]
def Typ.put (u a : Typ) : Typ := .mk u.k u.name u.n (u.l ++ [a])
theorem Typ.ind {P : Typ → Prop} (h : ∀ p, (∀ q ∈ p.l, P q) → P p) : ∀ p, P p
  | .mk k s n l => h _ fun q hq => Typ.ind h q
termination_by p => SizeOf.sizeOf p
decreasing_by
  have := List.sizeOf_lt_of_mem hq
  simp only [Typ.l] at this
  simp only [Typ.mk.sizeOf_spec]
  omega
mutual
def sameTy : Typ → Typ → Bool
  | .mk k s n l, .mk k' s' n' l' => k == k' && s == s' && n == n' && sameTys l l'
def sameTys : List Typ → List Typ → Bool
  | [], [] => true
  | x :: l, y :: r => sameTy x y && sameTys l r
  | _, _ => false
end
theorem sameTys_zip : ∀ (l r : List Typ), sameTys l r = zipAll sameTy l r
  | [], [] => by simp [sameTys, zipAll]
  | x :: l, y :: r => by rw [sameTys, zipAll, sameTys_zip l r]
  | [], _ :: _ => by simp [sameTys, zipAll]
  | _ :: _, [] => by simp [sameTys, zipAll]
theorem sameTy_eq (p q : Typ) : sameTy p q = (p.k == q.k && p.name == q.name && p.n == q.n && zipAll sameTy p.l q.l) := by
  cases p; cases q
  simp only [sameTy, sameTys_zip, Typ.k, Typ.name, Typ.n, Typ.l]
theorem sameTy_refl : ∀ (p : Typ), sameTy p p = true := Typ.ind fun p ih => by
  rw [sameTy_eq]
  simp only [beq_self_eq_true, Bool.true_and]
  exact zipAll_yes rfl fun j hj _ => ih _ (List.getElem_mem hj)
mutual
def leftT : Typ → Int → Int
  | .mk _ _ _ l, n => leftTs l (n - 1)
def leftTs : List Typ → Int → Int
  | [], n => n
  | p :: l, n => if 0 ≤ n then leftTs l (leftT p n) else n
end
mutual
theorem leftT_le : ∀ (p : Typ) (n : Int), 0 ≤ n → -1 ≤ leftT p n ∧ leftT p n ≤ n - 1
  | .mk _ _ _ l, n, h => by rw [leftT]; exact leftTs_le l (n - 1) (by omega)
theorem leftTs_le : ∀ (l : List Typ) (n : Int), -1 ≤ n → -1 ≤ leftTs l n ∧ leftTs l n ≤ n
  | [], n, h => by rw [leftTs]; omega
  | p :: l, n, h => by
    rw [leftTs]
    split
    · rename_i h0
      have h1 := leftT_le p n h0
      have h2 := leftTs_le l (leftT p n) h1.1
      omega
    · omega
end
/-! ### how types are read -/
abbrev Str := List UInt8
def vnum (vs : List Str) (s : Str) : Nat := (vs.findIdx? (· == s)).getD vs.length
def vadd (vs : List Str) (s : Str) : List Str := if (vs.findIdx? (· == s)).isSome then vs else vs ++ [s]
def tyBegins (x : Tok) : Bool := decide (x.kind = 1) || decide (x.kind = 2) || decide (x.kind = 5)
abbrev TyR := Except Bad (Typ × Nat × List Str)
mutual
def tyAtomF : Nat → List Tok → Nat → Nat → List Str → Option TyR
  | 0, _, _, _, _ => none
  | f + 1, t, depth, i, vs =>
    if (tokL t i).kind = 1 then some (.ok (.con (tokL t i).text, i + 1, vs))
    else if (tokL t i).kind = 2 then some (.ok (.var (vnum vs (tokL t i).text), i + 1, vadd vs (tokL t i).text))
    else if (tokL t i).kind = 5 then
      if 200 ≤ depth then some (.error ⟨31, (tokL t i).pos⟩)
      else match tyTypeF f t (depth + 1) (i + 1) vs with
        | none => none
        | some (.error b) => some (.error b)
        | some (.ok (u, j, ws)) => if (tokL t j).kind = 6 then some (.ok (u, j + 1, ws)) else some (.error ⟨50, (tokL t j).pos⟩)
    else some (.error ⟨50, (tokL t i).pos⟩)
def tyArgsF : Nat → List Tok → Nat → Nat → List Str → Typ → Option TyR
  | 0, _, _, _, _, _ => none
  | f + 1, t, depth, i, vs, u =>
    if tyBegins (tokL t i) = false then some (.ok (u, i, vs))
    else match tyAtomF f t depth i vs with
      | none => none
      | some (.error b) => some (.error b)
      | some (.ok (a, j, ws)) => tyArgsF f t depth j ws (u.put a)
def tyTailF : Nat → List Tok → Nat → Nat → List Str → Typ → Option TyR
  | 0, _, _, _, _, _ => none
  | f + 1, t, depth, i, vs, u =>
    if (tokL t i).kind = 4 ∧ (tokL t i).text = [45, 62] then
      if 200 ≤ depth then some (.error ⟨31, (tokL t i).pos⟩)
      else match tyTypeF f t (depth + 1) (i + 1) vs with
        | none => none
        | some (.error b) => some (.error b)
        | some (.ok (y, j, ws)) => some (.ok (.arr u y, j, ws))
    else some (.ok (u, i, vs))
def tyTypeF : Nat → List Tok → Nat → Nat → List Str → Option TyR
  | 0, _, _, _, _ => none
  | f + 1, t, depth, i, vs => match tyAtomF f t depth i vs with
    | none => none
    | some (.error b) => some (.error b)
    | some (.ok (u, j, ws)) => match (if (tokL t i).kind = 1 then tyArgsF f t depth j ws u else some (.ok (u, j, ws))) with
      | none => none
      | some (.error b) => some (.error b)
      | some (.ok (v, k, xs)) => tyTailF f t depth k xs v
end
theorem tyBegins_lt {t : List Tok} {i : Nat} (h : tyBegins (tokL t i) ≠ false) : i < t.length := by
  refine tokL_lt fun e => h ?_
  simp [tyBegins, e]
theorem vadd_len (vs : List Str) (s : Str) : (vadd vs s).length ≤ vs.length + 1 := by
  unfold vadd; split <;> simp
theorem ty_bounds : ∀ (f : Nat),
    (∀ t depth i vs u j ws, tyAtomF f t depth i vs = some (.ok (u, j, ws)) → i < j ∧ j ≤ t.length ∧ ws.length + i ≤ vs.length + j) ∧
    (∀ t depth i vs u v j ws, tyArgsF f t depth i vs u = some (.ok (v, j, ws)) → i ≤ t.length → i ≤ j ∧ j ≤ t.length ∧ ws.length + i ≤ vs.length + j) ∧
    (∀ t depth i vs u v j ws, tyTailF f t depth i vs u = some (.ok (v, j, ws)) → i ≤ t.length → i ≤ j ∧ j ≤ t.length ∧ ws.length + i ≤ vs.length + j) ∧
    (∀ t depth i vs u j ws, tyTypeF f t depth i vs = some (.ok (u, j, ws)) → i < j ∧ j ≤ t.length ∧ ws.length + i ≤ vs.length + j)
  | 0 => ⟨fun _ _ _ _ _ _ _ h => by simp [tyAtomF] at h, fun _ _ _ _ _ _ _ _ h => by simp [tyArgsF] at h, fun _ _ _ _ _ _ _ _ h => by simp [tyTailF] at h, fun _ _ _ _ _ _ _ h => by simp [tyTypeF] at h⟩
  | f + 1 => by
    obtain ⟨h1, h2, h3, h4⟩ := ty_bounds f
    refine ⟨fun t depth i vs u j ws h => ?_, fun t depth i vs u v j ws h hi => ?_, fun t depth i vs u v j ws h hi => ?_, fun t depth i vs u j ws h => ?_⟩
    · rw [tyAtomF] at h
      split at h
      · rename_i hk
        have := tokL_lt (t := t) (i := i) (by rw [hk]; decide)
        injection h with h; injection h with h; injection h with _ h; injection h with h h'
        subst h h'; omega
      · split at h
        · rename_i hk
          have := tokL_lt (t := t) (i := i) (by rw [hk]; decide)
          injection h with h; injection h with h; injection h with _ h; injection h with h h'
          subst h h'
          have := vadd_len vs (tokL t i).text
          omega
        · split at h
          · split at h
            · cases h
            · cases he : tyTypeF f t (depth + 1) (i + 1) vs with
              | none => rw [he] at h; cases h
              | some x =>
                rw [he] at h
                cases x with
                | error b => cases h
                | ok x =>
                  obtain ⟨u', k, xs⟩ := x
                  simp only at h
                  split at h
                  · rename_i hk
                    have := tokL_lt (t := t) (i := k) (by rw [hk]; decide)
                    have := h4 _ _ _ _ _ _ _ he
                    injection h with h; injection h with h; injection h with _ h; injection h with h h'
                    subst h h'; omega
                  · cases h
          · cases h
    · rw [tyArgsF] at h
      split at h
      · injection h with h; injection h with h; injection h with _ h; injection h with h h'
        subst h h'; omega
      · cases he : tyAtomF f t depth i vs with
        | none => rw [he] at h; cases h
        | some x =>
          rw [he] at h
          cases x with
          | error b => cases h
          | ok x =>
            obtain ⟨u', k, xs⟩ := x
            simp only at h
            have a1 := h1 _ _ _ _ _ _ _ he
            have a2 := h2 _ _ _ _ _ _ _ _ h a1.2.1
            omega
    · rw [tyTailF] at h
      split at h
      · split at h
        · cases h
        · cases he : tyTypeF f t (depth + 1) (i + 1) vs with
          | none => rw [he] at h; cases h
          | some x =>
            rw [he] at h
            cases x with
            | error b => cases h
            | ok x =>
              obtain ⟨u', k, xs⟩ := x
              simp only at h
              have := h4 _ _ _ _ _ _ _ he
              injection h with h; injection h with h; injection h with _ h; injection h with h h'
              subst h h'; omega
      · injection h with h; injection h with h; injection h with _ h; injection h with h h'
        subst h h'; omega
    · rw [tyTypeF] at h
      cases he : tyAtomF f t depth i vs with
      | none => rw [he] at h; cases h
      | some x =>
        rw [he] at h
        cases x with
        | error b => cases h
        | ok x =>
          obtain ⟨u', k, xs⟩ := x
          simp only at h
          have a1 := h1 _ _ _ _ _ _ _ he
          by_cases hk1 : (tokL t i).kind = 1
          · rw [if_pos hk1] at h
            cases h2e : tyArgsF f t depth k xs u' with
            | none => rw [h2e] at h; cases h
            | some y =>
              rw [h2e] at h
              cases y with
              | error b => cases h
              | ok y =>
                obtain ⟨v', m, ys⟩ := y
                simp only at h
                have a2 := h2 _ _ _ _ _ _ _ _ h2e a1.2.1
                have a3 := h3 _ _ _ _ _ _ _ _ h a2.2.1
                omega
          · rw [if_neg hk1] at h
            have a3 := h3 _ _ _ _ _ _ _ _ h a1.2.1
            omega
theorem ty_some : ∀ (f : Nat),
    (∀ t depth i vs, 4 * (t.length - i) + 1 ≤ f → ∃ r, tyAtomF f t depth i vs = some r) ∧
    (∀ t depth i vs u, 4 * (t.length - i) + 2 ≤ f → ∃ r, tyArgsF f t depth i vs u = some r) ∧
    (∀ t depth i vs u, 4 * (t.length - i) + 2 ≤ f → ∃ r, tyTailF f t depth i vs u = some r) ∧
    (∀ t depth i vs, 4 * (t.length - i) + 3 ≤ f → ∃ r, tyTypeF f t depth i vs = some r)
  | 0 => ⟨fun _ _ _ _ h => by omega, fun _ _ _ _ _ h => by omega, fun _ _ _ _ _ h => by omega, fun _ _ _ _ h => by omega⟩
  | f + 1 => by
    obtain ⟨h1, h2, h3, h4⟩ := ty_some f
    refine ⟨fun t depth i vs h => ?_, fun t depth i vs u h => ?_, fun t depth i vs u h => ?_, fun t depth i vs h => ?_⟩
    · rw [tyAtomF]
      split
      · exact ⟨_, rfl⟩
      · split
        · exact ⟨_, rfl⟩
        · split
          · rename_i hk
            have := tokL_lt (t := t) (i := i) (by rw [hk]; decide)
            split
            · exact ⟨_, rfl⟩
            · obtain ⟨r, hr⟩ := h4 t (depth + 1) (i + 1) vs (by omega)
              rw [hr]
              cases r with
              | error b => exact ⟨_, rfl⟩
              | ok x =>
                obtain ⟨u, j, ws⟩ := x
                simp only
                split <;> exact ⟨_, rfl⟩
          · exact ⟨_, rfl⟩
    · rw [tyArgsF]
      split
      · exact ⟨_, rfl⟩
      · rename_i hb
        have hlt := tyBegins_lt hb
        obtain ⟨r, hr⟩ := h1 t depth i vs (by omega)
        rw [hr]
        cases r with
        | error b => exact ⟨_, rfl⟩
        | ok x =>
          obtain ⟨u', j, ws⟩ := x
          have := (ty_bounds f).1 _ _ _ _ _ _ _ hr
          exact h2 t depth j ws _ (by omega)
    · rw [tyTailF]
      split
      · rename_i hk
        have := tokL_lt (t := t) (i := i) (by rw [hk.1]; decide)
        split
        · exact ⟨_, rfl⟩
        · obtain ⟨r, hr⟩ := h4 t (depth + 1) (i + 1) vs (by omega)
          rw [hr]
          cases r with
          | error b => exact ⟨_, rfl⟩
          | ok x => exact ⟨_, rfl⟩
      · exact ⟨_, rfl⟩
    · rw [tyTypeF]
      obtain ⟨r, hr⟩ := h1 t depth i vs (by omega)
      rw [hr]
      cases r with
      | error b => exact ⟨_, rfl⟩
      | ok x =>
        obtain ⟨u, j, ws⟩ := x
        have hb := (ty_bounds f).1 _ _ _ _ _ _ _ hr
        simp only
        by_cases hk1 : (tokL t i).kind = 1
        · rw [if_pos hk1]
          obtain ⟨r2, hr2⟩ := h2 t depth j ws u (by omega)
          rw [hr2]
          cases r2 with
          | error b => exact ⟨_, rfl⟩
          | ok y =>
            obtain ⟨v, k, xs⟩ := y
            have hb2 := (ty_bounds f).2.1 _ _ _ _ _ _ _ _ hr2 hb.2.1
            exact h3 t depth k xs v (by omega)
        · rw [if_neg hk1]
          exact h3 t depth j ws u (by omega)
theorem ty_more : ∀ (f : Nat),
    (∀ t depth i vs r, tyAtomF f t depth i vs = some r → tyAtomF (f + 1) t depth i vs = some r) ∧
    (∀ t depth i vs u r, tyArgsF f t depth i vs u = some r → tyArgsF (f + 1) t depth i vs u = some r) ∧
    (∀ t depth i vs u r, tyTailF f t depth i vs u = some r → tyTailF (f + 1) t depth i vs u = some r) ∧
    (∀ t depth i vs r, tyTypeF f t depth i vs = some r → tyTypeF (f + 1) t depth i vs = some r)
  | 0 => ⟨fun _ _ _ _ _ h => by simp [tyAtomF] at h, fun _ _ _ _ _ _ h => by simp [tyArgsF] at h, fun _ _ _ _ _ _ h => by simp [tyTailF] at h, fun _ _ _ _ _ h => by simp [tyTypeF] at h⟩
  | f + 1 => by
    obtain ⟨h1, h2, h3, h4⟩ := ty_more f
    refine ⟨fun t depth i vs r h => ?_, fun t depth i vs u r h => ?_, fun t depth i vs u r h => ?_, fun t depth i vs r h => ?_⟩
    · rw [tyAtomF] at h ⊢
      split
      · rename_i c; rw [if_pos c] at h; exact h
      · rename_i c; rw [if_neg c] at h
        split
        · rename_i c2; rw [if_pos c2] at h; exact h
        · rename_i c2; rw [if_neg c2] at h
          split
          · rename_i c3; rw [if_pos c3] at h
            split
            · rename_i c4; rw [if_pos c4] at h; exact h
            · rename_i c4; rw [if_neg c4] at h
              cases he : tyTypeF f t (depth + 1) (i + 1) vs with
              | none => rw [he] at h; cases h
              | some x => rw [he] at h; rw [h4 _ _ _ _ _ he]; exact h
          · rename_i c3; rw [if_neg c3] at h; exact h
    · rw [tyArgsF] at h ⊢
      split
      · rename_i c; rw [if_pos c] at h; exact h
      · rename_i c; rw [if_neg c] at h
        cases he : tyAtomF f t depth i vs with
        | none => rw [he] at h; cases h
        | some x =>
          rw [he] at h; rw [h1 _ _ _ _ _ he]
          cases x with
          | error b => exact h
          | ok x => exact h2 _ _ _ _ _ _ h
    · rw [tyTailF] at h ⊢
      split
      · rename_i c; rw [if_pos c] at h
        split
        · rename_i c4; rw [if_pos c4] at h; exact h
        · rename_i c4; rw [if_neg c4] at h
          cases he : tyTypeF f t (depth + 1) (i + 1) vs with
          | none => rw [he] at h; cases h
          | some x => rw [he] at h; rw [h4 _ _ _ _ _ he]; exact h
      · rename_i c; rw [if_neg c] at h; exact h
    · rw [tyTypeF] at h ⊢
      cases he : tyAtomF f t depth i vs with
      | none => rw [he] at h; cases h
      | some x =>
        rw [he] at h; rw [h1 _ _ _ _ _ he]
        cases x with
        | error b => exact h
        | ok x =>
          obtain ⟨u, j, ws⟩ := x
          simp only at h ⊢
          by_cases c : (tokL t i).kind = 1
          · rw [if_pos c] at h ⊢
            cases hg : tyArgsF f t depth j ws u with
            | none => rw [hg] at h; cases h
            | some y =>
              rw [hg] at h; rw [h2 _ _ _ _ _ _ hg]
              cases y with
              | error b => exact h
              | ok y => exact h3 _ _ _ _ _ _ h
          · rw [if_neg c] at h ⊢
            exact h3 _ _ _ _ _ _ h
theorem ty_le {f g : Nat} (h : f ≤ g) {t : List Tok} {depth i : Nat} {vs : List Str} {r : TyR} (hf : tyTypeF f t depth i vs = some r) : tyTypeF g t depth i vs = some r := by
  induction h with
  | refl => exact hf
  | step _ ih => exact (ty_more _).2.2.2 _ _ _ _ _ ih
def TyRead (t : List Tok) (i : Nat) (r : TyR) : Prop := ∃ f, tyTypeF f t 0 i [] = some r
theorem TyRead.some (t : List Tok) (i : Nat) : ∃ r, TyRead t i r := by
  obtain ⟨r, hr⟩ := (ty_some (4 * (t.length - i) + 3)).2.2.2 t 0 i [] (Nat.le_refl _)
  exact ⟨r, _, hr⟩
theorem TyRead.one {t : List Tok} {i : Nat} {r r' : TyR} (h : TyRead t i r) (k : TyRead t i r') : r = r' := by
  obtain ⟨f, hf⟩ := h
  obtain ⟨g, hg⟩ := k
  have a := ty_le (Nat.le_max_left f g) hf
  have b := ty_le (Nat.le_max_right f g) hg
  exact Option.some.inj (a.symm.trans b)
end Go.Lamb
namespace Go.Lamb
open Go Go.RowKit

def arrowT (p : Typ) : Bool := p.k == 2 && p.l.length == 2
mutual
def validT : Typ → Bool
  | .mk k s n l => (if k = 0 then isNameB s && n == 0 else if k = 1 then s == [] && decide (0 ≤ n) && decide (n ≤ 4611686018427387904) && l.length == 0 else if k = 2 then s == [] && n == 0 && l.length == 2 else false) && validTs l
def validTs : List Typ → Bool
  | [] => true
  | x :: l => validT x && validTs l
end
def nodeT (p : Typ) : Bool := if p.k = 0 then isNameB p.name && p.n == 0 else if p.k = 1 then p.name == [] && decide (0 ≤ p.n) && decide (p.n ≤ 4611686018427387904) && p.l.length == 0 else if p.k = 2 then p.name == [] && p.n == 0 && p.l.length == 2 else false
theorem validTs_all : ∀ (l : List Typ), validTs l = l.all validT
  | [] => by simp [validTs]
  | x :: l => by rw [validTs, List.all_cons, validTs_all l]
theorem validT_eq (p : Typ) : validT p = (nodeT p && p.l.all validT) := by
  cases p
  rw [validT, validTs_all]
  rfl
def arrows (l : List Typ) (u : Typ) : Typ := l.foldr Typ.arr u
theorem arrow_parts {p : Typ} (h : arrowT p = true) : ∃ a b, p.l = [a, b] := by
  simp only [arrowT, Bool.and_eq_true, beq_iff_eq] at h
  match hp : p.l with
  | [a, b] => exact ⟨a, b, rfl⟩
  | [] => rw [hp] at h; simp at h
  | [_] => rw [hp] at h; simp at h
  | _ :: _ :: _ :: _ => rw [hp] at h; simp at h
mutual
def depthT : Typ → Nat
  | .mk _ _ _ l => depthTs l + 1
def depthTs : List Typ → Nat
  | [] => 0
  | x :: l => max (depthT x) (depthTs l)
end
end Go.Lamb
namespace Go.Lamb
open Go Go.RowKit

def putL (s : Str) (b : Bool) : Str := if b then 40 :: (s ++ [41]) else s
def varL (n : Int) : Str := (UInt8.ofNat (65 + n % 26).toNat) :: (if 0 < n / 26 then Lib.itoa (n / 26) else [])
def manyT (p : Typ) : Bool := p.k != 1 && decide (0 < p.l.length)
mutual
def textT : Typ → Str
  | .mk k s n l => if k = 1 then (if n < 0 then [63] else varL n) else if k = 2 ∧ l.length = 2 then textA l else Lib.join (s :: textTs l) [32]
def textTs : List Typ → List Str
  | [] => []
  | x :: l => putL (textT x) (manyT x) :: textTs l
def textA : List Typ → Str
  | [] => []
  | x :: l => putL (textT x) (arrowT x) ++ textB l
def textB : List Typ → Str
  | [] => []
  | x :: _ => [32, 45, 62, 32] ++ textT x
end
theorem textTs_map : ∀ l : List Typ, textTs l = l.map fun x => putL (textT x) (manyT x)
  | [] => by simp [textTs]
  | x :: l => by rw [textTs, textTs_map l, List.map_cons]
theorem textT_eq (p : Typ) : textT p = if p.k = 1 then (if p.n < 0 then [63] else varL p.n) else if p.k = 2 ∧ p.l.length = 2 then textA p.l else Lib.join (p.name :: p.l.map fun x => putL (textT x) (manyT x)) [32] := by
  cases p
  rw [textT, textTs_map]
  rfl
theorem textA_two (a b : Typ) : textA [a, b] = putL (textT a) (arrowT a) ++ ([32, 45, 62, 32] ++ textT b) := by
  rw [textA, textB]
mutual
def sizeT : Typ → Nat
  | .mk k _ _ l => if k = 1 then 1 else 1 + sizeTs l
def sizeTs : List Typ → Nat
  | [] => 0
  | x :: l => sizeT x + sizeTs l
end
def varMax (n v : Int) : Int := if IntKind.i64.wrap ((if -1 > v then -1 else v) + 1) > n then IntKind.i64.wrap ((if -1 > v then -1 else v) + 1) else n
mutual
def varsT : Int → Typ → Int
  | m, .mk k _ n l => if k = 1 then varMax m n else varsTs m l
def varsTs : Int → List Typ → Int
  | m, [] => m
  | m, x :: l => varsTs (varsT m x) l
end
mutual
def noneT : Typ → Typ
  | .mk k s n l => if k = 1 then .none else .mk (if k = 2 ∧ l.length = 2 then 2 else 0) (if k = 2 ∧ l.length = 2 then [] else s) 0 (noneTs l)
def noneTs : List Typ → List Typ
  | [] => []
  | x :: l => noneT x :: noneTs l
end
end Go.Lamb
namespace Go.Lamb
open Go Go.RowKit

def inI (n : Int) : Prop := -9223372036854775808 ≤ n ∧ n ≤ 9223372036854775807
inductive OkT : Typ → Prop where
  | mk {k : Int} {s : Str} {n : Int} {l : List Typ} (hk : inI k) (hn : inI n) (h : ∀ x ∈ l, OkT x) : OkT (.mk k s n l)
instance (n : Int) : Decidable (inI n) := inferInstanceAs (Decidable (_ ∧ _))
theorem OkT.n {p : Typ} (h : OkT p) : inI p.n := by cases h; assumption
theorem OkT.k {p : Typ} (h : OkT p) : inI p.k := by cases h; assumption
theorem OkT.mem {p x : Typ} (h : OkT p) (hx : x ∈ p.l) : OkT x := by
  cases h with
  | mk _ _ h => exact h x hx
theorem lens_mem {y : Str} : ∀ {r : List Str}, y ∈ r → y.length ≤ Lib.lens r
  | [], h => by simp at h
  | x :: r, h => by
    have e : Lib.lens (x :: r) = x.length + Lib.lens r := by simp [Lib.lens]
    rw [e]
    rcases List.mem_cons.1 h with rfl | h
    · omega
    · have := lens_mem h; omega
theorem join_len (a : Str) (r : List Str) : (Lib.join (a :: r) [32]).length = a.length + (r.length + Lib.lens r) := by
  rw [Lib.join_cons, List.length_append, Lib.joinTail_length]
  simp
theorem putL_len (s : Str) (b : Bool) : s.length ≤ (putL s b).length ∧ (putL s b).length ≤ s.length + 2 := by
  unfold putL
  split <;> simp
  omega
theorem text_var {p : Typ} (h : p.k = 1) : textT p = if p.n < 0 then [63] else varL p.n := by rw [textT_eq, if_pos h]
theorem text_arr {p a b : Typ} (hA : arrowT p = true) (hl : p.l = [a, b]) : textT p = putL (textT a) (arrowT a) ++ ([32, 45, 62, 32] ++ textT b) := by
  have hA' := hA
  simp only [arrowT, Bool.and_eq_true, beq_iff_eq] at hA'
  rw [textT_eq, if_neg (by rw [hA'.1]; decide), if_pos hA', hl, textA_two]
theorem text_con {p : Typ} (hk : p.k ≠ 1) (hA : arrowT p = false) : textT p = Lib.join (p.name :: p.l.map fun x => putL (textT x) (manyT x)) [32] := by
  rw [textT_eq, if_neg hk, if_neg]
  intro h
  rw [arrowT, h.1, h.2] at hA
  cases hA
theorem text_con_len {p : Typ} (hk : p.k ≠ 1) (hA : arrowT p = false) : p.name.length + p.l.length ≤ (textT p).length ∧ ∀ x ∈ p.l, (putL (textT x) (manyT x)).length ≤ (textT p).length ∧ (textT x).length ≤ (textT p).length := by
  rw [text_con hk hA, join_len, List.length_map]
  refine ⟨by omega, fun x hx => ?_⟩
  have h1 := lens_mem (List.mem_map_of_mem (f := fun x => putL (textT x) (manyT x)) hx)
  have h2 := (putL_len (textT x) (manyT x)).1
  try simp only at h1
  omega
theorem text_arr_len {p a b : Typ} (hA : arrowT p = true) (hl : p.l = [a, b]) : (putL (textT a) (arrowT a)).length + (textT b).length + 4 = (textT p).length ∧ (textT a).length ≤ (textT p).length := by
  rw [text_arr hA hl]
  have := (putL_len (textT a) (arrowT a)).1
  simp only [List.length_append, List.length_cons, List.length_nil]
  omega
end Go.Lamb
namespace Go.Lamb
open Go Go.RowKit

mutual
def nodesT : Typ → Nat
  | .mk _ _ _ l => 1 + nodesTs l
def nodesTs : List Typ → Nat
  | [] => 0
  | x :: l => nodesT x + nodesTs l
end
mutual
theorem left_nodes : ∀ (p : Typ) (n : Int), 0 ≤ leftT p n → leftT p n = n - (nodesT p : Nat)
  | .mk _ _ _ l, n, h => by
    rw [leftT] at h ⊢
    rw [lefts_nodes l (n - 1) h, nodesT]
    omega
theorem lefts_nodes : ∀ (l : List Typ) (n : Int), 0 ≤ leftTs l n → leftTs l n = n - (nodesTs l : Nat)
  | [], n, h => by rw [leftTs, nodesTs]; omega
  | x :: l, n, h => by
    rw [leftTs] at h ⊢
    split at h
    · rename_i h0
      rw [if_pos h0]
      have h1 := lefts_nodes l _ h
      have h3 := left_nodes x n (by omega)
      rw [nodesTs]
      omega
    · omega
end
mutual
theorem depth_nodes : ∀ p : Typ, depthT p ≤ nodesT p
  | .mk _ _ _ l => by rw [depthT, nodesT]; have := depths_nodes l; omega
theorem depths_nodes : ∀ l : List Typ, depthTs l ≤ nodesTs l
  | [] => by simp [depthTs]
  | x :: l => by rw [depthTs, nodesTs]; have := depth_nodes x; have := depths_nodes l; omega
end
mutual
theorem size_nodes : ∀ p : Typ, sizeT p ≤ nodesT p
  | .mk k _ _ l => by rw [sizeT, nodesT]; have := sizes_nodes l; split <;> omega
theorem sizes_nodes : ∀ l : List Typ, sizeTs l ≤ nodesTs l
  | [] => by simp [sizeTs]
  | x :: l => by rw [sizeTs, nodesTs]; have := size_nodes x; have := sizes_nodes l; omega
end
mutual
def longT : Typ → Bool
  | .mk _ s _ l => decide ((s.length : Int) > 60) || longTs l
def longTs : List Typ → Bool
  | [] => false
  | x :: l => longT x || longTs l
end
end Go.Lamb
namespace Go.Lamb
open Go Go.RowKit

section
variable {α : Type} (g : α → Int → Typ × α)
mutual
def subS : α → Typ → Typ × α
  | s, .mk k nm n l => if k = 1 then g s n else (.mk (if k = 2 ∧ l.length = 2 then 2 else 0) (if k = 2 ∧ l.length = 2 then [] else nm) 0 (subSs s l).1, (subSs s l).2)
def subSs : α → List Typ → List Typ × α
  | s, [] => ([], s)
  | s, x :: l => ((subS s x).1 :: (subSs (subS s x).2 l).1, (subSs (subS s x).2 l).2)
end
theorem subS_eq (s : α) (p : Typ) : subS g s p = if p.k = 1 then g s p.n else (.mk (if arrowT p = true then 2 else 0) (if arrowT p = true then [] else p.name) 0 (subSs g s p.l).1, (subSs g s p.l).2) := by
  cases p
  rw [subS]
  simp only [Typ.k, Typ.l, Typ.name, Typ.n, arrowT, Bool.and_eq_true, beq_iff_eq]
theorem subSs_add : ∀ (l r : List Typ) (s : α), subSs g s (l ++ r) = ((subSs g s l).1 ++ (subSs g (subSs g s l).2 r).1, (subSs g (subSs g s l).2 r).2)
  | [], r, s => by simp [subSs]
  | x :: l, r, s => by rw [List.cons_append, subSs, subSs, subSs_add l r]; rfl
end
def inum (vs : List Int) (v : Int) : Nat := (vs.findIdx? (· == v)).getD vs.length
def iadd (vs : List Int) (v : Int) : List Int := if (vs.findIdx? (· == v)).isSome then vs else vs ++ [v]
def normG : List Int → Int → Typ × List Int := fun vs v => (.var (inum vs v), iadd vs v)
def normT (p : Typ) : Typ := (subS normG [] p).1
end Go.Lamb
namespace Go.Lamb
open Go Go.RowKit

theorem lx_arrow {r : Str} {ks : List Key} (h : LX r ks) : LX (45 :: 62 :: 32 :: r) ((4, [45, 62], 0) :: ks) := lx_one (w := [45, 62]) rfl rfl (by decide) (lx_blank h)

/-! ### a variable's name -/
theorem letter {n : Int} : (UInt8.ofNat (65 + n % 26).toNat).toNat = (65 + n % 26).toNat := by
  rw [UInt8.toNat_ofNat']
  omega
theorem itoa_nat {n : Int} (h : 0 ≤ n) : Lib.itoa n = Lib.decDigits n.toNat := by
  unfold Lib.itoa
  rw [if_neg (by omega)]
theorem digit_in {c : UInt8} (h : digitB c = true) : insideB c = true := by simp [insideB, h]
theorem dec_len {u : Nat} (h : u < 10 ^ 19) : (Lib.decDigits u).length ≤ 19 := by
  have h1 := nDigits_le 18 u (by simpa using h)
  rw [Lib.decDigits_eq]
  simpa using h1
theorem varL_ok {n : Int} (h0 : 0 ≤ n) (h1 : n ≤ 4611686018427387904) : isVarB (varL n) = true := by
  have hg : greatB (UInt8.ofNat (65 + n % 26).toNat) = true := by
    simp only [greatB, letter, Bool.or_eq_true, Bool.and_eq_true, decide_eq_true_eq]
    left; omega
  have hi : insideB (UInt8.ofNat (65 + n % 26).toNat) = true := by simp [insideB, hg]
  unfold isVarB varL fitsB
  by_cases h : 0 < n / 26
  · rw [if_pos h, itoa_nat (by omega)]
    have h2 := dec_len (u := (n / 26).toNat) (by omega)
    have h3 := dec_all (n / 26).toNat
    have h4 : (Lib.decDigits (n / 26).toNat).all insideB = true := by
      rw [List.all_eq_true] at h3 ⊢
      exact fun x hx => digit_in (h3 x hx)
    simp only [List.all_cons, hi, h4, headB, hg, List.length_cons, Bool.and_true, Bool.and_eq_true, decide_eq_true_eq, ne_eq, reduceCtorEq, not_false_eq_true, true_and]
    omega
  · rw [if_neg h]
    simp [hi, headB, hg]
theorem varL_inj {n m : Int} (h0 : 0 ≤ n) (h0' : 0 ≤ m) (h : varL n = varL m) : n = m := by
  unfold varL at h
  injection h with e1 e2
  have e1 := congrArg UInt8.toNat e1
  rw [letter, letter] at e1
  have key : n / 26 = m / 26 := by
    by_cases hn : 0 < n / 26 <;> by_cases hm : 0 < m / 26
    · rw [if_pos hn, if_pos hm, itoa_nat (by omega), itoa_nat (by omega)] at e2
      have := congrArg decVal e2
      rw [dec_val, dec_val] at this
      omega
    · rw [if_pos hn, if_neg hm, itoa_nat (by omega)] at e2
      have h1 := congrArg decVal e2
      rw [dec_val] at h1
      have : decVal [] = 0 := rfl
      omega
    · rw [if_neg hn, if_pos hm, itoa_nat (by omega)] at e2
      have h1 := congrArg decVal e2
      rw [dec_val] at h1
      have : decVal [] = 0 := rfl
      omega
    · omega
  omega
/-! ### a type's tokens -/
mutual
def keysT : Typ → List Key
  | .mk k s n l => if k = 1 then [(2, varL n, 0)] else if k = 2 ∧ l.length = 2 then keysA l else (1, s, 0) :: keysTs l
def keysTs : List Typ → List Key
  | [] => []
  | x :: l => brK (keysT x) (manyT x) ++ keysTs l
def keysA : List Typ → List Key
  | [] => []
  | x :: l => brK (keysT x) (arrowT x) ++ keysB l
def keysB : List Typ → List Key
  | [] => []
  | x :: _ => (4, [45, 62], 0) :: keysT x
end
theorem keys_var {p : Typ} (h : p.k = 1) : keysT p = [(2, varL p.n, 0)] := by
  cases p
  simp only [Typ.k] at h
  rw [keysT, if_pos h]
  rfl
theorem keys_arr {p a b : Typ} (hA : arrowT p = true) (hl : p.l = [a, b]) : keysT p = brK (keysT a) (arrowT a) ++ (4, [45, 62], 0) :: keysT b := by
  simp only [arrowT, Bool.and_eq_true, beq_iff_eq] at hA
  cases p with
  | mk k s n l =>
    simp only [Typ.k, Typ.l] at hA hl
    rw [keysT, if_neg (by omega), if_pos hA, hl, keysA, keysB]
theorem keys_con {p : Typ} (hk : p.k ≠ 1) (hA : arrowT p = false) : keysT p = (1, p.name, 0) :: keysTs p.l := by
  cases p with
  | mk k s n l =>
    simp only [Typ.k] at hk
    rw [keysT, if_neg hk, if_neg]
    · rfl
    · intro h
      rw [arrowT] at hA
      simp only [Typ.k, Typ.l] at hA
      rw [h.1, h.2] at hA
      cases hA
theorem lx_put {s : Str} {ks : List Key} {b : Bool} (h : ∀ r rs, Dlm r → LX r rs → LX (s ++ r) (ks ++ rs)) {r : Str} {rs : List Key} (hr : Dlm r) (hx : LX r rs) : LX (putL s b ++ r) (brK ks b ++ rs) := by
  unfold putL brK
  cases b
  · exact h r rs hr hx
  · simp only [if_true, List.cons_append, List.append_assoc, List.nil_append]
    exact lx_open (h _ _ (dlm_41 r) (lx_close hx))
theorem valid_mem {p x : Typ} (h : validT p = true) (hx : x ∈ p.l) : validT x = true := by
  rw [validT_eq, Bool.and_eq_true] at h
  exact List.all_eq_true.1 h.2 x hx
theorem valid_var {p : Typ} (h : validT p = true) (hk : p.k = 1) : p.name = [] ∧ 0 ≤ p.n ∧ p.n ≤ 4611686018427387904 ∧ p.l = [] := by
  rw [validT_eq, Bool.and_eq_true] at h
  have h1 := h.1
  unfold nodeT at h1
  rw [if_neg (by omega), if_pos hk] at h1
  simp only [Bool.and_eq_true, beq_iff_eq, decide_eq_true_eq] at h1
  exact ⟨h1.1.1.1, h1.1.1.2, h1.1.2, List.eq_nil_of_length_eq_zero h1.2⟩
theorem valid_con {p : Typ} (h : validT p = true) (hk : p.k ≠ 1) (hA : arrowT p = false) : p.k = 0 ∧ isNameB p.name = true ∧ p.n = 0 := by
  rw [validT_eq, Bool.and_eq_true] at h
  have h1 := h.1
  unfold nodeT at h1
  by_cases h0 : p.k = 0
  · rw [if_pos h0] at h1
    simp only [Bool.and_eq_true, beq_iff_eq] at h1
    exact ⟨h0, h1.1, h1.2⟩
  · rw [if_neg h0, if_neg hk] at h1
    by_cases h2 : p.k = 2
    · rw [if_pos h2] at h1
      simp only [Bool.and_eq_true, beq_iff_eq] at h1
      rw [arrowT, h2, h1.2] at hA
      cases hA
    · rw [if_neg h2] at h1; cases h1
theorem lx_type (p : Typ) : validT p = true → ∀ r rs, Dlm r → LX r rs → LX (textT p ++ r) (keysT p ++ rs) := by
  induction p using Typ.ind with
  | h p ih =>
    intro hv r rs hr hx
    by_cases hk : p.k = 1
    · obtain ⟨_, h0, h1, _⟩ := valid_var hv hk
      rw [text_var hk, if_neg (by omega), keys_var hk]
      exact lx_var (varL_ok h0 h1) hr hx
    · cases hA : arrowT p
      · obtain ⟨_, hn, _⟩ := valid_con hv hk hA
        rw [text_con hk hA, keys_con hk hA, Lib.join_cons, List.append_assoc, List.cons_append]
        have key : ∀ l : List Typ, (∀ x ∈ l, x ∈ p.l) → LX (Lib.joinTail [32] (l.map fun x => putL (textT x) (manyT x)) ++ r) (keysTs l ++ rs) ∧ Dlm (Lib.joinTail [32] (l.map fun x => putL (textT x) (manyT x)) ++ r) := by
          intro l
          induction l with
          | nil => intro _; rw [keysTs]; exact ⟨hx, hr⟩
          | cons x l ihl =>
            intro hs
            obtain ⟨i1, i2⟩ := ihl (fun y hy => hs y (List.mem_cons_of_mem _ hy))
            have hxm := hs x (List.mem_cons_self ..)
            have e : Lib.joinTail [32] ((x :: l).map fun x => putL (textT x) (manyT x)) ++ r = 32 :: (putL (textT x) (manyT x) ++ (Lib.joinTail [32] (l.map fun x => putL (textT x) (manyT x)) ++ r)) := by
              simp [Lib.joinTail]
            rw [e, keysTs, List.append_assoc]
            exact ⟨lx_blank (lx_put (ih x hxm (valid_mem hv hxm)) i2 i1), dlm_32 _⟩
        obtain ⟨i1, i2⟩ := key p.l (fun x hx => hx)
        exact lx_name hn i2 i1
      · obtain ⟨a, b, hl⟩ := arrow_parts hA
        have ha : a ∈ p.l := by rw [hl]; simp
        have hb : b ∈ p.l := by rw [hl]; simp
        rw [text_arr hA hl, keys_arr hA hl]
        simp only [List.append_assoc, List.cons_append, List.nil_append]
        show LX (putL (textT a) (arrowT a) ++ 32 :: (45 :: 62 :: 32 :: (textT b ++ r))) (brK (keysT a) (arrowT a) ++ (4, [45, 62], 0) :: (keysT b ++ rs))
        refine lx_put (ih a ha (valid_mem hv ha)) (dlm_32 _) ?_
        exact lx_blank (lx_arrow (ih b hb (valid_mem hv hb) r rs hr hx))
end Go.Lamb
namespace Go.Lamb
open Go Go.RowKit

/-! ### names and numbers -/
theorem find_names (n : Int) (hn : 0 ≤ n) : ∀ ms : List Int, (∀ m ∈ ms, 0 ≤ m) → (ms.map varL).findIdx? (· == varL n) = ms.findIdx? (· == n)
  | [], _ => rfl
  | x :: ms, h => by
    rw [List.map_cons, List.findIdx?_cons, List.findIdx?_cons, find_names n hn ms (fun m hm => h m (List.mem_cons_of_mem _ hm))]
    have : (varL x == varL n) = (x == n) := by
      rw [Bool.eq_iff_iff, beq_iff_eq, beq_iff_eq]
      exact ⟨fun e => varL_inj (h x (List.mem_cons_self ..)) hn e, fun e => by rw [e]⟩
    rw [this]
theorem vnum_is {n : Int} (hn : 0 ≤ n) {ms : List Int} (h : ∀ m ∈ ms, 0 ≤ m) : vnum (ms.map varL) (varL n) = inum ms n ∧ vadd (ms.map varL) (varL n) = (iadd ms n).map varL := by
  unfold vnum vadd inum iadd
  rw [find_names n hn ms h, List.length_map]
  refine ⟨rfl, ?_⟩
  split
  · rfl
  · simp
theorem iadd_nn {n : Int} (hn : 0 ≤ n) {ms : List Int} (h : ∀ m ∈ ms, 0 ≤ m) : ∀ m ∈ iadd ms n, 0 ≤ m := fun m hm => by
  unfold iadd at hm
  split at hm
  · exact h m hm
  · rcases List.mem_append.1 hm with hm | hm
    · exact h m hm
    · simp only [List.mem_singleton] at hm; subst hm; exact hn
theorem norm_nn (p : Typ) : validT p = true → ∀ ms : List Int, (∀ m ∈ ms, 0 ≤ m) → ∀ m ∈ (subS normG ms p).2, 0 ≤ m := by
  induction p using Typ.ind with
  | h p ih =>
    intro hv ms h
    rw [subS_eq]
    by_cases hk : p.k = 1
    · rw [if_pos hk]
      exact iadd_nn (valid_var hv hk).2.1 h
    · rw [if_neg hk]
      have key : ∀ l : List Typ, (∀ x ∈ l, x ∈ p.l) → ∀ ms : List Int, (∀ m ∈ ms, 0 ≤ m) → ∀ m ∈ (subSs normG ms l).2, 0 ≤ m := by
        intro l
        induction l with
        | nil => intro _ ms h; rw [subSs]; exact h
        | cons x l ihl =>
          intro hs ms h
          rw [subSs]
          have hx := hs x (List.mem_cons_self ..)
          exact ihl (fun y hy => hs y (List.mem_cons_of_mem _ hy)) _ (ih x hx (valid_mem hv hx) ms h)
      exact key p.l (fun x hx => hx) ms h
/-! ### places -/
/-! ### how types are read, without fuel -/
section
variable (t : List Tok)
def AtomR (d i : Nat) (vs : List Str) (u : Typ) (j : Nat) (ws : List Str) : Prop := ∃ f, tyAtomF f t d i vs = some (.ok (u, j, ws))
def ArgsR (d i : Nat) (vs : List Str) (u v : Typ) (j : Nat) (ws : List Str) : Prop := ∃ f, tyArgsF f t d i vs u = some (.ok (v, j, ws))
def TailR (d i : Nat) (vs : List Str) (u v : Typ) (j : Nat) (ws : List Str) : Prop := ∃ f, tyTailF f t d i vs u = some (.ok (v, j, ws))
def TypeR (d i : Nat) (vs : List Str) (u : Typ) (j : Nat) (ws : List Str) : Prop := ∃ f, tyTypeF f t d i vs = some (.ok (u, j, ws))
end
section
variable {t : List Tok} {d i j k : Nat} {vs ws xs : List Str} {u v a : Typ}
theorem atom_le {f g : Nat} (h : f ≤ g) {r : TyR} (hf : tyAtomF f t d i vs = some r) : tyAtomF g t d i vs = some r := by
  induction h with
  | refl => exact hf
  | step _ ih => exact (ty_more _).1 _ _ _ _ _ ih
theorem args_le {f g : Nat} (h : f ≤ g) {r : TyR} (hf : tyArgsF f t d i vs u = some r) : tyArgsF g t d i vs u = some r := by
  induction h with
  | refl => exact hf
  | step _ ih => exact (ty_more _).2.1 _ _ _ _ _ _ ih
theorem tail_le {f g : Nat} (h : f ≤ g) {r : TyR} (hf : tyTailF f t d i vs u = some r) : tyTailF g t d i vs u = some r := by
  induction h with
  | refl => exact hf
  | step _ ih => exact (ty_more _).2.2.1 _ _ _ _ _ _ ih
theorem typeR_name (hk : (tokL t i).kind = 1) (h1 : AtomR t d i vs a j ws) (h2 : ArgsR t d j ws a u k xs) {m : Nat} {ys : List Str} (h3 : TailR t d k xs u v m ys) : TypeR t d i vs v m ys := by
  obtain ⟨f1, h1⟩ := h1
  obtain ⟨f2, h2⟩ := h2
  obtain ⟨f3, h3⟩ := h3
  refine ⟨f1 + f2 + f3 + 1, ?_⟩
  rw [tyTypeF, atom_le (g := f1 + f2 + f3) (by omega) h1]
  simp only [if_pos hk]
  rw [args_le (g := f1 + f2 + f3) (by omega) h2]
  exact tail_le (g := f1 + f2 + f3) (by omega) h3
theorem typeR_other (hk : (tokL t i).kind ≠ 1) (h1 : AtomR t d i vs u j ws) {m : Nat} {ys : List Str} (h3 : TailR t d j ws u v m ys) : TypeR t d i vs v m ys := by
  obtain ⟨f1, h1⟩ := h1
  obtain ⟨f3, h3⟩ := h3
  refine ⟨f1 + f3 + 1, ?_⟩
  rw [tyTypeF, atom_le (g := f1 + f3) (by omega) h1]
  simp only [if_neg hk]
  exact tail_le (g := f1 + f3) (by omega) h3
theorem argsR_stop (h : tyBegins (tokL t i) = false) : ArgsR t d i vs u u i vs := ⟨1, by rw [tyArgsF, if_pos h]⟩
theorem argsR_step (h : tyBegins (tokL t i) = true) (h1 : AtomR t d i vs a j ws) (h2 : ArgsR t d j ws (u.put a) v k xs) : ArgsR t d i vs u v k xs := by
  obtain ⟨f1, h1⟩ := h1
  obtain ⟨f2, h2⟩ := h2
  refine ⟨f1 + f2 + 1, ?_⟩
  rw [tyArgsF, if_neg (by rw [h]; decide), atom_le (g := f1 + f2) (by omega) h1]
  exact args_le (g := f1 + f2) (by omega) h2
theorem tailR_stop (h : ¬ ((tokL t i).kind = 4 ∧ (tokL t i).text = [45, 62])) : TailR t d i vs u u i vs := ⟨1, by rw [tyTailF, if_neg h]⟩
theorem tailR_arrow (h : (tokL t i).kind = 4 ∧ (tokL t i).text = [45, 62]) (hd : d < 200) (h1 : TypeR t (d + 1) (i + 1) vs v j ws) : TailR t d i vs u (.arr u v) j ws := by
  obtain ⟨f, h1⟩ := h1
  exact ⟨f + 1, by rw [tyTailF, if_pos h, if_neg (by omega), h1]⟩
theorem atomR_name (h : (tokL t i).kind = 1) : AtomR t d i vs (.con (tokL t i).text) (i + 1) vs := ⟨1, by rw [tyAtomF, if_pos h]⟩
theorem atomR_var (h : (tokL t i).kind = 2) : AtomR t d i vs (.var (vnum vs (tokL t i).text)) (i + 1) (vadd vs (tokL t i).text) := ⟨1, by rw [tyAtomF, if_neg (by omega), if_pos h]⟩
theorem atomR_open (h : (tokL t i).kind = 5) (hd : d < 200) (h1 : TypeR t (d + 1) (i + 1) vs u j ws) (h6 : (tokL t j).kind = 6) : AtomR t d i vs u (j + 1) ws := by
  obtain ⟨f, h1⟩ := h1
  exact ⟨f + 1, by rw [tyAtomF, if_neg (by omega), if_neg (by omega), if_pos h, if_neg (by omega), h1]; simp only [if_pos h6]⟩
end
/-! ### what is written is read -/
def noAtom (k : Key) : Prop := k.1 ≠ 1 ∧ k.1 ≠ 2 ∧ k.1 ≠ 5
def noArrow (k : Key) : Prop := ¬ (k.1 = 4 ∧ k.2.1 = [45, 62])
theorem no_begin {x : Tok} {k : Key} (h : x.key = k) (hk : noAtom k) : tyBegins x = false := by
  obtain ⟨h1, _⟩ := key_kind h
  simp only [tyBegins, Bool.or_eq_false_iff, decide_eq_false_iff_not, h1]
  exact ⟨⟨hk.1, hk.2.1⟩, hk.2.2⟩
theorem no_arrow {x : Tok} {k : Key} (h : x.key = k) (hk : noArrow k) : ¬ (x.kind = 4 ∧ x.text = [45, 62]) := by
  obtain ⟨h1, h2⟩ := key_kind h
  rw [h1, h2]; exact hk
mutual
def nestT : Typ → Nat
  | .mk k s n l => if k = 1 then 0 else if k = 2 ∧ l.length = 2 then nestA l else nestTs l
def nestTs : List Typ → Nat
  | [] => 0
  | x :: l => max (if manyT x then 1 + nestT x else 0) (nestTs l)
def nestA : List Typ → Nat
  | [] => 0
  | x :: l => max (if arrowT x then 1 + nestT x else nestT x) (nestB l)
def nestB : List Typ → Nat
  | [] => 0
  | x :: _ => 1 + nestT x
end
theorem nest_var {p : Typ} (h : p.k = 1) : nestT p = 0 := by
  cases p
  simp only [Typ.k] at h
  rw [nestT, if_pos h]
theorem nest_arr {p a b : Typ} (hA : arrowT p = true) (hl : p.l = [a, b]) : nestT p = max (if arrowT a = true then 1 + nestT a else nestT a) (1 + nestT b) := by
  simp only [arrowT, Bool.and_eq_true, beq_iff_eq] at hA
  cases p with
  | mk k s n l =>
    simp only [Typ.k, Typ.l] at hA hl
    rw [nestT, if_neg (by omega), if_pos hA, hl, nestA, nestB]
theorem nest_con {p : Typ} (hk : p.k ≠ 1) (hA : arrowT p = false) : nestT p = nestTs p.l := by
  cases p with
  | mk k s n l =>
    simp only [Typ.k] at hk
    rw [nestT, if_neg hk, if_neg]
    · rfl
    · intro h
      rw [arrowT] at hA
      simp only [Typ.k, Typ.l] at hA
      rw [h.1, h.2] at hA
      cases hA
theorem nestTs_mem : ∀ {l : List Typ} {x : Typ}, x ∈ l → manyT x = true → 1 + nestT x ≤ nestTs l
  | y :: l, x, h, hm => by
    rw [nestTs]
    rcases List.mem_cons.1 h with rfl | h
    · rw [if_pos hm]; omega
    · have := nestTs_mem h hm; omega
structure Back (p : Typ) : Prop where
  typ : ∀ (t : List Tok) (d i : Nat) (ms : List Int) (k : Key) (rest : List Key), (∀ m ∈ ms, 0 ≤ m) → KAt t i (keysT p ++ k :: rest) → d + nestT p ≤ 200 → noAtom k → noArrow k →
    TypeR t d i (ms.map varL) (subS normG ms p).1 (i + (keysT p).length) ((subS normG ms p).2.map varL)
  app : arrowT p = false → ∀ (t : List Tok) (d i : Nat) (ms : List Int) (k : Key) (rest : List Key), (∀ m ∈ ms, 0 ≤ m) → KAt t i (keysT p ++ k :: rest) → d + nestT p ≤ 200 → noAtom k →
    ∀ v j ws, TailR t d (i + (keysT p).length) ((subS normG ms p).2.map varL) (subS normG ms p).1 v j ws → TypeR t d i (ms.map varL) v j ws
theorem noAtom6 : noAtom (6, [], 0) := ⟨by decide, by decide, by decide⟩
theorem noArrow6 : noArrow (6, [], 0) := fun h => absurd h.1 (by decide)
theorem noAtom4 : noAtom (4, [45, 62], 0) := ⟨by decide, by decide, by decide⟩
theorem Back.brackets {p : Typ} (hB : Back p) {t : List Tok} {d i : Nat} {ms : List Int} {rest : List Key} (hms : ∀ m ∈ ms, 0 ≤ m) (h : KAt t i (brK (keysT p) true ++ rest)) (hd : d + 1 + nestT p ≤ 200) :
    (tokL t i).kind = 5 ∧ AtomR t d i (ms.map varL) (subS normG ms p).1 (i + (brK (keysT p) true).length) ((subS normG ms p).2.map varL) := by
  have e : brK (keysT p) true = (5, [], 0) :: (keysT p ++ [(6, [], 0)]) := rfl
  rw [e] at h ⊢
  rw [List.cons_append, List.append_assoc] at h
  obtain ⟨h1, _, h2⟩ := h.cons
  have h5 := (key_kind h1).1
  have h3 := hB.typ t (d + 1) (i + 1) ms (6, [], 0) rest hms h2 (by omega) noAtom6 noArrow6
  obtain ⟨h6, _, _⟩ := (KAt.app h2).cons
  have := atomR_open h5 (by omega) h3 (key_kind h6).1
  rw [List.length_cons, List.length_append, List.length_cons, List.length_nil, show i + ((keysT p).length + (0 + 1) + 1) = i + 1 + (keysT p).length + 1 by omega]
  exact ⟨h5, this⟩
theorem sub_leaf {ms : List Int} {p : Typ} (hk : p.k ≠ 1) (hl : p.l = []) : subS normG ms p = (.mk 0 p.name 0 [], ms) := by
  have hA : arrowT p = false := by rw [arrowT, hl]; simp
  rw [subS_eq, if_neg hk, hA, hl, subSs]
  rfl
theorem Back.atom {p : Typ} (hB : Back p) (hv : validT p = true) {t : List Tok} {d i : Nat} {ms : List Int} {rest : List Key} (hms : ∀ m ∈ ms, 0 ≤ m) (h : KAt t i (brK (keysT p) (manyT p) ++ rest)) (hd : manyT p = true → d + 1 + nestT p ≤ 200) :
    tyBegins (tokL t i) = true ∧ AtomR t d i (ms.map varL) (subS normG ms p).1 (i + (brK (keysT p) (manyT p)).length) ((subS normG ms p).2.map varL) := by
  cases hm : manyT p
  · rw [hm] at h
    have e : brK (keysT p) false = keysT p := rfl
    rw [e] at h ⊢
    by_cases hk : p.k = 1
    · obtain ⟨_, h0, _, _⟩ := valid_var hv hk
      rw [keys_var hk] at h ⊢
      obtain ⟨h1, _, _⟩ := KAt.cons (ks := rest) h
      obtain ⟨q1, q2⟩ := key_kind h1
      have h2 := atomR_var (d := d) (vs := ms.map varL) q1
      rw [q2] at h2
      obtain ⟨q3, q4⟩ := vnum_is h0 hms
      simp only at h2
      rw [q3, q4] at h2
      rw [subS_eq, if_pos hk]
      exact ⟨by simp [tyBegins, q1], h2⟩
    · have hl : p.l = [] := by
        unfold manyT at hm
        have : (p.k != 1) = true := by simpa using hk
        rw [this, Bool.true_and, decide_eq_false_iff_not] at hm
        exact List.eq_nil_of_length_eq_zero (by omega)
      have hA : arrowT p = false := by rw [arrowT, hl]; simp
      rw [keys_con hk hA, hl, keysTs] at h ⊢
      obtain ⟨h1, _, _⟩ := KAt.cons (ks := rest) h
      obtain ⟨q1, q2⟩ := key_kind h1
      have h2 := atomR_name (d := d) (vs := ms.map varL) q1
      rw [q2] at h2
      rw [sub_leaf hk hl]
      exact ⟨by simp [tyBegins, q1], h2⟩
  · rw [hm] at h
    obtain ⟨h1, h2⟩ := hB.brackets hms h (hd hm)
    exact ⟨by simp [tyBegins, h1], h2⟩
theorem back_args {l : List Typ} {name : Str} {t : List Tok} {d : Nat} (hB : ∀ x ∈ l, Back x ∧ validT x = true ∧ (manyT x = true → d + 1 + nestT x ≤ 200)) : ∀ {i : Nat} {ms : List Int} {acc : List Typ} {k : Key} {rest : List Key}, (∀ m ∈ ms, 0 ≤ m) → KAt t i (keysTs l ++ k :: rest) → noAtom k →
    ArgsR t d i (ms.map varL) (.mk 0 name 0 acc) (.mk 0 name 0 (acc ++ (subSs normG ms l).1)) (i + (keysTs l).length) ((subSs normG ms l).2.map varL) := by
  induction l with
  | nil =>
    intro i ms acc k rest hms h hk
    rw [keysTs] at h ⊢
    rw [subSs, List.append_nil]
    obtain ⟨h1, _, _⟩ := KAt.cons h
    exact argsR_stop (no_begin h1 hk)
  | cons x l ih =>
    intro i ms acc k rest hms h hk
    obtain ⟨b1, b2, b3⟩ := hB x (List.mem_cons_self ..)
    rw [keysTs] at h ⊢
    rw [List.append_assoc] at h
    obtain ⟨h1, h2⟩ := b1.atom b2 hms h b3
    have h3 := ih (fun y hy => hB y (List.mem_cons_of_mem _ hy)) (acc := acc ++ [(subS normG ms x).1]) (norm_nn x b2 ms hms) h.app hk
    rw [subSs]
    have h4 := argsR_step (u := .mk 0 name 0 acc) h1 h2 h3
    rw [List.length_append, ← Nat.add_assoc]
    rwa [List.append_assoc] at h4
theorem back_all (p : Typ) : validT p = true → Back p := by
  induction p using Typ.ind with
  | h p ih =>
    intro hv
    have happ : arrowT p = false → ∀ (t : List Tok) (d i : Nat) (ms : List Int) (k : Key) (rest : List Key), (∀ m ∈ ms, 0 ≤ m) → KAt t i (keysT p ++ k :: rest) → d + nestT p ≤ 200 → noAtom k →
        ∀ v j ws, TailR t d (i + (keysT p).length) ((subS normG ms p).2.map varL) (subS normG ms p).1 v j ws → TypeR t d i (ms.map varL) v j ws := by
      intro hA t d i ms k rest hms h hd hk v j ws hT
      by_cases hk1 : p.k = 1
      · obtain ⟨_, h0, _, _⟩ := valid_var hv hk1
        rw [keys_var hk1] at h hT
        obtain ⟨h1, _, _⟩ := KAt.cons (ks := k :: rest) h
        obtain ⟨q1, q2⟩ := key_kind h1
        have h2 := atomR_var (d := d) (vs := ms.map varL) q1
        rw [q2] at h2
        obtain ⟨q3, q4⟩ := vnum_is h0 hms
        simp only at h2
        rw [q3, q4] at h2
        rw [subS_eq, if_pos hk1] at hT
        exact typeR_other (by rw [q1]; show (2 : Int) ≠ 1; decide) h2 hT
      · rw [keys_con hk1 hA] at h hT
        rw [List.cons_append] at h
        obtain ⟨h1, _, h2⟩ := KAt.cons h
        obtain ⟨q1, q2⟩ := key_kind h1
        have h3 := atomR_name (d := d) (vs := ms.map varL) q1
        rw [q2] at h3
        have h4 := back_args (l := p.l) (name := p.name) (acc := []) (d := d) (fun x hx => ⟨ih x hx (valid_mem hv hx), valid_mem hv hx, fun hm => by have := nestTs_mem hx hm; rw [nest_con hk1 hA] at hd; omega⟩) hms h2 hk
        rw [List.nil_append] at h4
        rw [subS_eq, if_neg hk1, hA, List.length_cons, show i + ((keysTs p.l).length + 1) = i + 1 + (keysTs p.l).length by omega] at hT
        exact typeR_name q1 h3 h4 hT
    refine ⟨fun t d i ms k rest hms h hd hk hka => ?_, happ⟩
    cases hA : arrowT p
    · refine happ hA t d i ms k rest hms h hd hk _ _ _ (tailR_stop ?_)
      obtain ⟨h1, _, _⟩ := h.app.cons
      exact no_arrow h1 hka
    · obtain ⟨a, b, hl⟩ := arrow_parts hA
      have ha : a ∈ p.l := by rw [hl]; simp
      have hb : b ∈ p.l := by rw [hl]; simp
      have hva := valid_mem hv ha
      have hvb := valid_mem hv hb
      have hn := nest_arr hA hl
      have hk1 : p.k ≠ 1 := by
        simp only [arrowT, Bool.and_eq_true, beq_iff_eq] at hA
        omega
      rw [keys_arr hA hl, List.append_assoc, List.cons_append] at h
      have hs : subS normG ms p = (.arr (subS normG ms a).1 (subS normG (subS normG ms a).2 b).1, (subS normG (subS normG ms a).2 b).2) := by
        rw [subS_eq, if_neg hk1, hA, hl, subSs, subSs, subSs]
        rfl
      rw [hs, keys_arr hA hl]
      have hms2 := norm_nn a hva ms hms
      obtain ⟨h4, _, h5⟩ := h.app.cons
      have hkk := key_kind h4
      have hb1 := (ih b hb hvb).typ t (d + 1) (i + (brK (keysT a) (arrowT a)).length + 1) (subS normG ms a).2 k rest hms2 h5 (show d + 1 + nestT b ≤ 200 by omega) hk hka
      have hT := tailR_arrow (u := (subS normG ms a).1) ⟨hkk.1, hkk.2⟩ (show d < 200 by omega) hb1
      rw [List.length_append, List.length_cons, show i + ((brK (keysT a) (arrowT a)).length + ((keysT b).length + 1)) = i + (brK (keysT a) (arrowT a)).length + 1 + (keysT b).length by omega]
      cases hAa : arrowT a
      · rw [hAa] at h hT
        have e : brK (keysT a) false = keysT a := rfl
        rw [e] at h hT ⊢
        exact (ih a ha hva).app hAa t d i ms _ _ hms h (by rw [hAa, if_neg (by decide)] at hn; omega) noAtom4 _ _ _ hT
      · rw [hAa] at h hT
        obtain ⟨q1, q2⟩ := (ih a ha hva).brackets (d := d) hms h (by rw [hAa, if_pos rfl] at hn; omega)
        exact typeR_other (by rw [q1]; show (5 : Int) ≠ 1; decide) q2 hT
/-! ### numbered anew twice -/
def idsI (n : Nat) : List Int := (List.range n).map Int.ofNat
theorem ids_len (n : Nat) : (idsI n).length = n := by simp [idsI]
theorem ids_find {n k : Nat} (h : k < n) : (idsI n).findIdx? (· == (k : Int)) = some k := by
  rw [List.findIdx?_eq_some_iff_getElem]
  refine ⟨by rw [ids_len]; exact h, by simp [idsI], fun j hj => ?_⟩
  simp [idsI]
  omega
theorem ids_none (n : Nat) : (idsI n).findIdx? (· == (n : Int)) = none := by
  rw [List.findIdx?_eq_none_iff]
  intro x hx
  simp only [idsI, List.mem_map, List.mem_range] at hx
  obtain ⟨k, hk, rfl⟩ := hx
  simp
  omega
theorem ids_succ (n : Nat) : idsI (n + 1) = idsI n ++ [(n : Int)] := by simp [idsI, List.range_succ]
end Go.Lamb
namespace Go.Lamb
open Go Go.RowKit

def lamP (p : Pre) : Bool := p.k == 4 && p.l.length == 1
def appP (p : Pre) : Bool := p.k == 3 && p.l.length == 2
def infP (l : List OpT) (p : Pre) : Option (OpT × Pre × Pre) :=
  if p.k = 3 then match p.l with
    | [f, b] => if f.k = 3 then match f.l with
        | [c, a] => if c.k = 0 then (findL l c.name).map fun o => (o, a, b) else none
        | _ => none
      else none
    | _ => none
  else none
def wordP (l : List OpT) (p : Pre) : List UInt8 :=
  if p.k = 0 then (if (findL l p.name).isSome then 40 :: p.name ++ [41] else p.name)
  else if p.k = 1 then p.name
  else if p.k = 2 then Lib.itoa (max p.n 0)
  else [63]
def putP (s : List UInt8) (b : Bool) : List UInt8 := if b then 40 :: s ++ [41] else s
def sideB (l : List OpT) (o : OpT) (fix : Int) (p : Pre) : Bool := lamP p || (match infP l p with | some (x, _, _) => !besideL o x fix | none => false)

inductive ShR where
  | mk (text : List UInt8) (kids : List ShR)
  deriving Inhabited
def ShR.text : ShR → List UInt8 | .mk s _ => s
def ShR.kids : ShR → List ShR | .mk _ r => r
def kidS (r : List ShR) (i : Nat) : ShR := (r[i]?).getD (.mk [] [])
def stepS (l : List OpT) (p : Pre) (r : List ShR) : List UInt8 := match infP l p with
  | some (o, a, b) => putP (kidS (kidS r 0).kids 1).text (sideB l o 1 a) ++ (32 :: o.name ++ [32]) ++ putP (kidS r 1).text (sideB l o 2 b)
  | none =>
    if lamP p then p.name ++ [92, 32] ++ (kidS r 0).text
    else if appP p then
      let f := (p.l[0]?).getD .none
      let b := (p.l[1]?).getD .none
      putP (kidS r 0).text ((infP l f).isSome || lamP f) ++ 32 :: putP (kidS r 1).text (lamP b || appP b)
    else wordP l p
mutual
def showR (l : List OpT) : Pre → ShR
  | .mk k s n cs a => .mk (stepS l (.mk k s n cs a) (showRs l cs)) (showRs l cs)
def showRs (l : List OpT) : List Pre → List ShR
  | [] => []
  | p :: r => showR l p :: showRs l r
end
theorem showRs_map (l : List OpT) : ∀ r : List Pre, showRs l r = r.map (showR l)
  | [] => by simp [showRs]
  | p :: r => by rw [showRs, showRs_map l r, List.map_cons]
def showL (l : List OpT) (p : Pre) : List UInt8 := (showR l p).text
theorem showR_kids (l : List OpT) (p : Pre) : (showR l p).kids = p.l.map (showR l) := by
  cases p
  rw [showR, showRs_map]
  rfl
theorem showL_eq (l : List OpT) (p : Pre) : showL l p = stepS l p (p.l.map (showR l)) := by
  cases p
  rw [showL, showR, showRs_map]
  rfl
theorem infP_some {l : List OpT} {p : Pre} {o : OpT} {a b : Pre} (h : infP l p = some (o, a, b)) :
    p.k = 3 ∧ ∃ f c, p.l = [f, b] ∧ f.k = 3 ∧ f.l = [c, a] ∧ c.k = 0 ∧ findL l c.name = some o := by
  unfold infP at h
  split at h
  · rename_i h3
    split at h
    · rename_i f b' hl
      split at h
      · rename_i hf
        split at h
        · rename_i c a' hfl
          split at h
          · rename_i hc
            cases e : findL l c.name with
            | none => rw [e] at h; cases h
            | some o' =>
              rw [e] at h
              injection h with h
              injection h with h1 h2
              injection h2 with h2 h4
              subst h1 h2 h4
              exact ⟨h3, f, c, hl, hf, hfl, hc, e⟩
          · cases h
        · cases h
      · cases h
    · cases h
  · cases h
theorem infP_app {l : List OpT} {p : Pre} (h : (infP l p).isSome = true) : appP p = true := by
  cases e : infP l p with
  | none => rw [e] at h; cases h
  | some x =>
    obtain ⟨o, a, b⟩ := x
    obtain ⟨h1, f, c, h2, _⟩ := infP_some e
    simp [appP, h1, h2]
theorem showL_inf {l : List OpT} {p : Pre} {o : OpT} {a b : Pre} (h : infP l p = some (o, a, b)) :
    showL l p = putP (showL l a) (sideB l o 1 a) ++ (32 :: o.name ++ [32]) ++ putP (showL l b) (sideB l o 2 b) := by
  obtain ⟨_, f, c, h2, _, h3, _⟩ := infP_some h
  rw [showL_eq, stepS, h]
  simp only [h2, List.map_cons, List.map_nil, kidS, List.getElem?_cons_zero, List.getElem?_cons_succ, Option.getD_some, showR_kids, h3]
  rfl
theorem showL_lam {l : List OpT} {p q : Pre} (hk : p.k = 4) (hl : p.l = [q]) : showL l p = p.name ++ [92, 32] ++ showL l q := by
  have h0 : infP l p = none := by unfold infP; rw [if_neg (by omega)]
  have h1 : lamP p = true := by simp [lamP, hk, hl]
  rw [showL_eq, stepS, h0]
  simp only [h1, if_true, hl, List.map_cons, List.map_nil, kidS, List.getElem?_cons_zero, Option.getD_some]
  rfl
theorem showL_app {l : List OpT} {p f b : Pre} (hi : infP l p = none) (hk : p.k = 3) (hl : p.l = [f, b]) :
    showL l p = putP (showL l f) ((infP l f).isSome || lamP f) ++ 32 :: putP (showL l b) (lamP b || appP b) := by
  have h1 : lamP p = false := by simp [lamP, hk]
  have h2 : appP p = true := by simp [appP, hk, hl]
  rw [showL_eq, stepS, hi]
  simp only [h1, h2, if_true, Bool.false_eq_true, if_false, hl, List.map_cons, List.map_nil, kidS, List.getElem?_cons_zero, List.getElem?_cons_succ, Option.getD_some]
  rfl
theorem showL_word {l : List OpT} {p : Pre} (h1 : lamP p = false) (h2 : appP p = false) : showL l p = wordP l p := by
  have h0 : infP l p = none := by
    cases e : infP l p with
    | none => rfl
    | some x => rw [infP_app (by rw [e]; rfl)] at h2; cases h2
  rw [showL_eq, stepS, h0]
  simp only [h1, h2, Bool.false_eq_true, if_false]
end Go.Lamb
namespace Go.Lamb
open Go Go.RowKit
mutual
def nodesP : Pre → Nat
  | .mk _ _ _ l _ => 1 + nodesPs l
def nodesPs : List Pre → Nat
  | [] => 0
  | p :: l => nodesP p + nodesPs l
end
theorem nodesP_eq (p : Pre) : nodesP p = 1 + nodesPs p.l := by cases p; rw [nodesP]; rfl
mutual
theorem leftP_nodes : ∀ (p : Pre) (n : Int), 0 ≤ leftP p n → leftP p n = n - nodesP p
  | .mk _ _ _ l _, n, h => by
    rw [leftP] at h ⊢
    rw [leftPs_nodes l (n - 1) h, nodesP]
    omega
theorem leftPs_nodes : ∀ (l : List Pre) (n : Int), 0 ≤ leftPs l n → leftPs l n = n - nodesPs l
  | [], n, h => by rw [leftPs, nodesPs]; omega
  | p :: l, n, h => by
    rw [leftPs] at h ⊢
    split at h
    · rename_i h0
      rw [if_pos h0]
      by_cases h1 : 0 ≤ leftP p n
      · rw [leftPs_nodes l _ h, leftP_nodes p n h1, nodesPs]
        omega
      · rw [leftPs_neg h1] at h
        omega
    · omega
end
mutual
def longP : Pre → Bool
  | .mk _ s _ l _ => decide ((s.length : Int) > 100) || longPs l
def longPs : List Pre → Bool
  | [] => false
  | p :: l => longP p || longPs l
end
theorem putP_len (s : List UInt8) (b : Bool) : (putP s b).length ≤ s.length + 2 := by
  cases b <;> simp [putP]
inductive OkP : Pre → Prop where
  | mk {k : Int} {s : List UInt8} {n : Int} {l : List Pre} {a : Int} (hn : n ≤ 9223372036854775807) (h : ∀ x ∈ l, OkP x) : OkP (.mk k s n l a)
theorem OkP.n {p : Pre} (h : OkP p) : p.n ≤ 9223372036854775807 := by cases h; assumption
theorem OkP.mem {p x : Pre} (h : OkP p) (hx : x ∈ p.l) : OkP x := by cases h with | mk _ h => exact h x hx
end Go.Lamb
namespace Go.Lamb
open Go Go.RowKit

def Dl (r : List UInt8) : Prop := ∀ c l, r = c :: l → c = 32 ∨ c = 41 ∨ c = 92 ∨ c = 46
theorem dl_32 (r : List UInt8) : Dl (32 :: r) := fun c l h => by injection h with h _; exact .inl h.symm
theorem dl_41 (r : List UInt8) : Dl (41 :: r) := fun c l h => by injection h with h _; exact .inr (.inl h.symm)
theorem dl_92 (r : List UInt8) : Dl (92 :: r) := fun c l h => by injection h with h _; exact .inr (.inr (.inl h.symm))
theorem dl_46 (r : List UInt8) : Dl (46 :: r) := fun c l h => by injection h with h _; exact .inr (.inr (.inr h.symm))
theorem run_dl {p : UInt8 → Bool} (h1 : p 32 = false) (h2 : p 41 = false) (h3 : p 92 = false) (h4 : p 46 = false) {r : List UInt8} (hr : Dl r) : ∀ u : List UInt8, runLen p (u ++ r) = runLen p u
  | [] => by
    cases r with
    | nil => rfl
    | cons c l =>
      have : p c = false := by rcases hr c l rfl with rfl | rfl | rfl | rfl <;> assumption
      simp [runLen, this]
  | c :: u => by simp only [List.cons_append, runLen, run_dl h1 h2 h3 h4 hr u]
theorem one_dl {u r : List UInt8} (hu : u ≠ []) (hr : Dl r) : oneL (u ++ r) = oneL u := by
  cases u with
  | nil => exact absurd rfl hu
  | cons c u =>
    have e : c :: u ++ r = c :: (u ++ r) := rfl
    have r1 := run_dl (p := digitB) (by decide) (by decide) (by decide) (by decide) hr (c :: u)
    have r2 := run_dl (p := insideB) (by decide) (by decide) (by decide) (by decide) hr (c :: u)
    have r3 := run_dl (p := signB) (by decide) (by decide) (by decide) (by decide) hr (c :: u)
    have t1 : (c :: u ++ r).take (runLen digitB (c :: u)) = (c :: u).take (runLen digitB (c :: u)) := List.take_append_of_le_length (runLen_le _ _)
    have t2 : (c :: u ++ r).take (runLen insideB (c :: u)) = (c :: u).take (runLen insideB (c :: u)) := List.take_append_of_le_length (runLen_le _ _)
    have t3 : (c :: u ++ r).take (runLen signB (c :: u)) = (c :: u).take (runLen signB (c :: u)) := List.take_append_of_le_length (runLen_le _ _)
    have t4 : (c :: u ++ r).take 1 = (c :: u).take 1 := List.take_append_of_le_length (by simp)
    rw [e] at r1 r2 r3 t1 t2 t3 t4 ⊢
    simp only [oneL, numR, wordR, r1, r2, r3, t1, t2, t3, t4]
structure Wd (w : List UInt8) (k : Key) : Prop where
  ne : w ≠ []
  one : oneL w = ⟨k.1, k.2.1, k.2.2, w.length, 0⟩
  kind : k.1 ≠ 0
  skip : ∀ r, skipL false (w ++ r) = w ++ r
theorem skip_head {c : UInt8} {u : List UInt8} (h1 : blanks.contains c = false) (h2 : (c == 37) = false) (r : List UInt8) : skipL false ((c :: u) ++ r) = (c :: u) ++ r := by
  simp only [List.cons_append, skipL, h1, h2, Bool.false_eq_true, if_false]
theorem lx_word {w r : List UInt8} {k : Key} {ks : List Key} (hw : Wd w k) (hr : Dl r) (h : LX r ks) : LX (w ++ r) (k :: ks) := fun N => by
  obtain ⟨i1, i2⟩ := h N
  have h1 := (one_dl hw.ne hr).trans hw.one
  rw [hw.skip, lexAt_eq, h1]
  have hd : (w ++ r).drop w.length = r := List.drop_left
  simp only [ne_eq, not_true, if_false, hw.kind, hd]
  unfold LexR.cons
  rw [if_pos i1]
  refine ⟨rfl, ?_⟩
  rw [List.map_cons, i2]
  simp [tokAt, h1, Tok.key]
theorem runLen_of_all {p : UInt8 → Bool} {l : List UInt8} (h : l.all p = true) : runLen p l = l.length := (runLen_all p l).2 h
theorem kd1 : (1 : Int) ≠ 0 := by decide
theorem kd2 : (2 : Int) ≠ 0 := by decide
theorem kd4 : (4 : Int) ≠ 0 := by decide
theorem wd_name {w : List UInt8} (hw : isNameB w = true) : Wd w (1, w, 0) := by
  simp only [isNameB, Bool.and_eq_true, fitsB, decide_eq_true_eq] at hw
  obtain ⟨⟨⟨h1, h2⟩, h3⟩, h4⟩ := hw
  cases w with
  | nil => exact absurd rfl h1
  | cons c u =>
    have h3' : smallB c = true := h3
    obtain ⟨q1, q2, q3, q4⟩ := small_not h3'
    refine ⟨h1, ?_, kd1, skip_head q1 q2⟩
    simp only [oneL, q3, q4, h3', Bool.false_eq_true, if_false, if_true, ne_eq, not_true]
    rw [runLen_of_all h4]
    unfold wordR
    rw [if_neg (by omega), List.take_length]
theorem wd_var {w : List UInt8} (hw : isVarB w = true) : Wd w (2, w, 0) := by
  simp only [isVarB, Bool.and_eq_true, fitsB, decide_eq_true_eq] at hw
  obtain ⟨⟨⟨h1, h2⟩, h3⟩, h4⟩ := hw
  cases w with
  | nil => exact absurd rfl h1
  | cons c u =>
    have h3' : greatB c = true := h3
    obtain ⟨q1, q2, q3, q4, q5⟩ := great_not h3'
    refine ⟨h1, ?_, kd2, skip_head q1 q2⟩
    simp only [oneL, q3, q4, q5, h3', Bool.false_eq_true, if_false, if_true, ne_eq, not_true]
    rw [runLen_of_all h4]
    unfold wordR
    rw [if_neg (by omega), List.take_length]
theorem sign_not {c : UInt8} (h : signB c = true) : blanks.contains c = false ∧ (c == 37) = false ∧ markN c = 0 ∧ digitB c = false ∧ smallB c = false ∧ greatB c = false := by
  have key : ∀ x ∈ signs, blanks.contains x = false ∧ (x == 37) = false ∧ markN x = 0 ∧ digitB x = false ∧ smallB x = false ∧ greatB x = false := by decide
  exact key c (by simpa [signB] using h)
theorem single_not {c : UInt8} (h : singles.contains c = true) : blanks.contains c = false ∧ (c == 37) = false ∧ markN c = 0 ∧ digitB c = false ∧ smallB c = false ∧ greatB c = false ∧ signB c = false := by
  have key : ∀ x ∈ singles, blanks.contains x = false ∧ (x == 37) = false ∧ markN x = 0 ∧ digitB x = false ∧ smallB x = false ∧ greatB x = false ∧ signB x = false := by decide
  exact key c (by simpa using h)
theorem wd_sym {w : List UInt8} (hw : isSymB w = true) : Wd w (4, w, 0) := by
  simp only [isSymB, Bool.and_eq_true, Bool.or_eq_true, fitsB, decide_eq_true_eq] at hw
  obtain ⟨⟨h1, h2⟩, h3⟩ := hw
  cases w with
  | nil => exact absurd rfl h1
  | cons c u =>
    rcases h3 with h3 | ⟨h3, h4⟩
    · have h3' : signB c = true := by rw [List.all_cons, Bool.and_eq_true] at h3; exact h3.1
      obtain ⟨q1, q2, q3, q4, q5, q6⟩ := sign_not h3'
      refine ⟨h1, ?_, kd4, skip_head q1 q2⟩
      simp only [oneL, q3, q4, q5, q6, h3', Bool.false_eq_true, if_false, if_true, ne_eq, not_true]
      rw [runLen_of_all h3]
      unfold wordR
      rw [if_neg (by omega), List.take_length]
    · have h4' : singles.contains c = true := h4
      obtain ⟨q1, q2, q3, q4, q5, q6, q7⟩ := single_not h4'
      have hu : u = [] := List.eq_nil_of_length_eq_zero (by simpa using h3)
      subst hu
      refine ⟨h1, ?_, kd4, skip_head q1 q2⟩
      simp only [oneL, q3, q4, q5, q6, q7, h4', Bool.false_eq_true, if_false, if_true, ne_eq, not_true]
      rfl
theorem digit_not {c : UInt8} (h : digitB c = true) : blanks.contains c = false ∧ (c == 37) = false := by
  simp only [digitB, Bool.and_eq_true, decide_eq_true_eq] at h
  constructor
  · simp only [blanks, List.contains_cons, List.contains_nil, Bool.or_false, Bool.or_eq_false_iff, beq_eq_false_iff_ne, ne_eq]
    refine ⟨fun e => ?_, fun e => ?_, fun e => ?_, fun e => ?_⟩ <;> (rw [e] at h; revert h; decide)
  · simp only [beq_eq_false_iff_ne, ne_eq]
    intro e; rw [e] at h; revert h; decide
theorem wd_int {n : Int} (h0 : 0 ≤ n) (h1 : n ≤ 9223372036854775807) : Wd (Lib.itoa n) (3, [], n) := by
  have e : Lib.itoa n = Lib.decDigits n.toNat := by unfold Lib.itoa; rw [if_neg (by omega)]
  have ha := dec_all n.toNat
  have hv := dec_val n.toNat
  have hl := Lib.decDigits_length n.toNat
  have hp := Lib.nDigits_pos n.toNat
  rw [e]
  generalize Lib.decDigits n.toNat = ds at *
  cases ds with
  | nil => simp at hl; omega
  | cons c u =>
    have hc : digitB c = true := by rw [List.all_cons, Bool.and_eq_true] at ha; exact ha.1
    obtain ⟨q1, q2⟩ := digit_not hc
    refine ⟨by simp, ?_, by show (3 : Int) ≠ 0; decide, skip_head q1 q2⟩
    simp only [oneL, numR, digit_mark hc, hc, ne_eq, not_true, if_false, if_true]
    rw [runLen_of_all ha, List.take_length, hv, if_pos (by omega)]
    simp only [OneR.mk.injEq, and_true, true_and]
    omega
theorem lx_lam {r : List UInt8} {ks : List Key} (h : LX r ks) : LX (92 :: 32 :: r) ((8, [], 0) :: ks) := lx_one (w := [92]) rfl rfl (by decide) (lx_blank h)

/-! ### trees without their places -/
end Go.Lamb
namespace Go.Lamb
open Go Go.RowKit

structure Part (t t' : List Tok) (s n : Nat) : Prop where
  same : ∀ k, k < n → tokL t' (k + s) = tokL t k
  out : ∀ k, k = n → (tokL t' (k + s)).kind = 0 ∨ (tokL t' (k + s)).kind = 7
theorem part_of {t ahead : List Tok} {n : Nat} (hn : n ≤ t.length) : Part t (ahead ++ t.take n) ahead.length n :=
  ⟨fun k hk => by
    rw [tokL, tokL, List.getElem?_append_right (by omega), Nat.add_sub_cancel, List.getElem?_take, if_pos hk, List.getElem?_eq_getElem (by omega)]
    rfl, fun k hk => by
    left
    rw [tokL, List.getElem?_append_right (by omega), Nat.add_sub_cancel, List.getElem?_take, if_neg (by omega)]
    rfl⟩
theorem lam_far {f : Nat} {l : List OpT} {t : List Tok} {depth i : Nat} {p : Pre} {j : Nat} (h : atomF f l t depth i = some (.ok (p, j))) (hl : lamAt t i = true) : i + 2 ≤ j := by
  cases f with
  | zero => simp [atomF] at h
  | succ f =>
    simp only [lamAt, decide_eq_true_eq] at hl
    obtain ⟨hk, hn⟩ := hl
    rw [atomF] at h
    simp only at h
    split at h
    · cases h
    · split at h
      · rename_i h5; omega
      · split at h
        · rename_i h3; omega
        · rw [if_pos ⟨by omega, hn⟩] at h
          split at h
          · cases h
          · split at h
            · cases h
            · cases h
            · rename_i m k he
              injection h with h; injection h with h; injection h with _ h
              have := ((fuel_bounds f).2.2.1 _ _ _ _ _ _ _ he).1
              omega
theorem lam_same {t t' : List Tok} {s n : Nat} (P : Part t t' s n) {f : Nat} {l : List OpT} {depth i : Nat} {p : Pre} {j : Nat} (h : atomF f l t depth i = some (.ok (p, j))) (hj : j ≤ n) : lamAt t' (i + s) = lamAt t i := by
  have hi := ((fuel_bounds f).1 _ _ _ _ _ _ h).1
  have e0 := P.same i (by omega)
  rcases Nat.lt_or_ge (i + 1) n with h1 | h1
  · have e1 := P.same (i + 1) h1
    rw [Nat.add_right_comm] at e1
    simp only [lamAt, e0, e1]
  · have e1 := P.out (i + 1) (by omega)
    rw [Nat.add_right_comm] at e1
    have hf : lamAt t i = false := by
      cases hl : lamAt t i
      · rfl
      · have := lam_far h hl; omega
    rw [hf]
    rcases e1 with e1 | e1 <;> simp [lamAt, e1]
theorem part_fuel {t t' : List Tok} {s n : Nat} (P : Part t t' s n) (hn : n ≤ t.length) : ∀ (f : Nat),
    (∀ l depth i p j, atomF f l t depth i = some (.ok (p, j)) → j ≤ n → atomF f l t' depth (i + s) = some (.ok (p, j + s))) ∧
    (∀ l depth i p pos last q j, argsF f l t depth i p pos last = some (.ok (q, j)) → i ≤ n → j ≤ n → argsF f l t' depth (i + s) p pos last = some (.ok (q, j + s))) ∧
    (∀ l least depth i m j, exprF f l t least depth i = some (.ok (m, j)) → j ≤ n → exprF f l t' least depth (i + s) = some (.ok (m, j + s))) ∧
    (∀ l least depth i m r j, chainF f l t least depth i m = some (.ok (r, j)) → i ≤ n → j ≤ n → chainF f l t' least depth (i + s) m = some (.ok (r, j + s)))
  | 0 => ⟨fun _ _ _ _ _ h => by simp [atomF] at h, fun _ _ _ _ _ _ _ _ h => by simp [argsF] at h, fun _ _ _ _ _ _ h => by simp [exprF] at h, fun _ _ _ _ _ _ _ h => by simp [chainF] at h⟩
  | f + 1 => by
    obtain ⟨h1, h2, h3, h4⟩ := part_fuel P hn f
    refine ⟨fun l depth i p j h hj => ?_, fun l depth i p pos last q j h hi hj => ?_, fun l least depth i m j h hj => ?_, fun l least depth i m r j h hi hj => ?_⟩
    · have hlt := ((fuel_bounds (f + 1)).1 _ _ _ _ _ _ h).1
      have e0 := P.same i (by omega)
      rw [atomF] at h ⊢
      simp only [e0] at h ⊢
      split at h
      · cases h
      · rename_i hb
        rw [if_neg hb]
        split at h
        · rename_i h5
          rw [if_pos h5]
          split at h
          · rename_i hc
            injection h with h; injection h with h; injection h with ha hb'
            subst hb'
            have e1 := P.same (i + 1) (by omega)
            have e2 := P.same (i + 2) (by omega)
            rw [Nat.add_right_comm] at e1 e2
            rw [e1, e2, if_pos hc, ← ha, Nat.add_right_comm]
          · rename_i hc
            split at h
            · cases h
            · rename_i hd
              split at h
              · cases h
              · cases h
              · rename_i m k he
                split at h
                · rename_i hk6
                  injection h with h; injection h with h; injection h with ha hb'
                  subst hb'
                  have hk := ((fuel_bounds f).2.2.1 _ _ _ _ _ _ _ he).1
                  have e1 := P.same (i + 1) (by omega)
                  have e2 := P.same (i + 2) (by omega)
                  have e3 := P.same k (by omega)
                  have he' := h3 _ _ _ _ _ _ he (by omega)
                  rw [Nat.add_right_comm] at e1 e2 he'
                  rw [e1, e2, if_neg hc, if_neg hd, he']
                  simp only [e3]
                  rw [if_pos hk6, ← ha, Nat.add_right_comm]
                · cases h
        · rename_i h5
          rw [if_neg h5]
          split at h
          · rename_i h3'
            rw [if_pos h3']
            injection h with h; injection h with h; injection h with ha hb'
            subst hb'
            rw [← ha, Nat.add_right_comm]
          · rename_i h3'
            rw [if_neg h3']
            split at h
            · rename_i hc
              split at h
              · cases h
              · rename_i hd
                split at h
                · cases h
                · cases h
                · rename_i m k he
                  injection h with h; injection h with h; injection h with ha hb'
                  subst hb'
                  have hk := ((fuel_bounds f).2.2.1 _ _ _ _ _ _ _ he).1
                  have e1 := P.same (i + 1) (by omega)
                  have he' := h3 _ _ _ _ _ _ he (by omega)
                  rw [Nat.add_right_comm] at e1 he'
                  rw [e1, if_pos hc, if_neg hd, he', ← ha]
            · rename_i hc
              injection h with h; injection h with h; injection h with ha hb'
              subst hb'
              have hc' : ¬ ((tokL t i).kind ≠ 4 ∧ (tokL t' (i + s + 1)).kind = 8) := by
                rcases Nat.lt_or_ge (i + 1) n with h1' | h1'
                · have e1 := P.same (i + 1) h1'
                  rw [Nat.add_right_comm] at e1
                  rw [e1]; exact hc
                · have e1 := P.out (i + 1) (by omega)
                  rw [Nat.add_right_comm] at e1
                  rcases e1 with e1 | e1 <;> (rw [e1]; simp)
              rw [if_neg hc', ← ha, Nat.add_right_comm]
    · rw [argsF] at h ⊢
      split at h
      · rename_i hc
        injection h with h; injection h with h; injection h with ha hb
        subst hb ha
        have hc' : last = true ∨ beginsL l (tokL t' (i + s)) = false := by
          rcases hc with hc | hc
          · exact .inl hc
          · right
            rcases Nat.lt_or_ge i n with h1' | h1'
            · rw [P.same i h1']; exact hc
            · rcases P.out i (by omega) with e1 | e1 <;> simp [beginsL, e1]
        rw [if_pos hc']
      · rename_i hc
        split at h
        · cases h
        · cases h
        · rename_i q' k he
          have hkj := ((fuel_bounds f).2.1 _ _ _ _ _ _ _ _ _ h ((fuel_bounds f).1 _ _ _ _ _ _ he).2).1
          have hik := ((fuel_bounds f).1 _ _ _ _ _ _ he).1
          have e0 := P.same i (by omega)
          rw [if_neg (by rw [e0]; exact hc), h1 _ _ _ _ _ he (by omega)]
          simp only
          rw [lam_same P he (by omega)]
          exact h2 _ _ _ _ _ _ _ _ h (by omega) hj
    · rw [exprF] at h ⊢
      split at h
      · cases h
      · cases h
      · rename_i p k he
        split at h
        · cases h
        · cases h
        · rename_i q k2 hg
          have b1 := (fuel_bounds f).1 _ _ _ _ _ _ he
          have b2 := (fuel_bounds f).2.1 _ _ _ _ _ _ _ _ _ hg b1.2
          have b3 := (fuel_bounds f).2.2.2 _ _ _ _ _ _ _ _ h b2.2
          rw [h1 _ _ _ _ _ he (by omega)]
          simp only
          rw [lam_same P he (by omega), h2 _ _ _ _ _ _ _ _ hg (by omega) (by omega)]
          exact h4 _ _ _ _ _ _ _ h (by omega) hj
    · rw [chainF] at h ⊢
      cases ho : opOf l (tokL t i) with
      | none =>
        rw [ho] at h
        injection h with h; injection h with h; injection h with ha hb
        subst hb ha
        have ho' : opOf l (tokL t' (i + s)) = none := by
          rcases Nat.lt_or_ge i n with h1' | h1'
          · rw [P.same i h1']; exact ho
          · rcases P.out i (by omega) with e1 | e1 <;> (rw [opOf, e1]; simp)
        rw [ho']
      | some o =>
        rw [ho] at h
        simp only at h
        split at h
        · rename_i hc
          injection h with h; injection h with h; injection h with ha hb
          subst hb ha
          rcases Nat.lt_or_ge i n with h1' | h1'
          · rw [P.same i h1', ho]
            simp only
            rw [if_pos hc]
          · have ho' : opOf l (tokL t' (i + s)) = none := by rcases P.out i (by omega) with e1 | e1 <;> (rw [opOf, e1]; simp)
            rw [ho']
        · rename_i hc
          split at h
          · cases h
          · rename_i hcl
            split at h
            · cases h
            · rename_i hd
              split at h
              · cases h
              · cases h
              · rename_i r' k he
                have b1 := (fuel_bounds f).2.2.1 _ _ _ _ _ _ _ he
                have hkj : k ≤ j := by
                  split at h
                  · split at h
                    · exact ((fuel_bounds f).2.2.2 _ _ _ _ _ _ _ _ h b1.2).1
                    · cases h
                  · exact ((fuel_bounds f).2.2.2 _ _ _ _ _ _ _ _ h b1.2).1
                have he' := h3 _ _ _ _ _ _ he (by omega)
                rw [Nat.add_right_comm] at he'
                have e0 := P.same i (by omega)
                rw [e0, ho]
                simp only
                rw [if_neg hc, if_neg hcl, if_neg hd, he']
                simp only
                split at h
                · rename_i b pos hby
                  split at h
                  · rename_i hbs
                    rw [if_pos hbs]
                    exact h4 _ _ _ _ _ _ _ h (by omega) hj
                  · cases h
                · exact h4 _ _ _ _ _ _ _ h (by omega) hj
theorem Expr.part {l : List OpT} {t ahead : List Tok} {least : Int} {depth n : Nat} {m : Made} (h : Expr l t least depth 0 (.ok (m, n))) : Expr l (ahead ++ t.take n) least depth ahead.length (.ok (m, n + ahead.length)) := by
  obtain ⟨f, h⟩ := h
  have hn := ((fuel_bounds f).2.2.1 _ _ _ _ _ _ _ h).2
  have := (part_fuel (part_of (ahead := ahead) hn) hn f).2.2.1 _ _ _ _ _ _ h (Nat.le_refl _)
  rw [Nat.zero_add] at this
  exact ⟨f, this⟩
theorem err_fuel : ∀ (f : Nat),
    (∀ l t depth i b, atomF f l t depth i = some (.error b) → (b.e != 0) = true) ∧
    (∀ l t depth i p pos last b, argsF f l t depth i p pos last = some (.error b) → (b.e != 0) = true) ∧
    (∀ l t least depth i b, exprF f l t least depth i = some (.error b) → (b.e != 0) = true) ∧
    (∀ l t least depth i m b, chainF f l t least depth i m = some (.error b) → (b.e != 0) = true)
  | 0 => ⟨fun _ _ _ _ _ h => by simp [atomF] at h, fun _ _ _ _ _ _ _ _ h => by simp [argsF] at h, fun _ _ _ _ _ _ h => by simp [exprF] at h, fun _ _ _ _ _ _ _ h => by simp [chainF] at h⟩
  | f + 1 => by
    obtain ⟨h1, h2, h3, h4⟩ := err_fuel f
    refine ⟨fun l t depth i b h => ?_, fun l t depth i p pos last b h => ?_, fun l t least depth i b h => ?_, fun l t least depth i m b h => ?_⟩
    · rw [atomF] at h
      simp only at h
      repeat' split at h
      all_goals first
        | (cases h; done)
        | (injection h with h; injection h with h; subst h; rfl)
        | (injection h with h; injection h with h; subst h; rename_i he; exact h3 _ _ _ _ _ _ he)
        | (injection h with h; cases h)
    · rw [argsF] at h
      repeat' split at h
      all_goals first
        | (cases h; done)
        | (injection h with h; injection h with h; subst h; rename_i he; exact h1 _ _ _ _ _ he)
        | exact h2 _ _ _ _ _ _ _ _ h
        | (injection h with h; cases h)
    · rw [exprF] at h
      repeat' split at h
      all_goals first
        | (cases h; done)
        | (injection h with h; injection h with h; subst h; rename_i he; exact h1 _ _ _ _ _ he)
        | (injection h with h; injection h with h; subst h; rename_i he; exact h2 _ _ _ _ _ _ _ _ he)
        | exact h4 _ _ _ _ _ _ _ h
        | (injection h with h; cases h)
    · rw [chainF] at h
      repeat' split at h
      all_goals first
        | (cases h; done)
        | (injection h with h; injection h with h; subst h; rfl)
        | (injection h with h; injection h with h; subst h; rename_i he; exact h3 _ _ _ _ _ _ he)
        | exact h4 _ _ _ _ _ _ _ h
        | (injection h with h; cases h)
theorem Expr.err {l : List OpT} {t : List Tok} {least : Int} {depth i : Nat} {b : Bad} (h : Expr l t least depth i (.error b)) : (b.e != 0) = true := by
  obtain ⟨f, h⟩ := h
  exact (err_fuel f).2.2.1 _ _ _ _ _ _ h
end Go.Lamb
namespace Go.Lamb
open Go Go.RowKit

section
variable {l : List OpT} {t : List Tok} {least : Int} {d i j k : Nat}
theorem Expr.mk {p q : Pre} {r : Except Bad (Made × Nat)} (h1 : Atom l t d i (.ok (p, j))) (h2 : Args l t d j p p.pos (lamAt t i) (.ok (q, k))) (h3 : Chain l t least d k ⟨q, none⟩ r) : Expr l t least d i r := by
  obtain ⟨f1, h1⟩ := h1
  obtain ⟨f2, h2⟩ := h2
  obtain ⟨f3, h3⟩ := h3
  refine ⟨max f1 (max f2 f3) + 1, ?_⟩
  rw [exprF, (fuel_le (Nat.le_max_left _ _)).1 _ _ _ _ _ h1]
  simp only
  rw [(fuel_le (Nat.le_trans (Nat.le_max_left _ _) (Nat.le_max_right _ _))).2.1 _ _ _ _ _ _ _ _ h2]
  exact (fuel_le (Nat.le_trans (Nat.le_max_right _ _) (Nat.le_max_right _ _))).2.2.2 _ _ _ _ _ _ _ h3
theorem Expr.bad {b : Bad} (h1 : Atom l t d i (.error b)) : Expr l t least d i (.error b) := by
  obtain ⟨f, h⟩ := h1
  exact ⟨f + 1, by rw [exprF, h]⟩
theorem Args.stop {p : Pre} {pos : Int} {last : Bool} (h : last = true ∨ beginsL l (tokL t i) = false) : Args l t d i p pos last (.ok (p, i)) := ⟨1, by rw [argsF, if_pos h]⟩
theorem Chain.stop {m : Made} (h : opOf l (tokL t i) = none) : Chain l t least d i m (.ok (m, i)) := ⟨1, by rw [chainF, h]⟩
theorem Atom.name (hb : beginsL l (tokL t i) = true) (hk : (tokL t i).kind = 1) (hn : (tokL t (i + 1)).kind ≠ 8) : Atom l t d i (.ok (.mk 0 (tokL t i).text 0 [] (tokL t i).pos, i + 1)) := ⟨1, by
  rw [atomF]
  simp only [hb, hk]
  simp [hn]⟩
theorem Atom.open_ {m : Made} (hd : d < 200) (hk : (tokL t i).kind = 5) (ho : opOf l (tokL t (i + 1)) = none) (h : Expr l t 0 (d + 1) (i + 1) (.ok (m, j))) (hc : (tokL t j).kind = 6) : Atom l t d i (.ok (m.p, j + 1)) := by
  obtain ⟨f, h⟩ := h
  refine ⟨f + 1, ?_⟩
  have hb : beginsL l (tokL t i) = true := by simp [beginsL, hk]
  rw [atomF]
  simp only [hb, hk, ho, h, hc]
  simp
  omega
theorem Chain.op {o : OpT} {m : Made} {r : Made} {q : Except Bad (Made × Nat)} (hd : d < 200) (ho : opOf l (tokL t i) = some o) (hp : ¬ o.prec < least) (hm : m.by_ = none) (h : Expr l t (nextL o) (d + 1) (i + 1) (.ok (r, j))) (hr : ∀ b pos, r.by_ = some (b, pos) → besideL o b 2 = true)
    (hc : Chain l t least d j ⟨applyL o (tokL t i).pos m.p r.p, some (o, (tokL t i).pos)⟩ q) : Chain l t least d i m q := by
  obtain ⟨f1, h⟩ := h
  obtain ⟨f2, hc⟩ := hc
  refine ⟨max f1 f2 + 1, ?_⟩
  rw [chainF, ho]
  simp only
  rw [if_neg hp, if_neg (by simp [clashL, hm]), if_neg (by omega), (fuel_le (Nat.le_max_left _ _)).2.2.1 _ _ _ _ _ _ h]
  simp only
  have hc' := (fuel_le (Nat.le_max_right f1 _)).2.2.2 _ _ _ _ _ _ _ hc
  cases hb : r.by_ with
  | none => exact hc'
  | some x => obtain ⟨b, pos⟩ := x; simp only; rw [if_pos (hr b pos hb)]; exact hc'
end
end Go.Lamb
namespace Go.Lamb
open Go Go.RowKit

def opK (l : List OpT) (k : Key) : Option OpT := if k.1 = 1 ∨ k.1 = 4 then findL l k.2.1 else none
def bK (l : List OpT) (k : Key) : Bool := if k.1 = 1 ∨ k.1 = 4 then (opK l k).isNone else decide (k.1 = 2 ∨ k.1 = 3 ∨ k.1 = 5)
theorem op_key {l : List OpT} {x : Tok} {k : Key} (h : x.key = k) : opOf l x = opK l k := by subst h; rfl
theorem begins_key {l : List OpT} {x : Tok} {k : Key} (h : x.key = k) : beginsL l x = bK l k := by
  subst h
  unfold beginsL bK
  by_cases h1 : x.kind = 1 ∨ x.kind = 4
  · have h2 : x.key.1 = 1 ∨ x.key.1 = 4 := h1
    rw [if_pos h1, if_pos h2]
    rfl
  · have h2 : ¬ (x.key.1 = 1 ∨ x.key.1 = 4) := h1
    rw [if_neg h1, if_neg h2]
    rfl
theorem lam_no1 {t : List Tok} {i : Nat} (h1 : (tokL t i).kind ≠ 1) (h2 : (tokL t i).kind ≠ 2) : lamAt t i = false := by
  simp [lamAt, h1, h2]
theorem lam_no8 {t : List Tok} {i : Nat} (h : (tokL t (i + 1)).kind ≠ 8) : lamAt t i = false := by
  simp [lamAt, h]
section
variable {l : List OpT} {t : List Tok} {d i j k : Nat} {least : Int}
theorem Chain.less {o : OpT} {m : Made} (ho : opOf l (tokL t i) = some o) (hp : o.prec < least) : Chain l t least d i m (.ok (m, i)) := ⟨1, by
  rw [chainF, ho]
  simp only [if_pos hp]⟩
theorem Chain.opG {o : OpT} {m mb : Made} {r : Except Bad (Made × Nat)} (hd : d < 200) (ho : opOf l (tokL t i) = some o) (hp : ¬ o.prec < least) (hc : clashL o m = false) (h : Expr l t (nextL o) (d + 1) (i + 1) (.ok (mb, j)))
    (hr : ∀ b pos, mb.by_ = some (b, pos) → besideL o b 2 = true) (h2 : Chain l t least d j ⟨applyL o (tokL t i).pos m.p mb.p, some (o, (tokL t i).pos)⟩ r) : Chain l t least d i m r := by
  obtain ⟨f, h⟩ := h
  obtain ⟨g, h2⟩ := h2
  refine ⟨f + g + 1, ?_⟩
  rw [chainF, ho]
  simp only
  rw [if_neg hp, hc, if_neg (by decide), if_neg (by omega), (fuel_le (Nat.le_add_right f g)).2.2.1 _ _ _ _ _ _ h]
  simp only
  have h3 := (fuel_le (Nat.le_add_left g f)).2.2.2 _ _ _ _ _ _ _ h2
  cases hb : mb.by_ with
  | none => exact h3
  | some x =>
    obtain ⟨b, pos⟩ := x
    simp only
    rw [if_pos (hr b pos hb)]
    exact h3
theorem Args.more {p q : Pre} {pos : Int} {r : Except Bad (Pre × Nat)} (hb : beginsL l (tokL t i) = true) (h1 : Atom l t d i (.ok (q, j))) (h2 : Args l t d j (Pre.app p q pos) pos (lamAt t i) r) : Args l t d i p pos false r := by
  obtain ⟨f, h1⟩ := h1
  obtain ⟨g, h2⟩ := h2
  refine ⟨f + g + 1, ?_⟩
  rw [argsF, if_neg (by simp [hb]), (fuel_le (Nat.le_add_right f g)).1 _ _ _ _ _ h1]
  exact (fuel_le (Nat.le_add_left g f)).2.1 _ _ _ _ _ _ _ _ h2
theorem Atom.word (hb : beginsL l (tokL t i) = true) (h5 : (tokL t i).kind ≠ 5) (h3 : (tokL t i).kind ≠ 3) (hn : (tokL t (i + 1)).kind ≠ 8) : Atom l t d i (.ok (.mk (if (tokL t i).kind = 2 then 1 else 0) (tokL t i).text 0 [] (tokL t i).pos, i + 1)) := ⟨1, by
  rw [atomF]
  simp only
  rw [if_neg (by simp [hb]), if_neg h5, if_neg h3, if_neg (by simp [hn])]⟩
theorem Atom.int (hb : beginsL l (tokL t i) = true) (h3 : (tokL t i).kind = 3) : Atom l t d i (.ok (.mk 2 [] (tokL t i).n [] (tokL t i).pos, i + 1)) := ⟨1, by
  rw [atomF]
  simp only
  rw [if_neg (by simp [hb]), if_neg (by omega), if_pos h3]⟩
theorem Atom.opw (hk : (tokL t i).kind = 5) (ho : (opOf l (tokL t (i + 1))).isSome = true) (h6 : (tokL t (i + 2)).kind = 6) : Atom l t d i (.ok (.mk 0 (tokL t (i + 1)).text 0 [] (tokL t (i + 1)).pos, i + 3)) := ⟨1, by
  have hb : beginsL l (tokL t i) = true := by simp [beginsL, hk]
  rw [atomF]
  simp only
  rw [if_neg (by simp [hb]), if_pos hk, if_pos ⟨ho, h6⟩]⟩
theorem Atom.lamG {m : Made} (hd : d < 200) (hb : beginsL l (tokL t i) = true) (hk : (tokL t i).kind = 1 ∨ (tokL t i).kind = 2) (hn : (tokL t (i + 1)).kind = 8) (h : Expr l t 0 (d + 1) (i + 2) (.ok (m, j))) : Atom l t d i (.ok (.mk 4 (tokL t i).text 0 [m.p] (tokL t i).pos, j)) := by
  obtain ⟨f, h⟩ := h
  refine ⟨f + 1, ?_⟩
  rw [atomF]
  simp only
  rw [if_neg (by simp [hb]), if_neg (by omega), if_neg (by omega), if_pos ⟨by omega, hn⟩, if_neg (by omega), h]
end

structure OpsOk (l : List OpT) : Prop where
  name : ∀ o ∈ l, isNameB o.name = true ∨ isSymB o.name = true
  prec : ∀ o ∈ l, 1 ≤ o.prec ∧ o.prec ≤ 200
theorem find_mem {l : List OpT} {s : List UInt8} {o : OpT} (h : findL l s = some o) : o ∈ l ∧ o.name = s := ⟨List.mem_of_find?_eq_some h, by
  have := List.find?_some h
  simpa using this⟩
theorem next_eq {l : List OpT} (hl : OpsOk l) {o : OpT} (h : o ∈ l) : nextL o = if o.fix = 2 then o.prec else o.prec + 1 := by
  unfold nextL
  have := hl.prec o h
  rw [wrap_in (by omega) (by omega)]
theorem beside_1 {l : List OpT} (hl : OpsOk l) {o x : OpT} (ho : o ∈ l) (hx : x ∈ l) (h : besideL o x 1 = true) : o.prec ≤ x.prec ∧ o.prec < nextL x := by
  unfold besideL at h
  simp only [decide_eq_true_eq, gt_iff_lt] at h
  rw [next_eq hl hx]
  split <;> omega
theorem beside_2 {l : List OpT} (hl : OpsOk l) {o x : OpT} (ho : o ∈ l) (hx : x ∈ l) (h : besideL o x 2 = true) : nextL o ≤ x.prec ∧ nextL o ≤ nextL x := by
  unfold besideL at h
  simp only [decide_eq_true_eq, gt_iff_lt] at h
  rw [next_eq hl ho, next_eq hl hx]
  split <;> split <;> omega

/-! ### the shape of trees that could have been read -/
theorem valid_kid {l : List OpT} {p q : Pre} (h : validPre l p = true) (hq : q ∈ p.l) : validPre l q = true := by
  rw [validPre_eq, Bool.and_eq_true] at h
  exact List.all_eq_true.1 h.2 q hq
theorem valid_app {l : List OpT} {p : Pre} (h : validPre l p = true) (hk : p.k = 3) : p.name = [] ∧ p.n = 0 ∧ p.l.length = 2 := by
  rw [validPre_eq, Bool.and_eq_true] at h
  have h1 := h.1
  unfold nodeOk at h1
  rw [hk, if_neg (by decide), if_neg (by decide), if_neg (by decide), if_pos rfl] at h1
  simp only [Bool.and_eq_true, beq_iff_eq] at h1
  exact ⟨h1.1.1, h1.1.2, h1.2⟩
theorem valid_lam {l : List OpT} {p : Pre} (h : validPre l p = true) (hk : p.k = 4) : (isNameB p.name = true ∨ isVarB p.name = true) ∧ findL l p.name = none ∧ p.n = 0 ∧ p.l.length = 1 := by
  rw [validPre_eq, Bool.and_eq_true] at h
  have h1 := h.1
  unfold nodeOk at h1
  rw [hk, if_neg (by decide), if_neg (by decide), if_neg (by decide), if_neg (by decide), if_pos rfl] at h1
  simp only [Bool.and_eq_true, beq_iff_eq, Bool.or_eq_true, Bool.not_eq_true'] at h1
  exact ⟨h1.1.1.1, Option.not_isSome_iff_eq_none.1 (by rw [h1.1.1.2]; decide), h1.1.2, h1.2⟩
theorem valid_word {l : List OpT} {p : Pre} (h : validPre l p = true) (h3 : p.k ≠ 3) (h4 : p.k ≠ 4) :
    (p.k = 0 ∧ (isNameB p.name = true ∨ isSymB p.name = true) ∧ p.n = 0 ∧ p.l = []) ∨ (p.k = 1 ∧ isVarB p.name = true ∧ findL l p.name = none ∧ p.n = 0 ∧ p.l = []) ∨ (p.k = 2 ∧ p.name = [] ∧ 0 ≤ p.n ∧ p.l = []) := by
  rw [validPre_eq, Bool.and_eq_true] at h
  have h1 := h.1
  unfold nodeOk at h1
  split at h1
  · rename_i h0
    simp only [Bool.and_eq_true, beq_iff_eq, Bool.or_eq_true] at h1
    exact .inl ⟨h0, h1.1.1, h1.1.2, List.eq_nil_of_length_eq_zero h1.2⟩
  · split at h1
    · rename_i h0
      simp only [Bool.and_eq_true, beq_iff_eq, Bool.not_eq_true'] at h1
      exact .inr (.inl ⟨h0, h1.1.1.1, Option.not_isSome_iff_eq_none.1 (by rw [h1.1.1.2]; decide), h1.1.2, List.eq_nil_of_length_eq_zero h1.2⟩)
    · split at h1
      · rename_i h0
        simp only [Bool.and_eq_true, beq_iff_eq, decide_eq_true_eq] at h1
        exact .inr (.inr ⟨h0, h1.1.1, h1.1.2, List.eq_nil_of_length_eq_zero h1.2⟩)
      · first
          | (cases h1; done)
          | (rw [if_neg h3, if_neg h4] at h1; cases h1)
theorem lam_k {l : List OpT} {p : Pre} (h : validPre l p = true) : lamP p = true ↔ p.k = 4 := by
  constructor
  · intro e; unfold lamP at e; simp only [Bool.and_eq_true, beq_iff_eq] at e; exact e.1
  · intro e; simp [lamP, e, (valid_lam h e).2.2.2]
theorem app_k {l : List OpT} {p : Pre} (h : validPre l p = true) : appP p = true ↔ p.k = 3 := by
  constructor
  · intro e; unfold appP at e; simp only [Bool.and_eq_true, beq_iff_eq] at e; exact e.1
  · intro e; simp [appP, e, (valid_app h e).2.2]

def HdP (l : List OpT) (p : Pre) (ks : List Key) : Prop := ∀ (t : List Tok) (d i : Nat) (k : Key) (rest : List Key), KAt t i (ks ++ k :: rest) → k.1 ≠ 8 → d + nodesP p ≤ 200 →
  ∃ (p' : Pre) (pos : Int), samePre p p' = true ∧ ∀ r, Args l t d (i + ks.length) p' pos false r → ∃ a j, Atom l t d i (.ok (a, j)) ∧ Args l t d j a a.pos (lamAt t i) r
def ExP (l : List OpT) (p : Pre) (ks : List Key) : Prop := ∀ (t : List Tok) (d i : Nat) (least : Int) (k : Key) (rest : List Key), KAt t i (ks ++ k :: rest) → d + nodesP p ≤ 200 → bK l k = false → k.1 ≠ 8 → (lamP p = true → opK l k = none) →
  (∀ o a b, infP l p = some (o, a, b) → least ≤ o.prec ∧ ∀ o', opK l k = some o' → o'.prec < nextL o) →
  ∃ m : Made, samePre p m.p = true ∧ (∀ b pos, m.by_ = some (b, pos) → ∃ x y, infP l p = some (b, x, y)) ∧ ∀ r, Chain l t least d (i + ks.length) m r → Expr l t least d i r
structure RB (l : List OpT) (p : Pre) (ks : List Key) : Prop where
  tx : ∀ r rs, Dl r → LX r rs → LX (showL l p ++ r) (ks ++ rs)
  fst : ∃ k0 ks', ks = k0 :: ks' ∧ bK l k0 = true ∧ opK l k0 = none ∧ k0.1 ≠ 8
  ex : ExP l p ks
  hd : lamP p = false → infP l p = none → HdP l p ks
theorem ex_of_hd {l : List OpT} {p : Pre} {ks : List Key} (h : HdP l p ks) : ExP l p ks := by
  intro t d i least k rest hk hd hb h8 _ _
  obtain ⟨p', pos, h1, h2⟩ := h t d i k rest hk h8 hd
  refine ⟨⟨p', none⟩, h1, fun b pos e => (by cases e), fun r hr => ?_⟩
  obtain ⟨hk1, _, _⟩ := hk.app.cons
  obtain ⟨a, j, h3, h4⟩ := h2 _ (Args.stop (.inr (by rw [begins_key hk1]; exact hb)))
  exact Expr.mk h3 h4 hr

/-! ### brackets -/
theorem bk6 (l : List OpT) : bK l (6, [], 0) = false := by simp [bK]
theorem opk6 (l : List OpT) : opK l (6, [], 0) = none := by simp [opK]
theorem RB.bracket {l : List OpT} (hl : OpsOk l) {p : Pre} {ks : List Key} (h : RB l p ks) {t : List Tok} {d i : Nat} {rest : List Key} (hk : KAt t i (brK ks true ++ rest)) (hd : d + 1 + nodesP p ≤ 200) :
    ∃ a, samePre p a = true ∧ Atom l t d i (.ok (a, i + (brK ks true).length)) ∧ lamAt t i = false ∧ beginsL l (tokL t i) = true := by
  have e : brK ks true = (5, [], 0) :: (ks ++ [(6, [], 0)]) := rfl
  rw [e] at hk ⊢
  rw [List.cons_append, List.append_assoc] at hk
  obtain ⟨h1, _, h2⟩ := hk.cons
  have h5 : (tokL t i).kind = 5 := (key_kind h1).1
  obtain ⟨m, m1, m2, m3⟩ := h.ex t (d + 1) (i + 1) 0 (6, [], 0) rest h2 (by omega) (bk6 l) (by show (6 : Int) ≠ 8; decide) (fun _ => opk6 l) (fun o a b ho => by
    obtain ⟨_, _, c, _, _, _, _, hf⟩ := infP_some ho
    have := hl.prec o (find_mem hf).1
    exact ⟨by omega, fun o' e => by rw [opk6] at e; cases e⟩)
  obtain ⟨h6, _, _⟩ := (KAt.app h2).cons
  have hx := m3 _ (Chain.stop (by rw [op_key h6]; exact opk6 l))
  obtain ⟨k0, ks', e0, _, e2, _⟩ := h.fst
  have hf : opOf l (tokL t (i + 1)) = none := by
    rw [e0, List.cons_append] at h2
    rw [op_key h2.cons.1]
    exact e2
  have ha := Atom.open_ (show d < 200 by omega) h5 hf hx (key_kind h6).1
  refine ⟨m.p, m1, ?_, lam_no1 (by omega) (by omega), by simp [beginsL, h5]⟩
  rw [List.length_cons, List.length_append, List.length_cons, List.length_nil, show i + (ks.length + (0 + 1) + 1) = i + 1 + ks.length + 1 by omega]
  exact ha
theorem lx_putP {s : List UInt8} {ks : List Key} {b : Bool} (h : ∀ r rs, Dl r → LX r rs → LX (s ++ r) (ks ++ rs)) {r : List UInt8} {rs : List Key} (hr : Dl r) (hx : LX r rs) : LX (putP s b ++ r) (brK ks b ++ rs) := by
  unfold putP brK
  cases b
  · exact h r rs hr hx
  · simp only [if_true, List.cons_append, List.append_assoc, List.nil_append]
    exact lx_open (h _ _ (dl_41 r) (lx_close hx))
end Go.Lamb
namespace Go.Lamb
open Go Go.RowKit

def kindW (s : List UInt8) : Int := if isNameB s then 1 else 4
theorem wd_w {s : List UInt8} (h : isNameB s = true ∨ isSymB s = true) : Wd s (kindW s, s, 0) := by
  unfold kindW
  cases hn : isNameB s
  · rw [hn] at h
    exact wd_sym (h.resolve_left (by decide))
  · exact wd_name hn
theorem kindW_or (s : List UInt8) : kindW s = 1 ∨ kindW s = 4 := by unfold kindW; split <;> simp
theorem opK_w (l : List OpT) (s : List UInt8) : opK l (kindW s, s, 0) = findL l s := by
  unfold opK
  rw [if_pos (kindW_or s)]
theorem bK_w (l : List OpT) (s : List UInt8) : bK l (kindW s, s, 0) = (findL l s).isNone := by
  unfold bK
  rw [if_pos (kindW_or s), opK_w]
theorem same_leaf {p : Pre} {a : Int} (hl : p.l = []) : samePre p (.mk p.k p.name p.n [] a) = true := by
  rw [samePre_eq, hl]
  simp [Pre.k, Pre.name, Pre.n, Pre.l, zipAll]
theorem back_word {l : List OpT} (hl : OpsOk l) {p : Pre} (hv : validPre l p = true) (hO : OkP p) (h1 : lamP p = false) (h2 : appP p = false) :
    ∃ ks, RB l p ks ∧ (∀ (t : List Tok) (d i : Nat) (k : Key) (rest : List Key), KAt t i (ks ++ k :: rest) → k.1 ≠ 8 → ∃ a, samePre p a = true ∧ Atom l t d i (.ok (a, i + ks.length)) ∧ lamAt t i = false ∧ beginsL l (tokL t i) = true) := by
  have h3 : p.k ≠ 3 := fun e => by rw [(app_k hv).2 e] at h2; cases h2
  have h4 : p.k ≠ 4 := fun e => by rw [(lam_k hv).2 e] at h1; cases h1
  have hi : infP l p = none := by unfold infP; rw [if_neg h3]
  have fin : ∀ ks, (∀ r rs, Dl r → LX r rs → LX (showL l p ++ r) (ks ++ rs)) → (∃ k0 ks', ks = k0 :: ks' ∧ bK l k0 = true ∧ opK l k0 = none ∧ k0.1 ≠ 8) →
      (∀ (t : List Tok) (d i : Nat) (k : Key) (rest : List Key), KAt t i (ks ++ k :: rest) → k.1 ≠ 8 → ∃ a, samePre p a = true ∧ Atom l t d i (.ok (a, i + ks.length)) ∧ lamAt t i = false ∧ beginsL l (tokL t i) = true) →
      ∃ ks, RB l p ks ∧ (∀ (t : List Tok) (d i : Nat) (k : Key) (rest : List Key), KAt t i (ks ++ k :: rest) → k.1 ≠ 8 → ∃ a, samePre p a = true ∧ Atom l t d i (.ok (a, i + ks.length)) ∧ lamAt t i = false ∧ beginsL l (tokL t i) = true) := fun ks q1 q2 q3 => by
    have hH : HdP l p ks := fun t d i k rest hk h8 _ => by
      obtain ⟨a, a1, a2, a3, _⟩ := q3 t d i k rest hk h8
      exact ⟨a, a.pos, a1, fun r hr => ⟨a, _, a2, by rw [a3]; exact hr⟩⟩
    exact ⟨ks, ⟨q1, q2, ex_of_hd hH, fun _ _ => hH⟩, q3⟩
  rw [showL_word h1 h2] at fin
  rcases valid_word hv h3 h4 with ⟨k0, hn, n0, l0⟩ | ⟨k1, hn, hf, n0, l0⟩ | ⟨k2, hn, n0, l0⟩
  · have hw := wd_w hn
    have hs : ∀ a, samePre p (.mk 0 p.name 0 [] a) = true := fun a => by have := same_leaf (a := a) l0; rwa [k0, n0] at this
    cases hf : findL l p.name with
    | none =>
      have ew : wordP l p = p.name := by unfold wordP; rw [if_pos k0, hf]; rfl
      rw [ew] at fin
      refine fin [(kindW p.name, p.name, 0)] (fun r rs hr hx => lx_word hw hr hx) ⟨_, [], rfl, by rw [bK_w, hf]; rfl, by rw [opK_w, hf], by have := kindW_or p.name; show kindW p.name ≠ 8; omega⟩ ?_
      intro t d i k rest hk h8
      obtain ⟨q1, _, q2⟩ := KAt.cons (ks := k :: rest) hk
      obtain ⟨q3, _, _⟩ := q2.cons
      obtain ⟨e1, e2⟩ := key_kind q1
      have hb : beginsL l (tokL t i) = true := by rw [begins_key q1, bK_w, hf]; rfl
      have hn8 : (tokL t (i + 1)).kind ≠ 8 := by rw [(key_kind q3).1]; exact h8
      have hkk := kindW_or p.name
      simp only at e1 e2
      have ha := Atom.word (d := d) hb (by omega) (by omega) hn8
      rw [if_neg (by omega), e2] at ha
      exact ⟨_, hs _, ha, lam_no8 hn8, hb⟩
    | some o =>
      have ew : wordP l p = 40 :: p.name ++ [41] := by unfold wordP; rw [if_pos k0, hf]; rfl
      rw [ew] at fin
      refine fin [(5, [], 0), (kindW p.name, p.name, 0), (6, [], 0)] (fun r rs hr hx => ?_) ⟨_, _, rfl, by simp [bK], by simp [opK], by show (5 : Int) ≠ 8; decide⟩ ?_
      · have e : (40 :: p.name ++ [41]) ++ r = 40 :: (p.name ++ (41 :: r)) := by simp
        rw [e]
        exact lx_open (lx_word hw (dl_41 r) (lx_close hx))
      · intro t d i k rest hk h8
        obtain ⟨q1, _, q2⟩ := KAt.cons (ks := (kindW p.name, p.name, 0) :: (6, [], 0) :: k :: rest) hk
        obtain ⟨q3, _, q4⟩ := q2.cons
        obtain ⟨q5, _, _⟩ := q4.cons
        have hk5 : (tokL t i).kind = 5 := (key_kind q1).1
        have hk6 : (tokL t (i + 2)).kind = 6 := (key_kind q5).1
        have ha := Atom.opw (l := l) (d := d) hk5 (by rw [op_key q3, opK_w, hf]; rfl) hk6
        rw [(key_kind q3).2] at ha
        exact ⟨_, hs _, ha, lam_no1 (by omega) (by omega), by simp [beginsL, hk5]⟩
  · have ew : wordP l p = p.name := by unfold wordP; rw [if_neg (by omega), if_pos k1]
    rw [ew] at fin
    have hs : ∀ a, samePre p (.mk 1 p.name 0 [] a) = true := fun a => by have := same_leaf (a := a) l0; rwa [k1, n0] at this
    refine fin [(2, p.name, 0)] (fun r rs hr hx => lx_word (wd_var hn) hr hx) ⟨_, [], rfl, by simp [bK], by simp [opK], by show (2 : Int) ≠ 8; decide⟩ ?_
    intro t d i k rest hk h8
    obtain ⟨q1, _, q2⟩ := KAt.cons (ks := k :: rest) hk
    obtain ⟨q3, _, _⟩ := q2.cons
    obtain ⟨e1, e2⟩ := key_kind q1
    simp only at e1 e2
    have hb : beginsL l (tokL t i) = true := by rw [begins_key q1]; simp [bK]
    have hn8 : (tokL t (i + 1)).kind ≠ 8 := by rw [(key_kind q3).1]; exact h8
    have ha := Atom.word (d := d) hb (by omega) (by omega) hn8
    rw [if_pos e1, e2] at ha
    exact ⟨_, hs _, ha, lam_no8 hn8, hb⟩
  · have ew : wordP l p = Lib.itoa p.n := by
      unfold wordP; rw [if_neg (by omega), if_neg (by omega), if_pos k2, show max p.n 0 = p.n by omega]
    rw [ew] at fin
    have hs : ∀ a, samePre p (.mk 2 [] p.n [] a) = true := fun a => by have := same_leaf (a := a) l0; rwa [k2, hn] at this
    refine fin [(3, [], p.n)] (fun r rs hr hx => lx_word (wd_int n0 hO.n) hr hx) ⟨_, [], rfl, by simp [bK], by simp [opK], by show (3 : Int) ≠ 8; decide⟩ ?_
    intro t d i k rest hk h8
    obtain ⟨q1, _, q2⟩ := KAt.cons (ks := k :: rest) hk
    have e1 : (tokL t i).kind = 3 := (key_kind q1).1
    have e3 : (tokL t i).n = p.n := by have := congrArg (fun k : Key => k.2.2) q1; exact this
    have hb : beginsL l (tokL t i) = true := by rw [begins_key q1]; simp [bK]
    have ha := Atom.int (d := d) hb e1
    rw [e3] at ha
    exact ⟨_, hs _, ha, lam_no1 (by omega) (by omega), hb⟩
theorem back_lam {l : List OpT} (hl : OpsOk l) {p q : Pre} (hv : validPre l p = true) (h1 : p.k = 4) (h2 : p.l = [q]) {kq : List Key} (hq : RB l q kq) : ∃ ks, RB l p ks := by
  obtain ⟨hn, hf, n0, _⟩ := valid_lam hv h1
  have hlam := (lam_k hv).2 h1
  obtain ⟨kk, hkk, hw⟩ : ∃ kk : Int, (kk = 1 ∨ kk = 2) ∧ Wd p.name (kk, p.name, 0) := by
    rcases hn with hn | hn
    · exact ⟨1, .inl rfl, wd_name hn⟩
    · exact ⟨2, .inr rfl, wd_var hn⟩
  have hbk : bK l (kk, p.name, 0) = true := by
    rcases hkk with rfl | rfl
    · simp [bK, opK, hf]
    · simp [bK]
  have hok : opK l (kk, p.name, 0) = none := by
    rcases hkk with rfl | rfl
    · simp [opK, hf]
    · simp [opK]
  have hnp : nodesP p = 1 + nodesP q := by rw [nodesP_eq, h2, nodesPs, nodesPs]; omega
  refine ⟨(kk, p.name, 0) :: (8, [], 0) :: kq, ⟨fun r rs hr hx => ?_, ⟨_, _, rfl, hbk, hok, by rcases hkk with rfl | rfl <;> (simp only; decide)⟩, ?_, fun e _ => by rw [hlam] at e; cases e⟩⟩
  · rw [showL_lam h1 h2]
    have e : (p.name ++ [92, 32] ++ showL l q) ++ r = p.name ++ (92 :: 32 :: (showL l q ++ r)) := by simp
    rw [e]
    exact lx_word hw (dl_92 _) (lx_lam (hq.tx r rs hr hx))
  · intro t d i least k rest hk hd hb h8 hc _
    have hc := hc hlam
    obtain ⟨q1, _, q2⟩ := KAt.cons (ks := (8, [], 0) :: (kq ++ k :: rest)) hk
    obtain ⟨q3, _, q4⟩ := q2.cons
    obtain ⟨e1, e2⟩ := key_kind q1
    simp only at e1 e2
    have e3 : (tokL t (i + 1)).kind = 8 := (key_kind q3).1
    obtain ⟨m, m1, m2, m3⟩ := hq.ex t (d + 1) (i + 2) 0 k rest q4 (by omega) hb h8 (fun _ => hc) (fun o a b ho => by
      obtain ⟨_, _, c, _, _, _, _, hff⟩ := infP_some ho
      have := hl.prec o (find_mem hff).1
      exact ⟨by omega, fun o' e => by rw [hc] at e; cases e⟩)
    obtain ⟨q5, _, _⟩ := q4.app.cons
    have hx := m3 _ (Chain.stop (by rw [op_key q5]; exact hc))
    have hp := nodesP_eq q
    have ha := Atom.lamG (show d < 200 by omega) (by rw [begins_key q1]; exact hbk) (by omega) e3 hx
    have hla : lamAt t i = true := by simp [lamAt, e3]; omega
    rw [e2] at ha
    refine ⟨⟨.mk 4 p.name 0 [m.p] (tokL t i).pos, none⟩, ?_, fun b pos e => (by cases e), fun r hr => ?_⟩
    · rw [samePre_eq, h2, h1, n0]
      simp [Pre.k, Pre.name, Pre.n, Pre.l, zipAll, m1]
    · refine Expr.mk ha (Args.stop (.inl hla)) ?_
      rw [List.length_cons, List.length_cons, show i + (kq.length + 1 + 1) = i + 2 + kq.length by omega] at hr
      exact hr
theorem same_app {p f b f' b' : Pre} {pos : Int} (hk : p.k = 3) (hn : p.name = []) (h0 : p.n = 0) (hl : p.l = [f, b]) (h1 : samePre f f' = true) (h2 : samePre b b' = true) : samePre p (Pre.app f' b' pos) = true := by
  rw [samePre_eq, hl, hk, hn, h0]
  simp [Pre.app, Pre.k, Pre.name, Pre.n, Pre.l, zipAll, h1, h2]
theorem back_app {l : List OpT} (hl : OpsOk l) {p f b : Pre} (hv : validPre l p = true) (hi : infP l p = none) (h1 : p.k = 3) (h2 : p.l = [f, b]) {kf kb : List Key} (hf : RB l f kf) (hb : RB l b kb)
    (hw : lamP b = false → appP b = false → ∀ (t : List Tok) (d i : Nat) (k : Key) (rest : List Key), KAt t i (kb ++ k :: rest) → k.1 ≠ 8 → ∃ a, samePre b a = true ∧ Atom l t d i (.ok (a, i + kb.length)) ∧ lamAt t i = false ∧ beginsL l (tokL t i) = true) : ∃ ks, RB l p ks := by
  obtain ⟨hn, n0, _⟩ := valid_app hv h1
  have hnp : nodesP p = 1 + (nodesP f + nodesP b) := by rw [nodesP_eq, h2, nodesPs, nodesPs, nodesPs]; omega
  have hnf := nodesP_eq f
  have hnb := nodesP_eq b
  have hfirst : ∀ kx (br : Bool), (∃ k0 ks', kx = k0 :: ks' ∧ bK l k0 = true ∧ opK l k0 = none ∧ k0.1 ≠ 8) → ∃ k0 ks', brK kx br = k0 :: ks' ∧ bK l k0 = true ∧ opK l k0 = none ∧ k0.1 ≠ 8 := fun kx br h => by
    cases br
    · exact h
    · exact ⟨_, _, rfl, by simp [bK], by simp [opK], by show (5 : Int) ≠ 8; decide⟩
  obtain ⟨fb0, fbs, efb, _, _, ffb8⟩ := hfirst kb (lamP b || appP b) hb.fst
  have hH : HdP l p (brK kf ((infP l f).isSome || lamP f) ++ brK kb (lamP b || appP b)) := by
    intro t d i k rest hk h8 hd
    rw [List.append_assoc] at hk
    -- the argument
    have hk2 := hk.app
    obtain ⟨a, a1, a2, a3, a4⟩ : ∃ a, samePre b a = true ∧ Atom l t d (i + (brK kf ((infP l f).isSome || lamP f)).length) (.ok (a, i + (brK kf ((infP l f).isSome || lamP f)).length + (brK kb (lamP b || appP b)).length)) ∧ lamAt t (i + (brK kf ((infP l f).isSome || lamP f)).length) = false ∧ beginsL l (tokL t (i + (brK kf ((infP l f).isSome || lamP f)).length)) = true := by
      cases hbb : (lamP b || appP b)
      · rw [hbb] at hk2
        rw [Bool.or_eq_false_iff] at hbb
        exact hw hbb.1 hbb.2 t d _ k rest hk2 h8
      · rw [hbb] at hk2
        exact hb.bracket hl hk2 (by omega)
    -- the head
    rw [efb, List.cons_append] at hk
    obtain ⟨f', pos, f1, f2⟩ : ∃ (f' : Pre) (pos : Int), samePre f f' = true ∧ ∀ r, Args l t d (i + (brK kf ((infP l f).isSome || lamP f)).length) f' pos false r → ∃ a j, Atom l t d i (.ok (a, j)) ∧ Args l t d j a a.pos (lamAt t i) r := by
      cases hff : ((infP l f).isSome || lamP f)
      · rw [hff] at hk
        rw [Bool.or_eq_false_iff] at hff
        have hi2 : infP l f = none := Option.not_isSome_iff_eq_none.1 (by rw [hff.1]; decide)
        exact hf.hd hff.2 hi2 t d i _ _ hk ffb8 (by omega)
      · rw [hff] at hk
        obtain ⟨x, x1, x2, x3, _⟩ := hf.bracket hl (d := d) hk (by omega)
        exact ⟨x, x.pos, x1, fun r hr => ⟨x, _, x2, by rw [x3]; exact hr⟩⟩
    refine ⟨Pre.app f' a pos, pos, same_app h1 hn n0 h2 f1 a1, fun r hr => f2 r (Args.more a4 a2 ?_)⟩
    rw [a3]
    rw [List.length_append, ← Nat.add_assoc] at hr
    exact hr
  have hnl : lamP p = false := by simp [lamP, h1]
  refine ⟨_, ⟨fun r rs hr hx => ?_, ?_, ex_of_hd hH, fun _ _ => hH⟩⟩
  · rw [showL_app hi h1 h2, List.append_assoc, List.append_assoc, List.cons_append]
    exact lx_putP hf.tx (dl_32 _) (lx_blank (lx_putP hb.tx hr hx))
  · obtain ⟨k0, ks', e, h⟩ := hfirst kf ((infP l f).isSome || lamP f) hf.fst
    exact ⟨k0, ks' ++ brK kb (lamP b || appP b), by rw [e]; rfl, h⟩
end Go.Lamb
namespace Go.Lamb
open Go Go.RowKit

theorem back_side {l : List OpT} (hl : OpsOk l) {a : Pre} {ka : List Key} (ha : RB l a ka) (br : Bool) {t : List Tok} {d i : Nat} {least : Int} {k : Key} {rest : List Key} (hk : KAt t i (brK ka br ++ k :: rest)) (hd : d + 1 + nodesP a ≤ 200) (hb : bK l k = false) (h8 : k.1 ≠ 8)
    (hlm : br = false → lamP a = false) (hin : br = false → ∀ x y z, infP l a = some (x, y, z) → least ≤ x.prec ∧ ∀ o', opK l k = some o' → o'.prec < nextL x) :
    ∃ m : Made, samePre a m.p = true ∧ (∀ b pos, m.by_ = some (b, pos) → br = false ∧ ∃ x y, infP l a = some (b, x, y)) ∧ ∀ r, Chain l t least d (i + (brK ka br).length) m r → Expr l t least d i r := by
  cases br
  · obtain ⟨m, m1, m2, m3⟩ := ha.ex t d i least k rest hk (by omega) hb h8 (fun e => by rw [hlm rfl] at e; cases e) (hin rfl)
    exact ⟨m, m1, fun b pos e => ⟨rfl, m2 b pos e⟩, m3⟩
  · obtain ⟨x, x1, x2, x3, _⟩ := ha.bracket hl hk hd
    obtain ⟨q, _, _⟩ := hk.app.cons
    exact ⟨⟨x, none⟩, x1, fun b pos e => (by cases e), fun r hr => Expr.mk x2 (Args.stop (.inr (by rw [begins_key q]; exact hb))) hr⟩
theorem sideB_no {l : List OpT} {o : OpT} {fix : Int} {a : Pre} (h : sideB l o fix a = false) : lamP a = false ∧ ∀ x y z, infP l a = some (x, y, z) → besideL o x fix = true := by
  unfold sideB at h
  rw [Bool.or_eq_false_iff] at h
  refine ⟨h.1, fun x y z e => ?_⟩
  have h2 := h.2
  rw [e] at h2
  simpa using h2
theorem back_inf {l : List OpT} (hl : OpsOk l) {p a b : Pre} {o : OpT} (hv : validPre l p = true) (hi : infP l p = some (o, a, b)) {ka kb : List Key} (ha : RB l a ka) (hb : RB l b kb) : ∃ ks, RB l p ks := by
  obtain ⟨h1, f, c, h2, h3, h4, h5, h6⟩ := infP_some hi
  obtain ⟨hom, hon⟩ := find_mem h6
  obtain ⟨hn, n0, _⟩ := valid_app hv h1
  have hvf := valid_kid hv (show f ∈ p.l by rw [h2]; simp)
  obtain ⟨hfn, hf0, _⟩ := valid_app hvf h3
  have hvc := valid_kid hvf (show c ∈ f.l by rw [h4]; simp)
  have hc := (valid_word hvc (by omega) (by omega))
  have hcc : c.n = 0 ∧ c.l = [] := by
    rcases hc with ⟨_, _, e1, e2⟩ | ⟨e, _⟩ | ⟨e, _⟩
    · exact ⟨e1, e2⟩
    · omega
    · omega
  have hnp : nodesP p = 1 + (1 + (nodesP c + nodesP a) + nodesP b) := by
    rw [nodesP_eq, h2, nodesPs, nodesPs, nodesPs, nodesP_eq f, h4, nodesPs, nodesPs, nodesPs]; omega
  have hna := nodesP_eq a
  have hnb := nodesP_eq b
  have hnc := nodesP_eq c
  have hop := hl.prec o hom
  have hfo : findL l o.name = some o := by rw [hon]; exact h6
  have hok : opK l (kindW o.name, o.name, 0) = some o := by rw [opK_w, hfo]
  have hbo : bK l (kindW o.name, o.name, 0) = false := by rw [bK_w, hfo]; rfl
  have ho8 : (kindW o.name, o.name, (0 : Int)).1 ≠ 8 := by have := kindW_or o.name; show kindW o.name ≠ 8; omega
  have hw := wd_w (hl.name o hom)
  have hla : lamP p = false := by simp [lamP, h1]
  have hfirst : ∃ k0 ks', brK ka (sideB l o 1 a) = k0 :: ks' ∧ bK l k0 = true ∧ opK l k0 = none ∧ k0.1 ≠ 8 := by
    cases sideB l o 1 a
    · exact ha.fst
    · exact ⟨_, _, rfl, by simp [bK], by simp [opK], by show (5 : Int) ≠ 8; decide⟩
  refine ⟨brK ka (sideB l o 1 a) ++ (kindW o.name, o.name, 0) :: brK kb (sideB l o 2 b), ⟨fun r rs hr hx => ?_, ?_, ?_, fun _ e => by rw [hi] at e; cases e⟩⟩
  · rw [showL_inf hi]
    have e : (putP (showL l a) (sideB l o 1 a) ++ (32 :: o.name ++ [32]) ++ putP (showL l b) (sideB l o 2 b)) ++ r = putP (showL l a) (sideB l o 1 a) ++ 32 :: (o.name ++ (32 :: (putP (showL l b) (sideB l o 2 b) ++ r))) := by simp
    rw [e, List.append_assoc, List.cons_append]
    exact lx_putP ha.tx (dl_32 _) (lx_blank (lx_word hw (dl_32 _) (lx_blank (lx_putP hb.tx hr hx))))
  · obtain ⟨k0, ks', e, h⟩ := hfirst
    exact ⟨k0, _, by rw [e]; rfl, h⟩
  · intro t d i least k rest hk hd hbk h8 _ hin
    obtain ⟨hle, hst⟩ := hin o a b hi
    rw [List.append_assoc, List.cons_append] at hk
    obtain ⟨q1, _, q2⟩ := hk.app.cons
    obtain ⟨ma, a1, a2, a3⟩ := back_side hl ha (sideB l o 1 a) (least := least) hk (show d + 1 + nodesP a ≤ 200 by omega) hbo ho8 (fun e => (sideB_no e).1) (fun e x y z hx => by
      have hbe := (sideB_no e).2 x y z hx
      obtain ⟨_, _, cx, _, _, _, _, hxf⟩ := infP_some hx
      have hp := beside_1 hl hom (find_mem hxf).1 hbe
      refine ⟨by omega, fun o' ho' => ?_⟩
      rw [hok] at ho'
      injection ho' with ho'
      subst ho'
      exact hp.2)
    obtain ⟨mb, b1, b2, b3⟩ := back_side hl hb (sideB l o 2 b) (d := d + 1) (least := nextL o) q2 (by omega) hbk h8 (fun e => (sideB_no e).1) (fun e x y z hx => by
      have hbe := (sideB_no e).2 x y z hx
      obtain ⟨_, _, cx, _, _, _, _, hxf⟩ := infP_some hx
      have hp := beside_2 hl hom (find_mem hxf).1 hbe
      exact ⟨hp.1, fun o' ho' => by have := hst o' ho'; omega⟩)
    obtain ⟨q3, _, _⟩ := q2.app.cons
    have hB := b3 (.ok (mb, _)) (by
      cases ho' : opK l k with
      | none => exact Chain.stop (by rw [op_key q3]; exact ho')
      | some o' => exact Chain.less (by rw [op_key q3]; exact ho') (hst o' ho'))
    have hclash : clashL o ma = false := by
      unfold clashL
      cases hby : ma.by_ with
      | none => rfl
      | some x =>
        obtain ⟨y, pos⟩ := x
        obtain ⟨e1, x, z, e2⟩ := a2 y pos hby
        simp only [(sideB_no e1).2 _ _ _ e2]
        rfl
    refine ⟨⟨applyL o (tokL t (i + (brK ka (sideB l o 1 a)).length)).pos ma.p mb.p, some (o, (tokL t (i + (brK ka (sideB l o 1 a)).length)).pos)⟩, ?_, fun y pos e => ?_, fun r hr => ?_⟩
    · refine same_app h1 hn n0 h2 (same_app h3 hfn hf0 h4 ?_ a1) b1
      have := same_leaf (a := (tokL t (i + (brK ka (sideB l o 1 a)).length)).pos) hcc.2
      rwa [h5, hcc.1, ← hon] at this
    · injection e with e
      injection e with e _
      subst e
      exact ⟨a, b, hi⟩
    · refine a3 r (Chain.opG (by omega) (by rw [op_key q1]; exact hok) (by omega) hclash hB (fun y pos e => ?_) ?_)
      · obtain ⟨e1, x, z, e2⟩ := b2 y pos e
        exact (sideB_no e1).2 _ _ _ e2
      · rw [List.length_append, List.length_cons, show i + ((brK ka (sideB l o 1 a)).length + ((brK kb (sideB l o 2 b)).length + 1)) = i + (brK ka (sideB l o 1 a)).length + 1 + (brK kb (sideB l o 2 b)).length by omega] at hr
        exact hr
theorem back_tree {l : List OpT} (hl : OpsOk l) (p : Pre) : validPre l p = true → OkP p → ∃ ks, RB l p ks := by
  refine (Pre.ind (P := fun p => (validPre l p = true → OkP p → ∃ ks, RB l p ks) ∧ ∀ q ∈ p.l, validPre l q = true → OkP q → ∃ ks, RB l q ks) (fun p ih => ⟨fun hv hO => ?_, fun q hq => (ih q hq).1⟩) p).1
  cases hi : infP l p with
  | some x =>
    obtain ⟨o, a, b⟩ := x
    obtain ⟨_, f, c, h2, _, h4, _, _⟩ := infP_some hi
    have hf : f ∈ p.l := by rw [h2]; simp
    have hb : b ∈ p.l := by rw [h2]; simp
    have ha : a ∈ f.l := by rw [h4]; simp
    obtain ⟨ka, ra⟩ := (ih f hf).2 a ha (valid_kid (valid_kid hv hf) ha) ((hO.mem hf).mem ha)
    obtain ⟨kb, rb⟩ := (ih b hb).1 (valid_kid hv hb) (hO.mem hb)
    exact back_inf hl hv hi ra rb
  | none =>
    by_cases h1 : lamP p = true
    · have h4 := (lam_k hv).1 h1
      obtain ⟨_, _, _, hlen⟩ := valid_lam hv h4
      obtain ⟨q, hq⟩ := List.length_eq_one_iff.1 hlen
      have hqm : q ∈ p.l := by rw [hq]; simp
      obtain ⟨kq, rq⟩ := (ih q hqm).1 (valid_kid hv hqm) (hO.mem hqm)
      exact back_lam hl hv h4 hq rq
    · have h1 : lamP p = false := by simpa using h1
      by_cases h2 : appP p = true
      · have h3 := (app_k hv).1 h2
        obtain ⟨f, b, hq⟩ : ∃ f b, p.l = [f, b] := by
          have := (valid_app hv h3).2.2
          match p.l, this with
          | [f, b], _ => exact ⟨f, b, rfl⟩
        have hf : f ∈ p.l := by rw [hq]; simp
        have hb : b ∈ p.l := by rw [hq]; simp
        obtain ⟨kf, rf⟩ := (ih f hf).1 (valid_kid hv hf) (hO.mem hf)
        by_cases hbb : lamP b = false ∧ appP b = false
        · obtain ⟨kb, rb, rw⟩ := back_word hl (valid_kid hv hb) (hO.mem hb) hbb.1 hbb.2
          exact back_app hl hv hi h3 hq rf rb (fun _ _ => rw)
        · obtain ⟨kb, rb⟩ := (ih b hb).1 (valid_kid hv hb) (hO.mem hb)
          exact back_app hl hv hi h3 hq rf rb (fun e1 e2 => absurd ⟨e1, e2⟩ hbb)
      · have h2 : appP p = false := by simpa using h2
        obtain ⟨ks, r, _⟩ := back_word hl hv hO h1 h2
        exact ⟨ks, r⟩
end Go.Lamb
namespace Go.Lamb
open Go Go.RowKit

structure TokGood (x : Tok) : Prop where
  k1 : x.kind = 1 → isNameB x.text = true
  k2 : x.kind = 2 → isVarB x.text = true
  k4 : x.kind = 4 → isSymB x.text = true
  k3 : x.kind = 3 → 0 ≤ x.n ∧ x.n ≤ 9223372036854775807
theorem one_tok {u : List UInt8} (he : (oneL u).err = 0) : ((oneL u).kind = 1 → isNameB (oneL u).text = true) ∧ ((oneL u).kind = 2 → isVarB (oneL u).text = true) ∧ ((oneL u).kind = 4 → isSymB (oneL u).text = true) ∧ ((oneL u).kind = 3 → 0 ≤ (oneL u).n ∧ (oneL u).n ≤ 9223372036854775807) := by
  cases u with
  | nil => simp [oneL]
  | cons c u =>
    simp only [oneL] at he ⊢
    by_cases hm : markN c ≠ 0
    · rw [if_pos hm] at he ⊢
      have : markN c = 5 ∨ markN c = 6 ∨ markN c = 7 ∨ markN c = 8 := by
        unfold markN at hm ⊢
        split
        · simp
        · split
          · simp
          · split
            · simp
            · split
              · simp
              · rename_i h1 h2 h3 h4
                rw [if_neg h1, if_neg h2, if_neg h3, if_neg h4] at hm
                exact absurd rfl hm
      simp only
      refine ⟨fun e => ?_, fun e => ?_, fun e => ?_, fun e => ?_⟩ <;> omega
    · rw [if_neg hm] at he ⊢
      cases hd : digitB c
      · rw [hd] at he
        simp only [Bool.false_eq_true, if_false] at he ⊢
        have word : ∀ (p : UInt8 → Bool) (k : Int) (n : Nat), (wordR k n (c :: u)).err = 0 → wordR k n (c :: u) = ⟨k, (c :: u).take n, 0, n, 0⟩ ∧ n ≤ 32 := fun p k n h => by
          unfold wordR at h ⊢
          split at h
          · simp at h
          · rename_i h2
            rw [if_neg h2]
            exact ⟨rfl, by omega⟩
        cases hs : smallB c
        · rw [hs] at he
          simp only [Bool.false_eq_true, if_false] at he ⊢
          cases hg : greatB c
          · rw [hg] at he
            simp only [Bool.false_eq_true, if_false] at he ⊢
            cases hsg : signB c
            · rw [hsg] at he
              simp only [Bool.false_eq_true, if_false] at he ⊢
              cases hsi : singles.contains c
              · rw [hsi] at he
                simp only [Bool.false_eq_true, if_false] at he
                omega
              · rw [hsi] at he
                simp only [if_true] at he ⊢
                obtain ⟨e1, e2⟩ := word signB 4 1 he
                rw [e1]
                refine ⟨fun e => (by simp at e), fun e => (by simp at e), fun _ => ?_, fun e => (by simp at e)⟩
                simp [isSymB, fitsB, headB]
                exact .inr (by simpa using hsi)
            · rw [hsg] at he
              simp only [if_true] at he ⊢
              obtain ⟨e1, e2⟩ := word signB 4 _ he
              have hr := run_take signB (c :: u)
              have hp := run_pos (l := u) hsg
              have hle := runLen_le signB (c :: u)
              rw [e1]
              refine ⟨fun e => (by simp at e), fun e => (by simp at e), fun _ => ?_, fun e => (by simp at e)⟩
              unfold isSymB fitsB
              rw [hr, List.length_take]
              simp only [Bool.true_or, Bool.and_true, Bool.and_eq_true, decide_eq_true_eq]
              refine ⟨?_, by omega⟩
              intro e
              have := congrArg List.length e
              rw [List.length_take] at this
              simp at this hle
              omega
          · rw [hg] at he
            simp only [if_true] at he ⊢
            obtain ⟨e1, e2⟩ := word insideB 2 _ he
            have hin : insideB c = true := by simp [insideB, hg]
            have hr := run_take insideB (c :: u)
            have hp := run_pos (l := u) hin
            have hle := runLen_le insideB (c :: u)
            rw [e1]
            refine ⟨fun e => (by simp at e), fun _ => ?_, fun e => (by simp at e), fun e => (by simp at e)⟩
            unfold isVarB fitsB
            rw [hr, List.length_take]
            obtain ⟨n, hn⟩ : ∃ n, runLen insideB (c :: u) = n + 1 := ⟨_, (Nat.succ_pred_eq_of_pos hp).symm⟩
            rw [hn] at hle e2 ⊢
            simp only [List.take_succ_cons, headB, hg, Bool.and_true, Bool.and_eq_true, decide_eq_true_eq]
            exact ⟨by simp, by omega⟩
        · rw [hs] at he
          simp only [if_true] at he ⊢
          obtain ⟨e1, e2⟩ := word insideB 1 _ he
          have hin : insideB c = true := by simp [insideB, hs]
          have hr := run_take insideB (c :: u)
          have hp := run_pos (l := u) hin
          have hle := runLen_le insideB (c :: u)
          rw [e1]
          refine ⟨fun _ => ?_, fun e => (by simp at e), fun e => (by simp at e), fun e => (by simp at e)⟩
          unfold isNameB fitsB
          rw [hr, List.length_take]
          obtain ⟨n, hn⟩ : ∃ n, runLen insideB (c :: u) = n + 1 := ⟨_, (Nat.succ_pred_eq_of_pos hp).symm⟩
          rw [hn] at hle e2 ⊢
          simp only [List.take_succ_cons, headB, hs, Bool.and_true, Bool.and_eq_true, decide_eq_true_eq]
          exact ⟨by simp, by omega⟩
      · rw [hd] at he
        simp only [if_true] at he ⊢
        unfold numR at he ⊢
        split at he
        · rename_i h
          rw [if_pos h]
          refine ⟨fun e => (by simp at e), fun e => (by simp at e), fun e => (by simp at e), fun _ => ?_⟩
          simp only
          omega
        · simp at he
theorem lexF_ok (N : Nat) : ∀ (f : Nat) (l : List UInt8), ∀ x ∈ (lexF N f l).toks, TokGood x
  | 0, l, x, h => by cases h
  | f + 1, l, x, h => by
    simp only [lexF] at h
    split at h
    · cases h
    · rename_i he
      have he : (oneL l).err = 0 := by simpa using he
      have hone := one_tok he
      have hx : TokGood (tokAt N l) := ⟨hone.1, hone.2.1, hone.2.2.1, hone.2.2.2⟩
      split at h
      · simp only [List.mem_singleton] at h
        rw [h]; exact hx
      · unfold LexR.cons at h
        split at h
        · rcases List.mem_cons.1 h with rfl | h
          · exact hx
          · exact lexF_ok N f _ x h
        · cases h
theorem lexL_ok (s : List UInt8) : ∀ x ∈ (lexL s).toks, TokGood x := by
  unfold lexL
  split
  · intro x h; cases h
  · exact lexF_ok _ _ _
theorem tokL_ok {t : List Tok} (ht : ∀ x ∈ t, TokGood x) (i : Nat) : TokGood (tokL t i) := by
  unfold tokL
  cases h : t[i]? with
  | none => exact ⟨fun e => (by cases e), fun e => (by cases e), fun e => (by cases e), fun e => (by cases e)⟩
  | some x => exact ht x (List.mem_of_getElem? h)
theorem var_not {l : List OpT} (hl : OpsOk l) {s : List UInt8} (h : isVarB s = true) : findL l s = none := by
  cases e : findL l s with
  | none => rfl
  | some o =>
    obtain ⟨h1, rfl⟩ := find_mem e
    simp only [isVarB, Bool.and_eq_true, fitsB, decide_eq_true_eq] at h
    obtain ⟨⟨⟨h2, h3⟩, h4⟩, h5⟩ := h
    cases hs : o.name with
    | nil => exact absurd hs h2
    | cons c u =>
      rw [hs] at h4
      have h4 : greatB c = true := h4
      obtain ⟨_, _, _, _, q5⟩ := great_not h4
      rcases hl.name o h1 with hn | hn
      · simp only [isNameB, Bool.and_eq_true, fitsB, decide_eq_true_eq] at hn
        rw [hs] at hn
        have : smallB c = true := hn.1.2
        rw [this] at q5; cases q5
      · simp only [isSymB, Bool.and_eq_true, Bool.or_eq_true, fitsB, decide_eq_true_eq] at hn
        rw [hs] at hn
        rcases hn.2 with hn | hn
        · rw [List.all_cons, Bool.and_eq_true] at hn
          have := (sign_not hn.1).2.2.2.2.2
          rw [h4] at this; cases this
        · have := (single_not (c := c) hn.2).2.2.2.2.2.1
          rw [h4] at this; cases this
def VO (l : List OpT) (p : Pre) : Prop := validPre l p = true ∧ OkP p
theorem vo_leaf {l : List OpT} {k : Int} {s : List UInt8} {n a : Int} (h : nodeOk l k s n 0 = true) (hn : n ≤ 9223372036854775807) : VO l (.mk k s n [] a) := by
  refine ⟨?_, .mk hn (fun x hx => by cases hx)⟩
  rw [validPre_eq]
  simpa [Pre.k, Pre.name, Pre.n, Pre.l] using h
theorem vo_app {l : List OpT} {p q : Pre} {a : Int} (hp : VO l p) (hq : VO l q) : VO l (Pre.app p q a) := by
  refine ⟨?_, .mk (by omega) (fun x hx => ?_)⟩
  · rw [validPre_eq]
    simp [Pre.app, Pre.k, Pre.name, Pre.n, Pre.l, nodeOk, hp.1, hq.1]
  · simp only [List.mem_cons, List.not_mem_nil, or_false] at hx
    rcases hx with rfl | rfl
    · exact hp.2
    · exact hq.2
theorem vo_word {l : List OpT} {s : List UInt8} {a : Int} (h : isNameB s = true ∨ isSymB s = true) : VO l (.mk 0 s 0 [] a) := by
  refine vo_leaf ?_ (by omega)
  rcases h with h | h <;> simp [nodeOk, h]
theorem read_valid {l : List OpT} (hl : OpsOk l) {t : List Tok} (ht : ∀ x ∈ t, TokGood x) : ∀ f : Nat,
    (∀ d i p j, atomF f l t d i = some (.ok (p, j)) → VO l p) ∧ (∀ d i p pos last q j, VO l p → argsF f l t d i p pos last = some (.ok (q, j)) → VO l q) ∧
    (∀ least d i m j, exprF f l t least d i = some (.ok (m, j)) → VO l m.p) ∧ (∀ least d i m m' j, VO l m.p → chainF f l t least d i m = some (.ok (m', j)) → VO l m'.p)
  | 0 => ⟨fun _ _ _ _ h => by simp [atomF] at h, fun _ _ _ _ _ _ _ _ h => by simp [argsF] at h, fun _ _ _ _ _ h => by simp [exprF] at h, fun _ _ _ _ _ _ _ h => by simp [chainF] at h⟩
  | f + 1 => by
    obtain ⟨h1, h2, h3, h4⟩ := read_valid hl ht f
    refine ⟨fun d i p j h => ?_, fun d i p pos last q j hp h => ?_, fun least d i m j h => ?_, fun least d i m m' j hm h => ?_⟩
    · rw [atomF] at h
      simp only at h
      have hx := tokL_ok ht i
      have hy := tokL_ok ht (i + 1)
      split at h
      · cases h
      · rename_i hb
        have hb : beginsL l (tokL t i) = true := by simpa using hb
        split at h
        · split at h
          · rename_i hc
            injection h with h
            injection h with h
            injection h with h _
            subst h
            have ho := hc.1
            unfold opOf at ho
            split at ho
            · rename_i hk
              rcases hk with hk | hk
              · exact vo_word (.inl (hy.k1 hk))
              · exact vo_word (.inr (hy.k4 hk))
            · cases ho
          · split at h
            · cases h
            · split at h
              · cases h
              · cases h
              · rename_i m j' he
                split at h
                · injection h with h
                  injection h with h
                  injection h with h _
                  subst h
                  exact h3 _ _ _ _ _ he
                · cases h
        · rename_i h5
          split at h
          · rename_i hk3
            injection h with h
            injection h with h
            injection h with h _
            subst h
            have := hx.k3 hk3
            exact vo_leaf (by simp [nodeOk]; omega) this.2
          · rename_i h3'
            have hkind : (tokL t i).kind = 1 ∨ (tokL t i).kind = 4 ∨ (tokL t i).kind = 2 := by
              unfold beginsL at hb
              split at hb
              · rename_i hk; omega
              · simp only [decide_eq_true_eq] at hb; omega
            split at h
            · rename_i hc
              split at h
              · cases h
              · split at h
                · cases h
                · cases h
                · rename_i m j' he
                  injection h with h
                  injection h with h
                  injection h with h _
                  subst h
                  have hm := h3 _ _ _ _ _ he
                  have hname : (isNameB (tokL t i).text = true ∨ isVarB (tokL t i).text = true) ∧ findL l (tokL t i).text = none := by
                    rcases hkind with hk | hk | hk
                    · refine ⟨.inl (hx.k1 hk), ?_⟩
                      unfold beginsL at hb
                      rw [if_pos (.inl hk)] at hb
                      unfold opOf at hb
                      rw [if_pos (.inl hk)] at hb
                      exact Option.isNone_iff_eq_none.1 hb
                    · exact absurd hk hc.1
                    · exact ⟨.inr (hx.k2 hk), var_not hl (hx.k2 hk)⟩
                  refine ⟨?_, .mk (by omega) (fun x hx => by simp only [List.mem_singleton] at hx; subst hx; exact hm.2)⟩
                  rw [validPre_eq]
                  rcases hname.1 with hn | hn <;> simp [Pre.k, Pre.name, Pre.n, Pre.l, nodeOk, hn, hname.2, hm.1]
            · injection h with h
              injection h with h
              injection h with h _
              subst h
              rcases hkind with hk | hk | hk
              · rw [if_neg (by omega)]
                exact vo_word (.inl (hx.k1 hk))
              · rw [if_neg (by omega)]
                exact vo_word (.inr (hx.k4 hk))
              · rw [if_pos hk]
                exact vo_leaf (by simp [nodeOk, hx.k2 hk, var_not hl (hx.k2 hk)]) (by omega)
    · rw [argsF] at h
      split at h
      · injection h with h
        injection h with h
        injection h with h _
        subst h
        exact hp
      · split at h
        · cases h
        · cases h
        · rename_i x j' he
          exact h2 _ _ _ _ _ _ _ (vo_app hp (h1 _ _ _ _ he)) h
    · rw [exprF] at h
      split at h
      · cases h
      · cases h
      · rename_i p j' he
        split at h
        · cases h
        · cases h
        · rename_i q k hq
          exact h4 _ _ _ ⟨q, none⟩ _ _ (h2 _ _ _ _ _ _ _ (h1 _ _ _ _ he) hq) h
    · rw [chainF] at h
      split at h
      · injection h with h
        injection h with h
        injection h with h _
        subst h
        exact hm
      · rename_i o ho
        have hon : isNameB o.name = true ∨ isSymB o.name = true := by
          unfold opOf at ho
          split at ho
          · exact hl.name o (find_mem ho).1
          · cases ho
        have happ : ∀ (r : Made) (pos : Int), VO l r.p → VO l (applyL o pos m.p r.p) := fun r pos hr => vo_app (vo_app (vo_word hon) hm) hr
        split at h
        · injection h with h
          injection h with h
          injection h with h _
          subst h
          exact hm
        · split at h
          · cases h
          · split at h
            · cases h
            · split at h
              · cases h
              · cases h
              · rename_i r j' he
                have hr := h3 _ _ _ _ _ he
                split at h
                · split at h
                  · exact h4 _ _ _ ⟨applyL o (tokL t i).pos m.p r.p, _⟩ _ _ (happ r _ hr) h
                  · cases h
                · exact h4 _ _ _ ⟨applyL o (tokL t i).pos m.p r.p, _⟩ _ _ (happ r _ hr) h
theorem Expr.valid {l : List OpT} (hl : OpsOk l) {s : List UInt8} {least : Int} {d i j : Nat} {m : Made} (h : Expr l (lexL s).toks least d i (.ok (m, j))) : validPre l m.p = true ∧ OkP m.p := by
  obtain ⟨f, h⟩ := h
  exact (read_valid hl (lexL_ok s) f).2.2.1 _ _ _ _ _ h
theorem fits_len {s : List UInt8} (h : isNameB s = true ∨ isVarB s = true ∨ isSymB s = true) : s.length ≤ 32 := by
  rcases h with h | h | h
  · simp only [isNameB, Bool.and_eq_true, fitsB, decide_eq_true_eq] at h; exact h.1.1.2
  · simp only [isVarB, Bool.and_eq_true, fitsB, decide_eq_true_eq] at h; exact h.1.1.2
  · simp only [isSymB, Bool.and_eq_true, fitsB, decide_eq_true_eq] at h; exact h.1.2
end Go.Lamb
namespace Go.Lamb
open Go Go.RowKit

mutual
def leafT : Typ → Nat
  | .mk k _ _ l => (if k = 2 then 0 else 1) + leafTs l
def leafTs : List Typ → Nat
  | [] => 0
  | x :: l => leafT x + leafTs l
end
theorem leafT_eq (p : Typ) : leafT p = (if p.k = 2 then 0 else 1) + leafTs p.l := by cases p; rw [leafT]; rfl
theorem leafTs_add : ∀ l r : List Typ, leafTs (l ++ r) = leafTs l + leafTs r
  | [], r => by simp [leafTs]
  | x :: l, r => by rw [List.cons_append, leafTs, leafTs, leafTs_add l r]; omega
theorem nestTs_add : ∀ l r : List Typ, nestTs (l ++ r) = max (nestTs l) (nestTs r)
  | [], r => by rw [nestTs, List.nil_append]; omega
  | x :: l, r => by rw [List.cons_append, nestTs, nestTs, nestTs_add l r]; omega
theorem vnum_var (vs : List Str) (s : Str) : subS normG (idsI vs.length) (.var (vnum vs s)) = (.var (vnum vs s), idsI (vadd vs s).length) ∧ vnum vs s ≤ vs.length ∧ vs.length ≤ (vadd vs s).length ∧ (vadd vs s).length ≤ vs.length + 1 ∧ vnum vs s < (vadd vs s).length := by
  rw [subS_eq, if_pos (show (Typ.var _).k = 1 from rfl)]
  show (Typ.var (inum (idsI vs.length) (vnum vs s : Int)), iadd (idsI vs.length) (vnum vs s : Int)) = _ ∧ _
  unfold vnum vadd inum iadd
  cases h : vs.findIdx? (· == s) with
  | none =>
    simp only [Option.getD_none, Option.isSome_none, Bool.false_eq_true, if_false]
    rw [ids_none]
    simp only [Option.getD_none, Option.isSome_none, Bool.false_eq_true, if_false, ids_len, List.length_append, List.length_singleton, ids_succ]
    refine ⟨trivial, ?_, ?_, ?_, ?_⟩ <;> omega
  | some k =>
    obtain ⟨hk, _⟩ := List.findIdx?_eq_some_iff_getElem.1 h
    simp only [Option.getD_some, Option.isSome_some, if_true]
    rw [ids_find hk]
    simp only [Option.getD_some, Option.isSome_some, if_true]
    refine ⟨trivial, ?_, ?_, ?_, ?_⟩ <;> omega
structure TG (d i j : Nat) (vs ws : List Str) (u : Typ) : Prop where
  val : ws.length ≤ 1000000 → validT u = true
  nrm : subS normG (idsI vs.length) u = (u, idsI ws.length)
  len : vs.length ≤ ws.length ∧ ws.length + i ≤ vs.length + j
  nest : d + nestT u ≤ 200
  leaf : leafT u + i ≤ j
theorem con_arrow {u : Typ} (h : u.k = 0) : arrowT u = false := by simp [arrowT, h]
theorem type_good {t : List Tok} (ht : ∀ x ∈ t, TokGood x) : ∀ f : Nat,
    (∀ d i vs u j ws, tyAtomF f t d i vs = some (.ok (u, j, ws)) → d ≤ 200 → TG d i j vs ws u ∧ (arrowT u = true ∨ manyT u = true → d + 1 + nestT u ≤ 200) ∧ ((tokL t i).kind = 1 → u.k = 0)) ∧
    (∀ d i i0 vs0 vs u v j ws, tyArgsF f t d i vs u = some (.ok (v, j, ws)) → d ≤ 200 → u.k = 0 → TG d i0 i vs0 vs u → TG d i0 j vs0 ws v ∧ v.k = 0) ∧
    (∀ d i i0 vs0 vs u v j ws, tyTailF f t d i vs u = some (.ok (v, j, ws)) → d ≤ 200 → TG d i0 i vs0 vs u → (arrowT u = true → d + 1 + nestT u ≤ 200) → TG d i0 j vs0 ws v) ∧
    (∀ d i vs u j ws, tyTypeF f t d i vs = some (.ok (u, j, ws)) → d ≤ 200 → TG d i j vs ws u)
  | 0 => ⟨fun _ _ _ _ _ _ h => by simp [tyAtomF] at h, fun _ _ _ _ _ _ _ _ _ h => by simp [tyArgsF] at h, fun _ _ _ _ _ _ _ _ _ h => by simp [tyTailF] at h, fun _ _ _ _ _ _ h => by simp [tyTypeF] at h⟩
  | f + 1 => by
    obtain ⟨h1, h2, h3, h4⟩ := type_good ht f
    refine ⟨fun d i vs u j ws h hd => ?_, fun d i i0 vs0 vs u v j ws h hd hk hu => ?_, fun d i i0 vs0 vs u v j ws h hd hu ha => ?_, fun d i vs u j ws h hd => ?_⟩
    · rw [tyAtomF] at h
      have hx := tokL_ok ht i
      split at h
      · rename_i hk1
        injection h with h; injection h with h; injection h with e1 h; injection h with e2 e3
        subst e1 e2 e3
        have hA : arrowT (.con (tokL t i).text) = false := rfl
        have hM : manyT (.con (tokL t i).text) = false := rfl
        refine ⟨⟨fun _ => ?_, ?_, ⟨Nat.le_refl _, by omega⟩, ?_, ?_⟩, fun e => ?_, fun _ => rfl⟩
        · rw [validT_eq]; simp [nodeT, Typ.con, Typ.k, Typ.name, Typ.n, Typ.l, hx.k1 hk1]
        · exact sub_leaf (p := .con (tokL t i).text) (by show (0 : Int) ≠ 1; decide) rfl
        · rw [nest_con (by show (0 : Int) ≠ 1; decide) hA]; show d + nestTs [] ≤ 200; rw [nestTs]; omega
        · rw [leafT_eq]; show (1 + leafTs []) + i ≤ _; rw [leafTs]; omega
        · rw [hA, hM] at e; simp at e
      · split at h
        · rename_i hk2
          injection h with h; injection h with h; injection h with e1 h; injection h with e2 e3
          subst e1 e2 e3
          obtain ⟨v1, v2, v3, v4, v5⟩ := vnum_var vs (tokL t i).text
          have hA : arrowT (.var (vnum vs (tokL t i).text)) = false := rfl
          have hM : manyT (.var (vnum vs (tokL t i).text)) = false := rfl
          refine ⟨⟨fun hl => ?_, v1, ⟨v3, by omega⟩, ?_, ?_⟩, fun e => ?_, fun e => by omega⟩
          · rw [validT_eq]
            have hv : (vnum vs (tokL t i).text : Int) ≤ 4611686018427387904 := by omega
            simp [nodeT, Typ.var, Typ.k, Typ.name, Typ.n, Typ.l, hv]
          · rw [nest_var rfl]; omega
          · rw [leafT_eq]; show (1 + leafTs []) + i ≤ _; rw [leafTs]; omega
          · rw [hA, hM] at e; simp at e
        · split at h
          · split at h
            · cases h
            · rename_i hd2
              split at h
              · cases h
              · cases h
              · rename_i u' j' ws' he
                split at h
                · injection h with h; injection h with h; injection h with e1 h; injection h with e2 e3
                  subst e1 e2 e3
                  have g := h4 _ _ _ _ _ _ he (by omega)
                  have g1 := g.nest
                  have g2 := g.leaf
                  have g3 := g.len
                  exact ⟨⟨g.val, g.nrm, ⟨g3.1, by omega⟩, by omega, by omega⟩, fun _ => by omega, fun e => by omega⟩
                · cases h
          · cases h
    · rw [tyArgsF] at h
      split at h
      · injection h with h; injection h with h; injection h with e1 h; injection h with e2 e3
        subst e1 e2 e3
        exact ⟨hu, hk⟩
      · split at h
        · cases h
        · cases h
        · rename_i a j' ws' he
          obtain ⟨g, gm, _⟩ := h1 _ _ _ _ _ _ he hd
          refine h2 _ _ _ _ _ _ _ _ _ h hd (show (u.put a).k = 0 from hk) ?_
          have hn1 := hu.nrm
          have hl1 := hu.len
          have hl2 := g.len
          have hv1 := hu.nest
          have hv2 := g.nest
          have hf1 := hu.leaf
          have hf2 := g.leaf
          have hAu := con_arrow hk
          have hAp : arrowT (u.put a) = false := con_arrow (u := u.put a) hk
          refine ⟨fun hl => ?_, ?_, ⟨by omega, by omega⟩, ?_, ?_⟩
          · have w1 := hu.val (by omega)
            have w2 := g.val hl
            rw [validT_eq] at w1 ⊢
            rw [Bool.and_eq_true] at w1 ⊢
            refine ⟨?_, ?_⟩
            · have := w1.1
              cases u with
              | mk uk un uN ul =>
                simp only [Typ.k] at hk
                subst hk
                exact this
            · show (u.l ++ [a]).all validT = true
              rw [List.all_append, w1.2]
              simp [w2]
          · rw [subS_eq, if_neg (by rw [hk]; decide), hAu] at hn1
            rw [subS_eq, if_neg (show (u.put a).k ≠ 1 from by show u.k ≠ 1; rw [hk]; decide), hAp]
            show (Typ.mk _ _ 0 (subSs normG (idsI vs0.length) (u.l ++ [a])).1, (subSs normG (idsI vs0.length) (u.l ++ [a])).2) = _
            rw [subSs_add]
            injection hn1 with n1 n2
            rw [n2]
            have hn2 := g.nrm
            simp only [subSs, hn2]
            cases u with
            | mk uk un uN ul =>
              simp only [Typ.k] at hk
              subst hk
              simp only [Typ.l, Typ.name, Bool.false_eq_true, if_false, Typ.mk.injEq] at n1
              obtain ⟨_, _, m1, m2⟩ := n1
              simp only [Typ.put, Typ.l, Typ.name, Typ.n, Typ.k, Bool.false_eq_true, if_false, m2, ← m1]
          · rw [nest_con (by rw [hk]; decide) hAu] at hv1
            rw [nest_con (show (u.put a).k ≠ 1 from by show u.k ≠ 1; rw [hk]; decide) hAp]
            show d + nestTs (u.l ++ [a]) ≤ 200
            rw [nestTs_add, nestTs, nestTs]
            have : (if manyT a = true then 1 + nestT a else 0) + d ≤ 200 := by
              split
              · rename_i hm; have := gm (.inr hm); omega
              · omega
            omega
          · rw [leafT_eq] at hf1 ⊢
            show ((if u.k = 2 then 0 else 1) + leafTs (u.l ++ [a])) + i0 ≤ _
            rw [leafTs_add, leafTs, leafTs]
            omega
    · rw [tyTailF] at h
      split at h
      · split at h
        · cases h
        · rename_i hd2
          split at h
          · cases h
          · cases h
          · rename_i y j' ws' he
            injection h with h; injection h with h; injection h with e1 h; injection h with e2 e3
            subst e1 e2 e3
            have g := h4 _ _ _ _ _ _ he (by omega)
            have hl1 := hu.len
            have hl2 := g.len
            have hv1 := hu.nest
            have hv2 := g.nest
            have hf1 := hu.leaf
            have hf2 := g.leaf
            refine ⟨fun hl => ?_, ?_, ⟨by omega, by omega⟩, ?_, ?_⟩
            · have w1 := hu.val (by omega)
              have w2 := g.val hl
              rw [validT_eq]
              simp [nodeT, Typ.arr, Typ.k, Typ.name, Typ.n, Typ.l, w1, w2]
            · rw [subS_eq, if_neg (show (Typ.arr u y).k ≠ 1 from by show (2 : Int) ≠ 1; decide)]
              have hA : arrowT (.arr u y) = true := rfl
              rw [hA]
              show (Typ.mk _ _ 0 (subSs normG (idsI vs0.length) [u, y]).1, (subSs normG (idsI vs0.length) [u, y]).2) = _
              simp only [subSs, hu.nrm, g.nrm]
              rfl
            · rw [nest_arr (p := .arr u y) (a := u) (b := y) rfl rfl]
              have : (if arrowT u = true then 1 + nestT u else nestT u) + d ≤ 200 := by
                split
                · rename_i hm; have := ha hm; omega
                · omega
              omega
            · rw [leafT_eq]
              show (0 + leafTs [u, y]) + i0 ≤ _
              rw [leafTs, leafTs, leafTs]
              omega
      · injection h with h; injection h with h; injection h with e1 h; injection h with e2 e3
        subst e1 e2 e3
        exact hu
    · rw [tyTypeF] at h
      split at h
      · cases h
      · cases h
      · rename_i u' j' ws' he
        obtain ⟨g, gm, gk⟩ := h1 _ _ _ _ _ _ he hd
        split at h
        · cases h
        · cases h
        · rename_i v k xs hg
          split at hg
          · rename_i hk1
            obtain ⟨q1, q2⟩ := h2 _ _ _ _ _ _ _ _ _ hg hd (gk hk1) g
            exact h3 _ _ _ _ _ _ _ _ _ h hd q1 (fun e => by rw [con_arrow q2] at e; cases e)
          · injection hg with hg; injection hg with hg; injection hg with e1 hg; injection hg with e2 e3
            subst e1 e2 e3
            exact h3 _ _ _ _ _ _ _ _ _ h hd g (fun e => gm (.inl e))
theorem TyRead.good {t : List Tok} (ht : ∀ x ∈ t, TokGood x) {i j : Nat} {u : Typ} {ws : List Str} (h : TyRead t i (.ok (u, j, ws))) (hl : j ≤ i + 1000000) : validT u = true ∧ normT u = u ∧ nestT u ≤ 200 ∧ leafT u + i ≤ j := by
  obtain ⟨f, h⟩ := h
  have g := (type_good ht f).2.2.2 _ _ _ _ _ _ h (by omega)
  have h1 := g.len
  have h2 := g.nest
  have h3 := g.nrm
  have e : idsI ([] : List Str).length = [] := rfl
  rw [e] at h3
  refine ⟨g.val (by simp at h1; omega), ?_, by omega, g.leaf⟩
  unfold normT
  rw [h3]
end Go.Lamb
namespace Go.Lamb
open Go Go.RowKit

mutual
def leafP : Pre → Nat
  | .mk k _ _ l _ => (if k = 3 then 0 else 1) + leafPs l
def leafPs : List Pre → Nat
  | [] => 0
  | x :: l => leafP x + leafPs l
end
theorem leafP_eq (p : Pre) : leafP p = (if p.k = 3 then 0 else 1) + leafPs p.l := by cases p; rw [leafP]; rfl
theorem leafP_app (p q : Pre) (a : Int) : leafP (Pre.app p q a) = leafP p + leafP q := by
  rw [leafP_eq]
  show (if (3 : Int) = 3 then 0 else 1) + leafPs [p, q] = _
  rw [if_pos rfl, leafPs, leafPs, leafPs]
  omega
theorem leafP_mk {k : Int} {s : List UInt8} {n a : Int} (hk : k ≠ 3) : leafP (.mk k s n [] a) = 1 := by
  rw [leafP_eq]
  show (if k = 3 then 0 else 1) + leafPs [] = _
  rw [if_neg hk, leafPs]
theorem read_leaf {l : List OpT} {t : List Tok} : ∀ f : Nat,
    (∀ d i p j, atomF f l t d i = some (.ok (p, j)) → leafP p + i ≤ j) ∧ (∀ d i i0 p pos last q j, leafP p + i0 ≤ i → argsF f l t d i p pos last = some (.ok (q, j)) → leafP q + i0 ≤ j) ∧
    (∀ least d i m j, exprF f l t least d i = some (.ok (m, j)) → leafP m.p + i ≤ j) ∧ (∀ least d i i0 m m' j, leafP m.p + i0 ≤ i → chainF f l t least d i m = some (.ok (m', j)) → leafP m'.p + i0 ≤ j)
  | 0 => ⟨fun _ _ _ _ h => by simp [atomF] at h, fun _ _ _ _ _ _ _ _ _ h => by simp [argsF] at h, fun _ _ _ _ _ h => by simp [exprF] at h, fun _ _ _ _ _ _ _ _ h => by simp [chainF] at h⟩
  | f + 1 => by
    obtain ⟨h1, h2, h3, h4⟩ := read_leaf (l := l) (t := t) f
    refine ⟨fun d i p j h => ?_, fun d i i0 p pos last q j hp h => ?_, fun least d i m j h => ?_, fun least d i i0 m m' j hm h => ?_⟩
    · rw [atomF] at h
      simp only at h
      split at h
      · cases h
      · split at h
        · split at h
          · injection h with h
            injection h with h
            injection h with e1 e2
            subst e1 e2
            rw [leafP_mk (by decide)]
            omega
          · split at h
            · cases h
            · split at h
              · cases h
              · cases h
              · rename_i m j' he
                split at h
                · injection h with h
                  injection h with h
                  injection h with e1 e2
                  subst e1 e2
                  have := h3 _ _ _ _ _ he
                  omega
                · cases h
        · split at h
          · injection h with h
            injection h with h
            injection h with e1 e2
            subst e1 e2
            rw [leafP_mk (by decide)]
            omega
          · split at h
            · split at h
              · cases h
              · split at h
                · cases h
                · cases h
                · rename_i m j' he
                  injection h with h
                  injection h with h
                  injection h with e1 e2
                  subst e1 e2
                  have := h3 _ _ _ _ _ he
                  rw [leafP_eq]
                  show ((if (4 : Int) = 3 then 0 else 1) + leafPs [m.p]) + i ≤ _
                  rw [if_neg (by decide), leafPs, leafPs]
                  omega
            · injection h with h
              injection h with h
              injection h with e1 e2
              subst e1 e2
              rw [leafP_mk (by split <;> decide)]
              omega
    · rw [argsF] at h
      split at h
      · injection h with h
        injection h with h
        injection h with e1 e2
        subst e1 e2
        exact hp
      · split at h
        · cases h
        · cases h
        · rename_i x j' he
          have := h1 _ _ _ _ he
          exact h2 _ _ _ _ _ _ _ _ (by rw [leafP_app]; omega) h
    · rw [exprF] at h
      split at h
      · cases h
      · cases h
      · rename_i p j' he
        have g1 := h1 _ _ _ _ he
        split at h
        · cases h
        · cases h
        · rename_i q k hq
          have g2 := h2 _ _ _ _ _ _ _ _ g1 hq
          exact h4 _ _ _ _ ⟨q, none⟩ _ _ g2 h
    · rw [chainF] at h
      split at h
      · injection h with h
        injection h with h
        injection h with e1 e2
        subst e1 e2
        exact hm
      · rename_i o ho
        split at h
        · injection h with h
          injection h with h
          injection h with e1 e2
          subst e1 e2
          exact hm
        · split at h
          · cases h
          · split at h
            · cases h
            · split at h
              · cases h
              · cases h
              · rename_i r j' he
                have hr := h3 _ _ _ _ _ he
                have key : ∀ pos, leafP (applyL o pos m.p r.p) + i0 ≤ j' := fun pos => by
                  unfold applyL
                  rw [leafP_app, leafP_app, leafP_mk (by decide)]
                  omega
                split at h
                · split at h
                  · exact h4 _ _ _ _ ⟨applyL o (tokL t i).pos m.p r.p, _⟩ _ _ (key _) h
                  · cases h
                · exact h4 _ _ _ _ ⟨applyL o (tokL t i).pos m.p r.p, _⟩ _ _ (key _) h
theorem Expr.leaf {l : List OpT} {t : List Tok} {least : Int} {d i j : Nat} {m : Made} (h : Expr l t least d i (.ok (m, j))) : leafP m.p + i ≤ j := by
  obtain ⟨f, h⟩ := h
  exact (read_leaf f).2.2.1 _ _ _ _ _ h
theorem show_leaf {l : List OpT} (p : Pre) : validPre l p = true → OkP p → (showL l p).length + 5 ≤ 40 * leafP p := by
  refine (Pre.ind (P := fun p => (validPre l p = true → OkP p → (showL l p).length + 5 ≤ 40 * leafP p) ∧ ∀ q ∈ p.l, validPre l q = true → OkP q → (showL l q).length + 5 ≤ 40 * leafP q) (fun p ih => ⟨fun hv hO => ?_, fun q hq => (ih q hq).1⟩) p).1
  have hlp := leafP_eq p
  cases hi : infP l p with
  | some x =>
    obtain ⟨o, a, b⟩ := x
    obtain ⟨h1, f, c, h2, h3, h4, h5, h6⟩ := infP_some hi
    have hf : f ∈ p.l := by rw [h2]; simp
    have hb : b ∈ p.l := by rw [h2]; simp
    have ha : a ∈ f.l := by rw [h4]; simp
    have hc : c ∈ f.l := by rw [h4]; simp
    have hvf := valid_kid hv hf
    have hvc := valid_kid hvf hc
    have la := (ih f hf).2 a ha (valid_kid hvf ha) ((hO.mem hf).mem ha)
    have lb := (ih b hb).1 (valid_kid hv hb) (hO.mem hb)
    have hon : o.name = c.name := (find_mem h6).2
    have hcl : o.name.length ≤ 32 := by
      rcases valid_word hvc (by omega) (by omega) with ⟨_, h, _⟩ | ⟨h, _⟩ | ⟨h, _⟩
      · rw [hon]; exact fits_len (by rcases h with h | h; exact .inl h; exact .inr (.inr h))
      · omega
      · omega
    have p1 := putP_len (showL l a) (sideB l o 1 a)
    have p2 := putP_len (showL l b) (sideB l o 2 b)
    have n1 := leafP_eq f
    have n2 := leafP_eq c
    rw [h2, leafPs, leafPs, leafPs, if_pos h1] at hlp
    rw [h4, leafPs, leafPs, leafPs, if_pos h3] at n1
    rw [if_neg (by omega)] at n2
    rw [showL_inf hi]
    simp only [List.length_append, List.length_cons, List.length_nil]
    omega
  | none =>
    by_cases h1 : lamP p = true
    · have h4 := (lam_k hv).1 h1
      obtain ⟨hn, _, _, hlen⟩ := valid_lam hv h4
      obtain ⟨q, hq⟩ := List.length_eq_one_iff.1 hlen
      have hqm : q ∈ p.l := by rw [hq]; simp
      have lq := (ih q hqm).1 (valid_kid hv hqm) (hO.mem hqm)
      have hnl := fits_len (s := p.name) (by rcases hn with h | h; exact .inl h; exact .inr (.inl h))
      rw [hq, leafPs, leafPs, if_neg (by omega)] at hlp
      rw [showL_lam h4 hq]
      simp only [List.length_append, List.length_cons, List.length_nil]
      omega
    · have h1 : lamP p = false := by simpa using h1
      by_cases h2 : appP p = true
      · have h3 := (app_k hv).1 h2
        obtain ⟨f, b, hq⟩ : ∃ f b, p.l = [f, b] := by
          have := (valid_app hv h3).2.2
          match p.l, this with
          | [f, b], _ => exact ⟨f, b, rfl⟩
        have hf : f ∈ p.l := by rw [hq]; simp
        have hb : b ∈ p.l := by rw [hq]; simp
        have lf := (ih f hf).1 (valid_kid hv hf) (hO.mem hf)
        have lb := (ih b hb).1 (valid_kid hv hb) (hO.mem hb)
        have p1 := putP_len (showL l f) ((infP l f).isSome || lamP f)
        have p2 := putP_len (showL l b) (lamP b || appP b)
        rw [hq, leafPs, leafPs, leafPs, if_pos h3] at hlp
        rw [showL_app hi h3 hq]
        simp only [List.length_append, List.length_cons]
        omega
      · have h2 : appP p = false := by simpa using h2
        have hk3 : p.k ≠ 3 := fun e => by rw [(app_k hv).2 e] at h2; cases h2
        have hk4 : p.k ≠ 4 := fun e => by rw [(lam_k hv).2 e] at h1; cases h1
        rw [if_neg hk3] at hlp
        rw [showL_word h1 h2]
        have : (wordP l p).length ≤ 34 := by
          unfold wordP
          rcases valid_word hv hk3 hk4 with ⟨k0, hn, _⟩ | ⟨k1, hn, _⟩ | ⟨k2, _, hn, _⟩
          · have hnl := fits_len (s := p.name) (by rcases hn with h | h; exact .inl h; exact .inr (.inr h))
            rw [if_pos k0]
            split
            · simp; omega
            · omega
          · have hnl := fits_len (s := p.name) (.inr (.inl hn))
            rw [if_neg (by omega), if_pos k1]
            omega
          · have hno := hO.n
            have := Lib.itoa_length_le (max p.n 0) (by omega) (by omega)
            rw [if_neg (by omega), if_neg (by omega), if_pos k2]
            omega
        omega
theorem text_leaf (p : Typ) : validT p = true → (textT p).length + 6 ≤ 40 * leafT p := by
  induction p using Typ.ind with
  | h p ih =>
    intro hv
    have hlp := leafT_eq p
    by_cases hk : p.k = 1
    · obtain ⟨_, h0, h1, _⟩ := valid_var hv hk
      rw [text_var hk, if_neg (by omega)]
      have : (varL p.n).length ≤ 32 := by
        have := varL_ok h0 h1
        exact fits_len (.inr (.inl this))
      rw [if_neg (by omega)] at hlp
      omega
    · cases hA : arrowT p
      · obtain ⟨hk0, hn, _⟩ := valid_con hv hk hA
        have hnl := fits_len (s := p.name) (.inl hn)
        rw [if_neg (by omega)] at hlp
        rw [text_con hk hA, Lib.join_cons, List.length_append]
        have key : ∀ l : List Typ, (∀ x ∈ l, x ∈ p.l) → (Lib.joinTail [32] (l.map fun x => putL (textT x) (manyT x))).length ≤ 40 * leafTs l := by
          intro l
          induction l with
          | nil => intro _; simp [Lib.joinTail]
          | cons x l ihl =>
            intro hs
            have h1 := ihl (fun y hy => hs y (List.mem_cons_of_mem _ hy))
            have hxm := hs x (List.mem_cons_self ..)
            have h2 := ih x hxm (valid_mem hv hxm)
            have h3 := (putL_len (textT x) (manyT x)).2
            have e : Lib.joinTail [32] ((x :: l).map fun x => putL (textT x) (manyT x)) = 32 :: (putL (textT x) (manyT x) ++ Lib.joinTail [32] (l.map fun x => putL (textT x) (manyT x))) := by simp [Lib.joinTail]
            rw [e, leafTs, List.length_cons, List.length_append]
            omega
        have := key p.l (fun x hx => hx)
        omega
      · obtain ⟨a, b, hl⟩ := arrow_parts hA
        have ha := ih a (by rw [hl]; simp) (valid_mem hv (by rw [hl]; simp))
        have hb := ih b (by rw [hl]; simp) (valid_mem hv (by rw [hl]; simp))
        have h3 := (putL_len (textT a) (arrowT a)).2
        have hk2 : p.k = 2 := by simp only [arrowT, Bool.and_eq_true, beq_iff_eq] at hA; exact hA.1
        rw [if_pos hk2, hl, leafTs, leafTs, leafTs] at hlp
        rw [text_arr hA hl]
        simp only [List.length_append, List.length_cons, List.length_nil]
        omega
end Go.Lamb
namespace Go.Lamb
open Go Go.RowKit

def strsC (l : List Str) : C := .sl (l.map fun s => [C.str s])
structure Sent where
  k : Int
  names : List Str
  n : Int
  ty : Typ
  op : OpT
  body : Pre
  pos : Int
def Sent.none : Sent := ⟨0, [], 0, .none, .zero, .none, 0⟩
def Sent.v (s : Sent) : V := .agg [I s.k, .c (strsC s.names), I s.n, I s.ty.k, S s.ty.name, I s.ty.n, .c (tysC s.ty.l), S s.op.name, I s.op.prec, I s.op.fix, I s.body.k, S s.body.name, I s.body.n, .c (.sl (s.body.l.map Pre.cs)), I s.body.pos, I s.pos]
def Sent.cs (s : Sent) : List C := [.int .i64 s.k, strsC s.names, .int .i64 s.n, .int .i64 s.ty.k, .str s.ty.name, .int .i64 s.ty.n, tysC s.ty.l, .str s.op.name, .int .i64 s.op.prec, .int .i64 s.op.fix, .int .i64 s.body.k, .str s.body.name, .int .i64 s.body.n, .sl (s.body.l.map Pre.cs), .int .i64 s.body.pos, .int .i64 s.pos]
def sentsC (l : List Sent) : C := .sl (l.map Sent.cs)

/-! ### what is read, without fuel -/
open Classical in
noncomputable def tyT (t : List Tok) (i : Nat) : TyR := Classical.choose (TyRead.some t i)
theorem tyT_is (t : List Tok) (i : Nat) : TyRead t i (tyT t i) := Classical.choose_spec (TyRead.some t i)
theorem tyT_eq {t : List Tok} {i : Nat} {r : TyR} (h : TyRead t i r) : tyT t i = r := TyRead.one (tyT_is t i) h
noncomputable def exprT (l : List OpT) (t : List Tok) (i : Nat) : Except Bad (Made × Nat) := Classical.choose (Expr.some l t 0 0 i)
theorem exprT_is (l : List OpT) (t : List Tok) (i : Nat) : Lamb.Expr l t 0 0 i (exprT l t i) := Classical.choose_spec (Expr.some l t 0 0 i)
theorem exprT_eq {l : List OpT} {t : List Tok} {i : Nat} {r : Except Bad (Made × Nat)} (h : Lamb.Expr l t 0 0 i r) : exprT l t i = r := Expr.one (exprT_is l t i) h

def nameHere (s : Bool) (x : Tok) : Bool := x.kind == 1 || (s && x.kind == 4)
def commaHere (x : Tok) : Bool := x.kind == 4 && x.text == [44]
def arrowHere (x : Tok) : Bool := x.kind == 4 && x.text == [45, 62]
def typeHere (x : Tok) : Bool := x.kind == 1 && x.text == [116, 121, 112, 101]
def namesF : Nat → List Tok → Bool → Nat → List Tok → Except Bad (List Tok × Nat)
  | 0, t, _, i, _ => .error ⟨100, (tokL t i).pos⟩
  | f + 1, t, s, i, acc =>
    if nameHere s (tokL t i) = true then
      if commaHere (tokL t (i + 1)) = true then namesF f t s (i + 2) (acc ++ [tokL t i]) else .ok (acc ++ [tokL t i], i + 1)
    else .error ⟨100, (tokL t i).pos⟩
def namesS (t : List Tok) (s : Bool) (i : Nat) (acc : List Tok) : Except Bad (List Tok × Nat) := namesF (t.length - i) t s i acc
theorem tokL_far {t : List Tok} {i : Nat} (h : t.length ≤ i) : (tokL t i).kind = 0 := by rw [tokL, List.getElem?_eq_none h]; rfl
theorem nameHere_far {t : List Tok} {i : Nat} (s : Bool) (h : t.length ≤ i) : nameHere s (tokL t i) = false := by simp [nameHere, tokL_far h]
theorem namesF_enough : ∀ (f : Nat) (t : List Tok) (s : Bool) (i : Nat) (acc : List Tok), t.length - i ≤ f → namesF f t s i acc = namesS t s i acc
  | f, t, s, i, acc, h => by
    unfold namesS
    generalize hg : t.length - i = g at h
    induction g using Nat.strongRecOn generalizing f i acc with
    | ind g ih =>
      cases g with
      | zero =>
        cases f with
        | zero => rfl
        | succ f => rw [namesF, namesF, nameHere_far s (by omega)]; simp
      | succ g =>
        cases f with
        | zero => omega
        | succ f =>
          rw [namesF, namesF]
          by_cases hn : nameHere s (tokL t i) = true
          · rw [if_pos hn, if_pos hn]
            by_cases hc : commaHere (tokL t (i + 1)) = true
            · rw [if_pos hc, if_pos hc, ih (t.length - (i + 2)) (by omega) f (i + 2) _ rfl (by omega), ih (t.length - (i + 2)) (by omega) g (i + 2) _ rfl (by omega)]
            · rw [if_neg hc, if_neg hc]
          · rw [if_neg hn, if_neg hn]
theorem namesS_eq (t : List Tok) (s : Bool) (i : Nat) (acc : List Tok) : namesS t s i acc = if nameHere s (tokL t i) = true then (if commaHere (tokL t (i + 1)) = true then namesS t s (i + 2) (acc ++ [tokL t i]) else .ok (acc ++ [tokL t i], i + 1)) else .error ⟨100, (tokL t i).pos⟩ := by
  rw [← namesF_enough (t.length - i + 1) t s i acc (by omega), namesF, namesF_enough _ t s (i + 2) _ (by omega)]
def kindF : Nat → List Tok → Nat → Nat → Except Bad (Nat × Nat)
  | 0, t, i, _ => .error ⟨100, (tokL t i).pos⟩
  | f + 1, t, i, n =>
    if typeHere (tokL t i) = true then
      if arrowHere (tokL t (i + 1)) = true then kindF f t (i + 2) (n + 1) else .ok (n, i + 1)
    else .error ⟨100, (tokL t i).pos⟩
def kindS (t : List Tok) (i n : Nat) : Except Bad (Nat × Nat) := kindF (t.length - i) t i n
theorem typeHere_far {t : List Tok} {i : Nat} (h : t.length ≤ i) : typeHere (tokL t i) = false := by simp [typeHere, tokL_far h]
theorem kindF_enough : ∀ (f : Nat) (t : List Tok) (i n : Nat), t.length - i ≤ f → kindF f t i n = kindS t i n
  | f, t, i, n, h => by
    unfold kindS
    generalize hg : t.length - i = g at h
    induction g using Nat.strongRecOn generalizing f i n with
    | ind g ih =>
      cases g with
      | zero =>
        cases f with
        | zero => rfl
        | succ f => rw [kindF, kindF, typeHere_far (by omega)]; simp
      | succ g =>
        cases f with
        | zero => omega
        | succ f =>
          rw [kindF, kindF]
          by_cases hn : typeHere (tokL t i) = true
          · rw [if_pos hn, if_pos hn]
            by_cases hc : arrowHere (tokL t (i + 1)) = true
            · rw [if_pos hc, if_pos hc, ih (t.length - (i + 2)) (by omega) f (i + 2) _ rfl (by omega), ih (t.length - (i + 2)) (by omega) g (i + 2) _ rfl (by omega)]
            · rw [if_neg hc, if_neg hc]
          · rw [if_neg hn, if_neg hn]
theorem kindS_eq (t : List Tok) (i n : Nat) : kindS t i n = if typeHere (tokL t i) = true then (if arrowHere (tokL t (i + 1)) = true then kindS t (i + 2) (n + 1) else .ok (n, i + 1)) else .error ⟨100, (tokL t i).pos⟩ := by
  rw [← kindF_enough (t.length - i + 1) t i n (by omega), kindF, kindF_enough _ t (i + 2) _ (by omega)]

def reservedL (s : Str) : Bool := s == [33] || s == [45, 62] || s == [107, 105, 110, 100] || s == [116, 121, 112, 101] || s == [105, 110, 102, 105, 120] || s == [105, 110, 102, 105, 120, 108] || s == [105, 110, 102, 105, 120, 114]
def wrongL (l : List OpT) (o : OpT) : Int :=
  if o.fix < 0 ∨ 2 < o.fix then 1
  else if (isNameB o.name = false ∧ isSymB o.name = false) ∨ reservedL o.name = true then 20
  else if o.prec < 1 ∨ 200 < o.prec then 21
  else if (findL l o.name).isSome = true then 22
  else if 64 ≤ l.length then 23
  else 0
def declL (prec fix : Int) : List OpT → List Tok → Except Bad (List OpT)
  | l, [] => .ok l
  | l, x :: r => if wrongL l ⟨x.text, prec, fix⟩ = 0 then declL prec fix (l ++ [⟨x.text, prec, fix⟩]) r else .error ⟨wrongL l ⟨x.text, prec, fix⟩, x.pos⟩

abbrev SoR := Except Bad (Sent × Nat × List OpT)
def endS (t : List Tok) (s : Sent) (i : Nat) (l : List OpT) : SoR := if (tokL t i).kind = 7 then .ok (s, i + 1, l) else .error ⟨101, (tokL t i).pos⟩
def kindSent (t : List Tok) (i : Nat) (pos : Int) (l : List OpT) : SoR := match namesS t false i [] with
  | .error b => .error b
  | .ok (ns, j) => match kindS t j 0 with
    | .error b => .error b
    | .ok (n, k) => endS t ⟨0, ns.map (·.text), n, .none, .zero, .none, pos⟩ k l
noncomputable def typeSent (t : List Tok) (i : Nat) (pos : Int) (l : List OpT) : SoR := match namesS t true i [] with
  | .error b => .error b
  | .ok (ns, j) => match tyT t j with
    | .error b => .error b
    | .ok (u, k, _) => endS t ⟨1, ns.map (·.text), 0, u, .zero, .none, pos⟩ k l
def opSent (t : List Tok) (i : Nat) (pos : Int) (fix : Int) (l : List OpT) : SoR := match namesS t true i [] with
  | .error b => .error b
  | .ok (ns, j) =>
    if (tokL t j).kind = 3 then
      if (tokL t (j + 1)).kind = 7 then
        match declL (tokL t j).n fix l ns with
        | .error b => .error b
        | .ok l' => .ok (⟨2, ns.map (·.text), 0, .none, ⟨[], (tokL t j).n, fix⟩, .none, pos⟩, j + 2, l')
      else .error ⟨101, (tokL t (j + 1)).pos⟩
    else .error ⟨100, (tokL t j).pos⟩
noncomputable def clauseSent (t : List Tok) (i : Nat) (pos : Int) (l : List OpT) : SoR := match exprT l t i with
  | .error b => .error b
  | .ok (m, k) => endS t ⟨3, [], 0, .none, .zero, m.p, pos⟩ k l
noncomputable def sentS (t : List Tok) (l : List OpT) (i : Nat) : SoR :=
  let x := tokL t i
  if x.kind = 1 ∧ x.text = [107, 105, 110, 100] then kindSent t (i + 1) x.pos l
  else if x.kind = 1 ∧ x.text = [116, 121, 112, 101] then typeSent t (i + 1) x.pos l
  else if x.kind = 1 ∧ x.text = [105, 110, 102, 105, 120] then opSent t (i + 1) x.pos 0 l
  else if x.kind = 1 ∧ x.text = [105, 110, 102, 105, 120, 108] then opSent t (i + 1) x.pos 1 l
  else if x.kind = 1 ∧ x.text = [105, 110, 102, 105, 120, 114] then opSent t (i + 1) x.pos 2 l
  else clauseSent t i x.pos l
noncomputable def allF : Nat → List Tok → List OpT → Nat → List Sent → Except Bad (List Sent × List OpT)
  | 0, _, l, _, acc => .ok (acc, l)
  | f + 1, t, l, i, acc =>
    if (tokL t i).kind = 0 then .ok (acc, l)
    else match sentS t l i with
      | .error b => .error b
      | .ok (s, j, l') => allF f t l' j (acc ++ [s])
noncomputable def allS (t : List Tok) (l : List OpT) (i : Nat) (acc : List Sent) : Except Bad (List Sent × List OpT) := allF (t.length - i) t l i acc

theorem namesS_far {t : List Tok} {s : Bool} : ∀ (n i : Nat) (acc : List Tok) (r : List Tok) (j : Nat), t.length - i ≤ n → namesS t s i acc = .ok (r, j) → i < j ∧ j ≤ t.length
  | n, i, acc, r, j, hn, h => by
    induction n using Nat.strongRecOn generalizing i acc with
    | ind n ih =>
      rw [namesS_eq] at h
      split at h
      · rename_i h1
        have hi : i < t.length := tokL_lt fun e => by rw [nameHere, e] at h1; simp at h1
        split at h
        · rename_i h2
          have hi2 : i + 1 < t.length := tokL_lt fun e => by rw [commaHere, e] at h2; simp at h2
          have := ih (t.length - (i + 2)) (by omega) (i + 2) _ (Nat.le_refl _) h
          omega
        · injection h with h; injection h with _ h
          omega
      · cases h
theorem kindS_far {t : List Tok} : ∀ (n i m r : Nat) (j : Nat), t.length - i ≤ n → kindS t i m = .ok (r, j) → i < j ∧ j ≤ t.length
  | n, i, m, r, j, hn, h => by
    induction n using Nat.strongRecOn generalizing i m with
    | ind n ih =>
      rw [kindS_eq] at h
      split at h
      · rename_i h1
        have hi : i < t.length := tokL_lt fun e => by rw [typeHere, e] at h1; simp at h1
        split at h
        · rename_i h2
          have hi2 : i + 1 < t.length := tokL_lt fun e => by rw [arrowHere, e] at h2; simp at h2
          have := ih (t.length - (i + 2)) (by omega) (i + 2) _ (Nat.le_refl _) h
          omega
        · injection h with h; injection h with _ h
          omega
      · cases h
theorem tyT_far {t : List Tok} {i : Nat} {u : Typ} {j : Nat} {ws : List Str} (h : tyT t i = .ok (u, j, ws)) : i < j ∧ j ≤ t.length := by
  obtain ⟨f, hf⟩ := tyT_is t i
  rw [h] at hf
  have := (ty_bounds f).2.2.2 _ _ _ _ _ _ _ hf
  omega
theorem exprT_far {l : List OpT} {t : List Tok} {i : Nat} {m : Made} {j : Nat} (h : exprT l t i = .ok (m, j)) : i < j ∧ j ≤ t.length := by
  obtain ⟨f, hf⟩ := exprT_is l t i
  rw [h] at hf
  exact (fuel_bounds f).2.2.1 _ _ _ _ _ _ _ hf
theorem endS_far {t : List Tok} {s s' : Sent} {i j : Nat} {l l' : List OpT} (h : endS t s i l = .ok (s', j, l')) : j = i + 1 ∧ j ≤ t.length := by
  unfold endS at h
  split at h
  · rename_i hk
    have := tokL_lt (t := t) (i := i) (by rw [hk]; decide)
    injection h with h; injection h with _ h; injection h with h _
    omega
  · cases h
theorem sentS_far {t : List Tok} {l l' : List OpT} {i j : Nat} {s : Sent} (h : sentS t l i = .ok (s, j, l')) : i < j ∧ j ≤ t.length := by
  have hop : ∀ fix, opSent t (i + 1) (tokL t i).pos fix l = .ok (s, j, l') → i < j ∧ j ≤ t.length := fun fix h => by
    unfold opSent at h
    split at h
    · cases h
    · rename_i ns k hn
      have := namesS_far _ _ _ _ _ (Nat.le_refl _) hn
      split at h
      · split at h
        · rename_i hk
          have := tokL_lt (t := t) (i := k + 1) (by rw [hk]; decide)
          split at h
          · cases h
          · injection h with h; injection h with _ h; injection h with h _
            omega
        · cases h
      · cases h
  unfold sentS at h
  simp only at h
  split at h
  · unfold kindSent at h
    split at h
    · cases h
    · rename_i ns k hn
      have := namesS_far _ _ _ _ _ (Nat.le_refl _) hn
      split at h
      · cases h
      · rename_i n m hk
        have := kindS_far _ _ _ _ _ (Nat.le_refl _) hk
        have := endS_far h
        omega
  · split at h
    · unfold typeSent at h
      split at h
      · cases h
      · rename_i ns k hn
        have := namesS_far _ _ _ _ _ (Nat.le_refl _) hn
        split at h
        · cases h
        · rename_i u m ws hk
          have := tyT_far hk
          have := endS_far h
          omega
    · split at h
      · exact hop _ h
      · split at h
        · exact hop _ h
        · split at h
          · exact hop _ h
          · unfold clauseSent at h
            split at h
            · cases h
            · rename_i m k hk
              have := exprT_far hk
              have := endS_far h
              omega
theorem allF_enough : ∀ (f : Nat) (t : List Tok) (l : List OpT) (i : Nat) (acc : List Sent), t.length - i ≤ f → allF f t l i acc = allS t l i acc
  | f, t, l, i, acc, h => by
    unfold allS
    generalize hg : t.length - i = g at h
    induction g using Nat.strongRecOn generalizing f i acc l with
    | ind g ih =>
      cases g with
      | zero =>
        cases f with
        | zero => rfl
        | succ f => rw [allF, allF, if_pos (tokL_far (by omega))]
      | succ g =>
        cases f with
        | zero => omega
        | succ f =>
          rw [allF, allF]
          by_cases hn : (tokL t i).kind = 0
          · rw [if_pos hn, if_pos hn]
          · rw [if_neg hn, if_neg hn]
            cases hs : sentS t l i with
            | error b => rfl
            | ok x =>
              obtain ⟨s, j, l'⟩ := x
              have := sentS_far hs
              simp only
              rw [ih (t.length - j) (by omega) f l' j _ rfl (by omega), ih (t.length - j) (by omega) g l' j _ rfl (by omega)]
theorem allS_eq (t : List Tok) (l : List OpT) (i : Nat) (acc : List Sent) : allS t l i acc = if (tokL t i).kind = 0 then .ok (acc, l) else match sentS t l i with
      | .error b => .error b
      | .ok (s, j, l') => allS t l' j (acc ++ [s]) := by
  rw [← allF_enough (t.length - i + 1) t l i acc (by omega), allF]
  cases hs : sentS t l i with
  | error b => rfl
  | ok x =>
    obtain ⟨s, j, l'⟩ := x
    have := sentS_far hs
    simp only
    rw [allF_enough _ t l' j _ (by omega)]
end Go.Lamb

/-
  Plain: which trees could have been read, which are the same, and how large they are.
  Plain: how far is read.
  Plain: types, and how types are read of tokens.
  Plain: how types are read, with what is left where something is wrong.
  Plain: contracts over worlds that hand back new memory.
  Plain: a slice of nothing in a block may be taken for one's own.
  Plain: heaps with two blocks of one's own that change.
  Plain: what a type takes, what comes of it, and which types may be.
  Plain: sentences, and how they are read of tokens.
  Plain: heaps with one block of one's own that changes.
  Plain: a type's text, its size, its variables.
  Plain: how types are read in the document's words, with what is left where something is wrong.
  Plain: a type's text is no shorter than its parts'; types whose numbers are ints.
  Plain: how many types there are in one, and how long its text may be.
  Plain: types with others in the place of variables, as they come; numbered anew.
  Plain: small aids of the walks.
  Plain: what a type's text is lexed as.
  Plain: what is written of a type is read as it, numbered anew.
-/
import Derived.Test.YtohcnohllbjlcaaGreatDoorQJ10
import Derived.Test.YtohcnohllbjlcaaGreatDoorQJ8
import Derived.Test.YtohcnohllbjlcaaGreatDoorQJ9
import Derived.Lib.Join
import Derived.Lib.ItoaNum
import Derived.Lib.ItoaLen
import Derived.Test.YtohcnohllbjlcaaGreatDoorQLexBk
set_option linter.unusedSimpArgs false
set_option linter.unusedVariables false
set_option maxHeartbeats 8000000
set_option maxRecDepth 20000
namespace Go.Lamb
open Go Go.RowKit

/-- Are two rows as long, and each two such? -/
def zipAll {α β : Type} (f : α → β → Bool) : List α → List β → Bool
  | [], [] => true
  | x :: l, y :: r => f x y && zipAll f l r
  | _, _ => false
theorem zipAll_len {α β : Type} {f : α → β → Bool} : ∀ {l : List α} {r : List β}, l.length ≠ r.length → zipAll f l r = false
  | [], [], h => absurd rfl h
  | x :: l, y :: r, h => by
    rw [zipAll, zipAll_len (l := l) (r := r) (fun e => h (by simp [e])), Bool.and_false]
  | [], _ :: _, _ => rfl
  | _ :: _, [], _ => rfl
theorem zipAll_no {α β : Type} {f : α → β → Bool} : ∀ {l : List α} {r : List β} {j : Nat} (hj : j < l.length) (hj' : j < r.length), f l[j] r[j] = false → zipAll f l r = false
  | x :: l, y :: r, 0, _, _, h => by rw [zipAll]; simp only [List.getElem_cons_zero] at h; rw [h]; rfl
  | x :: l, y :: r, j + 1, hj, hj', h => by
    rw [zipAll, zipAll_no (j := j) (by simpa using hj) (by simpa using hj') (by simpa using h), Bool.and_false]
  | [], _, _, hj, _, _ => by simp at hj
  | _ :: _, [], _, _, hj', _ => by simp at hj'
theorem zipAll_yes {α β : Type} {f : α → β → Bool} : ∀ {l : List α} {r : List β}, l.length = r.length → (∀ j (hj : j < l.length) (hj' : j < r.length), f l[j] r[j] = true) → zipAll f l r = true
  | [], [], _, _ => rfl
  | x :: l, y :: r, hl, h => by
    rw [zipAll, zipAll_yes (by simpa using hl) (fun j hj hj' => h (j + 1) (Nat.succ_lt_succ hj) (Nat.succ_lt_succ hj'))]
    have := h 0 (by simp) (by simp)
    simp only [List.getElem_cons_zero] at this
    rw [this]; rfl
  | [], _ :: _, hl, _ => by simp at hl
  | _ :: _, [], hl, _ => by simp at hl
theorem Pre.ind {P : Pre → Prop} (h : ∀ p, (∀ q ∈ p.l, P q) → P p) : ∀ p, P p
  | .mk k s n l a => h _ fun q hq => Pre.ind h q
termination_by p => SizeOf.sizeOf p
decreasing_by
  have := List.sizeOf_lt_of_mem hq
  simp only [Pre.l] at this
  simp only [Pre.mk.sizeOf_spec]
  omega
mutual
/-- The same, but for places? -/
def samePre : Pre → Pre → Bool
  | .mk k s n l _, .mk k' s' n' l' _ => k == k' && s == s' && n == n' && samePres l l'
def samePres : List Pre → List Pre → Bool
  | [], [] => true
  | x :: l, y :: r => samePre x y && samePres l r
  | _, _ => false
end
/-- May one be so, but for what it is made of? -/
def nodeOk (l : List OpT) (k : Int) (s : List UInt8) (n : Int) (len : Nat) : Bool :=
  if k = 0 then (isNameB s || isSymB s) && n == 0 && len == 0
  else if k = 1 then isVarB s && !(findL l s).isSome && n == 0 && len == 0
  else if k = 2 then s == [] && decide (0 ≤ n) && len == 0
  else if k = 3 then s == [] && n == 0 && len == 2
  else if k = 4 then (isNameB s || isVarB s) && !(findL l s).isSome && n == 0 && len == 1
  else false
mutual
def validPre (o : List OpT) : Pre → Bool
  | .mk k s n l _ => nodeOk o k s n l.length && validPres o l
def validPres (o : List OpT) : List Pre → Bool
  | [] => true
  | x :: l => validPre o x && validPres o l
end
mutual
/-- What is left of so many nodes. -/
def leftP : Pre → Int → Int
  | .mk _ _ _ l _, n => leftPs l (n - 1)
def leftPs : List Pre → Int → Int
  | [], n => n
  | p :: l, n => if 0 ≤ n then leftPs l (leftP p n) else n
end
mutual
theorem leftP_le : ∀ (p : Pre) (n : Int), 0 ≤ n → -1 ≤ leftP p n ∧ leftP p n ≤ n - 1
  | .mk _ _ _ l _, n, h => by rw [leftP]; exact leftPs_le l (n - 1) (by omega)
theorem leftPs_le : ∀ (l : List Pre) (n : Int), -1 ≤ n → -1 ≤ leftPs l n ∧ leftPs l n ≤ n
  | [], n, h => by rw [leftPs]; omega
  | p :: l, n, h => by
    rw [leftPs]
    split
    · rename_i h0
      have h1 := leftP_le p n h0
      have h2 := leftPs_le l (leftP p n) h1.1
      omega
    · omega
end
end Go.Lamb
namespace Go.Lamb
open Go Go.RowKit

theorem tokL_lt {t : List Tok} {i : Nat} (h : (tokL t i).kind ≠ 0) : i < t.length := by
  rcases Nat.lt_or_ge i t.length with h' | h'
  · exact h'
  · rw [tokL, List.getElem?_eq_none h'] at h
    exact absurd rfl h
theorem begins_lt {l : List OpT} {t : List Tok} {i : Nat} (h : beginsL l (tokL t i) ≠ false) : i < t.length := by
  refine tokL_lt fun e => h ?_
  rw [beginsL, e]
  simp
theorem opOf_lt {l : List OpT} {t : List Tok} {i : Nat} {o : OpT} (h : opOf l (tokL t i) = some o) : i < t.length := by
  refine tokL_lt fun e => ?_
  rw [opOf, e] at h
  simp at h
theorem fuel_bounds : ∀ (f : Nat),
    (∀ l t depth i p j, atomF f l t depth i = some (.ok (p, j)) → i < j ∧ j ≤ t.length) ∧
    (∀ l t depth i p pos last q j, argsF f l t depth i p pos last = some (.ok (q, j)) → i ≤ t.length → i ≤ j ∧ j ≤ t.length) ∧
    (∀ l t least depth i m j, exprF f l t least depth i = some (.ok (m, j)) → i < j ∧ j ≤ t.length) ∧
    (∀ l t least depth i m r j, chainF f l t least depth i m = some (.ok (r, j)) → i ≤ t.length → i ≤ j ∧ j ≤ t.length)
  | 0 => ⟨fun _ _ _ _ _ _ h => by simp [atomF] at h, fun _ _ _ _ _ _ _ _ _ h => by simp [argsF] at h, fun _ _ _ _ _ _ _ h => by simp [exprF] at h, fun _ _ _ _ _ _ _ _ h => by simp [chainF] at h⟩
  | f + 1 => by
    obtain ⟨h1, h2, h3, h4⟩ := fuel_bounds f
    refine ⟨fun l t depth i p j h => ?_, fun l t depth i p pos last q j h hi => ?_, fun l t least depth i m j h => ?_, fun l t least depth i m r j h hi => ?_⟩
    · rw [atomF] at h
      simp only at h
      split at h
      · cases h
      · rename_i hb
        have hlt := begins_lt hb
        split at h
        · split at h
          · rename_i hc
            have := tokL_lt (t := t) (i := i + 2) (by rw [hc.2]; decide)
            injection h with h; injection h with h; injection h with _ h
            omega
          · split at h
            · cases h
            · cases he : exprF f l t 0 (depth + 1) (i + 1) with
              | none => rw [he] at h; cases h
              | some x =>
                rw [he] at h
                cases x with
                | error b => cases h
                | ok x =>
                  obtain ⟨m, k⟩ := x
                  simp only at h
                  split at h
                  · rename_i hk
                    have := tokL_lt (t := t) (i := k) (by rw [hk]; decide)
                    have := h3 _ _ _ _ _ _ _ he
                    injection h with h; injection h with h; injection h with _ h
                    omega
                  · cases h
        · split at h
          · injection h with h; injection h with h; injection h with _ h
            omega
          · split at h
            · split at h
              · cases h
              · cases he : exprF f l t 0 (depth + 1) (i + 2) with
                | none => rw [he] at h; cases h
                | some x =>
                  rw [he] at h
                  cases x with
                  | error b => cases h
                  | ok x =>
                    obtain ⟨m, k⟩ := x
                    have := h3 _ _ _ _ _ _ _ he
                    injection h with h; injection h with h; injection h with _ h
                    omega
            · injection h with h; injection h with h; injection h with _ h
              omega
    · rw [argsF] at h
      split at h
      · injection h with h; injection h with h; injection h with _ h
        omega
      · cases he : atomF f l t depth i with
        | none => rw [he] at h; cases h
        | some x =>
          rw [he] at h
          cases x with
          | error b => cases h
          | ok x =>
            have := h1 _ _ _ _ _ _ he
            have := h2 _ _ _ _ _ _ _ _ _ h this.2
            omega
    · rw [exprF] at h
      cases he : atomF f l t depth i with
      | none => rw [he] at h; cases h
      | some x =>
        rw [he] at h
        cases x with
        | error b => cases h
        | ok x =>
          simp only at h
          have k1 := h1 _ _ _ _ _ _ he
          cases hg : argsF f l t depth x.2 x.1 x.1.pos (lamAt t i) with
          | none => rw [hg] at h; cases h
          | some y =>
            rw [hg] at h
            cases y with
            | error b => cases h
            | ok y =>
              have k2 := h2 _ _ _ _ _ _ _ _ _ hg k1.2
              have k3 := h4 _ _ _ _ _ _ _ _ h k2.2
              omega
    · rw [chainF] at h
      cases ho : opOf l (tokL t i) with
      | none =>
        rw [ho] at h
        injection h with h; injection h with h; injection h with _ h
        omega
      | some o =>
        rw [ho] at h
        simp only at h
        have hlt := opOf_lt ho
        split at h
        · injection h with h; injection h with h; injection h with _ h
          omega
        · split at h
          · cases h
          · split at h
            · cases h
            · cases he : exprF f l t (nextL o) (depth + 1) (i + 1) with
              | none => rw [he] at h; cases h
              | some x =>
                rw [he] at h
                cases x with
                | error b => cases h
                | ok x =>
                  have k1 := h3 _ _ _ _ _ _ _ he
                  simp only at h
                  cases hb : x.1.by_ with
                  | none =>
                    rw [hb] at h
                    have := h4 _ _ _ _ _ _ _ _ h k1.2
                    omega
                  | some y =>
                    rw [hb] at h
                    simp only at h
                    split at h
                    · have := h4 _ _ _ _ _ _ _ _ h k1.2
                      omega
                    · cases h
/-- Something is read, or something is wrong. -/
theorem fuel_enough (l : List OpT) (t : List Tok) : ∀ (n : Nat),
    (∀ depth i, t.length ≤ i + n → ∃ f r, atomF f l t depth i = some r) ∧
    (∀ depth i p pos last, t.length ≤ i + n → ∃ f r, argsF f l t depth i p pos last = some r) ∧
    (∀ least depth i, t.length ≤ i + n → ∃ f r, exprF f l t least depth i = some r) ∧
    (∀ least depth i m, t.length ≤ i + n → ∃ f r, chainF f l t least depth i m = some r) := by
  intro n
  induction n using Nat.strongRecOn with
  | ind n ih =>
    have hA : ∀ depth i, t.length ≤ i + n → ∃ f r, atomF f l t depth i = some r := fun depth i hi => by
      by_cases hb : beginsL l (tokL t i) = false
      · exact ⟨1, _, by rw [atomF]; simp only; rw [if_pos hb]⟩
      · have hlt := begins_lt hb
        obtain ⟨n', rfl⟩ : ∃ n', n = n' + 1 := ⟨n - 1, by omega⟩
        obtain ⟨f1, r1, h1⟩ := (ih n' (by omega)).2.2.1 0 (depth + 1) (i + 1) (by omega)
        obtain ⟨f2, r2, h2⟩ : ∃ f r, exprF f l t 0 (depth + 1) (i + 2) = some r := by
          rcases Nat.lt_or_ge 0 n' with h | h
          · obtain ⟨n2, rfl⟩ : ∃ n2, n' = n2 + 1 := ⟨n' - 1, by omega⟩
            exact (ih n2 (by omega)).2.2.1 0 (depth + 1) (i + 2) (by omega)
          · exact (ih n' (by omega)).2.2.1 0 (depth + 1) (i + 2) (by omega)
        have h1' := (fuel_le (Nat.le_max_left f1 f2)).2.2.1 _ _ _ _ _ _ h1
        have h2' := (fuel_le (Nat.le_max_right f1 f2)).2.2.1 _ _ _ _ _ _ h2
        refine ⟨max f1 f2 + 1, ?_⟩
        rw [atomF]
        simp only
        rw [if_neg hb, h1', h2']
        split
        · split
          · exact ⟨_, rfl⟩
          · split
            · exact ⟨_, rfl⟩
            · cases r1 with
              | error b => exact ⟨_, rfl⟩
              | ok x =>
                simp only
                split
                · exact ⟨_, rfl⟩
                · exact ⟨_, rfl⟩
        · split
          · exact ⟨_, rfl⟩
          · split
            · split
              · exact ⟨_, rfl⟩
              · cases r2 with
                | error b => exact ⟨_, rfl⟩
                | ok x => exact ⟨_, rfl⟩
            · exact ⟨_, rfl⟩
    have hG : ∀ depth i p pos last, t.length ≤ i + n → ∃ f r, argsF f l t depth i p pos last = some r := fun depth i p pos last hi => by
      by_cases hc : last = true ∨ beginsL l (tokL t i) = false
      · exact ⟨1, _, by rw [argsF, if_pos hc]⟩
      · have hlt : i < t.length := begins_lt fun e => hc (.inr e)
        obtain ⟨f1, r1, h1⟩ := hA depth i hi
        cases r1 with
        | error b => exact ⟨f1 + 1, _, by rw [argsF, if_neg hc, h1]⟩
        | ok x =>
          obtain ⟨q, j⟩ := x
          have hj := (fuel_bounds f1).1 _ _ _ _ _ _ h1
          obtain ⟨n', rfl⟩ : ∃ n', n = n' + 1 := ⟨n - 1, by omega⟩
          obtain ⟨f2, r2, h2⟩ := (ih n' (by omega)).2.1 depth j (Pre.app p q pos) pos (lamAt t i) (by omega)
          refine ⟨max f1 f2 + 1, r2, ?_⟩
          rw [argsF, if_neg hc, (fuel_le (Nat.le_max_left f1 f2)).1 _ _ _ _ _ h1]
          exact (fuel_le (Nat.le_max_right f1 f2)).2.1 _ _ _ _ _ _ _ _ h2
    have hC : ∀ least depth i m, t.length ≤ i + n → ∃ f r, chainF f l t least depth i m = some r := fun least depth i m hi => by
      cases ho : opOf l (tokL t i) with
      | none => exact ⟨1, _, by rw [chainF, ho]⟩
      | some o =>
        have hlt := opOf_lt ho
        obtain ⟨n', rfl⟩ : ∃ n', n = n' + 1 := ⟨n - 1, by omega⟩
        obtain ⟨f1, r1, h1⟩ := (ih n' (by omega)).2.2.1 (nextL o) (depth + 1) (i + 1) (by omega)
        cases r1 with
        | error b =>
          refine ⟨f1 + 1, ?_⟩
          rw [chainF, ho]
          simp only
          rw [h1]
          split
          · exact ⟨_, rfl⟩
          · split
            · exact ⟨_, rfl⟩
            · split
              · exact ⟨_, rfl⟩
              · exact ⟨_, rfl⟩
        | ok x =>
          obtain ⟨r, j⟩ := x
          have hj := (fuel_bounds f1).2.2.1 _ _ _ _ _ _ _ h1
          obtain ⟨f2, r2, h2⟩ := (ih n' (by omega)).2.2.2 least depth j ⟨applyL o (tokL t i).pos m.p r.p, some (o, (tokL t i).pos)⟩ (by omega)
          refine ⟨max f1 f2 + 1, ?_⟩
          rw [chainF, ho]
          simp only
          rw [(fuel_le (Nat.le_max_left f1 f2)).2.2.1 _ _ _ _ _ _ h1]
          simp only
          rw [(fuel_le (Nat.le_max_right f1 f2)).2.2.2 _ _ _ _ _ _ _ h2]
          split
          · exact ⟨_, rfl⟩
          · split
            · exact ⟨_, rfl⟩
            · split
              · exact ⟨_, rfl⟩
              · cases hb : r.by_ with
                | none => exact ⟨_, rfl⟩
                | some y =>
                  simp only
                  split
                  · exact ⟨_, rfl⟩
                  · exact ⟨_, rfl⟩
    refine ⟨hA, hG, fun least depth i hi => ?_, hC⟩
    obtain ⟨f1, r1, h1⟩ := hA depth i hi
    cases r1 with
    | error b => exact ⟨f1 + 1, _, by rw [exprF, h1]⟩
    | ok x =>
      obtain ⟨p, j⟩ := x
      have hj := (fuel_bounds f1).1 _ _ _ _ _ _ h1
      obtain ⟨f2, r2, h2⟩ := hG depth j p p.pos (lamAt t i) (by omega)
      cases r2 with
      | error b =>
        refine ⟨max f1 f2 + 1, .error b, ?_⟩
        rw [exprF, (fuel_le (Nat.le_max_left f1 f2)).1 _ _ _ _ _ h1]
        simp only
        rw [(fuel_le (Nat.le_max_right f1 f2)).2.1 _ _ _ _ _ _ _ _ h2]
      | ok y =>
        obtain ⟨q, k⟩ := y
        have hk := (fuel_bounds f2).2.1 _ _ _ _ _ _ _ _ _ h2 hj.2
        obtain ⟨f3, r3, h3⟩ := hC least depth k ⟨q, none⟩ (by omega)
        refine ⟨max (max f1 f2) f3 + 1, r3, ?_⟩
        rw [exprF, (fuel_le (by omega : f1 ≤ max (max f1 f2) f3)).1 _ _ _ _ _ h1]
        simp only
        rw [(fuel_le (by omega : f2 ≤ max (max f1 f2) f3)).2.1 _ _ _ _ _ _ _ _ h2]
        exact (fuel_le (by omega : f3 ≤ max (max f1 f2) f3)).2.2.2 _ _ _ _ _ _ _ h3
theorem Expr.some (l : List OpT) (t : List Tok) (least : Int) (depth i : Nat) : ∃ r, Expr l t least depth i r := by
  obtain ⟨f, r, h⟩ := (fuel_enough l t t.length).2.2.1 least depth i (by omega)
  exact ⟨r, f, h⟩
end Go.Lamb
namespace Go.Lamb
open Go Go.RowKit

inductive Typ where
  | mk (k : Int) (name : List UInt8) (n : Int) (l : List Typ)
  deriving Inhabited
def Typ.k : Typ → Int | .mk k _ _ _ => k
def Typ.name : Typ → List UInt8 | .mk _ s _ _ => s
def Typ.n : Typ → Int | .mk _ _ n _ => n
def Typ.l : Typ → List Typ | .mk _ _ _ l => l
theorem tk_mk (k : Int) (s : List UInt8) (n : Int) (l : List Typ) : (Typ.mk k s n l).k = k := rfl
theorem tname_mk (k : Int) (s : List UInt8) (n : Int) (l : List Typ) : (Typ.mk k s n l).name = s := rfl
theorem tn_mk (k : Int) (s : List UInt8) (n : Int) (l : List Typ) : (Typ.mk k s n l).n = n := rfl
theorem tl_mk (k : Int) (s : List UInt8) (n : Int) (l : List Typ) : (Typ.mk k s n l).l = l := rfl
mutual
def Typ.cs : Typ → List C
  | .mk k s n l => [.int .i64 k, .str s, .int .i64 n, .sl (Typ.rows l)]
def Typ.rows : List Typ → List (List C)
  | [] => []
  | p :: l => p.cs :: Typ.rows l
end
theorem Typ.rows_map (l : List Typ) : Typ.rows l = l.map Typ.cs := by
  induction l with
  | nil => rfl
  | cons p l ih => simp [Typ.rows, ih]
def Typ.v (p : Typ) : V := .agg [.c (.int .i64 p.k), .c (.str p.name), .c (.int .i64 p.n), .c (.sl (p.l.map Typ.cs))]
theorem Typ.cs_eq (p : Typ) : p.cs = [.int .i64 p.k, .str p.name, .int .i64 p.n, .sl (p.l.map Typ.cs)] := by
  cases p
  simp [Typ.cs, Typ.k, Typ.name, Typ.n, Typ.l, Typ.rows_map]
def tysC (l : List Typ) : C := .sl (l.map Typ.cs)
def Typ.none : Typ := .mk 0 [] 0 []
def Typ.con (s : List UInt8) : Typ := .mk 0 s 0 []
def Typ.var (n : Int) : Typ := .mk 1 [] n []
def Typ.arr (a b : Typ) : Typ := .mk 2 [] 0 [a, b]
def Typ.put (u a : Typ) : Typ := .mk u.k u.name u.n (u.l ++ [a])
theorem Typ.ind {P : Typ → Prop} (h : ∀ p, (∀ q ∈ p.l, P q) → P p) : ∀ p, P p
  | .mk k s n l => h _ fun q hq => Typ.ind h q
termination_by p => SizeOf.sizeOf p
decreasing_by
  have := List.sizeOf_lt_of_mem hq
  simp only [Typ.l] at this
  simp only [Typ.mk.sizeOf_spec]
  omega
mutual
/-- The same in all fields? -/
def sameTy : Typ → Typ → Bool
  | .mk k s n l, .mk k' s' n' l' => k == k' && s == s' && n == n' && sameTys l l'
def sameTys : List Typ → List Typ → Bool
  | [], [] => true
  | x :: l, y :: r => sameTy x y && sameTys l r
  | _, _ => false
end
theorem sameTys_zip : ∀ (l r : List Typ), sameTys l r = zipAll sameTy l r
  | [], [] => by simp [sameTys, zipAll]
  | x :: l, y :: r => by rw [sameTys, zipAll, sameTys_zip l r]
  | [], _ :: _ => by simp [sameTys, zipAll]
  | _ :: _, [] => by simp [sameTys, zipAll]
theorem sameTy_eq (p q : Typ) : sameTy p q = (p.k == q.k && p.name == q.name && p.n == q.n && zipAll sameTy p.l q.l) := by
  cases p; cases q
  simp only [sameTy, sameTys_zip, Typ.k, Typ.name, Typ.n, Typ.l]
theorem sameTy_refl : ∀ (p : Typ), sameTy p p = true := Typ.ind fun p ih => by
  rw [sameTy_eq]
  simp only [beq_self_eq_true, Bool.true_and]
  exact zipAll_yes rfl fun j hj _ => ih _ (List.getElem_mem hj)
mutual
/-- What is left of so many types. -/
def leftT : Typ → Int → Int
  | .mk _ _ _ l, n => leftTs l (n - 1)
def leftTs : List Typ → Int → Int
  | [], n => n
  | p :: l, n => if 0 ≤ n then leftTs l (leftT p n) else n
end
theorem leftT_eq (p : Typ) (n : Int) : leftT p n = leftTs p.l (n - 1) := by cases p; simp [leftT, Typ.l]
theorem leftTs_neg {l : List Typ} {n : Int} (h : ¬ 0 ≤ n) : leftTs l n = n := by
  cases l with
  | nil => rfl
  | cons p l => rw [leftTs, if_neg h]
mutual
theorem leftT_le : ∀ (p : Typ) (n : Int), 0 ≤ n → -1 ≤ leftT p n ∧ leftT p n ≤ n - 1
  | .mk _ _ _ l, n, h => by rw [leftT]; exact leftTs_le l (n - 1) (by omega)
theorem leftTs_le : ∀ (l : List Typ) (n : Int), -1 ≤ n → -1 ≤ leftTs l n ∧ leftTs l n ≤ n
  | [], n, h => by rw [leftTs]; omega
  | p :: l, n, h => by
    rw [leftTs]
    split
    · rename_i h0
      have h1 := leftT_le p n h0
      have h2 := leftTs_le l (leftT p n) h1.1
      omega
    · omega
end
theorem leftTs_step {l : List Typ} {i : Nat} {n : Int} (hi : i < l.length) (hn : 0 ≤ n) : leftTs (l.drop i) n = leftTs (l.drop (i + 1)) (leftT l[i] n) := by
  rw [List.drop_eq_getElem_cons hi, leftTs, if_pos hn]
theorem leftTs_end {l : List Typ} {i : Nat} {n : Int} (hi : l.length ≤ i) : leftTs (l.drop i) n = n := by
  rw [List.drop_eq_nil_of_le hi, leftTs]

/-! ### how types are read -/
abbrev Str := List UInt8
/-- A variable's number, by its name; and the names then. -/
def vnum (vs : List Str) (s : Str) : Nat := (vs.findIdx? (· == s)).getD vs.length
def vadd (vs : List Str) (s : Str) : List Str := if (vs.findIdx? (· == s)).isSome then vs else vs ++ [s]
def tyBegins (x : Tok) : Bool := decide (x.kind = 1) || decide (x.kind = 2) || decide (x.kind = 5)
abbrev TyR := Except Bad (Typ × Nat × List Str)
mutual
def tyAtomF : Nat → List Tok → Nat → Nat → List Str → Option TyR
  | 0, _, _, _, _ => none
  | f + 1, t, depth, i, vs =>
    if (tokL t i).kind = 1 then some (.ok (.con (tokL t i).text, i + 1, vs))
    else if (tokL t i).kind = 2 then some (.ok (.var (vnum vs (tokL t i).text), i + 1, vadd vs (tokL t i).text))
    else if (tokL t i).kind = 5 then
      if 200 ≤ depth then some (.error ⟨31, (tokL t i).pos⟩)
      else match tyTypeF f t (depth + 1) (i + 1) vs with
        | none => none
        | some (.error b) => some (.error b)
        | some (.ok (u, j, ws)) => if (tokL t j).kind = 6 then some (.ok (u, j + 1, ws)) else some (.error ⟨50, (tokL t j).pos⟩)
    else some (.error ⟨50, (tokL t i).pos⟩)
/-- More atoms behind a name. -/
def tyArgsF : Nat → List Tok → Nat → Nat → List Str → Typ → Option TyR
  | 0, _, _, _, _, _ => none
  | f + 1, t, depth, i, vs, u =>
    if tyBegins (tokL t i) = false then some (.ok (u, i, vs))
    else match tyAtomF f t depth i vs with
      | none => none
      | some (.error b) => some (.error b)
      | some (.ok (a, j, ws)) => tyArgsF f t depth j ws (u.put a)
/-- An arrow, and what is behind it; or nothing. -/
def tyTailF : Nat → List Tok → Nat → Nat → List Str → Typ → Option TyR
  | 0, _, _, _, _, _ => none
  | f + 1, t, depth, i, vs, u =>
    if (tokL t i).kind = 4 ∧ (tokL t i).text = [45, 62] then
      if 200 ≤ depth then some (.error ⟨31, (tokL t i).pos⟩)
      else match tyTypeF f t (depth + 1) (i + 1) vs with
        | none => none
        | some (.error b) => some (.error b)
        | some (.ok (y, j, ws)) => some (.ok (.arr u y, j, ws))
    else some (.ok (u, i, vs))
def tyTypeF : Nat → List Tok → Nat → Nat → List Str → Option TyR
  | 0, _, _, _, _ => none
  | f + 1, t, depth, i, vs => match tyAtomF f t depth i vs with
    | none => none
    | some (.error b) => some (.error b)
    | some (.ok (u, j, ws)) => match (if (tokL t i).kind = 1 then tyArgsF f t depth j ws u else some (.ok (u, j, ws))) with
      | none => none
      | some (.error b) => some (.error b)
      | some (.ok (v, k, xs)) => tyTailF f t depth k xs v
end
theorem tyBegins_lt {t : List Tok} {i : Nat} (h : tyBegins (tokL t i) ≠ false) : i < t.length := by
  refine tokL_lt fun e => h ?_
  simp [tyBegins, e]
theorem vadd_len (vs : List Str) (s : Str) : (vadd vs s).length ≤ vs.length + 1 := by
  unfold vadd; split <;> simp
theorem ty_bounds : ∀ (f : Nat),
    (∀ t depth i vs u j ws, tyAtomF f t depth i vs = some (.ok (u, j, ws)) → i < j ∧ j ≤ t.length ∧ ws.length + i ≤ vs.length + j) ∧
    (∀ t depth i vs u v j ws, tyArgsF f t depth i vs u = some (.ok (v, j, ws)) → i ≤ t.length → i ≤ j ∧ j ≤ t.length ∧ ws.length + i ≤ vs.length + j) ∧
    (∀ t depth i vs u v j ws, tyTailF f t depth i vs u = some (.ok (v, j, ws)) → i ≤ t.length → i ≤ j ∧ j ≤ t.length ∧ ws.length + i ≤ vs.length + j) ∧
    (∀ t depth i vs u j ws, tyTypeF f t depth i vs = some (.ok (u, j, ws)) → i < j ∧ j ≤ t.length ∧ ws.length + i ≤ vs.length + j)
  | 0 => ⟨fun _ _ _ _ _ _ _ h => by simp [tyAtomF] at h, fun _ _ _ _ _ _ _ _ h => by simp [tyArgsF] at h, fun _ _ _ _ _ _ _ _ h => by simp [tyTailF] at h, fun _ _ _ _ _ _ _ h => by simp [tyTypeF] at h⟩
  | f + 1 => by
    obtain ⟨h1, h2, h3, h4⟩ := ty_bounds f
    refine ⟨fun t depth i vs u j ws h => ?_, fun t depth i vs u v j ws h hi => ?_, fun t depth i vs u v j ws h hi => ?_, fun t depth i vs u j ws h => ?_⟩
    · rw [tyAtomF] at h
      split at h
      · rename_i hk
        have := tokL_lt (t := t) (i := i) (by rw [hk]; decide)
        injection h with h; injection h with h; injection h with _ h; injection h with h h'
        subst h h'; omega
      · split at h
        · rename_i hk
          have := tokL_lt (t := t) (i := i) (by rw [hk]; decide)
          injection h with h; injection h with h; injection h with _ h; injection h with h h'
          subst h h'
          have := vadd_len vs (tokL t i).text
          omega
        · split at h
          · split at h
            · cases h
            · cases he : tyTypeF f t (depth + 1) (i + 1) vs with
              | none => rw [he] at h; cases h
              | some x =>
                rw [he] at h
                cases x with
                | error b => cases h
                | ok x =>
                  obtain ⟨u', k, xs⟩ := x
                  simp only at h
                  split at h
                  · rename_i hk
                    have := tokL_lt (t := t) (i := k) (by rw [hk]; decide)
                    have := h4 _ _ _ _ _ _ _ he
                    injection h with h; injection h with h; injection h with _ h; injection h with h h'
                    subst h h'; omega
                  · cases h
          · cases h
    · rw [tyArgsF] at h
      split at h
      · injection h with h; injection h with h; injection h with _ h; injection h with h h'
        subst h h'; omega
      · cases he : tyAtomF f t depth i vs with
        | none => rw [he] at h; cases h
        | some x =>
          rw [he] at h
          cases x with
          | error b => cases h
          | ok x =>
            obtain ⟨u', k, xs⟩ := x
            simp only at h
            have a1 := h1 _ _ _ _ _ _ _ he
            have a2 := h2 _ _ _ _ _ _ _ _ h a1.2.1
            omega
    · rw [tyTailF] at h
      split at h
      · split at h
        · cases h
        · cases he : tyTypeF f t (depth + 1) (i + 1) vs with
          | none => rw [he] at h; cases h
          | some x =>
            rw [he] at h
            cases x with
            | error b => cases h
            | ok x =>
              obtain ⟨u', k, xs⟩ := x
              simp only at h
              have := h4 _ _ _ _ _ _ _ he
              injection h with h; injection h with h; injection h with _ h; injection h with h h'
              subst h h'; omega
      · injection h with h; injection h with h; injection h with _ h; injection h with h h'
        subst h h'; omega
    · rw [tyTypeF] at h
      cases he : tyAtomF f t depth i vs with
      | none => rw [he] at h; cases h
      | some x =>
        rw [he] at h
        cases x with
        | error b => cases h
        | ok x =>
          obtain ⟨u', k, xs⟩ := x
          simp only at h
          have a1 := h1 _ _ _ _ _ _ _ he
          by_cases hk1 : (tokL t i).kind = 1
          · rw [if_pos hk1] at h
            cases h2e : tyArgsF f t depth k xs u' with
            | none => rw [h2e] at h; cases h
            | some y =>
              rw [h2e] at h
              cases y with
              | error b => cases h
              | ok y =>
                obtain ⟨v', m, ys⟩ := y
                simp only at h
                have a2 := h2 _ _ _ _ _ _ _ _ h2e a1.2.1
                have a3 := h3 _ _ _ _ _ _ _ _ h a2.2.1
                omega
          · rw [if_neg hk1] at h
            have a3 := h3 _ _ _ _ _ _ _ _ h a1.2.1
            omega
/-- With fuel enough there is an answer. -/
theorem ty_some : ∀ (f : Nat),
    (∀ t depth i vs, 4 * (t.length - i) + 1 ≤ f → ∃ r, tyAtomF f t depth i vs = some r) ∧
    (∀ t depth i vs u, 4 * (t.length - i) + 2 ≤ f → ∃ r, tyArgsF f t depth i vs u = some r) ∧
    (∀ t depth i vs u, 4 * (t.length - i) + 2 ≤ f → ∃ r, tyTailF f t depth i vs u = some r) ∧
    (∀ t depth i vs, 4 * (t.length - i) + 3 ≤ f → ∃ r, tyTypeF f t depth i vs = some r)
  | 0 => ⟨fun _ _ _ _ h => by omega, fun _ _ _ _ _ h => by omega, fun _ _ _ _ _ h => by omega, fun _ _ _ _ h => by omega⟩
  | f + 1 => by
    obtain ⟨h1, h2, h3, h4⟩ := ty_some f
    refine ⟨fun t depth i vs h => ?_, fun t depth i vs u h => ?_, fun t depth i vs u h => ?_, fun t depth i vs h => ?_⟩
    · rw [tyAtomF]
      split
      · exact ⟨_, rfl⟩
      · split
        · exact ⟨_, rfl⟩
        · split
          · rename_i hk
            have := tokL_lt (t := t) (i := i) (by rw [hk]; decide)
            split
            · exact ⟨_, rfl⟩
            · obtain ⟨r, hr⟩ := h4 t (depth + 1) (i + 1) vs (by omega)
              rw [hr]
              cases r with
              | error b => exact ⟨_, rfl⟩
              | ok x =>
                obtain ⟨u, j, ws⟩ := x
                simp only
                split <;> exact ⟨_, rfl⟩
          · exact ⟨_, rfl⟩
    · rw [tyArgsF]
      split
      · exact ⟨_, rfl⟩
      · rename_i hb
        have hlt := tyBegins_lt hb
        obtain ⟨r, hr⟩ := h1 t depth i vs (by omega)
        rw [hr]
        cases r with
        | error b => exact ⟨_, rfl⟩
        | ok x =>
          obtain ⟨u', j, ws⟩ := x
          have := (ty_bounds f).1 _ _ _ _ _ _ _ hr
          exact h2 t depth j ws _ (by omega)
    · rw [tyTailF]
      split
      · rename_i hk
        have := tokL_lt (t := t) (i := i) (by rw [hk.1]; decide)
        split
        · exact ⟨_, rfl⟩
        · obtain ⟨r, hr⟩ := h4 t (depth + 1) (i + 1) vs (by omega)
          rw [hr]
          cases r with
          | error b => exact ⟨_, rfl⟩
          | ok x => exact ⟨_, rfl⟩
      · exact ⟨_, rfl⟩
    · rw [tyTypeF]
      obtain ⟨r, hr⟩ := h1 t depth i vs (by omega)
      rw [hr]
      cases r with
      | error b => exact ⟨_, rfl⟩
      | ok x =>
        obtain ⟨u, j, ws⟩ := x
        have hb := (ty_bounds f).1 _ _ _ _ _ _ _ hr
        simp only
        by_cases hk1 : (tokL t i).kind = 1
        · rw [if_pos hk1]
          obtain ⟨r2, hr2⟩ := h2 t depth j ws u (by omega)
          rw [hr2]
          cases r2 with
          | error b => exact ⟨_, rfl⟩
          | ok y =>
            obtain ⟨v, k, xs⟩ := y
            have hb2 := (ty_bounds f).2.1 _ _ _ _ _ _ _ _ hr2 hb.2.1
            exact h3 t depth k xs v (by omega)
        · rw [if_neg hk1]
          exact h3 t depth j ws u (by omega)
/-- More fuel changes nothing. -/
theorem ty_more : ∀ (f : Nat),
    (∀ t depth i vs r, tyAtomF f t depth i vs = some r → tyAtomF (f + 1) t depth i vs = some r) ∧
    (∀ t depth i vs u r, tyArgsF f t depth i vs u = some r → tyArgsF (f + 1) t depth i vs u = some r) ∧
    (∀ t depth i vs u r, tyTailF f t depth i vs u = some r → tyTailF (f + 1) t depth i vs u = some r) ∧
    (∀ t depth i vs r, tyTypeF f t depth i vs = some r → tyTypeF (f + 1) t depth i vs = some r)
  | 0 => ⟨fun _ _ _ _ _ h => by simp [tyAtomF] at h, fun _ _ _ _ _ _ h => by simp [tyArgsF] at h, fun _ _ _ _ _ _ h => by simp [tyTailF] at h, fun _ _ _ _ _ h => by simp [tyTypeF] at h⟩
  | f + 1 => by
    obtain ⟨h1, h2, h3, h4⟩ := ty_more f
    refine ⟨fun t depth i vs r h => ?_, fun t depth i vs u r h => ?_, fun t depth i vs u r h => ?_, fun t depth i vs r h => ?_⟩
    · rw [tyAtomF] at h ⊢
      split
      · rename_i c; rw [if_pos c] at h; exact h
      · rename_i c; rw [if_neg c] at h
        split
        · rename_i c2; rw [if_pos c2] at h; exact h
        · rename_i c2; rw [if_neg c2] at h
          split
          · rename_i c3; rw [if_pos c3] at h
            split
            · rename_i c4; rw [if_pos c4] at h; exact h
            · rename_i c4; rw [if_neg c4] at h
              cases he : tyTypeF f t (depth + 1) (i + 1) vs with
              | none => rw [he] at h; cases h
              | some x => rw [he] at h; rw [h4 _ _ _ _ _ he]; exact h
          · rename_i c3; rw [if_neg c3] at h; exact h
    · rw [tyArgsF] at h ⊢
      split
      · rename_i c; rw [if_pos c] at h; exact h
      · rename_i c; rw [if_neg c] at h
        cases he : tyAtomF f t depth i vs with
        | none => rw [he] at h; cases h
        | some x =>
          rw [he] at h; rw [h1 _ _ _ _ _ he]
          cases x with
          | error b => exact h
          | ok x => exact h2 _ _ _ _ _ _ h
    · rw [tyTailF] at h ⊢
      split
      · rename_i c; rw [if_pos c] at h
        split
        · rename_i c4; rw [if_pos c4] at h; exact h
        · rename_i c4; rw [if_neg c4] at h
          cases he : tyTypeF f t (depth + 1) (i + 1) vs with
          | none => rw [he] at h; cases h
          | some x => rw [he] at h; rw [h4 _ _ _ _ _ he]; exact h
      · rename_i c; rw [if_neg c] at h; exact h
    · rw [tyTypeF] at h ⊢
      cases he : tyAtomF f t depth i vs with
      | none => rw [he] at h; cases h
      | some x =>
        rw [he] at h; rw [h1 _ _ _ _ _ he]
        cases x with
        | error b => exact h
        | ok x =>
          obtain ⟨u, j, ws⟩ := x
          simp only at h ⊢
          by_cases c : (tokL t i).kind = 1
          · rw [if_pos c] at h ⊢
            cases hg : tyArgsF f t depth j ws u with
            | none => rw [hg] at h; cases h
            | some y =>
              rw [hg] at h; rw [h2 _ _ _ _ _ _ hg]
              cases y with
              | error b => exact h
              | ok y => exact h3 _ _ _ _ _ _ h
          · rw [if_neg c] at h ⊢
            exact h3 _ _ _ _ _ _ h
theorem ty_le {f g : Nat} (h : f ≤ g) {t : List Tok} {depth i : Nat} {vs : List Str} {r : TyR} (hf : tyTypeF f t depth i vs = some r) : tyTypeF g t depth i vs = some r := by
  induction h with
  | refl => exact hf
  | step _ ih => exact (ty_more _).2.2.2 _ _ _ _ _ ih
/-- A type is read so. -/
def TyRead (t : List Tok) (i : Nat) (r : TyR) : Prop := ∃ f, tyTypeF f t 0 i [] = some r
theorem TyRead.some (t : List Tok) (i : Nat) : ∃ r, TyRead t i r := by
  obtain ⟨r, hr⟩ := (ty_some (4 * (t.length - i) + 3)).2.2.2 t 0 i [] (Nat.le_refl _)
  exact ⟨r, _, hr⟩
theorem TyRead.one {t : List Tok} {i : Nat} {r r' : TyR} (h : TyRead t i r) (k : TyRead t i r') : r = r' := by
  obtain ⟨f, hf⟩ := h
  obtain ⟨g, hg⟩ := k
  have a := ty_le (Nat.le_max_left f g) hf
  have b := ty_le (Nat.le_max_right f g) hg
  exact Option.some.inj (a.symm.trans b)
end Go.Lamb
namespace Go.Lamb
open Go Go.RowKit

/-- The token at whatever place. -/
def tokI (t : List Tok) (i : Int) : Tok := if 0 ≤ i then tokL t i.toNat else ⟨0, [], 0, lastPos t⟩
theorem tokI_nat (t : List Tok) (i : Nat) : tokI t (i : Int) = tokL t i := by rw [tokI, if_pos (by omega), Int.toNat_natCast]
structure TyO where
  u : Typ
  j : Int
  ws : List Str
  e : Int
  p : Int
/-- A bracket behind it. -/
def closeO (t : List Tok) (o : TyO) : TyO := ⟨o.u, IntKind.i64.wrap (o.j + 1), o.ws, if o.e = 0 then (if (tokI t o.j).kind = 6 then 0 else 50) else o.e, if o.e = 0 then (if (tokI t o.j).kind = 6 then 0 else (tokI t o.j).pos) else o.p⟩
mutual
def tyAtomG : Nat → List Tok → Nat → Nat → List Str → Option TyO
  | 0, _, _, _, _ => none
  | f + 1, t, depth, i, vs =>
    if (tokL t i).kind = 1 then some ⟨.con (tokL t i).text, (i + 1 : Nat), vs, 0, 0⟩
    else if (tokL t i).kind = 2 then some ⟨.var (vnum vs (tokL t i).text), (i + 1 : Nat), vadd vs (tokL t i).text, 0, 0⟩
    else if (tokL t i).kind = 5 then
      match (if 200 ≤ depth then some ⟨.none, (i + 1 : Nat), vs, 31, (tokL t i).pos⟩ else tyTypeG f t (depth + 1) (i + 1) vs) with
      | none => none
      | some o => some (closeO t o)
    else some ⟨.none, (i : Nat), vs, 50, (tokL t i).pos⟩
def tyArgsG : Nat → List Tok → Nat → TyO → Option TyO
  | 0, _, _, _ => none
  | f + 1, t, depth, o =>
    if o.e = 0 ∧ tyBegins (tokI t o.j) = true then
      match tyAtomG f t depth o.j.toNat o.ws with
      | none => none
      | some a => tyArgsG f t depth ⟨o.u.put a.u, a.j, a.ws, a.e, a.p⟩
    else some o
def tyTailG : Nat → List Tok → Nat → TyO → Option TyO
  | 0, _, _, _ => none
  | f + 1, t, depth, o =>
    if o.e = 0 ∧ (tokI t o.j).kind = 4 ∧ (tokI t o.j).text = [45, 62] then
      match (if 200 ≤ depth then some ⟨.none, IntKind.i64.wrap (o.j + 1), o.ws, 31, (tokI t o.j).pos⟩ else tyTypeG f t (depth + 1) (o.j + 1).toNat o.ws) with
      | none => none
      | some y => some ⟨.arr o.u y.u, y.j, y.ws, y.e, y.p⟩
    else some o
def tyTypeG : Nat → List Tok → Nat → Nat → List Str → Option TyO
  | 0, _, _, _, _ => none
  | f + 1, t, depth, i, vs => match tyAtomG f t depth i vs with
    | none => none
    | some o => match (if (tokL t i).kind = 1 then tyArgsG f t depth o else some o) with
      | none => none
      | some o2 => tyTailG f t depth o2
end
/-- What comes of it, in both words. -/
def TOut (r : TyR) (o : TyO) : Prop := match r with
  | .ok (u, j, ws) => o = ⟨u, (j : Nat), ws, 0, 0⟩
  | .error x => o.e = x.e ∧ o.p = x.pos ∧ (x.e == 0) = false
theorem args_stop {f : Nat} {t : List Tok} {depth : Nat} {o : TyO} (h : o.e ≠ 0) : tyArgsG (f + 1) t depth o = some o := by rw [tyArgsG, if_neg (fun c => h c.1)]
theorem tail_stop {f : Nat} {t : List Tok} {depth : Nat} {o : TyO} (h : o.e ≠ 0) : tyTailG (f + 1) t depth o = some o := by rw [tyTailG, if_neg (fun c => h c.1)]
theorem close_ok {t : List Tok} {u : Typ} {j : Nat} {ws : List Str} (hj : j ≤ 2000000) : closeO t ⟨u, (j : Nat), ws, 0, 0⟩ = if (tokL t j).kind = 6 then ⟨u, (j + 1 : Nat), ws, 0, 0⟩ else ⟨u, (j + 1 : Nat), ws, 50, (tokL t j).pos⟩ := by
  unfold closeO
  simp only [if_true, tokI_nat]
  have : IntKind.i64.wrap ((j : Int) + 1) = ((j + 1 : Nat) : Int) := by rw [wrap_in] <;> omega
  rw [this]
  by_cases h : (tokL t j).kind = 6
  · simp only [if_pos h]
  · simp only [if_neg h]
theorem close_bad {t : List Tok} {o : TyO} (h : o.e ≠ 0) : closeO t o = ⟨o.u, IntKind.i64.wrap (o.j + 1), o.ws, o.e, o.p⟩ := by
  unfold closeO
  simp only [if_neg h]
theorem ty_out : ∀ (f : Nat), (∀ t depth i vs r, t.length ≤ 1000000 → tyAtomF f t depth i vs = some r → ∃ o, tyAtomG f t depth i vs = some o ∧ TOut r o) ∧
    (∀ t depth i vs u r, t.length ≤ 1000000 → tyArgsF f t depth i vs u = some r → ∃ o, tyArgsG f t depth ⟨u, (i : Nat), vs, 0, 0⟩ = some o ∧ TOut r o) ∧
    (∀ t depth i vs u r, t.length ≤ 1000000 → i ≤ t.length → tyTailF f t depth i vs u = some r → ∃ o, tyTailG f t depth ⟨u, (i : Nat), vs, 0, 0⟩ = some o ∧ TOut r o) ∧
    (∀ t depth i vs r, t.length ≤ 1000000 → tyTypeF f t depth i vs = some r → ∃ o, tyTypeG f t depth i vs = some o ∧ TOut r o)
  | 0 => ⟨fun _ _ _ _ _ _ h => by simp [tyAtomF] at h, fun _ _ _ _ _ _ _ h => by simp [tyArgsF] at h, fun _ _ _ _ _ _ _ _ h => by simp [tyTailF] at h, fun _ _ _ _ _ _ h => by simp [tyTypeF] at h⟩
  | f + 1 => by
    obtain ⟨h1, h2, h3, h4⟩ := ty_out f
    have hpos : ∀ {t depth i vs r}, tyAtomF f t depth i vs = some r → 0 < f := fun h => by
      cases f with
      | zero => simp [tyAtomF] at h
      | succ f => omega
    refine ⟨fun t depth i vs r ht h => ?_, fun t depth i vs u r ht h => ?_, fun t depth i vs u r ht hi h => ?_, fun t depth i vs r ht h => ?_⟩
    · rw [tyAtomF] at h
      rw [tyAtomG]
      by_cases c1 : (tokL t i).kind = 1
      · rw [if_pos c1] at h ⊢
        injection h with h; subst h
        exact ⟨_, rfl, rfl⟩
      rw [if_neg c1] at h ⊢
      by_cases c2 : (tokL t i).kind = 2
      · rw [if_pos c2] at h ⊢
        injection h with h; subst h
        exact ⟨_, rfl, rfl⟩
      rw [if_neg c2] at h ⊢
      by_cases c3 : (tokL t i).kind = 5
      · rw [if_pos c3] at h ⊢
        by_cases c4 : 200 ≤ depth
        · rw [if_pos c4] at h ⊢
          injection h with h; subst h
          refine ⟨_, rfl, ?_⟩
          rw [close_bad (by show (31 : Int) ≠ 0; decide)]
          exact ⟨rfl, rfl, rfl⟩
        · rw [if_neg c4] at h ⊢
          cases he : tyTypeF f t (depth + 1) (i + 1) vs with
          | none => rw [he] at h; cases h
          | some y =>
            rw [he] at h
            obtain ⟨o, ho, hO⟩ := h4 _ _ _ _ _ ht he
            rw [ho]
            cases y with
            | error b =>
              injection h with h; subst h
              obtain ⟨q1, q2, q3⟩ := hO
              have hne : o.e ≠ 0 := by rw [q1]; simpa using q3
              refine ⟨_, rfl, ?_⟩
              rw [close_bad hne]
              exact ⟨q1, q2, q3⟩
            | ok y =>
              obtain ⟨u, j, ws⟩ := y
              have hb := (ty_bounds f).2.2.2 _ _ _ _ _ _ _ he
              have hO' : o = ⟨u, (j : Nat), ws, 0, 0⟩ := hO
              subst hO'
              refine ⟨_, rfl, ?_⟩
              rw [close_ok (by omega)]
              simp only at h
              by_cases c6 : (tokL t j).kind = 6
              · rw [if_pos c6] at h ⊢
                injection h with h; subst h
                rfl
              · rw [if_neg c6] at h ⊢
                injection h with h; subst h
                exact ⟨rfl, rfl, rfl⟩
      · rw [if_neg c3] at h ⊢
        injection h with h; subst h
        exact ⟨_, rfl, rfl, rfl, rfl⟩
    · rw [tyArgsF] at h
      rw [tyArgsG]
      simp only [tokI_nat, true_and, Int.toNat_natCast]
      by_cases c1 : tyBegins (tokL t i) = false
      · rw [if_pos c1] at h
        rw [if_neg (by rw [c1]; decide)]
        injection h with h; subst h
        exact ⟨_, rfl, rfl⟩
      · rw [if_neg c1] at h
        rw [if_pos (by simpa using c1)]
        cases he : tyAtomF f t depth i vs with
        | none => rw [he] at h; cases h
        | some y =>
          rw [he] at h
          have hf := hpos he
          obtain ⟨o, ho, hO⟩ := h1 _ _ _ _ _ ht he
          rw [ho]
          cases y with
          | error b =>
            injection h with h; subst h
            obtain ⟨q1, q2, q3⟩ := hO
            have hne : o.e ≠ 0 := by rw [q1]; simpa using q3
            obtain ⟨f', rfl⟩ : ∃ f', f = f' + 1 := ⟨f - 1, by omega⟩
            exact ⟨_, args_stop hne, q1, q2, q3⟩
          | ok y =>
            obtain ⟨a, j, ws⟩ := y
            have hO' : o = ⟨a, (j : Nat), ws, 0, 0⟩ := hO
            subst hO'
            exact h2 _ _ _ _ _ _ ht h
    · rw [tyTailF] at h
      rw [tyTailG]
      simp only [tokI_nat, true_and]
      by_cases c1 : (tokL t i).kind = 4 ∧ (tokL t i).text = [45, 62]
      · rw [if_pos c1] at h
        rw [if_pos c1]
        by_cases c4 : 200 ≤ depth
        · rw [if_pos c4] at h ⊢
          injection h with h; subst h
          exact ⟨_, rfl, rfl, rfl, rfl⟩
        · rw [if_neg c4] at h ⊢
          have e : ((i : Int) + 1).toNat = i + 1 := by omega
          rw [e]
          cases he : tyTypeF f t (depth + 1) (i + 1) vs with
          | none => rw [he] at h; cases h
          | some y =>
            rw [he] at h
            obtain ⟨o, ho, hO⟩ := h4 _ _ _ _ _ ht he
            rw [ho]
            cases y with
            | error b =>
              injection h with h; subst h
              exact ⟨_, rfl, hO⟩
            | ok y =>
              obtain ⟨a, j, ws⟩ := y
              have hO' : o = ⟨a, (j : Nat), ws, 0, 0⟩ := hO
              subst hO'
              injection h with h; subst h
              exact ⟨_, rfl, rfl⟩
      · rw [if_neg c1] at h
        rw [if_neg c1]
        injection h with h; subst h
        exact ⟨_, rfl, rfl⟩
    · rw [tyTypeF] at h
      rw [tyTypeG]
      cases he : tyAtomF f t depth i vs with
      | none => rw [he] at h; cases h
      | some y =>
        rw [he] at h
        have hf := hpos he
        obtain ⟨f', hf'⟩ : ∃ f', f = f' + 1 := ⟨f - 1, by omega⟩
        obtain ⟨o, ho, hO⟩ := h1 _ _ _ _ _ ht he
        rw [ho]
        simp only
        cases y with
        | error b =>
          injection h with h; subst h
          obtain ⟨q1, q2, q3⟩ := hO
          have hne : o.e ≠ 0 := by rw [q1]; simpa using q3
          refine ⟨o, ?_, q1, q2, q3⟩
          subst hf'
          by_cases c1 : (tokL t i).kind = 1
          · rw [if_pos c1, args_stop hne]
            exact tail_stop hne
          · rw [if_neg c1]
            exact tail_stop hne
        | ok y =>
          obtain ⟨a, j, ws⟩ := y
          have b1 := (ty_bounds f).1 _ _ _ _ _ _ _ he
          have hO' : o = ⟨a, (j : Nat), ws, 0, 0⟩ := hO
          subst hO'
          simp only at h
          by_cases c1 : (tokL t i).kind = 1
          · rw [if_pos c1] at h ⊢
            cases hg : tyArgsF f t depth j ws a with
            | none => rw [hg] at h; cases h
            | some z =>
              rw [hg] at h
              obtain ⟨o2, ho2, hO2⟩ := h2 _ _ _ _ _ _ ht hg
              rw [ho2]
              cases z with
              | error b =>
                injection h with h; subst h
                obtain ⟨q1, q2, q3⟩ := hO2
                have hne : o2.e ≠ 0 := by rw [q1]; simpa using q3
                subst hf'
                exact ⟨o2, tail_stop hne, q1, q2, q3⟩
              | ok z =>
                obtain ⟨a2, j2, ws2⟩ := z
                have b2 := (ty_bounds f).2.1 _ _ _ _ _ _ _ _ hg b1.2.1
                have hO' : o2 = ⟨a2, (j2 : Nat), ws2, 0, 0⟩ := hO2
                subst hO'
                exact h3 _ _ _ _ _ _ ht b2.2.1 h
          · rw [if_neg c1] at h ⊢
            exact h3 _ _ _ _ _ _ ht b1.2.1 h
end Go.Lamb
namespace Go.Lamb
open Go Go.RowKit

/-- All that is new is plain data from now on. -/
def K.new (κ : K) (w w' : World) : K := { κ with m := fun b o => if b < w.heap.size then κ.m b o else w'.cell? ⟨b, o, none⟩ }
section
variable {P : Program} {w0 w w' : World} {κ : K} {σ : H}
theorem K.new_le (h : Rep w0 κ σ w) : κ.le (κ.new w w') :=
  RV.same (fun b o v hm => by
    show (if b < w.heap.size then _ else _) = _
    rw [if_pos (h.mem_lt hm)]; exact hm) (Nat.le_refl _) (fun _ _ => rfl) (fun _ _ => rfl) (fun _ _ => rfl) (fun _ _ => rfl)
theorem Rep.new (h : Rep w0 κ σ w) (hb : Below w.heap.size w w') : Rep w0 (κ.new w w') σ w' := by
  have hle : κ.le (κ.new w w') := K.new_le h
  have hg := h.grow hb
  have hmo : ∀ b o, b < w.heap.size → (κ.new w w').m b o = κ.m b o := fun b o hlt => by show (if b < w.heap.size then _ else _) = _; rw [if_pos hlt]
  refine ⟨h.n, hg.ext, fun b o v hm => ?_, fun b hb' => ?_, fun x y hx hy g hne => h.apart x y hx hy g hne⟩
  · rcases Nat.lt_or_ge b w.heap.size with hlt | hge
    · rw [hmo b o hlt] at hm
      exact hg.mem b o v hm
    · have hm' : (if b < w.heap.size then κ.m b o else w'.cell? ⟨b, o, none⟩) = some v := hm
      rw [if_neg (by omega)] at hm'
      exact hm'
  · have h1 := hg.blk b hb'
    have hl := fun g hg => (h.lies_lt (g := g) hb' hg).2
    cases hσ : σ[b] with
    | cells cs =>
      rw [hσ] at h1 hl
      obtain ⟨vs, t, k1, k2, k3⟩ := h1.row
      exact ⟨h1.fr, ⟨vs, t, k1, k2, fun j hj => ⟨(k3 j hj).1, (k3 j hj).2.mono hle⟩⟩, h1.own, fun o => (hmo _ o (hl _ rfl)).trans (h1.free o), h1.ty⟩
    | spare e size n =>
      rw [hσ] at h1 hl
      exact ⟨h1.fr, h1.sz, h1.row, fun g hg' o ho => (hmo g o (hl g hg')).trans (h1.free g hg' o ho)⟩
    | mp kvs =>
      rw [hσ] at h1 hl
      exact Blk.mapped.le h1 hle.m h1.fr rfl (fun o => (hmo _ o (hl _ rfl)).trans (h1.free o))
    | gone => trivial
theorem K.new_at {b : Nat} (hb : w.heap.size ≤ b) (o : Nat) : (κ.new w w').m b o = w'.cell? ⟨b, o, none⟩ := by
  show (if b < w.heap.size then _ else _) = _
  rw [if_neg (by omega)]
/-- Out of a contract over worlds that makes memory. -/
theorem DC.of_new {f : FuncId} {args : List V} {d : V} (hen : Enters P f) (h : ∀ κ w vs, Rep w0 κ σ w → Fits κ args vs → Calls P f vs.toArray w (fun e w' => ∃ v, e = .returned v ∧ Below w.heap.size w w' ∧ RV (κ.new w w') d v)) :
    DC P w0 f args σ (Same d σ) := by
  refine ⟨hen, fun κ w vs hrep hfit => (h κ w vs hrep hfit).mono ?_⟩
  rintro e w' ⟨v, he, hb, hv⟩
  exact ⟨v, d, σ, κ.new w w', he, ⟨rfl, rfl⟩, K.new_le hrep, hrep.new hb, hv⟩
/-- A slice of nothing without room may be taken for one's own. -/
theorem Lew.own {n0 : Nat} {ρ : Env} (d e size : Nat) (hρ : ρ d = .csl []) : Lew n0 ⟨ρ.put (some d) (.osl σ.length []), σ ++ [.spare e size 0]⟩ ⟨ρ, σ⟩ := fun w0 κ0 n κ a w hκ hR => by
  have hrep := hR.rep
  have hv := hR.env d
  rw [show (⟨ρ, σ⟩ : St).ρ d = ρ d from rfl, hρ] at hv
  generalize hx : a.tmps.getD d undef = v at hv
  cases hv with
  | csl h1 =>
    rename_i A
    have hle : κ.le (κ.own (.slice A 0 0) size) := K.own_le
    have frn : (κ.own (.slice A 0 0) size).fr σ.length = some 0 := by show (if σ.length = κ.n then _ else _) = _; rw [if_pos hrep.n.symm]
    have svn : (κ.own (.slice A 0 0) size).sv σ.length = .slice A 0 0 := by show (if σ.length = κ.n then _ else _) = _; rw [if_pos hrep.n.symm]
    refine ⟨κ.own (.slice A 0 0) size, hrep.own e size A, fun k => ?_, hR.size, hR.defers, K.le_trans hR.le hle⟩
    show RV _ (Env.put ρ (some d) _ k) _
    rw [put_some]
    by_cases hk : k = d
    · subst hk
      rw [if_pos rfl, hx]
      exact .osl (h1.mono hle.m) (by show _ < κ.n + 1; rw [hrep.n]; exact Nat.lt_succ_self _) frn (Nat.le_refl _) (fun _ => svn.symm) (by simp)
    · rw [if_neg hk]
      exact (hR.env k).mono hle
theorem W.own {n0 : Nat} {Q : St → Prop} {k : List It} {ρ : Env} (d e size : Nat) (hρ : ρ d = .csl []) (h : W P w0 n0 Q k ⟨ρ.put (some d) (.osl σ.length []), σ ++ [.spare e size 0]⟩) : W P w0 n0 Q k ⟨ρ, σ⟩ := .weak (Lew.own d e size hρ) h
end
end Go.Lamb
namespace Go.Lamb
open Go Go.RowKit

section
variable {P : Program} {w0 w w' : World} {κ : K} {σ : H}
/-- A cell of a block may be taken for what it is, too. -/
theorem Rep.turn (h : Rep w0 κ σ w) {b j : Nat} {cs : List V} {tg : Option TypeId} {y : V} (hb : σ[b]? = some (.cells cs tg)) (hl : y.leaf = true)
    (hxy : ∀ vs t, w.heap[κ.pos b]? = some (.cells vs t (0, 0)) → ∀ (hj : j < cs.length), RV κ cs[j] (vs.getD j undef) → RV κ y (vs.getD j undef)) : Rep w0 κ (σ.set b (.cells (cs.set j y) tg)) w := by
  obtain ⟨hlt, hbe⟩ := List.getElem?_eq_some_iff.1 hb
  have key : ∀ z (hz : z < σ.length) (hz' : z < (σ.set b (.cells (cs.set j y) tg)).length) g, ((σ.set b (.cells (cs.set j y) tg))[z]).lies κ z = some g → (σ[z]).lies κ z = some g := fun z hz hz' g hg => by
    by_cases hzb : z = b
    · subst hzb
      rw [List.getElem_set_self] at hg
      rw [hbe]; exact hg
    · rw [List.getElem_set_ne (fun e => hzb e.symm)] at hg
      exact hg
  refine ⟨by rw [List.length_set]; exact h.n, h.ext, h.mem, fun c hc => ?_, fun x z hx hz g hne => ?_⟩
  · have hc' : c < σ.length := by simpa using hc
    have h1 := h.blk c hc'
    by_cases hcb : c = b
    · subst hcb
      rw [List.getElem_set_self]
      rw [hbe] at h1
      obtain ⟨vs, t, k1, k2, k3⟩ := h1.row
      refine ⟨h1.fr, ⟨vs, t, k1, by rw [List.length_set]; exact k2, fun i hi => ?_⟩, h1.own, h1.free, h1.ty⟩
      have hi' : i < cs.length := by simpa using hi
      by_cases hij : j = i
      · subst hij
        rw [List.getElem_set_self]
        exact ⟨hl, hxy vs t k1 hi' (k3 j hi').2⟩
      · rw [List.getElem_set_ne hij]
        exact k3 i hi'
    · rw [List.getElem_set_ne (fun e => hcb e.symm)]
      exact h1
  · have hx' : x < σ.length := by simpa using hx
    have hz' : z < σ.length := by simpa using hz
    intro e1 e2
    exact h.apart x z hx' hz' g hne (key x hx' hx g e1) (key z hz' hz g e2)
theorem Lew.ownCell {n0 : Nat} {ρ : Env} (b j e size : Nat) {cs : List V} {tg : Option TypeId} (hb : σ[b]? = some (.cells cs tg)) (hj : cs[j]? = some (.csl [])) :
    Lew n0 ⟨ρ, (σ ++ [Blk.spare e size 0]).set b (.cells (cs.set j (.osl σ.length [])) tg)⟩ ⟨ρ, σ⟩ := fun w0 κ0 n κ a w hκ hR => by
  have hrep := hR.rep
  obtain ⟨hlt, hbe⟩ := List.getElem?_eq_some_iff.1 hb
  obtain ⟨hjl, hje⟩ := List.getElem?_eq_some_iff.1 hj
  have h1 := hrep.blk b hlt
  rw [show (⟨ρ, σ⟩ : St).σ[b] = .cells cs tg from hbe] at h1
  obtain ⟨vs, t, k1, k2, k3⟩ := h1.row
  have hv := (k3 j hjl).2
  rw [hje] at hv
  generalize hx : vs.getD j undef = v at hv
  cases hv with
  | csl hc =>
    rename_i A
    have hle : κ.le (κ.own (.slice A 0 0) size) := K.own_le
    have frn : (κ.own (.slice A 0 0) size).fr σ.length = some 0 := by show (if σ.length = κ.n then _ else _) = _; rw [if_pos hrep.n.symm]
    have svn : (κ.own (.slice A 0 0) size).sv σ.length = .slice A 0 0 := by show (if σ.length = κ.n then _ else _) = _; rw [if_pos hrep.n.symm]
    have hr2 := hrep.own e size A
    have hpos : (κ.own (.slice A 0 0) size).pos b = κ.pos b := (hle.cells b (by rw [hrep.n]; exact hlt) h1.fr).2
    refine ⟨κ.own (.slice A 0 0) size, hr2.turn (b := b) (j := j) (cs := cs) (tg := tg) (y := .osl σ.length []) ((List.getElem?_append_left hlt).trans hb) rfl (fun vs' t' k1' hj' hv' => ?_), fun k => (hR.env k).mono hle, hR.size, hR.defers, K.le_trans hR.le hle⟩
    rw [hpos, k1] at k1'
    injection k1' with k1'
    injection k1' with e1 e2
    subst e1
    rw [hx]
    exact .osl (hc.mono hle.m) (by show _ < κ.n + 1; rw [hrep.n]; exact Nat.lt_succ_self _) frn (Nat.le_refl _) (fun _ => svn.symm) (by simp)
theorem W.ownCell {n0 : Nat} {Q : St → Prop} {k : List It} {ρ : Env} (b j e size : Nat) {cs : List V} {tg : Option TypeId} (hb : σ[b]? = some (.cells cs tg)) (hj : cs[j]? = some (.csl []))
    (h : W P w0 n0 Q k ⟨ρ, (σ ++ [Blk.spare e size 0]).set b (.cells (cs.set j (.osl σ.length [])) tg)⟩) : W P w0 n0 Q k ⟨ρ, σ⟩ := .weak (Lew.ownCell b j e size hb hj) h
end
end Go.Lamb
namespace Go.Lamb
open Go Go.RowKit

structure Two (σ : H) (b v : Nat) : Prop where
  ne : b ≠ v
  lb : b < σ.length
  lv : v < σ.length
/-- The heap with these two blocks. -/
def rs (σ : H) (b v : Nat) (X Y : Blk) : H := (σ.set b X).set v Y
section
variable {σ : H} {b v : Nat}
@[simp] theorem rs_len (X Y : Blk) : (rs σ b v X Y).length = σ.length := by simp [rs]
theorem rs_app (D : Two σ b v) (L : H) (X Y : Blk) : rs (σ ++ L) b v X Y = rs σ b v X Y ++ L := by
  unfold rs
  rw [List.set_append_left _ _ D.lb, List.set_append_left _ _ (by simpa using D.lv)]
theorem rs_b (D : Two σ b v) (X Y : Blk) : (rs σ b v X Y)[b]? = some X := by
  unfold rs
  rw [List.getElem?_set_ne (fun e => D.ne e.symm), List.getElem?_set_self D.lb]
theorem rs_v (D : Two σ b v) (X Y : Blk) : (rs σ b v X Y)[v]? = some Y := by
  unfold rs
  rw [List.getElem?_set_self (by simpa using D.lv)]
theorem rs_bL (D : Two σ b v) (L : H) (X Y : Blk) : (rs σ b v X Y ++ L)[b]? = some X := by
  rw [List.getElem?_append_left (by simpa using D.lb), rs_b D]
theorem rs_vL (D : Two σ b v) (L : H) (X Y : Blk) : (rs σ b v X Y ++ L)[v]? = some Y := by
  rw [List.getElem?_append_left (by simpa using D.lv), rs_v D]
theorem rs_sb (D : Two σ b v) (X Y Z : Blk) : (rs σ b v X Y).set b Z = rs σ b v Z Y := by
  unfold rs
  rw [List.set_comm _ _ (fun e => D.ne e.symm), List.set_set]
theorem rs_sv (X Y Z : Blk) : (rs σ b v X Y).set v Z = rs σ b v X Z := by
  unfold rs
  rw [List.set_set]
theorem rs_sbL (D : Two σ b v) (L : H) (X Y Z : Blk) : (rs σ b v X Y ++ L).set b Z = rs σ b v Z Y ++ L := by
  rw [List.set_append_left _ _ (by simpa using D.lb), rs_sb D]
theorem rs_svL (D : Two σ b v) (L : H) (X Y Z : Blk) : (rs σ b v X Y ++ L).set v Z = rs σ b v X Z ++ L := by
  rw [List.set_append_left _ _ (by simpa using D.lv), rs_sv]
theorem rs_g0 (x : Blk) (L : H) (X Y : Blk) : (rs σ b v X Y ++ x :: L)[σ.length]? = some x := by
  rw [List.getElem?_append_right (by simp), rs_len, Nat.sub_self]; rfl
theorem rs_g (k : Nat) (L : H) (X Y : Blk) : (rs σ b v X Y ++ L)[σ.length + k]? = L[k]? := by
  rw [List.getElem?_append_right (by simp), rs_len, Nat.add_sub_cancel_left]
theorem rs_s0 (x : Blk) (L : H) (X Y : Blk) : (rs σ b v X Y ++ L).set σ.length x = rs σ b v X Y ++ L.set 0 x := by
  rw [List.set_append_right _ _ (by simp), rs_len, Nat.sub_self]
theorem rs_s (k : Nat) (x : Blk) (L : H) (X Y : Blk) : (rs σ b v X Y ++ L).set (σ.length + k) x = rs σ b v X Y ++ L.set k x := by
  rw [List.set_append_right _ _ (by simp), rs_len, Nat.add_sub_cancel_left]
theorem Two.app (D : Two σ b v) (L : H) : Two (σ ++ L) b v := ⟨D.ne, by have := D.lb; simp; omega, by have := D.lv; simp; omega⟩
theorem rsA (D : Two σ b v) : (∀ X Y : Blk, (rs σ b v X Y)[b]? = some X) ∧ (∀ (L : H) (X Y : Blk), (rs σ b v X Y ++ L)[b]? = some X) ∧ (∀ X Y : Blk, (rs σ b v X Y)[v]? = some Y) ∧ (∀ (L : H) (X Y : Blk), (rs σ b v X Y ++ L)[v]? = some Y) ∧ (∀ X Y Z : Blk, (rs σ b v X Y).set b Z = rs σ b v Z Y) ∧ (∀ (L : H) (X Y Z : Blk), (rs σ b v X Y ++ L).set b Z = rs σ b v Z Y ++ L) ∧ (∀ (L : H) (X Y Z : Blk), (rs σ b v X Y ++ L).set v Z = rs σ b v X Z ++ L) ∧ (∀ (L : H) (X Y : Blk), rs (σ ++ L) b v X Y = rs σ b v X Y ++ L) :=
  ⟨rs_b D, rs_bL D, rs_v D, rs_vL D, rs_sb D, rs_sbL D, rs_svL D, rs_app D⟩
theorem rs_ok (D : Two σ b v) {X Y X' Y' : Blk} (h : H.ok (rs σ b v X Y)) (hx : ∀ cs tg, X' = .cells cs tg → ∀ x ∈ cs, V.low σ.length x) (hy : ∀ cs tg, Y' = .cells cs tg → ∀ x ∈ cs, V.low σ.length x) : H.ok (rs σ b v X' Y') := by
  intro B hB cs tg hc x hxm
  rw [rs_len]
  obtain ⟨i, hi, rfl⟩ := List.getElem_of_mem hB
  have hi' : i < σ.length := by simpa using hi
  have hg : (rs σ b v X' Y')[i]? = some (.cells cs tg) := by rw [List.getElem?_eq_getElem hi, hc]
  by_cases hv : i = v
  · subst hv
    rw [rs_v D] at hg
    injection hg with hg
    exact hy cs tg hg x hxm
  · by_cases hb : i = b
    · subst hb
      rw [rs_b D] at hg
      injection hg with hg
      exact hx cs tg hg x hxm
    · have e : (rs σ b v X Y)[i]? = some (.cells cs tg) := by
        rw [← hg]
        unfold rs
        rw [List.getElem?_set_ne (fun e => hv e.symm), List.getElem?_set_ne (fun e => hb e.symm), List.getElem?_set_ne (fun e => hv e.symm), List.getElem?_set_ne (fun e => hb e.symm)]
      have := h (.cells cs tg) (List.mem_of_getElem? e) cs tg rfl x hxm
      rwa [rs_len] at this
/-- A contract at these two blocks, with more behind. -/
theorem DC.lift {P : Program} {w0 : World} {f : FuncId} {args : List V} {L : H} {X Y X' Y' : Blk} {d : V} (D : Two σ b v) (h : Two (σ ++ L) b v → DC P w0 f args (rs (σ ++ L) b v X Y) (Same d (rs (σ ++ L) b v X' Y'))) : DC P w0 f args (rs σ b v X Y ++ L) (Same d (rs σ b v X' Y' ++ L)) := by rw [← rs_app D, ← rs_app D]; exact h (D.app L)
end
end Go.Lamb
namespace Go.Lamb
open Go Go.RowKit

def arrowT (p : Typ) : Bool := p.k == 2 && p.l.length == 2
mutual
def validT : Typ → Bool
  | .mk k s n l => (if k = 0 then isNameB s && n == 0 else if k = 1 then s == [] && decide (0 ≤ n) && decide (n ≤ 4611686018427387904) && l.length == 0 else if k = 2 then s == [] && n == 0 && l.length == 2 else false) && validTs l
def validTs : List Typ → Bool
  | [] => true
  | x :: l => validT x && validTs l
end
def nodeT (p : Typ) : Bool := if p.k = 0 then isNameB p.name && p.n == 0 else if p.k = 1 then p.name == [] && decide (0 ≤ p.n) && decide (p.n ≤ 4611686018427387904) && p.l.length == 0 else if p.k = 2 then p.name == [] && p.n == 0 && p.l.length == 2 else false
theorem validTs_all : ∀ (l : List Typ), validTs l = l.all validT
  | [] => by simp [validTs]
  | x :: l => by rw [validTs, List.all_cons, validTs_all l]
theorem validT_eq (p : Typ) : validT p = (nodeT p && p.l.all validT) := by
  cases p
  rw [validT, validTs_all]
  rfl
/-- Things in front of an arrow, one by one. -/
def arrows (l : List Typ) (u : Typ) : Typ := l.foldr Typ.arr u
theorem arrow_parts {p : Typ} (h : arrowT p = true) : ∃ a b, p.l = [a, b] := by
  simp only [arrowT, Bool.and_eq_true, beq_iff_eq] at h
  match hp : p.l with
  | [a, b] => exact ⟨a, b, rfl⟩
  | [] => rw [hp] at h; simp at h
  | [_] => rw [hp] at h; simp at h
  | _ :: _ :: _ :: _ => rw [hp] at h; simp at h
/-- What a type takes, and what comes of it; so many at most. -/
def partsF : Nat → Typ → List Typ × Typ
  | 0, p => ([], p)
  | f + 1, p => if arrowT p = true then match p.l with
    | [a, b] => (a :: (partsF f b).1, (partsF f b).2)
    | _ => ([], p)
    else ([], p)
mutual
def depthT : Typ → Nat
  | .mk _ _ _ l => depthTs l + 1
def depthTs : List Typ → Nat
  | [] => 0
  | x :: l => max (depthT x) (depthTs l)
end
theorem depth_mem {x : Typ} : ∀ {l : List Typ}, x ∈ l → depthT x ≤ depthTs l
  | [], h => by simp at h
  | y :: l, h => by
    rw [depthTs]
    rcases List.mem_cons.1 h with rfl | h
    · exact Nat.le_max_left _ _
    · exact Nat.le_trans (depth_mem h) (Nat.le_max_right _ _)
theorem depth_of {p x : Typ} (h : x ∈ p.l) : depthT x < depthT p := by
  cases p with
  | mk k s n l => rw [depthT]; have := depth_mem h; simp only [Typ.l] at this; omega
def partsT (p : Typ) : List Typ × Typ := partsF (depthT p) p
theorem partsF_enough : ∀ (f : Nat) (p : Typ), depthT p ≤ f → partsF f p = partsT p
  | f, p, h => by
    unfold partsT
    generalize hg : depthT p = g at h
    induction g using Nat.strongRecOn generalizing f p with
    | ind g ih =>
      cases g with
      | zero => cases p; rw [depthT] at hg; omega
      | succ g =>
        cases f with
        | zero => omega
        | succ f =>
          rw [partsF, partsF]
          by_cases c : arrowT p = true
          · rw [if_pos c, if_pos c]
            obtain ⟨a, b, hl⟩ := arrow_parts c
            have hb : depthT b < depthT p := depth_of (by rw [hl]; simp)
            simp only [hl]
            rw [ih (depthT b) (by omega) f b rfl (by omega), ih (depthT b) (by omega) g b rfl (by omega)]
          · rw [if_neg c, if_neg c]
theorem partsT_yes {p a b : Typ} (h : arrowT p = true) (hl : p.l = [a, b]) : partsT p = (a :: (partsT b).1, (partsT b).2) := by
  have hb : depthT b < depthT p := depth_of (by rw [hl]; simp)
  rw [← partsF_enough (depthT p + 1) p (by omega), partsF, if_pos h]
  simp only [hl]
  rw [partsF_enough _ b (by omega)]
theorem partsT_no {p : Typ} (h : arrowT p = false) : partsT p = ([], p) := by
  rw [← partsF_enough (depthT p + 1) p (by omega), partsF, if_neg (by rw [h]; decide)]
end Go.Lamb
namespace Go.Lamb
open Go Go.RowKit

def strsC (l : List Str) : C := .sl (l.map fun s => [C.str s])
structure Sent where
  k : Int
  names : List Str
  n : Int
  ty : Typ
  op : OpT
  body : Pre
  pos : Int
def Sent.none : Sent := ⟨0, [], 0, .none, .zero, .none, 0⟩
def Sent.v (s : Sent) : V := .agg [I s.k, .c (strsC s.names), I s.n, I s.ty.k, S s.ty.name, I s.ty.n, .c (tysC s.ty.l), S s.op.name, I s.op.prec, I s.op.fix, I s.body.k, S s.body.name, I s.body.n, .c (.sl (s.body.l.map Pre.cs)), I s.body.pos, I s.pos]
def Sent.cs (s : Sent) : List C := [.int .i64 s.k, strsC s.names, .int .i64 s.n, .int .i64 s.ty.k, .str s.ty.name, .int .i64 s.ty.n, tysC s.ty.l, .str s.op.name, .int .i64 s.op.prec, .int .i64 s.op.fix, .int .i64 s.body.k, .str s.body.name, .int .i64 s.body.n, .sl (s.body.l.map Pre.cs), .int .i64 s.body.pos, .int .i64 s.pos]
/-! ### what is read, without fuel -/
open Classical in
noncomputable def tyT (t : List Tok) (i : Nat) : TyR := Classical.choose (TyRead.some t i)
theorem tyT_is (t : List Tok) (i : Nat) : TyRead t i (tyT t i) := Classical.choose_spec (TyRead.some t i)
theorem tyT_eq {t : List Tok} {i : Nat} {r : TyR} (h : TyRead t i r) : tyT t i = r := TyRead.one (tyT_is t i) h
abbrev SoR := Except Bad (Sent × Nat × List OpT)
end Go.Lamb
namespace Go.Lamb
open Go Go.RowKit

/-- The heap with this block. -/
def rz (σ : H) (b : Nat) (X : Blk) : H := σ.set b X
section
variable {σ : H} {b : Nat}
@[simp] theorem rz_len (X : Blk) : (rz σ b X).length = σ.length := by simp [rz]
theorem rz_app (D : b < σ.length) (L : H) (X : Blk) : rz (σ ++ L) b X = rz σ b X ++ L := List.set_append_left _ _ D
theorem rz_b (D : b < σ.length) (X : Blk) : (rz σ b X)[b]? = some X := List.getElem?_set_self D
theorem rz_bL (D : b < σ.length) (L : H) (X : Blk) : (rz σ b X ++ L)[b]? = some X := by
  rw [List.getElem?_append_left (by simpa using D), rz_b D]
theorem rz_sb (X Z : Blk) : (rz σ b X).set b Z = rz σ b Z := by unfold rz; rw [List.set_set]
theorem rz_sbL (D : b < σ.length) (L : H) (X Z : Blk) : (rz σ b X ++ L).set b Z = rz σ b Z ++ L := by
  rw [List.set_append_left _ _ (by simpa using D), rz_sb]
theorem rz_g0 (x : Blk) (L : H) (X : Blk) : (rz σ b X ++ x :: L)[σ.length]? = some x := by
  rw [List.getElem?_append_right (by simp), rz_len, Nat.sub_self]; rfl
theorem rz_g (k : Nat) (L : H) (X : Blk) : (rz σ b X ++ L)[σ.length + k]? = L[k]? := by
  rw [List.getElem?_append_right (by simp), rz_len, Nat.add_sub_cancel_left]
theorem rz_s0 (x : Blk) (L : H) (X : Blk) : (rz σ b X ++ L).set σ.length x = rz σ b X ++ L.set 0 x := by
  rw [List.set_append_right _ _ (by simp), rz_len, Nat.sub_self]
theorem rz_s (k : Nat) (x : Blk) (L : H) (X : Blk) : (rz σ b X ++ L).set (σ.length + k) x = rz σ b X ++ L.set k x := by
  rw [List.set_append_right _ _ (by simp), rz_len, Nat.add_sub_cancel_left]
theorem rz_lt (D : b < σ.length) (L : H) : b < (σ ++ L).length := by simp; omega
theorem rz_ok (D : b < σ.length) {X X' : Blk} (h : H.ok (rz σ b X)) (hx : ∀ cs tg, X' = .cells cs tg → ∀ x ∈ cs, V.low σ.length x) : H.ok (rz σ b X') := by
  intro B hB cs tg hc x hxm
  rw [rz_len]
  obtain ⟨i, hi, rfl⟩ := List.getElem_of_mem hB
  have hi' : i < σ.length := by simpa using hi
  have hg : (rz σ b X')[i]? = some (.cells cs tg) := by rw [List.getElem?_eq_getElem hi, hc]
  by_cases hb : i = b
  · subst hb
    rw [rz_b D] at hg
    injection hg with hg
    exact hx cs tg hg x hxm
  · have e : (rz σ b X)[i]? = some (.cells cs tg) := by
      rw [← hg]
      unfold rz
      rw [List.getElem?_set_ne (fun e => hb e.symm), List.getElem?_set_ne (fun e => hb e.symm)]
    have := h (.cells cs tg) (List.mem_of_getElem? e) cs tg rfl x hxm
    rwa [rz_len] at this
theorem rzA (D : b < σ.length) : (∀ X : Blk, (rz σ b X)[b]? = some X) ∧ (∀ (L : H) (X : Blk), (rz σ b X ++ L)[b]? = some X) ∧ (∀ (L : H) (X Z : Blk), (rz σ b X ++ L).set b Z = rz σ b Z ++ L) ∧ (∀ (L : H) (X : Blk), rz (σ ++ L) b X = rz σ b X ++ L) := ⟨rz_b D, rz_bL D, rz_sbL D, rz_app D⟩
/-- A contract at this block, with more behind. -/
theorem DC.lift1 {P : Program} {w0 : World} {f : FuncId} {args : List V} {L : H} {X X' : Blk} {d : V} (D : b < σ.length) (h : b < (σ ++ L).length → DC P w0 f args (rz (σ ++ L) b X) (Same d (rz (σ ++ L) b X'))) : DC P w0 f args (rz σ b X ++ L) (Same d (rz σ b X' ++ L)) := by rw [← rz_app D, ← rz_app D]; exact h (rz_lt D L)
end
section
variable {P : Program} {w0 : World} {σ : H}
end
end Go.Lamb
namespace Go.Lamb
open Go Go.RowKit

def putL (s : Str) (b : Bool) : Str := if b then 40 :: (s ++ [41]) else s
def varL (n : Int) : Str := (UInt8.ofNat (65 + n % 26).toNat) :: (if 0 < n / 26 then Lib.itoa (n / 26) else [])
def manyT (p : Typ) : Bool := p.k != 1 && decide (0 < p.l.length)
mutual
def textT : Typ → Str
  | .mk k s n l => if k = 1 then (if n < 0 then [63] else varL n) else if k = 2 ∧ l.length = 2 then textA l else Lib.join (s :: textTs l) [32]
def textTs : List Typ → List Str
  | [] => []
  | x :: l => putL (textT x) (manyT x) :: textTs l
def textA : List Typ → Str
  | [] => []
  | x :: l => putL (textT x) (arrowT x) ++ textB l
def textB : List Typ → Str
  | [] => []
  | x :: _ => [32, 45, 62, 32] ++ textT x
end
theorem textTs_map : ∀ l : List Typ, textTs l = l.map fun x => putL (textT x) (manyT x)
  | [] => by simp [textTs]
  | x :: l => by rw [textTs, textTs_map l, List.map_cons]
theorem textT_eq (p : Typ) : textT p = if p.k = 1 then (if p.n < 0 then [63] else varL p.n) else if p.k = 2 ∧ p.l.length = 2 then textA p.l else Lib.join (p.name :: p.l.map fun x => putL (textT x) (manyT x)) [32] := by
  cases p
  rw [textT, textTs_map]
  rfl
theorem textA_two (a b : Typ) : textA [a, b] = putL (textT a) (arrowT a) ++ ([32, 45, 62, 32] ++ textT b) := by
  rw [textA, textB]
mutual
def sizeT : Typ → Nat
  | .mk k _ _ l => if k = 1 then 1 else 1 + sizeTs l
def sizeTs : List Typ → Nat
  | [] => 0
  | x :: l => sizeT x + sizeTs l
end
theorem sizeT_eq (p : Typ) : sizeT p = if p.k = 1 then 1 else 1 + sizeTs p.l := by cases p; rw [sizeT]; rfl
theorem sizeTs_add : ∀ (l r : List Typ), sizeTs (l ++ r) = sizeTs l + sizeTs r
  | [], r => by simp [sizeTs]
  | x :: l, r => by rw [List.cons_append, sizeTs, sizeTs, sizeTs_add l r]; omega
def varMax (n v : Int) : Int := if IntKind.i64.wrap ((if -1 > v then -1 else v) + 1) > n then IntKind.i64.wrap ((if -1 > v then -1 else v) + 1) else n
mutual
/-- One more than the greatest variable, from n on. -/
def varsT : Int → Typ → Int
  | m, .mk k _ n l => if k = 1 then varMax m n else varsTs m l
def varsTs : Int → List Typ → Int
  | m, [] => m
  | m, x :: l => varsTs (varsT m x) l
end
theorem varsT_eq (m : Int) (p : Typ) : varsT m p = if p.k = 1 then varMax m p.n else varsTs m p.l := by cases p; rw [varsT]; rfl
theorem varsTs_add : ∀ (l r : List Typ) (m : Int), varsTs m (l ++ r) = varsTs (varsTs m l) r
  | [], r, m => by rw [varsTs]; rfl
  | x :: l, r, m => by rw [List.cons_append, varsTs, varsTs, varsTs_add l r]
mutual
/-- A type with nothing in the place of variables. -/
def noneT : Typ → Typ
  | .mk k s n l => if k = 1 then .none else .mk (if k = 2 ∧ l.length = 2 then 2 else 0) (if k = 2 ∧ l.length = 2 then [] else s) 0 (noneTs l)
def noneTs : List Typ → List Typ
  | [] => []
  | x :: l => noneT x :: noneTs l
end
theorem noneTs_map : ∀ l : List Typ, noneTs l = l.map noneT
  | [] => by simp [noneTs]
  | x :: l => by rw [noneTs, noneTs_map l, List.map_cons]
theorem noneT_eq (p : Typ) : noneT p = if p.k = 1 then .none else .mk (if arrowT p = true then 2 else 0) (if arrowT p = true then [] else p.name) 0 (p.l.map noneT) := by
  cases p
  rw [noneT, noneTs_map]
  simp only [Typ.k, Typ.l, Typ.name, arrowT, Bool.and_eq_true, beq_iff_eq]
end Go.Lamb
namespace Go.Lamb
open Go Go.RowKit

mutual
def tyAtomQ : Nat → List Tok → Nat → Nat → List Str → Option TyO
  | 0, _, _, _, _ => none
  | f + 1, t, depth, i, vs =>
    if (tokL t i).kind = 1 then some ⟨.con (tokL t i).text, (i + 1 : Nat), vs, 0, 0⟩
    else if (tokL t i).kind = 2 then some ⟨.var (vnum vs (tokL t i).text), (i + 1 : Nat), vadd vs (tokL t i).text, 0, 0⟩
    else if (tokL t i).kind = 5 then
      if 200 ≤ depth then some ⟨.none, (i + 1 : Nat), vs, 31, (tokL t i).pos⟩
      else match tyTypeQ f t (depth + 1) (i + 1) vs with
        | none => none
        | some o => some (closeO t o)
    else some ⟨.none, (i : Nat), vs, 50, (tokL t i).pos⟩
def tyArgsQ : Nat → List Tok → Nat → TyO → Option TyO
  | 0, _, _, _ => none
  | f + 1, t, depth, o =>
    if o.e = 0 ∧ tyBegins (tokI t o.j) = true then
      match tyAtomQ f t depth o.j.toNat o.ws with
      | none => none
      | some a => tyArgsQ f t depth ⟨o.u.put a.u, a.j, a.ws, a.e, a.p⟩
    else some o
def tyTailQ : Nat → List Tok → Nat → TyO → Option TyO
  | 0, _, _, _ => none
  | f + 1, t, depth, o =>
    if o.e = 0 ∧ (tokI t o.j).kind = 4 ∧ (tokI t o.j).text = [45, 62] then
      if 200 ≤ depth then some ⟨.none, o.j, o.ws, 31, (tokI t o.j).pos⟩
      else match tyTypeQ f t (depth + 1) (o.j + 1).toNat o.ws with
        | none => none
        | some y => some ⟨.arr o.u y.u, y.j, y.ws, y.e, y.p⟩
    else some o
def tyTypeQ : Nat → List Tok → Nat → Nat → List Str → Option TyO
  | 0, _, _, _, _ => none
  | f + 1, t, depth, i, vs => match tyAtomQ f t depth i vs with
    | none => none
    | some o => match (if (tokL t i).kind = 1 then tyArgsQ f t depth o else some o) with
      | none => none
      | some o2 => tyTailQ f t depth o2
end
end Go.Lamb
namespace Go.Lamb
open Go Go.RowKit

def inI (n : Int) : Prop := -9223372036854775808 ≤ n ∧ n ≤ 9223372036854775807
inductive OkT : Typ → Prop where
  | mk {k : Int} {s : Str} {n : Int} {l : List Typ} (hk : inI k) (hn : inI n) (h : ∀ x ∈ l, OkT x) : OkT (.mk k s n l)
instance (n : Int) : Decidable (inI n) := inferInstanceAs (Decidable (_ ∧ _))
theorem OkT.n {p : Typ} (h : OkT p) : inI p.n := by cases h; assumption
theorem OkT.k {p : Typ} (h : OkT p) : inI p.k := by cases h; assumption
theorem OkT.mem {p x : Typ} (h : OkT p) (hx : x ∈ p.l) : OkT x := by
  cases h with
  | mk _ _ h => exact h x hx
theorem lens_mem {y : Str} : ∀ {r : List Str}, y ∈ r → y.length ≤ Lib.lens r
  | [], h => by simp at h
  | x :: r, h => by
    have e : Lib.lens (x :: r) = x.length + Lib.lens r := by simp [Lib.lens]
    rw [e]
    rcases List.mem_cons.1 h with rfl | h
    · omega
    · have := lens_mem h; omega
theorem join_len (a : Str) (r : List Str) : (Lib.join (a :: r) [32]).length = a.length + (r.length + Lib.lens r) := by
  rw [Lib.join_cons, List.length_append, Lib.joinTail_length]
  simp
theorem putL_len (s : Str) (b : Bool) : s.length ≤ (putL s b).length ∧ (putL s b).length ≤ s.length + 2 := by
  unfold putL
  split <;> simp
  omega
theorem text_var {p : Typ} (h : p.k = 1) : textT p = if p.n < 0 then [63] else varL p.n := by rw [textT_eq, if_pos h]
theorem text_arr {p a b : Typ} (hA : arrowT p = true) (hl : p.l = [a, b]) : textT p = putL (textT a) (arrowT a) ++ ([32, 45, 62, 32] ++ textT b) := by
  have hA' := hA
  simp only [arrowT, Bool.and_eq_true, beq_iff_eq] at hA'
  rw [textT_eq, if_neg (by rw [hA'.1]; decide), if_pos hA', hl, textA_two]
theorem text_con {p : Typ} (hk : p.k ≠ 1) (hA : arrowT p = false) : textT p = Lib.join (p.name :: p.l.map fun x => putL (textT x) (manyT x)) [32] := by
  rw [textT_eq, if_neg hk, if_neg]
  intro h
  rw [arrowT, h.1, h.2] at hA
  cases hA
theorem text_con_len {p : Typ} (hk : p.k ≠ 1) (hA : arrowT p = false) : p.name.length + p.l.length ≤ (textT p).length ∧ ∀ x ∈ p.l, (putL (textT x) (manyT x)).length ≤ (textT p).length ∧ (textT x).length ≤ (textT p).length := by
  rw [text_con hk hA, join_len, List.length_map]
  refine ⟨by omega, fun x hx => ?_⟩
  have h1 := lens_mem (List.mem_map_of_mem (f := fun x => putL (textT x) (manyT x)) hx)
  have h2 := (putL_len (textT x) (manyT x)).1
  try simp only at h1
  omega
theorem text_arr_len {p a b : Typ} (hA : arrowT p = true) (hl : p.l = [a, b]) : (putL (textT a) (arrowT a)).length + (textT b).length + 4 = (textT p).length ∧ (textT a).length ≤ (textT p).length := by
  rw [text_arr hA hl]
  have := (putL_len (textT a) (arrowT a)).1
  simp only [List.length_append, List.length_cons, List.length_nil]
  omega
end Go.Lamb
namespace Go.Lamb
open Go Go.RowKit

mutual
def nodesT : Typ → Nat
  | .mk _ _ _ l => 1 + nodesTs l
def nodesTs : List Typ → Nat
  | [] => 0
  | x :: l => nodesT x + nodesTs l
end
theorem nodesT_eq (p : Typ) : nodesT p = 1 + nodesTs p.l := by cases p; rw [nodesT]; rfl
theorem nodesT_pos (p : Typ) : 1 ≤ nodesT p := by rw [nodesT_eq]; omega
theorem nodes_mem {x : Typ} : ∀ {l : List Typ}, x ∈ l → nodesT x ≤ nodesTs l
  | [], h => by simp at h
  | y :: l, h => by
    rw [nodesTs]
    rcases List.mem_cons.1 h with rfl | h
    · omega
    · have := nodes_mem h; omega
theorem nodes_of {p x : Typ} (h : x ∈ p.l) : nodesT x < nodesT p := by rw [nodesT_eq p]; have := nodes_mem h; omega
theorem len_nodes : ∀ l : List Typ, l.length ≤ nodesTs l
  | [] => by simp
  | x :: l => by rw [nodesTs, List.length_cons]; have := len_nodes l; have := nodesT_pos x; omega
mutual
theorem left_nodes : ∀ (p : Typ) (n : Int), 0 ≤ leftT p n → leftT p n = n - (nodesT p : Nat)
  | .mk _ _ _ l, n, h => by
    rw [leftT] at h ⊢
    rw [lefts_nodes l (n - 1) h, nodesT]
    omega
theorem lefts_nodes : ∀ (l : List Typ) (n : Int), 0 ≤ leftTs l n → leftTs l n = n - (nodesTs l : Nat)
  | [], n, h => by rw [leftTs, nodesTs]; omega
  | x :: l, n, h => by
    rw [leftTs] at h ⊢
    split at h
    · rename_i h0
      rw [if_pos h0]
      have h1 := lefts_nodes l _ h
      have h3 := left_nodes x n (by omega)
      rw [nodesTs]
      omega
    · omega
end
theorem small_of {p : Typ} {n : Int} (hn : 0 ≤ n) (h : decide (leftT p n < 0) = false) : (nodesT p : Int) ≤ n := by
  simp only [decide_eq_false_iff_not, Int.not_lt] at h
  have := left_nodes p n h
  omega
mutual
theorem depth_nodes : ∀ p : Typ, depthT p ≤ nodesT p
  | .mk _ _ _ l => by rw [depthT, nodesT]; have := depths_nodes l; omega
theorem depths_nodes : ∀ l : List Typ, depthTs l ≤ nodesTs l
  | [] => by simp [depthTs]
  | x :: l => by rw [depthTs, nodesTs]; have := depth_nodes x; have := depths_nodes l; omega
end
mutual
theorem size_nodes : ∀ p : Typ, sizeT p ≤ nodesT p
  | .mk k _ _ l => by rw [sizeT, nodesT]; have := sizes_nodes l; split <;> omega
theorem sizes_nodes : ∀ l : List Typ, sizeTs l ≤ nodesTs l
  | [] => by simp [sizeTs]
  | x :: l => by rw [sizeTs, nodesTs]; have := size_nodes x; have := sizes_nodes l; omega
end
mutual
/-- Has it a name that is too long? -/
def longT : Typ → Bool
  | .mk _ s _ l => decide ((s.length : Int) > 60) || longTs l
def longTs : List Typ → Bool
  | [] => false
  | x :: l => longT x || longTs l
end
theorem longTs_any : ∀ l : List Typ, longTs l = l.any longT
  | [] => by simp [longTs]
  | x :: l => by rw [longTs, List.any_cons, longTs_any l]
theorem longT_eq (p : Typ) : longT p = (decide ((p.name.length : Int) > 60) || p.l.any longT) := by
  cases p
  rw [longT, longTs_any]
  rfl
theorem long_name {p : Typ} (h : longT p = false) : p.name.length ≤ 60 := by
  rw [longT_eq, Bool.or_eq_false_iff] at h
  have := h.1
  simp only [decide_eq_false_iff_not] at this
  omega
theorem long_mem {p x : Typ} (h : longT p = false) (hx : x ∈ p.l) : longT x = false := by
  rw [longT_eq, Bool.or_eq_false_iff] at h
  have := List.any_eq_false.1 h.2 x hx
  simpa using this
theorem text_le (p : Typ) : OkT p → longT p = false → (textT p).length + 10 ≤ 100 * nodesT p := by
  induction p using Typ.ind with
  | h p ih =>
    intro hO hl
    have hp := nodesT_pos p
    by_cases hk : p.k = 1
    · rw [text_var hk]
      split
      · simp only [List.length_cons, List.length_nil]; omega
      · rename_i h0
        unfold varL
        rw [List.length_cons]
        split
        · have hn := hO.n
          unfold inI at hn
          have := Lib.itoa_length_le (p.n / 26) (by omega) (by omega)
          omega
        · simp only [List.length_nil]; omega
    · cases hA : arrowT p
      · rw [text_con hk hA, join_len, List.length_map, nodesT_eq]
        have key : ∀ l : List Typ, (∀ x ∈ l, x ∈ p.l) → l.length + Lib.lens (l.map fun x => putL (textT x) (manyT x)) ≤ 100 * nodesTs l := by
          intro l
          induction l with
          | nil => intro _; simp [Lib.lens]
          | cons x l ihl =>
            intro hs
            have hxm := hs x (List.mem_cons_self ..)
            have h1 := ih x hxm (hO.mem hxm) (long_mem hl hxm)
            have h2 := ihl (fun y hy => hs y (List.mem_cons_of_mem _ hy))
            have h3 := (putL_len (textT x) (manyT x)).2
            have e : Lib.lens ((x :: l).map fun x => putL (textT x) (manyT x)) = (putL (textT x) (manyT x)).length + Lib.lens (l.map fun x => putL (textT x) (manyT x)) := by simp [Lib.lens]
            rw [e, nodesTs, List.length_cons]
            omega
        have h1 := key p.l (fun x hx => hx)
        have h2 := long_name hl
        omega
      · obtain ⟨a, b, hab⟩ := arrow_parts hA
        have ha : a ∈ p.l := by rw [hab]; simp
        have hb : b ∈ p.l := by rw [hab]; simp
        obtain ⟨h1, _⟩ := text_arr_len hA hab
        have h2 := ih a ha (hO.mem ha) (long_mem hl ha)
        have h3 := ih b hb (hO.mem hb) (long_mem hl hb)
        have h4 := (putL_len (textT a) (arrowT a)).2
        have h5 : nodesT p = 1 + (nodesT a + (nodesT b + 0)) := by rw [nodesT_eq, hab, nodesTs, nodesTs, nodesTs]
        omega
end Go.Lamb
namespace Go.Lamb
open Go Go.RowKit

section
variable {α : Type} (g : α → Int → Typ × α)
mutual
def subS : α → Typ → Typ × α
  | s, .mk k nm n l => if k = 1 then g s n else (.mk (if k = 2 ∧ l.length = 2 then 2 else 0) (if k = 2 ∧ l.length = 2 then [] else nm) 0 (subSs s l).1, (subSs s l).2)
def subSs : α → List Typ → List Typ × α
  | s, [] => ([], s)
  | s, x :: l => ((subS s x).1 :: (subSs (subS s x).2 l).1, (subSs (subS s x).2 l).2)
end
theorem subS_eq (s : α) (p : Typ) : subS g s p = if p.k = 1 then g s p.n else (.mk (if arrowT p = true then 2 else 0) (if arrowT p = true then [] else p.name) 0 (subSs g s p.l).1, (subSs g s p.l).2) := by
  cases p
  rw [subS]
  simp only [Typ.k, Typ.l, Typ.name, Typ.n, arrowT, Bool.and_eq_true, beq_iff_eq]
theorem subSs_add : ∀ (l r : List Typ) (s : α), subSs g s (l ++ r) = ((subSs g s l).1 ++ (subSs g (subSs g s l).2 r).1, (subSs g (subSs g s l).2 r).2)
  | [], r, s => by simp [subSs]
  | x :: l, r, s => by rw [List.cons_append, subSs, subSs, subSs_add l r]; rfl
theorem subSs_len : ∀ (l : List Typ) (s : α), (subSs g s l).1.length = l.length
  | [], s => by simp [subSs]
  | x :: l, s => by rw [subSs, List.length_cons, List.length_cons, subSs_len l]
theorem subSs_take (s : α) {l : List Typ} {i : Nat} (h : i < l.length) : subSs g s (l.take (i + 1)) = ((subSs g s (l.take i)).1 ++ [(subS g (subSs g s (l.take i)).2 l[i]).1], (subS g (subSs g s (l.take i)).2 l[i]).2) := by
  rw [List.take_succ_eq_append_getElem h, subSs_add, subSs, subSs]
end
/-- A variable's new number, and the old ones that have been met. -/
def inum (vs : List Int) (v : Int) : Nat := (vs.findIdx? (· == v)).getD vs.length
def iadd (vs : List Int) (v : Int) : List Int := if (vs.findIdx? (· == v)).isSome then vs else vs ++ [v]
def normG : List Int → Int → Typ × List Int := fun vs v => (.var (inum vs v), iadd vs v)
def normT (p : Typ) : Typ := (subS normG [] p).1
theorem inum_cases (vs : List Int) (v : Int) : (inum vs v = vs.length ∧ iadd vs v = vs ++ [v] ∧ ∀ j (hj : j < vs.length), (vs[j] == v) = false) ∨ (∃ hk : inum vs v < vs.length, iadd vs v = vs ∧ vs[inum vs v] = v ∧ ∀ j (hj : j < vs.length), j < inum vs v → (vs[j] == v) = false) := by
  unfold inum iadd
  cases h : vs.findIdx? (· == v) with
  | none =>
    left
    rw [List.findIdx?_eq_none_iff] at h
    exact ⟨rfl, rfl, fun j hj => h _ (List.getElem_mem hj)⟩
  | some k =>
    right
    obtain ⟨hk, h1, h2⟩ := List.findIdx?_eq_some_iff_getElem.1 h
    exact ⟨hk, rfl, by simpa using h1, fun j hj hjk => by simpa using h2 j hjk⟩
end Go.Lamb
namespace Go.Lamb
open Go Go.RowKit

end Go.Lamb
namespace Go.Lamb
open Go Go.RowKit

abbrev Key := Int × Str × Int
/-- It is lexed as these, whatever its place. -/
def LX (u : Str) (ks : List Key) : Prop := ∀ N, (lexAt N (skipL false u)).err = 0 ∧ (lexAt N (skipL false u)).toks.map Tok.key = ks
theorem lx_nil : LX [] [(0, [], 0)] := fun N => by
  have : skipL false [] = [] := rfl
  rw [this, lexAt_nil]
  exact ⟨rfl, rfl⟩
theorem lx_blank {u : Str} {ks : List Key} (h : LX u ks) : LX (32 :: u) ks := fun N => by rw [skip_blank]; exact h N
/-- One token, and what is behind it. -/
theorem lx_one {w r : Str} {kind : Int} {text : Str} {ks : List Key} (hs : skipL false (w ++ r) = w ++ r) (h1 : oneL (w ++ r) = ⟨kind, text, 0, w.length, 0⟩) (hk : kind ≠ 0) (h : LX r ks) : LX (w ++ r) ((kind, text, 0) :: ks) := fun N => by
  obtain ⟨i1, i2⟩ := h N
  rw [hs, lexAt_eq, h1]
  have hd : (w ++ r).drop w.length = r := List.drop_left
  simp only [ne_eq, not_true, if_false, hk, hd]
  unfold LexR.cons
  rw [if_pos i1]
  refine ⟨rfl, ?_⟩
  rw [List.map_cons, i2]
  simp [tokAt, h1, Tok.key]
theorem small_not {c : UInt8} (h : smallB c = true) : blanks.contains c = false ∧ (c == 37) = false ∧ markN c = 0 ∧ digitB c = false := by
  simp only [smallB, Bool.and_eq_true, decide_eq_true_eq] at h
  have hne : ∀ k : Nat, k < 97 → (c.toNat : Int) ≠ (k : Int) := fun k hk => by omega
  refine ⟨?_, ?_, ?_, ?_⟩
  · simp only [blanks, List.contains_cons, List.contains_nil, Bool.or_false, Bool.or_eq_false_iff, beq_eq_false_iff_ne, ne_eq]
    refine ⟨fun e => ?_, fun e => ?_, fun e => ?_, fun e => ?_⟩ <;> (rw [e] at h; revert h; decide)
  · simp only [beq_eq_false_iff_ne, ne_eq]
    intro e; rw [e] at h; revert h; decide
  · unfold markN
    have h0 := hne 40 (by decide); have h1 := hne 41 (by decide); have h2 := hne 46 (by decide); have h3 := hne 92 (by decide)
    simp only [beq_iff_eq]
    rw [if_neg (by simpa using h0), if_neg (by simpa using h1), if_neg (by simpa using h2), if_neg (by simpa using h3)]
  · simp only [digitB, Bool.and_eq_false_iff, decide_eq_false_iff_not]
    right; omega
theorem great_not {c : UInt8} (h : greatB c = true) : blanks.contains c = false ∧ (c == 37) = false ∧ markN c = 0 ∧ digitB c = false ∧ smallB c = false := by
  simp only [greatB, Bool.or_eq_true, Bool.and_eq_true, decide_eq_true_eq] at h
  have hne : ∀ k : Nat, k < 65 ∨ k = 92 → (c.toNat : Int) ≠ (k : Int) := fun k hk => by omega
  refine ⟨?_, ?_, ?_, ?_, ?_⟩
  · simp only [blanks, List.contains_cons, List.contains_nil, Bool.or_false, Bool.or_eq_false_iff, beq_eq_false_iff_ne, ne_eq]
    refine ⟨fun e => ?_, fun e => ?_, fun e => ?_, fun e => ?_⟩ <;> (rw [e] at h; revert h; decide)
  · simp only [beq_eq_false_iff_ne, ne_eq]
    intro e; rw [e] at h; revert h; decide
  · unfold markN
    have h0 := hne 40 (by decide); have h1 := hne 41 (by decide); have h2 := hne 46 (by decide); have h3 := hne 92 (by decide)
    simp only [beq_iff_eq]
    rw [if_neg (by simpa using h0), if_neg (by simpa using h1), if_neg (by simpa using h2), if_neg (by simpa using h3)]
  · simp only [digitB, Bool.and_eq_false_iff, decide_eq_false_iff_not]
    right; omega
  · simp only [smallB, Bool.and_eq_false_iff, decide_eq_false_iff_not]
    left; omega
/-- No word goes on here. -/
def Dlm (r : Str) : Prop := ∀ c l, r = c :: l → insideB c = false
theorem run_dlm {r : Str} (h : Dlm r) : ∀ u : Str, u.all insideB = true → runLen insideB (u ++ r) = u.length
  | [], _ => by
    cases r with
    | nil => rfl
    | cons c l => simp [runLen, h c l rfl]
  | c :: u, hu => by
    rw [List.all_cons, Bool.and_eq_true] at hu
    simp only [List.cons_append, runLen, hu.1, if_true, run_dlm h u hu.2, List.length_cons]
theorem lx_name {w r : Str} {ks : List Key} (hw : isNameB w = true) (hr : Dlm r) (h : LX r ks) : LX (w ++ r) ((1, w, 0) :: ks) := by
  simp only [isNameB, Bool.and_eq_true, fitsB, decide_eq_true_eq] at hw
  obtain ⟨⟨⟨h1, h2⟩, h3⟩, h4⟩ := hw
  cases w with
  | nil => exact absurd rfl h1
  | cons c u =>
    have h3' : smallB c = true := h3
    obtain ⟨q1, q2, q3, q4⟩ := small_not h3'
    have hrun := run_dlm hr (c :: u) h4
    refine lx_one ?_ ?_ (by decide) h
    · simp only [List.cons_append, skipL, q1, q2, Bool.false_eq_true, if_false]
    · simp only [List.cons_append, oneL, q3, q4, h3', Bool.false_eq_true, if_false, if_true, ne_eq, not_true]
      rw [List.cons_append] at hrun
      rw [hrun]
      unfold wordR
      rw [if_neg (by omega)]
      have : (c :: (u ++ r)).take (c :: u).length = c :: u := by
        rw [← List.cons_append]; exact List.take_left
      rw [this]
theorem lx_var {w r : Str} {ks : List Key} (hw : isVarB w = true) (hr : Dlm r) (h : LX r ks) : LX (w ++ r) ((2, w, 0) :: ks) := by
  simp only [isVarB, Bool.and_eq_true, fitsB, decide_eq_true_eq] at hw
  obtain ⟨⟨⟨h1, h2⟩, h3⟩, h4⟩ := hw
  cases w with
  | nil => exact absurd rfl h1
  | cons c u =>
    have h3' : greatB c = true := h3
    obtain ⟨q1, q2, q3, q4, q5⟩ := great_not h3'
    have hrun := run_dlm hr (c :: u) h4
    refine lx_one ?_ ?_ (by decide) h
    · simp only [List.cons_append, skipL, q1, q2, Bool.false_eq_true, if_false]
    · simp only [List.cons_append, oneL, q3, q4, q5, h3', Bool.false_eq_true, if_false, if_true, ne_eq, not_true]
      rw [List.cons_append] at hrun
      rw [hrun]
      unfold wordR
      rw [if_neg (by omega)]
      have : (c :: (u ++ r)).take (c :: u).length = c :: u := by
        rw [← List.cons_append]; exact List.take_left
      rw [this]
theorem lx_open {r : Str} {ks : List Key} (h : LX r ks) : LX (40 :: r) ((5, [], 0) :: ks) := lx_one (w := [40]) rfl rfl (by decide) h
theorem lx_close {r : Str} {ks : List Key} (h : LX r ks) : LX (41 :: r) ((6, [], 0) :: ks) := lx_one (w := [41]) rfl rfl (by decide) h
theorem lx_arrow {r : Str} {ks : List Key} (h : LX r ks) : LX (45 :: 62 :: 32 :: r) ((4, [45, 62], 0) :: ks) := lx_one (w := [45, 62]) rfl rfl (by decide) (lx_blank h)

/-! ### a variable's name -/
theorem letter {n : Int} : (UInt8.ofNat (65 + n % 26).toNat).toNat = (65 + n % 26).toNat := by
  rw [UInt8.toNat_ofNat']
  omega
theorem itoa_nat {n : Int} (h : 0 ≤ n) : Lib.itoa n = Lib.decDigits n.toNat := by
  unfold Lib.itoa
  rw [if_neg (by omega)]
theorem digit_in {c : UInt8} (h : digitB c = true) : insideB c = true := by simp [insideB, h]
theorem dec_len {u : Nat} (h : u < 10 ^ 19) : (Lib.decDigits u).length ≤ 19 := by
  have h1 := nDigits_le 18 u (by simpa using h)
  rw [Lib.decDigits_eq]
  simpa using h1
theorem varL_ok {n : Int} (h0 : 0 ≤ n) (h1 : n ≤ 4611686018427387904) : isVarB (varL n) = true := by
  have hg : greatB (UInt8.ofNat (65 + n % 26).toNat) = true := by
    simp only [greatB, letter, Bool.or_eq_true, Bool.and_eq_true, decide_eq_true_eq]
    left; omega
  have hi : insideB (UInt8.ofNat (65 + n % 26).toNat) = true := by simp [insideB, hg]
  unfold isVarB varL fitsB
  by_cases h : 0 < n / 26
  · rw [if_pos h, itoa_nat (by omega)]
    have h2 := dec_len (u := (n / 26).toNat) (by omega)
    have h3 := dec_all (n / 26).toNat
    have h4 : (Lib.decDigits (n / 26).toNat).all insideB = true := by
      rw [List.all_eq_true] at h3 ⊢
      exact fun x hx => digit_in (h3 x hx)
    simp only [List.all_cons, hi, h4, headB, hg, List.length_cons, Bool.and_true, Bool.and_eq_true, decide_eq_true_eq, ne_eq, reduceCtorEq, not_false_eq_true, true_and]
    omega
  · rw [if_neg h]
    simp [hi, headB, hg]
theorem varL_inj {n m : Int} (h0 : 0 ≤ n) (h0' : 0 ≤ m) (h : varL n = varL m) : n = m := by
  unfold varL at h
  injection h with e1 e2
  have e1 := congrArg UInt8.toNat e1
  rw [letter, letter] at e1
  have key : n / 26 = m / 26 := by
    by_cases hn : 0 < n / 26 <;> by_cases hm : 0 < m / 26
    · rw [if_pos hn, if_pos hm, itoa_nat (by omega), itoa_nat (by omega)] at e2
      have := congrArg decVal e2
      rw [dec_val, dec_val] at this
      omega
    · rw [if_pos hn, if_neg hm, itoa_nat (by omega)] at e2
      have h1 := congrArg decVal e2
      rw [dec_val] at h1
      have : decVal [] = 0 := rfl
      omega
    · rw [if_neg hn, if_pos hm, itoa_nat (by omega)] at e2
      have h1 := congrArg decVal e2
      rw [dec_val] at h1
      have : decVal [] = 0 := rfl
      omega
    · omega
  omega
/-! ### a type's tokens -/
def brK (ks : List Key) (b : Bool) : List Key := if b then (5, [], 0) :: (ks ++ [(6, [], 0)]) else ks
mutual
def keysT : Typ → List Key
  | .mk k s n l => if k = 1 then [(2, varL n, 0)] else if k = 2 ∧ l.length = 2 then keysA l else (1, s, 0) :: keysTs l
def keysTs : List Typ → List Key
  | [] => []
  | x :: l => brK (keysT x) (manyT x) ++ keysTs l
def keysA : List Typ → List Key
  | [] => []
  | x :: l => brK (keysT x) (arrowT x) ++ keysB l
def keysB : List Typ → List Key
  | [] => []
  | x :: _ => (4, [45, 62], 0) :: keysT x
end
theorem keys_var {p : Typ} (h : p.k = 1) : keysT p = [(2, varL p.n, 0)] := by
  cases p
  simp only [Typ.k] at h
  rw [keysT, if_pos h]
  rfl
theorem keys_arr {p a b : Typ} (hA : arrowT p = true) (hl : p.l = [a, b]) : keysT p = brK (keysT a) (arrowT a) ++ (4, [45, 62], 0) :: keysT b := by
  simp only [arrowT, Bool.and_eq_true, beq_iff_eq] at hA
  cases p with
  | mk k s n l =>
    simp only [Typ.k, Typ.l] at hA hl
    rw [keysT, if_neg (by omega), if_pos hA, hl, keysA, keysB]
theorem keys_con {p : Typ} (hk : p.k ≠ 1) (hA : arrowT p = false) : keysT p = (1, p.name, 0) :: keysTs p.l := by
  cases p with
  | mk k s n l =>
    simp only [Typ.k] at hk
    rw [keysT, if_neg hk, if_neg]
    · rfl
    · intro h
      rw [arrowT] at hA
      simp only [Typ.k, Typ.l] at hA
      rw [h.1, h.2] at hA
      cases hA
theorem dlm_nil : Dlm [] := fun c l h => by cases h
theorem dlm_32 (r : Str) : Dlm (32 :: r) := fun c l h => by injection h with h _; subst h; rfl
theorem dlm_41 (r : Str) : Dlm (41 :: r) := fun c l h => by injection h with h _; subst h; rfl
theorem lx_put {s : Str} {ks : List Key} {b : Bool} (h : ∀ r rs, Dlm r → LX r rs → LX (s ++ r) (ks ++ rs)) {r : Str} {rs : List Key} (hr : Dlm r) (hx : LX r rs) : LX (putL s b ++ r) (brK ks b ++ rs) := by
  unfold putL brK
  cases b
  · exact h r rs hr hx
  · simp only [if_true, List.cons_append, List.append_assoc, List.nil_append]
    exact lx_open (h _ _ (dlm_41 r) (lx_close hx))
theorem valid_mem {p x : Typ} (h : validT p = true) (hx : x ∈ p.l) : validT x = true := by
  rw [validT_eq, Bool.and_eq_true] at h
  exact List.all_eq_true.1 h.2 x hx
theorem valid_var {p : Typ} (h : validT p = true) (hk : p.k = 1) : p.name = [] ∧ 0 ≤ p.n ∧ p.n ≤ 4611686018427387904 ∧ p.l = [] := by
  rw [validT_eq, Bool.and_eq_true] at h
  have h1 := h.1
  unfold nodeT at h1
  rw [if_neg (by omega), if_pos hk] at h1
  simp only [Bool.and_eq_true, beq_iff_eq, decide_eq_true_eq] at h1
  exact ⟨h1.1.1.1, h1.1.1.2, h1.1.2, List.eq_nil_of_length_eq_zero h1.2⟩
theorem valid_con {p : Typ} (h : validT p = true) (hk : p.k ≠ 1) (hA : arrowT p = false) : p.k = 0 ∧ isNameB p.name = true ∧ p.n = 0 := by
  rw [validT_eq, Bool.and_eq_true] at h
  have h1 := h.1
  unfold nodeT at h1
  by_cases h0 : p.k = 0
  · rw [if_pos h0] at h1
    simp only [Bool.and_eq_true, beq_iff_eq] at h1
    exact ⟨h0, h1.1, h1.2⟩
  · rw [if_neg h0, if_neg hk] at h1
    by_cases h2 : p.k = 2
    · rw [if_pos h2] at h1
      simp only [Bool.and_eq_true, beq_iff_eq] at h1
      rw [arrowT, h2, h1.2] at hA
      cases hA
    · rw [if_neg h2] at h1; cases h1
theorem lx_type (p : Typ) : validT p = true → ∀ r rs, Dlm r → LX r rs → LX (textT p ++ r) (keysT p ++ rs) := by
  induction p using Typ.ind with
  | h p ih =>
    intro hv r rs hr hx
    by_cases hk : p.k = 1
    · obtain ⟨_, h0, h1, _⟩ := valid_var hv hk
      rw [text_var hk, if_neg (by omega), keys_var hk]
      exact lx_var (varL_ok h0 h1) hr hx
    · cases hA : arrowT p
      · obtain ⟨_, hn, _⟩ := valid_con hv hk hA
        rw [text_con hk hA, keys_con hk hA, Lib.join_cons, List.append_assoc, List.cons_append]
        have key : ∀ l : List Typ, (∀ x ∈ l, x ∈ p.l) → LX (Lib.joinTail [32] (l.map fun x => putL (textT x) (manyT x)) ++ r) (keysTs l ++ rs) ∧ Dlm (Lib.joinTail [32] (l.map fun x => putL (textT x) (manyT x)) ++ r) := by
          intro l
          induction l with
          | nil => intro _; rw [keysTs]; exact ⟨hx, hr⟩
          | cons x l ihl =>
            intro hs
            obtain ⟨i1, i2⟩ := ihl (fun y hy => hs y (List.mem_cons_of_mem _ hy))
            have hxm := hs x (List.mem_cons_self ..)
            have e : Lib.joinTail [32] ((x :: l).map fun x => putL (textT x) (manyT x)) ++ r = 32 :: (putL (textT x) (manyT x) ++ (Lib.joinTail [32] (l.map fun x => putL (textT x) (manyT x)) ++ r)) := by
              simp [Lib.joinTail]
            rw [e, keysTs, List.append_assoc]
            exact ⟨lx_blank (lx_put (ih x hxm (valid_mem hv hxm)) i2 i1), dlm_32 _⟩
        obtain ⟨i1, i2⟩ := key p.l (fun x hx => hx)
        exact lx_name hn i2 i1
      · obtain ⟨a, b, hl⟩ := arrow_parts hA
        have ha : a ∈ p.l := by rw [hl]; simp
        have hb : b ∈ p.l := by rw [hl]; simp
        rw [text_arr hA hl, keys_arr hA hl]
        simp only [List.append_assoc, List.cons_append, List.nil_append]
        show LX (putL (textT a) (arrowT a) ++ 32 :: (45 :: 62 :: 32 :: (textT b ++ r))) (brK (keysT a) (arrowT a) ++ (4, [45, 62], 0) :: (keysT b ++ rs))
        refine lx_put (ih a ha (valid_mem hv ha)) (dlm_32 _) ?_
        exact lx_blank (lx_arrow (ih b hb (valid_mem hv hb) r rs hr hx))
theorem lex_type {p : Typ} (hv : validT p = true) (hl : (textT p).length ≤ 65536) : (lexL (textT p)).err = 0 ∧ (lexL (textT p)).toks.map Tok.key = keysT p ++ [(0, [], 0)] := by
  have h := lx_type p hv [] [(0, [], 0)] dlm_nil lx_nil
  rw [List.append_nil] at h
  unfold lexL
  rw [if_neg (by omega)]
  exact h _
end Go.Lamb
namespace Go.Lamb
open Go Go.RowKit

/-! ### names and numbers -/
theorem find_names (n : Int) (hn : 0 ≤ n) : ∀ ms : List Int, (∀ m ∈ ms, 0 ≤ m) → (ms.map varL).findIdx? (· == varL n) = ms.findIdx? (· == n)
  | [], _ => rfl
  | x :: ms, h => by
    rw [List.map_cons, List.findIdx?_cons, List.findIdx?_cons, find_names n hn ms (fun m hm => h m (List.mem_cons_of_mem _ hm))]
    have : (varL x == varL n) = (x == n) := by
      rw [Bool.eq_iff_iff, beq_iff_eq, beq_iff_eq]
      exact ⟨fun e => varL_inj (h x (List.mem_cons_self ..)) hn e, fun e => by rw [e]⟩
    rw [this]
theorem vnum_is {n : Int} (hn : 0 ≤ n) {ms : List Int} (h : ∀ m ∈ ms, 0 ≤ m) : vnum (ms.map varL) (varL n) = inum ms n ∧ vadd (ms.map varL) (varL n) = (iadd ms n).map varL := by
  unfold vnum vadd inum iadd
  rw [find_names n hn ms h, List.length_map]
  refine ⟨rfl, ?_⟩
  split
  · rfl
  · simp
theorem iadd_nn {n : Int} (hn : 0 ≤ n) {ms : List Int} (h : ∀ m ∈ ms, 0 ≤ m) : ∀ m ∈ iadd ms n, 0 ≤ m := fun m hm => by
  unfold iadd at hm
  split at hm
  · exact h m hm
  · rcases List.mem_append.1 hm with hm | hm
    · exact h m hm
    · simp only [List.mem_singleton] at hm; subst hm; exact hn
theorem norm_nn (p : Typ) : validT p = true → ∀ ms : List Int, (∀ m ∈ ms, 0 ≤ m) → ∀ m ∈ (subS normG ms p).2, 0 ≤ m := by
  induction p using Typ.ind with
  | h p ih =>
    intro hv ms h
    rw [subS_eq]
    by_cases hk : p.k = 1
    · rw [if_pos hk]
      exact iadd_nn (valid_var hv hk).2.1 h
    · rw [if_neg hk]
      have key : ∀ l : List Typ, (∀ x ∈ l, x ∈ p.l) → ∀ ms : List Int, (∀ m ∈ ms, 0 ≤ m) → ∀ m ∈ (subSs normG ms l).2, 0 ≤ m := by
        intro l
        induction l with
        | nil => intro _ ms h; rw [subSs]; exact h
        | cons x l ihl =>
          intro hs ms h
          rw [subSs]
          have hx := hs x (List.mem_cons_self ..)
          exact ihl (fun y hy => hs y (List.mem_cons_of_mem _ hy)) _ (ih x hx (valid_mem hv hx) ms h)
      exact key p.l (fun x hx => hx) ms h
/-! ### places -/
theorem tokL_here {t : List Tok} {i : Nat} (h : i < t.length) : tokL t i = t[i] := by rw [tokL, List.getElem?_eq_getElem h]; rfl
def KAt (t : List Tok) (i : Nat) (ks : List Key) : Prop := (t.drop i).map Tok.key = ks
theorem KAt.cons {t : List Tok} {i : Nat} {k : Key} {ks : List Key} (h : KAt t i (k :: ks)) : (tokL t i).key = k ∧ i < t.length ∧ KAt t (i + 1) ks := by
  unfold KAt at h ⊢
  have hl : i < t.length := by
    rcases Nat.lt_or_ge i t.length with h' | h'
    · exact h'
    · rw [List.drop_eq_nil_of_le h'] at h; cases h
  rw [List.drop_eq_getElem_cons hl, List.map_cons] at h
  injection h with h1 h2
  rw [tokL_here hl]
  exact ⟨h1, hl, h2⟩
theorem KAt.app {t : List Tok} : ∀ {ks : List Key} {i : Nat} {rest : List Key}, KAt t i (ks ++ rest) → KAt t (i + ks.length) rest
  | [], i, rest, h => h
  | k :: ks, i, rest, h => by
    have h1 := (KAt.cons (ks := ks ++ rest) h).2.2.app
    rw [List.length_cons]
    rwa [show i + (ks.length + 1) = i + 1 + ks.length by omega]
theorem KAt.of {t : List Tok} {ks : List Key} (h : t.map Tok.key = ks) : KAt t 0 ks := h
theorem key_kind {x : Tok} {k : Key} (h : x.key = k) : x.kind = k.1 ∧ x.text = k.2.1 := by subst h; exact ⟨rfl, rfl⟩
/-! ### how types are read, without fuel -/
section
variable (t : List Tok)
def AtomR (d i : Nat) (vs : List Str) (u : Typ) (j : Nat) (ws : List Str) : Prop := ∃ f, tyAtomF f t d i vs = some (.ok (u, j, ws))
def ArgsR (d i : Nat) (vs : List Str) (u v : Typ) (j : Nat) (ws : List Str) : Prop := ∃ f, tyArgsF f t d i vs u = some (.ok (v, j, ws))
def TailR (d i : Nat) (vs : List Str) (u v : Typ) (j : Nat) (ws : List Str) : Prop := ∃ f, tyTailF f t d i vs u = some (.ok (v, j, ws))
def TypeR (d i : Nat) (vs : List Str) (u : Typ) (j : Nat) (ws : List Str) : Prop := ∃ f, tyTypeF f t d i vs = some (.ok (u, j, ws))
end
section
variable {t : List Tok} {d i j k : Nat} {vs ws xs : List Str} {u v a : Typ}
theorem atom_le {f g : Nat} (h : f ≤ g) {r : TyR} (hf : tyAtomF f t d i vs = some r) : tyAtomF g t d i vs = some r := by
  induction h with
  | refl => exact hf
  | step _ ih => exact (ty_more _).1 _ _ _ _ _ ih
theorem args_le {f g : Nat} (h : f ≤ g) {r : TyR} (hf : tyArgsF f t d i vs u = some r) : tyArgsF g t d i vs u = some r := by
  induction h with
  | refl => exact hf
  | step _ ih => exact (ty_more _).2.1 _ _ _ _ _ _ ih
theorem tail_le {f g : Nat} (h : f ≤ g) {r : TyR} (hf : tyTailF f t d i vs u = some r) : tyTailF g t d i vs u = some r := by
  induction h with
  | refl => exact hf
  | step _ ih => exact (ty_more _).2.2.1 _ _ _ _ _ _ ih
theorem typeR_name (hk : (tokL t i).kind = 1) (h1 : AtomR t d i vs a j ws) (h2 : ArgsR t d j ws a u k xs) {m : Nat} {ys : List Str} (h3 : TailR t d k xs u v m ys) : TypeR t d i vs v m ys := by
  obtain ⟨f1, h1⟩ := h1
  obtain ⟨f2, h2⟩ := h2
  obtain ⟨f3, h3⟩ := h3
  refine ⟨f1 + f2 + f3 + 1, ?_⟩
  rw [tyTypeF, atom_le (g := f1 + f2 + f3) (by omega) h1]
  simp only [if_pos hk]
  rw [args_le (g := f1 + f2 + f3) (by omega) h2]
  exact tail_le (g := f1 + f2 + f3) (by omega) h3
theorem typeR_other (hk : (tokL t i).kind ≠ 1) (h1 : AtomR t d i vs u j ws) {m : Nat} {ys : List Str} (h3 : TailR t d j ws u v m ys) : TypeR t d i vs v m ys := by
  obtain ⟨f1, h1⟩ := h1
  obtain ⟨f3, h3⟩ := h3
  refine ⟨f1 + f3 + 1, ?_⟩
  rw [tyTypeF, atom_le (g := f1 + f3) (by omega) h1]
  simp only [if_neg hk]
  exact tail_le (g := f1 + f3) (by omega) h3
theorem argsR_stop (h : tyBegins (tokL t i) = false) : ArgsR t d i vs u u i vs := ⟨1, by rw [tyArgsF, if_pos h]⟩
theorem argsR_step (h : tyBegins (tokL t i) = true) (h1 : AtomR t d i vs a j ws) (h2 : ArgsR t d j ws (u.put a) v k xs) : ArgsR t d i vs u v k xs := by
  obtain ⟨f1, h1⟩ := h1
  obtain ⟨f2, h2⟩ := h2
  refine ⟨f1 + f2 + 1, ?_⟩
  rw [tyArgsF, if_neg (by rw [h]; decide), atom_le (g := f1 + f2) (by omega) h1]
  exact args_le (g := f1 + f2) (by omega) h2
theorem tailR_stop (h : ¬ ((tokL t i).kind = 4 ∧ (tokL t i).text = [45, 62])) : TailR t d i vs u u i vs := ⟨1, by rw [tyTailF, if_neg h]⟩
theorem tailR_arrow (h : (tokL t i).kind = 4 ∧ (tokL t i).text = [45, 62]) (hd : d < 200) (h1 : TypeR t (d + 1) (i + 1) vs v j ws) : TailR t d i vs u (.arr u v) j ws := by
  obtain ⟨f, h1⟩ := h1
  exact ⟨f + 1, by rw [tyTailF, if_pos h, if_neg (by omega), h1]⟩
theorem atomR_name (h : (tokL t i).kind = 1) : AtomR t d i vs (.con (tokL t i).text) (i + 1) vs := ⟨1, by rw [tyAtomF, if_pos h]⟩
theorem atomR_var (h : (tokL t i).kind = 2) : AtomR t d i vs (.var (vnum vs (tokL t i).text)) (i + 1) (vadd vs (tokL t i).text) := ⟨1, by rw [tyAtomF, if_neg (by omega), if_pos h]⟩
theorem atomR_open (h : (tokL t i).kind = 5) (hd : d < 200) (h1 : TypeR t (d + 1) (i + 1) vs u j ws) (h6 : (tokL t j).kind = 6) : AtomR t d i vs u (j + 1) ws := by
  obtain ⟨f, h1⟩ := h1
  exact ⟨f + 1, by rw [tyAtomF, if_neg (by omega), if_neg (by omega), if_pos h, if_neg (by omega), h1]; simp only [if_pos h6]⟩
end
/-! ### what is written is read -/
def noAtom (k : Key) : Prop := k.1 ≠ 1 ∧ k.1 ≠ 2 ∧ k.1 ≠ 5
def noArrow (k : Key) : Prop := ¬ (k.1 = 4 ∧ k.2.1 = [45, 62])
theorem no_begin {x : Tok} {k : Key} (h : x.key = k) (hk : noAtom k) : tyBegins x = false := by
  obtain ⟨h1, _⟩ := key_kind h
  simp only [tyBegins, Bool.or_eq_false_iff, decide_eq_false_iff_not, h1]
  exact ⟨⟨hk.1, hk.2.1⟩, hk.2.2⟩
theorem no_arrow {x : Tok} {k : Key} (h : x.key = k) (hk : noArrow k) : ¬ (x.kind = 4 ∧ x.text = [45, 62]) := by
  obtain ⟨h1, h2⟩ := key_kind h
  rw [h1, h2]; exact hk
structure Back (p : Typ) : Prop where
  typ : ∀ (t : List Tok) (d i : Nat) (ms : List Int) (k : Key) (rest : List Key), (∀ m ∈ ms, 0 ≤ m) → KAt t i (keysT p ++ k :: rest) → d + nodesT p ≤ 200 → noAtom k → noArrow k →
    TypeR t d i (ms.map varL) (subS normG ms p).1 (i + (keysT p).length) ((subS normG ms p).2.map varL)
  app : arrowT p = false → ∀ (t : List Tok) (d i : Nat) (ms : List Int) (k : Key) (rest : List Key), (∀ m ∈ ms, 0 ≤ m) → KAt t i (keysT p ++ k :: rest) → d + nodesT p ≤ 200 → noAtom k →
    ∀ v j ws, TailR t d (i + (keysT p).length) ((subS normG ms p).2.map varL) (subS normG ms p).1 v j ws → TypeR t d i (ms.map varL) v j ws
theorem noAtom6 : noAtom (6, [], 0) := ⟨by decide, by decide, by decide⟩
theorem noArrow6 : noArrow (6, [], 0) := fun h => absurd h.1 (by decide)
theorem noAtom4 : noAtom (4, [45, 62], 0) := ⟨by decide, by decide, by decide⟩
theorem noAtom0 : noAtom (0, [], 0) := ⟨by decide, by decide, by decide⟩
theorem noArrow0 : noArrow (0, [], 0) := fun h => absurd h.1 (by decide)
/-- In brackets. -/
theorem Back.brackets {p : Typ} (hB : Back p) {t : List Tok} {d i : Nat} {ms : List Int} {rest : List Key} (hms : ∀ m ∈ ms, 0 ≤ m) (h : KAt t i (brK (keysT p) true ++ rest)) (hd : d + nodesT p + 1 ≤ 200) :
    (tokL t i).kind = 5 ∧ AtomR t d i (ms.map varL) (subS normG ms p).1 (i + (brK (keysT p) true).length) ((subS normG ms p).2.map varL) := by
  have e : brK (keysT p) true = (5, [], 0) :: (keysT p ++ [(6, [], 0)]) := rfl
  rw [e] at h ⊢
  rw [List.cons_append, List.append_assoc] at h
  obtain ⟨h1, _, h2⟩ := h.cons
  have h5 := (key_kind h1).1
  have hp := nodesT_pos p
  have h3 := hB.typ t (d + 1) (i + 1) ms (6, [], 0) rest hms h2 (by omega) noAtom6 noArrow6
  obtain ⟨h6, _, _⟩ := (KAt.app h2).cons
  have := atomR_open h5 (by omega) h3 (key_kind h6).1
  rw [List.length_cons, List.length_append, List.length_cons, List.length_nil, show i + ((keysT p).length + (0 + 1) + 1) = i + 1 + (keysT p).length + 1 by omega]
  exact ⟨h5, this⟩
theorem sub_leaf {ms : List Int} {p : Typ} (hk : p.k ≠ 1) (hl : p.l = []) : subS normG ms p = (.mk 0 p.name 0 [], ms) := by
  have hA : arrowT p = false := by rw [arrowT, hl]; simp
  rw [subS_eq, if_neg hk, hA, hl, subSs]
  rfl
/-- An argument. -/
theorem Back.atom {p : Typ} (hB : Back p) (hv : validT p = true) {t : List Tok} {d i : Nat} {ms : List Int} {rest : List Key} (hms : ∀ m ∈ ms, 0 ≤ m) (h : KAt t i (brK (keysT p) (manyT p) ++ rest)) (hd : d + nodesT p + 1 ≤ 200) :
    tyBegins (tokL t i) = true ∧ AtomR t d i (ms.map varL) (subS normG ms p).1 (i + (brK (keysT p) (manyT p)).length) ((subS normG ms p).2.map varL) := by
  cases hm : manyT p
  · rw [hm] at h
    have e : brK (keysT p) false = keysT p := rfl
    rw [e] at h ⊢
    by_cases hk : p.k = 1
    · obtain ⟨_, h0, _, _⟩ := valid_var hv hk
      rw [keys_var hk] at h ⊢
      obtain ⟨h1, _, _⟩ := KAt.cons (ks := rest) h
      obtain ⟨q1, q2⟩ := key_kind h1
      have h2 := atomR_var (d := d) (vs := ms.map varL) q1
      rw [q2] at h2
      obtain ⟨q3, q4⟩ := vnum_is h0 hms
      simp only at h2
      rw [q3, q4] at h2
      rw [subS_eq, if_pos hk]
      exact ⟨by simp [tyBegins, q1], h2⟩
    · have hl : p.l = [] := by
        unfold manyT at hm
        have : (p.k != 1) = true := by simpa using hk
        rw [this, Bool.true_and, decide_eq_false_iff_not] at hm
        exact List.eq_nil_of_length_eq_zero (by omega)
      have hA : arrowT p = false := by rw [arrowT, hl]; simp
      rw [keys_con hk hA, hl, keysTs] at h ⊢
      obtain ⟨h1, _, _⟩ := KAt.cons (ks := rest) h
      obtain ⟨q1, q2⟩ := key_kind h1
      have h2 := atomR_name (d := d) (vs := ms.map varL) q1
      rw [q2] at h2
      rw [sub_leaf hk hl]
      exact ⟨by simp [tyBegins, q1], h2⟩
  · rw [hm] at h
    obtain ⟨h1, h2⟩ := hB.brackets hms h hd
    exact ⟨by simp [tyBegins, h1], h2⟩
theorem back_args {l : List Typ} {name : Str} {t : List Tok} {d : Nat} (hB : ∀ x ∈ l, Back x ∧ validT x = true ∧ d + nodesT x + 1 ≤ 200) : ∀ {i : Nat} {ms : List Int} {acc : List Typ} {k : Key} {rest : List Key}, (∀ m ∈ ms, 0 ≤ m) → KAt t i (keysTs l ++ k :: rest) → noAtom k →
    ArgsR t d i (ms.map varL) (.mk 0 name 0 acc) (.mk 0 name 0 (acc ++ (subSs normG ms l).1)) (i + (keysTs l).length) ((subSs normG ms l).2.map varL) := by
  induction l with
  | nil =>
    intro i ms acc k rest hms h hk
    rw [keysTs] at h ⊢
    rw [subSs, List.append_nil]
    obtain ⟨h1, _, _⟩ := KAt.cons h
    exact argsR_stop (no_begin h1 hk)
  | cons x l ih =>
    intro i ms acc k rest hms h hk
    obtain ⟨b1, b2, b3⟩ := hB x (List.mem_cons_self ..)
    rw [keysTs] at h ⊢
    rw [List.append_assoc] at h
    obtain ⟨h1, h2⟩ := b1.atom b2 hms h b3
    have h3 := ih (fun y hy => hB y (List.mem_cons_of_mem _ hy)) (acc := acc ++ [(subS normG ms x).1]) (norm_nn x b2 ms hms) h.app hk
    rw [subSs]
    have h4 := argsR_step (u := .mk 0 name 0 acc) h1 h2 h3
    rw [List.length_append, ← Nat.add_assoc]
    rwa [List.append_assoc] at h4
theorem back_all (p : Typ) : validT p = true → Back p := by
  induction p using Typ.ind with
  | h p ih =>
    intro hv
    have happ : arrowT p = false → ∀ (t : List Tok) (d i : Nat) (ms : List Int) (k : Key) (rest : List Key), (∀ m ∈ ms, 0 ≤ m) → KAt t i (keysT p ++ k :: rest) → d + nodesT p ≤ 200 → noAtom k →
        ∀ v j ws, TailR t d (i + (keysT p).length) ((subS normG ms p).2.map varL) (subS normG ms p).1 v j ws → TypeR t d i (ms.map varL) v j ws := by
      intro hA t d i ms k rest hms h hd hk v j ws hT
      by_cases hk1 : p.k = 1
      · obtain ⟨_, h0, _, _⟩ := valid_var hv hk1
        rw [keys_var hk1] at h hT
        obtain ⟨h1, _, _⟩ := KAt.cons (ks := k :: rest) h
        obtain ⟨q1, q2⟩ := key_kind h1
        have h2 := atomR_var (d := d) (vs := ms.map varL) q1
        rw [q2] at h2
        obtain ⟨q3, q4⟩ := vnum_is h0 hms
        simp only at h2
        rw [q3, q4] at h2
        rw [subS_eq, if_pos hk1] at hT
        exact typeR_other (by rw [q1]; show (2 : Int) ≠ 1; decide) h2 hT
      · rw [keys_con hk1 hA] at h hT
        rw [List.cons_append] at h
        obtain ⟨h1, _, h2⟩ := KAt.cons h
        obtain ⟨q1, q2⟩ := key_kind h1
        have h3 := atomR_name (d := d) (vs := ms.map varL) q1
        rw [q2] at h3
        have h4 := back_args (l := p.l) (name := p.name) (acc := []) (d := d) (fun x hx => ⟨ih x hx (valid_mem hv hx), valid_mem hv hx, by have := nodes_of hx; omega⟩) hms h2 hk
        rw [List.nil_append] at h4
        rw [subS_eq, if_neg hk1, hA, List.length_cons, show i + ((keysTs p.l).length + 1) = i + 1 + (keysTs p.l).length by omega] at hT
        exact typeR_name q1 h3 h4 hT
    refine ⟨fun t d i ms k rest hms h hd hk hka => ?_, happ⟩
    cases hA : arrowT p
    · refine happ hA t d i ms k rest hms h hd hk _ _ _ (tailR_stop ?_)
      obtain ⟨h1, _, _⟩ := h.app.cons
      exact no_arrow h1 hka
    · obtain ⟨a, b, hl⟩ := arrow_parts hA
      have ha : a ∈ p.l := by rw [hl]; simp
      have hb : b ∈ p.l := by rw [hl]; simp
      have hva := valid_mem hv ha
      have hvb := valid_mem hv hb
      have hn : nodesT p = 1 + (nodesT a + (nodesT b + 0)) := by rw [nodesT_eq, hl, nodesTs, nodesTs, nodesTs]
      have hk1 : p.k ≠ 1 := by
        simp only [arrowT, Bool.and_eq_true, beq_iff_eq] at hA
        omega
      have hpa := nodesT_pos a
      have hpb := nodesT_pos b
      rw [keys_arr hA hl, List.append_assoc, List.cons_append] at h
      have hs : subS normG ms p = (.arr (subS normG ms a).1 (subS normG (subS normG ms a).2 b).1, (subS normG (subS normG ms a).2 b).2) := by
        rw [subS_eq, if_neg hk1, hA, hl, subSs, subSs, subSs]
        rfl
      rw [hs, keys_arr hA hl]
      have hms2 := norm_nn a hva ms hms
      obtain ⟨h4, _, h5⟩ := h.app.cons
      have hkk := key_kind h4
      have hb1 := (ih b hb hvb).typ t (d + 1) (i + (brK (keysT a) (arrowT a)).length + 1) (subS normG ms a).2 k rest hms2 h5 (show d + 1 + nodesT b ≤ 200 by omega) hk hka
      have hT := tailR_arrow (u := (subS normG ms a).1) ⟨hkk.1, hkk.2⟩ (show d < 200 by omega) hb1
      rw [List.length_append, List.length_cons, show i + ((brK (keysT a) (arrowT a)).length + ((keysT b).length + 1)) = i + (brK (keysT a) (arrowT a)).length + 1 + (keysT b).length by omega]
      cases hAa : arrowT a
      · rw [hAa] at h hT
        have e : brK (keysT a) false = keysT a := rfl
        rw [e] at h hT ⊢
        exact (ih a ha hva).app hAa t d i ms _ _ hms h (by omega) noAtom4 _ _ _ hT
      · rw [hAa] at h hT
        obtain ⟨q1, q2⟩ := (ih a ha hva).brackets (d := d) hms h (by omega)
        exact typeR_other (by rw [q1]; show (5 : Int) ≠ 1; decide) q2 hT
theorem read_back {p : Typ} (hv : validT p = true) (hn : nodesT p ≤ 200) {t : List Tok} (h : t.map Tok.key = keysT p ++ [(0, [], 0)]) : TyRead t 0 (.ok (normT p, t.length - 1, (subS normG [] p).2.map varL)) := by
  obtain ⟨f, hf⟩ := (back_all p hv).typ t 0 0 [] (0, [], 0) [] (fun m hm => by cases hm) (KAt.of h) (by omega) noAtom0 noArrow0
  have hl : t.length = (keysT p).length + 1 := by
    have := congrArg List.length h
    simpa using this
  rw [Nat.zero_add] at hf
  refine ⟨f, ?_⟩
  rw [hl, Nat.add_sub_cancel]
  exact hf
/-! ### numbered anew twice -/
def idsI (n : Nat) : List Int := (List.range n).map Int.ofNat
theorem ids_len (n : Nat) : (idsI n).length = n := by simp [idsI]
theorem ids_find {n k : Nat} (h : k < n) : (idsI n).findIdx? (· == (k : Int)) = some k := by
  rw [List.findIdx?_eq_some_iff_getElem]
  refine ⟨by rw [ids_len]; exact h, by simp [idsI], fun j hj => ?_⟩
  simp [idsI]
  omega
theorem ids_none (n : Nat) : (idsI n).findIdx? (· == (n : Int)) = none := by
  rw [List.findIdx?_eq_none_iff]
  intro x hx
  simp only [idsI, List.mem_map, List.mem_range] at hx
  obtain ⟨k, hk, rfl⟩ := hx
  simp
  omega
theorem ids_succ (n : Nat) : idsI (n + 1) = idsI n ++ [(n : Int)] := by simp [idsI, List.range_succ]
theorem norm_again (p : Typ) : ∀ ms : List Int, subS normG (idsI ms.length) (subS normG ms p).1 = ((subS normG ms p).1, idsI (subS normG ms p).2.length) := by
  induction p using Typ.ind with
  | h p ih =>
    intro ms
    by_cases hk : p.k = 1
    · have e : subS normG ms p = (.var (inum ms p.n), iadd ms p.n) := by rw [subS_eq, if_pos hk]; rfl
      rw [e, subS_eq, if_pos (show (Typ.var _).k = 1 from rfl)]
      show (Typ.var (inum (idsI ms.length) (inum ms p.n : Int)), iadd (idsI ms.length) (inum ms p.n : Int)) = _
      rcases inum_cases ms p.n with ⟨h1, h2, _⟩ | ⟨h1, h2, _⟩
      · rw [h1, h2, List.length_append, List.length_singleton, ids_succ]
        unfold inum iadd
        rw [ids_none]
        simp [ids_len]
      · rw [h2]
        have hf := ids_find h1
        generalize inum ms p.n = q at hf h1
        unfold inum iadd
        rw [hf]
        simp
    · have key : ∀ l : List Typ, (∀ x ∈ l, x ∈ p.l) → ∀ ms : List Int, subSs normG (idsI ms.length) (subSs normG ms l).1 = ((subSs normG ms l).1, idsI (subSs normG ms l).2.length) := by
        intro l
        induction l with
        | nil => intro _ ms; rw [subSs, subSs]
        | cons x l ihl =>
          intro hs ms
          rw [subSs, subSs, ih x (hs x (List.mem_cons_self ..)) ms, ihl (fun y hy => hs y (List.mem_cons_of_mem _ hy))]
      have hkey := key p.l (fun x hx => hx) ms
      have hlen := subSs_len normG p.l ms
      rw [subS_eq normG ms p, if_neg hk]
      simp only
      generalize subSs normG ms p.l = r at hkey hlen
      obtain ⟨rl, rs⟩ := r
      simp only at hkey hlen ⊢
      cases hA : arrowT p
      · simp only [Bool.false_eq_true, if_false]
        rw [subS_eq, if_neg (show (Typ.mk 0 p.name 0 rl).k ≠ 1 from by show (0 : Int) ≠ 1; decide)]
        have : arrowT (.mk 0 p.name 0 rl) = false := rfl
        rw [this]
        simp only [Bool.false_eq_true, if_false, tl_mk, tname_mk, hkey]
      · simp only [if_true]
        have hA' := hA
        simp only [arrowT, Bool.and_eq_true, beq_iff_eq] at hA'
        rw [subS_eq, if_neg (show (Typ.mk 2 [] 0 rl).k ≠ 1 from by show (2 : Int) ≠ 1; decide)]
        have : arrowT (.mk 2 [] 0 rl) = true := by
          unfold arrowT
          rw [tk_mk, tl_mk, hlen, hA'.2]; rfl
        rw [this]
        simp only [if_true, tl_mk, hkey]
theorem norm_norm (p : Typ) : normT (normT p) = normT p := by
  have := norm_again p []
  have e : idsI ([] : List Int).length = [] := rfl
  rw [e] at this
  unfold normT
  rw [this]
theorem norm_nodes (p : Typ) : ∀ ms : List Int, nodesT (subS normG ms p).1 ≤ nodesT p := by
  induction p using Typ.ind with
  | h p ih =>
    intro ms
    rw [subS_eq]
    by_cases hk : p.k = 1
    · rw [if_pos hk]
      show nodesT (Typ.var _) ≤ _
      have := nodesT_pos p
      rw [Typ.var, nodesT, nodesTs]
      omega
    · rw [if_neg hk]
      have key : ∀ l : List Typ, (∀ x ∈ l, x ∈ p.l) → ∀ ms : List Int, nodesTs (subSs normG ms l).1 ≤ nodesTs l := by
        intro l
        induction l with
        | nil => intro _ ms; rw [subSs]; exact Nat.le_refl _
        | cons x l ihl =>
          intro hs ms
          rw [subSs, nodesTs, nodesTs]
          have h1 := ih x (hs x (List.mem_cons_self ..)) ms
          have h2 := ihl (fun y hy => hs y (List.mem_cons_of_mem _ hy)) (subS normG ms x).2
          omega
      have := key p.l (fun x hx => hx) ms
      rw [nodesT_eq p]
      simp only [nodesT]
      omega
end Go.Lamb

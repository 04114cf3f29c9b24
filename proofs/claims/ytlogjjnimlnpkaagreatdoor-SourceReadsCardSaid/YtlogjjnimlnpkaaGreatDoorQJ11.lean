/-
  Plain: sentences, and how they are read of tokens.
  Plain: what is read hangs on the tokens that are read alone.
  Plain: what is read of a sentence alone.
  Plain: what is read further on.
  Plain: what is read of a text, and of more behind it.
  Plain: the document's examples of sentences, reckoned.
  Plain: contracts over worlds that hand back new memory.
  Plain: a slice of nothing in a block may be taken for one's own.
  Plain: heaps with two blocks of one's own that change.
  Plain: heaps with one block of one's own that changes.
  Plain: how types are read, with what is left where something is wrong.
  Plain: what a type takes, what comes of it, and which types may be.
  Plain: small aids of the walks.
  Plain: how types are read in the document's words, with what is left where something is wrong.
-/
import Derived.Test.YtlogjjnimlnpkaaGreatDoorQJ10
import Derived.Test.YtlogjjnimlnpkaaGreatDoorQLexNl
set_option linter.unusedSimpArgs false
set_option linter.unusedVariables false
set_option maxHeartbeats 8000000
set_option maxRecDepth 20000
namespace Go.Lamb
open Go Go.RowKit

def strsC (l : List Str) : C := .sl (l.map fun s => [C.str s])
structure Sent where
  k : Int
  names : List Str
  n : Int
  ty : Typ
  op : OpT
  body : Pre
  pos : Int
def Sent.none : Sent := ⟨0, [], 0, .none, .zero, .none, 0⟩
def Sent.v (s : Sent) : V := .agg [I s.k, .c (strsC s.names), I s.n, I s.ty.k, S s.ty.name, I s.ty.n, .c (tysC s.ty.l), S s.op.name, I s.op.prec, I s.op.fix, I s.body.k, S s.body.name, I s.body.n, .c (.sl (s.body.l.map Pre.cs)), I s.body.pos, I s.pos]
def Sent.cs (s : Sent) : List C := [.int .i64 s.k, strsC s.names, .int .i64 s.n, .int .i64 s.ty.k, .str s.ty.name, .int .i64 s.ty.n, tysC s.ty.l, .str s.op.name, .int .i64 s.op.prec, .int .i64 s.op.fix, .int .i64 s.body.k, .str s.body.name, .int .i64 s.body.n, .sl (s.body.l.map Pre.cs), .int .i64 s.body.pos, .int .i64 s.pos]
def sentsC (l : List Sent) : C := .sl (l.map Sent.cs)

/-! ### what is read, without fuel -/
open Classical in
noncomputable def tyT (t : List Tok) (i : Nat) : TyR := Classical.choose (TyRead.some t i)
theorem tyT_is (t : List Tok) (i : Nat) : TyRead t i (tyT t i) := Classical.choose_spec (TyRead.some t i)
theorem tyT_eq {t : List Tok} {i : Nat} {r : TyR} (h : TyRead t i r) : tyT t i = r := TyRead.one (tyT_is t i) h
noncomputable def exprT (l : List OpT) (t : List Tok) (i : Nat) : Except Bad (Made × Nat) := Classical.choose (Expr.some l t 0 0 i)
theorem exprT_is (l : List OpT) (t : List Tok) (i : Nat) : Lamb.Expr l t 0 0 i (exprT l t i) := Classical.choose_spec (Expr.some l t 0 0 i)
theorem exprT_eq {l : List OpT} {t : List Tok} {i : Nat} {r : Except Bad (Made × Nat)} (h : Lamb.Expr l t 0 0 i r) : exprT l t i = r := Expr.one (exprT_is l t i) h

/-- May a name stand here? (s: or a symbol.) -/
def nameHere (s : Bool) (x : Tok) : Bool := x.kind == 1 || (s && x.kind == 4)
def commaHere (x : Tok) : Bool := x.kind == 4 && x.text == [44]
def arrowHere (x : Tok) : Bool := x.kind == 4 && x.text == [45, 62]
def typeHere (x : Tok) : Bool := x.kind == 1 && x.text == [116, 121, 112, 101]
def namesF : Nat → List Tok → Bool → Nat → List Tok → Except Bad (List Tok × Nat)
  | 0, t, _, i, _ => .error ⟨100, (tokL t i).pos⟩
  | f + 1, t, s, i, acc =>
    if nameHere s (tokL t i) = true then
      if commaHere (tokL t (i + 1)) = true then namesF f t s (i + 2) (acc ++ [tokL t i]) else .ok (acc ++ [tokL t i], i + 1)
    else .error ⟨100, (tokL t i).pos⟩
def namesS (t : List Tok) (s : Bool) (i : Nat) (acc : List Tok) : Except Bad (List Tok × Nat) := namesF (t.length - i) t s i acc
theorem tokL_far {t : List Tok} {i : Nat} (h : t.length ≤ i) : (tokL t i).kind = 0 := by rw [tokL, List.getElem?_eq_none h]; rfl
theorem nameHere_far {t : List Tok} {i : Nat} (s : Bool) (h : t.length ≤ i) : nameHere s (tokL t i) = false := by simp [nameHere, tokL_far h]
theorem namesF_enough : ∀ (f : Nat) (t : List Tok) (s : Bool) (i : Nat) (acc : List Tok), t.length - i ≤ f → namesF f t s i acc = namesS t s i acc
  | f, t, s, i, acc, h => by
    unfold namesS
    generalize hg : t.length - i = g at h
    induction g using Nat.strongRecOn generalizing f i acc with
    | ind g ih =>
      cases g with
      | zero =>
        cases f with
        | zero => rfl
        | succ f => rw [namesF, namesF, nameHere_far s (by omega)]; simp
      | succ g =>
        cases f with
        | zero => omega
        | succ f =>
          rw [namesF, namesF]
          by_cases hn : nameHere s (tokL t i) = true
          · rw [if_pos hn, if_pos hn]
            by_cases hc : commaHere (tokL t (i + 1)) = true
            · rw [if_pos hc, if_pos hc, ih (t.length - (i + 2)) (by omega) f (i + 2) _ rfl (by omega), ih (t.length - (i + 2)) (by omega) g (i + 2) _ rfl (by omega)]
            · rw [if_neg hc, if_neg hc]
          · rw [if_neg hn, if_neg hn]
theorem namesS_eq (t : List Tok) (s : Bool) (i : Nat) (acc : List Tok) : namesS t s i acc = if nameHere s (tokL t i) = true then (if commaHere (tokL t (i + 1)) = true then namesS t s (i + 2) (acc ++ [tokL t i]) else .ok (acc ++ [tokL t i], i + 1)) else .error ⟨100, (tokL t i).pos⟩ := by
  rw [← namesF_enough (t.length - i + 1) t s i acc (by omega), namesF, namesF_enough _ t s (i + 2) _ (by omega)]
/-- How many arrows are behind the first 'type'. -/
def kindF : Nat → List Tok → Nat → Nat → Except Bad (Nat × Nat)
  | 0, t, i, _ => .error ⟨100, (tokL t i).pos⟩
  | f + 1, t, i, n =>
    if typeHere (tokL t i) = true then
      if arrowHere (tokL t (i + 1)) = true then kindF f t (i + 2) (n + 1) else .ok (n, i + 1)
    else .error ⟨100, (tokL t i).pos⟩
def kindS (t : List Tok) (i n : Nat) : Except Bad (Nat × Nat) := kindF (t.length - i) t i n
theorem typeHere_far {t : List Tok} {i : Nat} (h : t.length ≤ i) : typeHere (tokL t i) = false := by simp [typeHere, tokL_far h]
theorem kindF_enough : ∀ (f : Nat) (t : List Tok) (i n : Nat), t.length - i ≤ f → kindF f t i n = kindS t i n
  | f, t, i, n, h => by
    unfold kindS
    generalize hg : t.length - i = g at h
    induction g using Nat.strongRecOn generalizing f i n with
    | ind g ih =>
      cases g with
      | zero =>
        cases f with
        | zero => rfl
        | succ f => rw [kindF, kindF, typeHere_far (by omega)]; simp
      | succ g =>
        cases f with
        | zero => omega
        | succ f =>
          rw [kindF, kindF]
          by_cases hn : typeHere (tokL t i) = true
          · rw [if_pos hn, if_pos hn]
            by_cases hc : arrowHere (tokL t (i + 1)) = true
            · rw [if_pos hc, if_pos hc, ih (t.length - (i + 2)) (by omega) f (i + 2) _ rfl (by omega), ih (t.length - (i + 2)) (by omega) g (i + 2) _ rfl (by omega)]
            · rw [if_neg hc, if_neg hc]
          · rw [if_neg hn, if_neg hn]
theorem kindS_eq (t : List Tok) (i n : Nat) : kindS t i n = if typeHere (tokL t i) = true then (if arrowHere (tokL t (i + 1)) = true then kindS t (i + 2) (n + 1) else .ok (n, i + 1)) else .error ⟨100, (tokL t i).pos⟩ := by
  rw [← kindF_enough (t.length - i + 1) t i n (by omega), kindF, kindF_enough _ t (i + 2) _ (by omega)]

/-- What is wrong with an operator; 0: nothing. -/
def reservedL (s : Str) : Bool := s == [33] || s == [45, 62] || s == [107, 105, 110, 100] || s == [116, 121, 112, 101] || s == [105, 110, 102, 105, 120] || s == [105, 110, 102, 105, 120, 108] || s == [105, 110, 102, 105, 120, 114]
def wrongL (l : List OpT) (o : OpT) : Int :=
  if o.fix < 0 ∨ 2 < o.fix then 1
  else if (isNameB o.name = false ∧ isSymB o.name = false) ∨ reservedL o.name = true then 20
  else if o.prec < 1 ∨ 200 < o.prec then 21
  else if (findL l o.name).isSome = true then 22
  else if 64 ≤ l.length then 23
  else 0
/-- Operators, one by one, with their names' places. -/
def declL (prec fix : Int) : List OpT → List Tok → Except Bad (List OpT)
  | l, [] => .ok l
  | l, x :: r => if wrongL l ⟨x.text, prec, fix⟩ = 0 then declL prec fix (l ++ [⟨x.text, prec, fix⟩]) r else .error ⟨wrongL l ⟨x.text, prec, fix⟩, x.pos⟩

abbrev SoR := Except Bad (Sent × Nat × List OpT)
def endS (t : List Tok) (s : Sent) (i : Nat) (l : List OpT) : SoR := if (tokL t i).kind = 7 then .ok (s, i + 1, l) else .error ⟨101, (tokL t i).pos⟩
def kindSent (t : List Tok) (i : Nat) (pos : Int) (l : List OpT) : SoR := match namesS t false i [] with
  | .error b => .error b
  | .ok (ns, j) => match kindS t j 0 with
    | .error b => .error b
    | .ok (n, k) => endS t ⟨0, ns.map (·.text), n, .none, .zero, .none, pos⟩ k l
noncomputable def typeSent (t : List Tok) (i : Nat) (pos : Int) (l : List OpT) : SoR := match namesS t true i [] with
  | .error b => .error b
  | .ok (ns, j) => match tyT t j with
    | .error b => .error b
    | .ok (u, k, _) => endS t ⟨1, ns.map (·.text), 0, u, .zero, .none, pos⟩ k l
def opSent (t : List Tok) (i : Nat) (pos : Int) (fix : Int) (l : List OpT) : SoR := match namesS t true i [] with
  | .error b => .error b
  | .ok (ns, j) =>
    if (tokL t j).kind = 3 then
      if (tokL t (j + 1)).kind = 7 then
        match declL (tokL t j).n fix l ns with
        | .error b => .error b
        | .ok l' => .ok (⟨2, ns.map (·.text), 0, .none, ⟨[], (tokL t j).n, fix⟩, .none, pos⟩, j + 2, l')
      else .error ⟨101, (tokL t (j + 1)).pos⟩
    else .error ⟨100, (tokL t j).pos⟩
noncomputable def clauseSent (t : List Tok) (i : Nat) (pos : Int) (l : List OpT) : SoR := match exprT l t i with
  | .error b => .error b
  | .ok (m, k) => endS t ⟨3, [], 0, .none, .zero, m.p, pos⟩ k l
noncomputable def sentS (t : List Tok) (l : List OpT) (i : Nat) : SoR :=
  let x := tokL t i
  if x.kind = 1 ∧ x.text = [107, 105, 110, 100] then kindSent t (i + 1) x.pos l
  else if x.kind = 1 ∧ x.text = [116, 121, 112, 101] then typeSent t (i + 1) x.pos l
  else if x.kind = 1 ∧ x.text = [105, 110, 102, 105, 120] then opSent t (i + 1) x.pos 0 l
  else if x.kind = 1 ∧ x.text = [105, 110, 102, 105, 120, 108] then opSent t (i + 1) x.pos 1 l
  else if x.kind = 1 ∧ x.text = [105, 110, 102, 105, 120, 114] then opSent t (i + 1) x.pos 2 l
  else clauseSent t i x.pos l
noncomputable def allF : Nat → List Tok → List OpT → Nat → List Sent → Except Bad (List Sent × List OpT)
  | 0, _, l, _, acc => .ok (acc, l)
  | f + 1, t, l, i, acc =>
    if (tokL t i).kind = 0 then .ok (acc, l)
    else match sentS t l i with
      | .error b => .error b
      | .ok (s, j, l') => allF f t l' j (acc ++ [s])
noncomputable def allS (t : List Tok) (l : List OpT) (i : Nat) (acc : List Sent) : Except Bad (List Sent × List OpT) := allF (t.length - i) t l i acc

theorem namesS_far {t : List Tok} {s : Bool} : ∀ (n i : Nat) (acc : List Tok) (r : List Tok) (j : Nat), t.length - i ≤ n → namesS t s i acc = .ok (r, j) → i < j ∧ j ≤ t.length
  | n, i, acc, r, j, hn, h => by
    induction n using Nat.strongRecOn generalizing i acc with
    | ind n ih =>
      rw [namesS_eq] at h
      split at h
      · rename_i h1
        have hi : i < t.length := tokL_lt fun e => by rw [nameHere, e] at h1; simp at h1
        split at h
        · rename_i h2
          have hi2 : i + 1 < t.length := tokL_lt fun e => by rw [commaHere, e] at h2; simp at h2
          have := ih (t.length - (i + 2)) (by omega) (i + 2) _ (Nat.le_refl _) h
          omega
        · injection h with h; injection h with _ h
          omega
      · cases h
theorem kindS_far {t : List Tok} : ∀ (n i m r : Nat) (j : Nat), t.length - i ≤ n → kindS t i m = .ok (r, j) → i < j ∧ j ≤ t.length
  | n, i, m, r, j, hn, h => by
    induction n using Nat.strongRecOn generalizing i m with
    | ind n ih =>
      rw [kindS_eq] at h
      split at h
      · rename_i h1
        have hi : i < t.length := tokL_lt fun e => by rw [typeHere, e] at h1; simp at h1
        split at h
        · rename_i h2
          have hi2 : i + 1 < t.length := tokL_lt fun e => by rw [arrowHere, e] at h2; simp at h2
          have := ih (t.length - (i + 2)) (by omega) (i + 2) _ (Nat.le_refl _) h
          omega
        · injection h with h; injection h with _ h
          omega
      · cases h
theorem tyT_far {t : List Tok} {i : Nat} {u : Typ} {j : Nat} {ws : List Str} (h : tyT t i = .ok (u, j, ws)) : i < j ∧ j ≤ t.length := by
  obtain ⟨f, hf⟩ := tyT_is t i
  rw [h] at hf
  have := (ty_bounds f).2.2.2 _ _ _ _ _ _ _ hf
  omega
theorem exprT_far {l : List OpT} {t : List Tok} {i : Nat} {m : Made} {j : Nat} (h : exprT l t i = .ok (m, j)) : i < j ∧ j ≤ t.length := by
  obtain ⟨f, hf⟩ := exprT_is l t i
  rw [h] at hf
  exact (fuel_bounds f).2.2.1 _ _ _ _ _ _ _ hf
theorem endS_far {t : List Tok} {s s' : Sent} {i j : Nat} {l l' : List OpT} (h : endS t s i l = .ok (s', j, l')) : j = i + 1 ∧ j ≤ t.length := by
  unfold endS at h
  split at h
  · rename_i hk
    have := tokL_lt (t := t) (i := i) (by rw [hk]; decide)
    injection h with h; injection h with _ h; injection h with h _
    omega
  · cases h
theorem sentS_far {t : List Tok} {l l' : List OpT} {i j : Nat} {s : Sent} (h : sentS t l i = .ok (s, j, l')) : i < j ∧ j ≤ t.length := by
  have hop : ∀ fix, opSent t (i + 1) (tokL t i).pos fix l = .ok (s, j, l') → i < j ∧ j ≤ t.length := fun fix h => by
    unfold opSent at h
    split at h
    · cases h
    · rename_i ns k hn
      have := namesS_far _ _ _ _ _ (Nat.le_refl _) hn
      split at h
      · split at h
        · rename_i hk
          have := tokL_lt (t := t) (i := k + 1) (by rw [hk]; decide)
          split at h
          · cases h
          · injection h with h; injection h with _ h; injection h with h _
            omega
        · cases h
      · cases h
  unfold sentS at h
  simp only at h
  split at h
  · unfold kindSent at h
    split at h
    · cases h
    · rename_i ns k hn
      have := namesS_far _ _ _ _ _ (Nat.le_refl _) hn
      split at h
      · cases h
      · rename_i n m hk
        have := kindS_far _ _ _ _ _ (Nat.le_refl _) hk
        have := endS_far h
        omega
  · split at h
    · unfold typeSent at h
      split at h
      · cases h
      · rename_i ns k hn
        have := namesS_far _ _ _ _ _ (Nat.le_refl _) hn
        split at h
        · cases h
        · rename_i u m ws hk
          have := tyT_far hk
          have := endS_far h
          omega
    · split at h
      · exact hop _ h
      · split at h
        · exact hop _ h
        · split at h
          · exact hop _ h
          · unfold clauseSent at h
            split at h
            · cases h
            · rename_i m k hk
              have := exprT_far hk
              have := endS_far h
              omega
theorem allF_enough : ∀ (f : Nat) (t : List Tok) (l : List OpT) (i : Nat) (acc : List Sent), t.length - i ≤ f → allF f t l i acc = allS t l i acc
  | f, t, l, i, acc, h => by
    unfold allS
    generalize hg : t.length - i = g at h
    induction g using Nat.strongRecOn generalizing f i acc l with
    | ind g ih =>
      cases g with
      | zero =>
        cases f with
        | zero => rfl
        | succ f => rw [allF, allF, if_pos (tokL_far (by omega))]
      | succ g =>
        cases f with
        | zero => omega
        | succ f =>
          rw [allF, allF]
          by_cases hn : (tokL t i).kind = 0
          · rw [if_pos hn, if_pos hn]
          · rw [if_neg hn, if_neg hn]
            cases hs : sentS t l i with
            | error b => rfl
            | ok x =>
              obtain ⟨s, j, l'⟩ := x
              have := sentS_far hs
              simp only
              rw [ih (t.length - j) (by omega) f l' j _ rfl (by omega), ih (t.length - j) (by omega) g l' j _ rfl (by omega)]
theorem allS_eq (t : List Tok) (l : List OpT) (i : Nat) (acc : List Sent) : allS t l i acc = if (tokL t i).kind = 0 then .ok (acc, l) else match sentS t l i with
      | .error b => .error b
      | .ok (s, j, l') => allS t l' j (acc ++ [s]) := by
  rw [← allF_enough (t.length - i + 1) t l i acc (by omega), allF]
  cases hs : sentS t l i with
  | error b => rfl
  | ok x =>
    obtain ⟨s, j, l'⟩ := x
    have := sentS_far hs
    simp only
    rw [allF_enough _ t l' j _ (by omega)]
end Go.Lamb
namespace Go.Lamb
open Go Go.RowKit

/-- The first n tokens stand in the other row, further on by s; behind them a dot, or the end. -/
structure Part (t t' : List Tok) (s n : Nat) : Prop where
  same : ∀ k, k < n → tokL t' (k + s) = tokL t k
  out : ∀ k, k = n → (tokL t' (k + s)).kind = 0 ∨ (tokL t' (k + s)).kind = 7
theorem part_of {t ahead : List Tok} {n : Nat} (hn : n ≤ t.length) : Part t (ahead ++ t.take n) ahead.length n :=
  ⟨fun k hk => by
    rw [tokL, tokL, List.getElem?_append_right (by omega), Nat.add_sub_cancel, List.getElem?_take, if_pos hk, List.getElem?_eq_getElem (by omega)]
    rfl, fun k hk => by
    left
    rw [tokL, List.getElem?_append_right (by omega), Nat.add_sub_cancel, List.getElem?_take, if_neg (by omega)]
    rfl⟩
theorem lam_far {f : Nat} {l : List OpT} {t : List Tok} {depth i : Nat} {p : Pre} {j : Nat} (h : atomF f l t depth i = some (.ok (p, j))) (hl : lamAt t i = true) : i + 2 ≤ j := by
  cases f with
  | zero => simp [atomF] at h
  | succ f =>
    simp only [lamAt, decide_eq_true_eq] at hl
    obtain ⟨hk, hn⟩ := hl
    rw [atomF] at h
    simp only at h
    split at h
    · cases h
    · split at h
      · rename_i h5; omega
      · split at h
        · rename_i h3; omega
        · rw [if_pos ⟨by omega, hn⟩] at h
          split at h
          · cases h
          · split at h
            · cases h
            · cases h
            · rename_i m k he
              injection h with h; injection h with h; injection h with _ h
              have := ((fuel_bounds f).2.2.1 _ _ _ _ _ _ _ he).1
              omega
theorem lam_same {t t' : List Tok} {s n : Nat} (P : Part t t' s n) {f : Nat} {l : List OpT} {depth i : Nat} {p : Pre} {j : Nat} (h : atomF f l t depth i = some (.ok (p, j))) (hj : j ≤ n) : lamAt t' (i + s) = lamAt t i := by
  have hi := ((fuel_bounds f).1 _ _ _ _ _ _ h).1
  have e0 := P.same i (by omega)
  rcases Nat.lt_or_ge (i + 1) n with h1 | h1
  · have e1 := P.same (i + 1) h1
    rw [Nat.add_right_comm] at e1
    simp only [lamAt, e0, e1]
  · have e1 := P.out (i + 1) (by omega)
    rw [Nat.add_right_comm] at e1
    have hf : lamAt t i = false := by
      cases hl : lamAt t i
      · rfl
      · have := lam_far h hl; omega
    rw [hf]
    rcases e1 with e1 | e1 <;> simp [lamAt, e1]
theorem part_fuel {t t' : List Tok} {s n : Nat} (P : Part t t' s n) (hn : n ≤ t.length) : ∀ (f : Nat),
    (∀ l depth i p j, atomF f l t depth i = some (.ok (p, j)) → j ≤ n → atomF f l t' depth (i + s) = some (.ok (p, j + s))) ∧
    (∀ l depth i p pos last q j, argsF f l t depth i p pos last = some (.ok (q, j)) → i ≤ n → j ≤ n → argsF f l t' depth (i + s) p pos last = some (.ok (q, j + s))) ∧
    (∀ l least depth i m j, exprF f l t least depth i = some (.ok (m, j)) → j ≤ n → exprF f l t' least depth (i + s) = some (.ok (m, j + s))) ∧
    (∀ l least depth i m r j, chainF f l t least depth i m = some (.ok (r, j)) → i ≤ n → j ≤ n → chainF f l t' least depth (i + s) m = some (.ok (r, j + s)))
  | 0 => ⟨fun _ _ _ _ _ h => by simp [atomF] at h, fun _ _ _ _ _ _ _ _ h => by simp [argsF] at h, fun _ _ _ _ _ _ h => by simp [exprF] at h, fun _ _ _ _ _ _ _ h => by simp [chainF] at h⟩
  | f + 1 => by
    obtain ⟨h1, h2, h3, h4⟩ := part_fuel P hn f
    refine ⟨fun l depth i p j h hj => ?_, fun l depth i p pos last q j h hi hj => ?_, fun l least depth i m j h hj => ?_, fun l least depth i m r j h hi hj => ?_⟩
    · have hlt := ((fuel_bounds (f + 1)).1 _ _ _ _ _ _ h).1
      have e0 := P.same i (by omega)
      rw [atomF] at h ⊢
      simp only [e0] at h ⊢
      split at h
      · cases h
      · rename_i hb
        rw [if_neg hb]
        split at h
        · rename_i h5
          rw [if_pos h5]
          split at h
          · rename_i hc
            injection h with h; injection h with h; injection h with ha hb'
            subst hb'
            have e1 := P.same (i + 1) (by omega)
            have e2 := P.same (i + 2) (by omega)
            rw [Nat.add_right_comm] at e1 e2
            rw [e1, e2, if_pos hc, ← ha, Nat.add_right_comm]
          · rename_i hc
            split at h
            · cases h
            · rename_i hd
              split at h
              · cases h
              · cases h
              · rename_i m k he
                split at h
                · rename_i hk6
                  injection h with h; injection h with h; injection h with ha hb'
                  subst hb'
                  have hk := ((fuel_bounds f).2.2.1 _ _ _ _ _ _ _ he).1
                  have e1 := P.same (i + 1) (by omega)
                  have e2 := P.same (i + 2) (by omega)
                  have e3 := P.same k (by omega)
                  have he' := h3 _ _ _ _ _ _ he (by omega)
                  rw [Nat.add_right_comm] at e1 e2 he'
                  rw [e1, e2, if_neg hc, if_neg hd, he']
                  simp only [e3]
                  rw [if_pos hk6, ← ha, Nat.add_right_comm]
                · cases h
        · rename_i h5
          rw [if_neg h5]
          split at h
          · rename_i h3'
            rw [if_pos h3']
            injection h with h; injection h with h; injection h with ha hb'
            subst hb'
            rw [← ha, Nat.add_right_comm]
          · rename_i h3'
            rw [if_neg h3']
            split at h
            · rename_i hc
              split at h
              · cases h
              · rename_i hd
                split at h
                · cases h
                · cases h
                · rename_i m k he
                  injection h with h; injection h with h; injection h with ha hb'
                  subst hb'
                  have hk := ((fuel_bounds f).2.2.1 _ _ _ _ _ _ _ he).1
                  have e1 := P.same (i + 1) (by omega)
                  have he' := h3 _ _ _ _ _ _ he (by omega)
                  rw [Nat.add_right_comm] at e1 he'
                  rw [e1, if_pos hc, if_neg hd, he', ← ha]
            · rename_i hc
              injection h with h; injection h with h; injection h with ha hb'
              subst hb'
              have hc' : ¬ ((tokL t i).kind ≠ 4 ∧ (tokL t' (i + s + 1)).kind = 8) := by
                rcases Nat.lt_or_ge (i + 1) n with h1' | h1'
                · have e1 := P.same (i + 1) h1'
                  rw [Nat.add_right_comm] at e1
                  rw [e1]; exact hc
                · have e1 := P.out (i + 1) (by omega)
                  rw [Nat.add_right_comm] at e1
                  rcases e1 with e1 | e1 <;> (rw [e1]; simp)
              rw [if_neg hc', ← ha, Nat.add_right_comm]
    · rw [argsF] at h ⊢
      split at h
      · rename_i hc
        injection h with h; injection h with h; injection h with ha hb
        subst hb ha
        have hc' : last = true ∨ beginsL l (tokL t' (i + s)) = false := by
          rcases hc with hc | hc
          · exact .inl hc
          · right
            rcases Nat.lt_or_ge i n with h1' | h1'
            · rw [P.same i h1']; exact hc
            · rcases P.out i (by omega) with e1 | e1 <;> simp [beginsL, e1]
        rw [if_pos hc']
      · rename_i hc
        split at h
        · cases h
        · cases h
        · rename_i q' k he
          have hkj := ((fuel_bounds f).2.1 _ _ _ _ _ _ _ _ _ h ((fuel_bounds f).1 _ _ _ _ _ _ he).2).1
          have hik := ((fuel_bounds f).1 _ _ _ _ _ _ he).1
          have e0 := P.same i (by omega)
          rw [if_neg (by rw [e0]; exact hc), h1 _ _ _ _ _ he (by omega)]
          simp only
          rw [lam_same P he (by omega)]
          exact h2 _ _ _ _ _ _ _ _ h (by omega) hj
    · rw [exprF] at h ⊢
      split at h
      · cases h
      · cases h
      · rename_i p k he
        split at h
        · cases h
        · cases h
        · rename_i q k2 hg
          have b1 := (fuel_bounds f).1 _ _ _ _ _ _ he
          have b2 := (fuel_bounds f).2.1 _ _ _ _ _ _ _ _ _ hg b1.2
          have b3 := (fuel_bounds f).2.2.2 _ _ _ _ _ _ _ _ h b2.2
          rw [h1 _ _ _ _ _ he (by omega)]
          simp only
          rw [lam_same P he (by omega), h2 _ _ _ _ _ _ _ _ hg (by omega) (by omega)]
          exact h4 _ _ _ _ _ _ _ h (by omega) hj
    · rw [chainF] at h ⊢
      cases ho : opOf l (tokL t i) with
      | none =>
        rw [ho] at h
        injection h with h; injection h with h; injection h with ha hb
        subst hb ha
        have ho' : opOf l (tokL t' (i + s)) = none := by
          rcases Nat.lt_or_ge i n with h1' | h1'
          · rw [P.same i h1']; exact ho
          · rcases P.out i (by omega) with e1 | e1 <;> (rw [opOf, e1]; simp)
        rw [ho']
      | some o =>
        rw [ho] at h
        simp only at h
        split at h
        · rename_i hc
          injection h with h; injection h with h; injection h with ha hb
          subst hb ha
          rcases Nat.lt_or_ge i n with h1' | h1'
          · rw [P.same i h1', ho]
            simp only
            rw [if_pos hc]
          · have ho' : opOf l (tokL t' (i + s)) = none := by rcases P.out i (by omega) with e1 | e1 <;> (rw [opOf, e1]; simp)
            rw [ho']
        · rename_i hc
          split at h
          · cases h
          · rename_i hcl
            split at h
            · cases h
            · rename_i hd
              split at h
              · cases h
              · cases h
              · rename_i r' k he
                have b1 := (fuel_bounds f).2.2.1 _ _ _ _ _ _ _ he
                have hkj : k ≤ j := by
                  split at h
                  · split at h
                    · exact ((fuel_bounds f).2.2.2 _ _ _ _ _ _ _ _ h b1.2).1
                    · cases h
                  · exact ((fuel_bounds f).2.2.2 _ _ _ _ _ _ _ _ h b1.2).1
                have he' := h3 _ _ _ _ _ _ he (by omega)
                rw [Nat.add_right_comm] at he'
                have e0 := P.same i (by omega)
                rw [e0, ho]
                simp only
                rw [if_neg hc, if_neg hcl, if_neg hd, he']
                simp only
                split at h
                · rename_i b pos hby
                  split at h
                  · rename_i hbs
                    rw [if_pos hbs]
                    exact h4 _ _ _ _ _ _ _ h (by omega) hj
                  · cases h
                · exact h4 _ _ _ _ _ _ _ h (by omega) hj
/-- The same tokens alone, and further on, are the same tree. -/
theorem Expr.part {l : List OpT} {t ahead : List Tok} {least : Int} {depth n : Nat} {m : Made} (h : Expr l t least depth 0 (.ok (m, n))) : Expr l (ahead ++ t.take n) least depth ahead.length (.ok (m, n + ahead.length)) := by
  obtain ⟨f, h⟩ := h
  have hn := ((fuel_bounds f).2.2.1 _ _ _ _ _ _ _ h).2
  have := (part_fuel (part_of (ahead := ahead) hn) hn f).2.2.1 _ _ _ _ _ _ h (Nat.le_refl _)
  rw [Nat.zero_add] at this
  exact ⟨f, this⟩
/-- What is wrong has a number. -/
theorem err_fuel : ∀ (f : Nat),
    (∀ l t depth i b, atomF f l t depth i = some (.error b) → (b.e != 0) = true) ∧
    (∀ l t depth i p pos last b, argsF f l t depth i p pos last = some (.error b) → (b.e != 0) = true) ∧
    (∀ l t least depth i b, exprF f l t least depth i = some (.error b) → (b.e != 0) = true) ∧
    (∀ l t least depth i m b, chainF f l t least depth i m = some (.error b) → (b.e != 0) = true)
  | 0 => ⟨fun _ _ _ _ _ h => by simp [atomF] at h, fun _ _ _ _ _ _ _ _ h => by simp [argsF] at h, fun _ _ _ _ _ _ h => by simp [exprF] at h, fun _ _ _ _ _ _ _ h => by simp [chainF] at h⟩
  | f + 1 => by
    obtain ⟨h1, h2, h3, h4⟩ := err_fuel f
    refine ⟨fun l t depth i b h => ?_, fun l t depth i p pos last b h => ?_, fun l t least depth i b h => ?_, fun l t least depth i m b h => ?_⟩
    · rw [atomF] at h
      simp only at h
      repeat' split at h
      all_goals first
        | (cases h; done)
        | (injection h with h; injection h with h; subst h; rfl)
        | (injection h with h; injection h with h; subst h; rename_i he; exact h3 _ _ _ _ _ _ he)
        | (injection h with h; cases h)
    · rw [argsF] at h
      repeat' split at h
      all_goals first
        | (cases h; done)
        | (injection h with h; injection h with h; subst h; rename_i he; exact h1 _ _ _ _ _ he)
        | exact h2 _ _ _ _ _ _ _ _ h
        | (injection h with h; cases h)
    · rw [exprF] at h
      repeat' split at h
      all_goals first
        | (cases h; done)
        | (injection h with h; injection h with h; subst h; rename_i he; exact h1 _ _ _ _ _ he)
        | (injection h with h; injection h with h; subst h; rename_i he; exact h2 _ _ _ _ _ _ _ _ he)
        | exact h4 _ _ _ _ _ _ _ h
        | (injection h with h; cases h)
    · rw [chainF] at h
      repeat' split at h
      all_goals first
        | (cases h; done)
        | (injection h with h; injection h with h; subst h; rfl)
        | (injection h with h; injection h with h; subst h; rename_i he; exact h3 _ _ _ _ _ _ he)
        | exact h4 _ _ _ _ _ _ _ h
        | (injection h with h; cases h)
theorem Expr.err {l : List OpT} {t : List Tok} {least : Int} {depth i : Nat} {b : Bad} (h : Expr l t least depth i (.error b)) : (b.e != 0) = true := by
  obtain ⟨f, h⟩ := h
  exact (err_fuel f).2.2.1 _ _ _ _ _ _ h
end Go.Lamb
namespace Go.Lamb
open Go Go.RowKit

end Go.Lamb
namespace Go.Lamb
open Go Go.RowKit

mutual
def Pre.shift (K : Nat) : Pre → Pre
  | .mk k s n l a => .mk k s n (Pre.shifts K l) (a + K)
def Pre.shifts (K : Nat) : List Pre → List Pre
  | [] => []
  | p :: l => p.shift K :: Pre.shifts K l
end
def Made.shift (K : Nat) (m : Made) : Made := ⟨m.p.shift K, m.by_.map fun x => (x.1, x.2 + K)⟩
section
variable {t t' : List Tok} {K m : Nat}
def Sent.shift (K : Nat) (s : Sent) : Sent := ⟨s.k, s.names, s.n, s.ty, s.op, if s.k = 3 then s.body.shift K else s.body, s.pos + K⟩
end
end Go.Lamb
namespace Go.Lamb
open Go Go.RowKit

section
variable {t t' : List Tok}
end
end Go.Lamb
namespace Go.Lamb
open Go Go.RowKit

def typeSentC (f : Nat) (t : List Tok) (i : Nat) (pos : Int) (l : List OpT) : Option SoR := match namesS t true i [] with
  | .error b => some (.error b)
  | .ok (ns, j) => match tyTypeF f t 0 j [] with
    | none => none
    | some (.error b) => some (.error b)
    | some (.ok (u, k, _)) => some (endS t ⟨1, ns.map (·.text), 0, u, .zero, .none, pos⟩ k l)
def clauseSentC (f : Nat) (t : List Tok) (i : Nat) (pos : Int) (l : List OpT) : Option SoR := match exprF f l t 0 0 i with
  | none => none
  | some (.error b) => some (.error b)
  | some (.ok (m, k)) => some (endS t ⟨3, [], 0, .none, .zero, m.p, pos⟩ k l)
def sentC (f : Nat) (t : List Tok) (l : List OpT) (i : Nat) : Option SoR :=
  if (tokL t i).kind = 1 ∧ (tokL t i).text = [107, 105, 110, 100] then some (kindSent t (i + 1) (tokL t i).pos l)
  else if (tokL t i).kind = 1 ∧ (tokL t i).text = [116, 121, 112, 101] then typeSentC f t (i + 1) (tokL t i).pos l
  else if (tokL t i).kind = 1 ∧ (tokL t i).text = [105, 110, 102, 105, 120] then some (opSent t (i + 1) (tokL t i).pos 0 l)
  else if (tokL t i).kind = 1 ∧ (tokL t i).text = [105, 110, 102, 105, 120, 108] then some (opSent t (i + 1) (tokL t i).pos 1 l)
  else if (tokL t i).kind = 1 ∧ (tokL t i).text = [105, 110, 102, 105, 120, 114] then some (opSent t (i + 1) (tokL t i).pos 2 l)
  else clauseSentC f t i (tokL t i).pos l
theorem typeSentC_is {f : Nat} {t : List Tok} {i : Nat} {pos : Int} {l : List OpT} {r : SoR} (h : typeSentC f t i pos l = some r) : typeSent t i pos l = r := by
  unfold typeSentC at h
  unfold typeSent
  cases hn : namesS t true i [] with
  | error b => rw [hn] at h; injection h
  | ok x =>
    obtain ⟨ns, j⟩ := x
    rw [hn] at h
    simp only at h ⊢
    cases ht : tyTypeF f t 0 j [] with
    | none => rw [ht] at h; cases h
    | some y =>
      rw [ht] at h
      rw [tyT_eq ⟨f, ht⟩]
      cases y with
      | error b => injection h
      | ok y =>
        obtain ⟨u, k, ws⟩ := y
        injection h
theorem clauseSentC_is {f : Nat} {t : List Tok} {i : Nat} {pos : Int} {l : List OpT} {r : SoR} (h : clauseSentC f t i pos l = some r) : clauseSent t i pos l = r := by
  unfold clauseSentC at h
  unfold clauseSent
  cases ht : exprF f l t 0 0 i with
  | none => rw [ht] at h; cases h
  | some y =>
    rw [ht] at h
    rw [exprT_eq ⟨f, ht⟩]
    cases y with
    | error b => injection h
    | ok y =>
      obtain ⟨m, k⟩ := y
      injection h
theorem sentC_is {f : Nat} {t : List Tok} {l : List OpT} {i : Nat} {r : SoR} (h : sentC f t l i = some r) : sentS t l i = r := by
  unfold sentC at h
  unfold sentS
  simp only
  by_cases c1 : (tokL t i).kind = 1 ∧ (tokL t i).text = [107, 105, 110, 100]
  · rw [if_pos c1] at h ⊢; injection h
  rw [if_neg c1] at h ⊢
  by_cases c2 : (tokL t i).kind = 1 ∧ (tokL t i).text = [116, 121, 112, 101]
  · rw [if_pos c2] at h ⊢; exact typeSentC_is h
  rw [if_neg c2] at h ⊢
  by_cases c3 : (tokL t i).kind = 1 ∧ (tokL t i).text = [105, 110, 102, 105, 120]
  · rw [if_pos c3] at h ⊢; injection h
  rw [if_neg c3] at h ⊢
  by_cases c4 : (tokL t i).kind = 1 ∧ (tokL t i).text = [105, 110, 102, 105, 120, 108]
  · rw [if_pos c4] at h ⊢; injection h
  rw [if_neg c4] at h ⊢
  by_cases c5 : (tokL t i).kind = 1 ∧ (tokL t i).text = [105, 110, 102, 105, 120, 114]
  · rw [if_pos c5] at h ⊢; injection h
  rw [if_neg c5] at h ⊢
  exact clauseSentC_is h
def allC (f : Nat) (t : List Tok) : Nat → List OpT → Nat → List Sent → Option (Except Bad (List Sent × List OpT))
  | 0, _, _, _ => none
  | g + 1, l, i, acc =>
    if (tokL t i).kind = 0 then some (.ok (acc, l))
    else match sentC f t l i with
      | none => none
      | some (.error b) => some (.error b)
      | some (.ok (s, j, l')) => allC f t g l' j (acc ++ [s])
theorem allC_is {f : Nat} {t : List Tok} : ∀ {g : Nat} {l : List OpT} {i : Nat} {acc : List Sent} {r : Except Bad (List Sent × List OpT)}, allC f t g l i acc = some r → allS t l i acc = r
  | 0, _, _, _, _, h => by simp [allC] at h
  | g + 1, l, i, acc, r, h => by
    rw [allC] at h
    rw [allS_eq]
    by_cases c : (tokL t i).kind = 0
    · rw [if_pos c] at h ⊢; injection h
    · rw [if_neg c] at h ⊢
      cases hs : sentC f t l i with
      | none => rw [hs] at h; cases h
      | some y =>
        rw [hs] at h
        rw [sentC_is hs]
        cases y with
        | error b => injection h
        | ok y =>
          obtain ⟨s, j, l'⟩ := y
          exact allC_is h
end Go.Lamb
namespace Go.Lamb
open Go Go.RowKit

/-- All that is new is plain data from now on. -/
def K.new (κ : K) (w w' : World) : K := { κ with m := fun b o => if b < w.heap.size then κ.m b o else w'.cell? ⟨b, o, none⟩ }
section
variable {P : Program} {w0 w w' : World} {κ : K} {σ : H}
theorem K.new_le (h : Rep w0 κ σ w) : κ.le (κ.new w w') :=
  RV.same (fun b o v hm => by
    show (if b < w.heap.size then _ else _) = _
    rw [if_pos (h.mem_lt hm)]; exact hm) (Nat.le_refl _) (fun _ _ => rfl) (fun _ _ => rfl) (fun _ _ => rfl) (fun _ _ => rfl)
theorem Rep.new (h : Rep w0 κ σ w) (hb : Below w.heap.size w w') : Rep w0 (κ.new w w') σ w' := by
  have hle : κ.le (κ.new w w') := K.new_le h
  have hg := h.grow hb
  have hmo : ∀ b o, b < w.heap.size → (κ.new w w').m b o = κ.m b o := fun b o hlt => by show (if b < w.heap.size then _ else _) = _; rw [if_pos hlt]
  refine ⟨h.n, hg.ext, fun b o v hm => ?_, fun b hb' => ?_, fun x y hx hy g hne => h.apart x y hx hy g hne⟩
  · rcases Nat.lt_or_ge b w.heap.size with hlt | hge
    · rw [hmo b o hlt] at hm
      exact hg.mem b o v hm
    · have hm' : (if b < w.heap.size then κ.m b o else w'.cell? ⟨b, o, none⟩) = some v := hm
      rw [if_neg (by omega)] at hm'
      exact hm'
  · have h1 := hg.blk b hb'
    have hl := fun g hg => (h.lies_lt (g := g) hb' hg).2
    cases hσ : σ[b] with
    | cells cs =>
      rw [hσ] at h1 hl
      obtain ⟨vs, t, k1, k2, k3⟩ := h1.row
      exact ⟨h1.fr, ⟨vs, t, k1, k2, fun j hj => ⟨(k3 j hj).1, (k3 j hj).2.mono hle⟩⟩, h1.own, fun o => (hmo _ o (hl _ rfl)).trans (h1.free o), h1.ty⟩
    | spare e size n =>
      rw [hσ] at h1 hl
      exact ⟨h1.fr, h1.sz, h1.row, fun g hg' o ho => (hmo g o (hl g hg')).trans (h1.free g hg' o ho)⟩
    | gone => trivial
theorem K.new_at {b : Nat} (hb : w.heap.size ≤ b) (o : Nat) : (κ.new w w').m b o = w'.cell? ⟨b, o, none⟩ := by
  show (if b < w.heap.size then _ else _) = _
  rw [if_neg (by omega)]
/-- Out of a contract over worlds that makes memory. -/
theorem DC.of_new {f : FuncId} {args : List V} {d : V} (hen : Enters P f) (h : ∀ κ w vs, Rep w0 κ σ w → Fits κ args vs → Calls P f vs.toArray w (fun e w' => ∃ v, e = .returned v ∧ Below w.heap.size w w' ∧ RV (κ.new w w') d v)) :
    DC P w0 f args σ (Same d σ) := by
  refine ⟨hen, fun κ w vs hrep hfit => (h κ w vs hrep hfit).mono ?_⟩
  rintro e w' ⟨v, he, hb, hv⟩
  exact ⟨v, d, σ, κ.new w w', he, ⟨rfl, rfl⟩, K.new_le hrep, hrep.new hb, hv⟩
/-- A slice with room, handed back by one who made it, is one's own. -/
theorem Rep.ownNew (h0 : Rep w0 κ σ w) (hb : Below w.heap.size w w') (e size : Nat) (v : Value) (hv : (∃ A, v = .slice A 0 0) ∨ w'.ownsRow w.heap.size e size v 0 []) : Rep w0 (κ.own v size) (σ ++ [.spare e size 0]) w' := by
  have h := h0.grow hb
  have hle : κ.le (κ.own v size) := K.own_le
  have fro : ∀ b, b < σ.length → (κ.own v size).fr b = κ.fr b := fun b hb => by show (if b = κ.n then _ else _) = _; rw [if_neg (by rw [h.n]; omega)]
  have svo : ∀ b, b < σ.length → (κ.own v size).sv b = κ.sv b := fun b hb => by show (if b = κ.n then _ else _) = _; rw [if_neg (by rw [h.n]; omega)]
  have szo : ∀ b, b < σ.length → (κ.own v size).sz b = κ.sz b := fun b hb => by show (if b = κ.n then _ else _) = _; rw [if_neg (by rw [h.n]; omega)]
  have frn : (κ.own v size).fr σ.length = some 0 := by show (if σ.length = κ.n then _ else _) = _; rw [if_pos h.n.symm]
  have svn : (κ.own v size).sv σ.length = v := by show (if σ.length = κ.n then _ else _) = _; rw [if_pos h.n.symm]
  have szn : (κ.own v size).sz σ.length = size := by show (if σ.length = κ.n then _ else _) = _; rw [if_pos h.n.symm]
  have hheld : ∀ g, heldBy v = some g → w.heap.size ≤ g := fun g hg => by
    rcases hv with ⟨A, rfl⟩ | ho
    · cases A <;> cases hg
    · exact (ho.lt g (held_own hg)).1
  refine ⟨by show κ.n + 1 = _; rw [h.n]; simp, h.ext, h.mem, fun b hb => ?_, fun x y hx hy g hne => ?_⟩
  · rcases Nat.lt_or_ge b σ.length with hb' | hb'
    · rw [List.getElem_append_left hb']
      exact Blk.is_le (κ := κ) rfl hle rfl (fro b hb') (svo b hb') (szo b hb') (h.blk b hb')
    · have hbe : b = σ.length := by simp at hb; omega
      subst hbe
      rw [List.getElem_append_right (Nat.le_refl _)]
      simp only [Nat.sub_self, List.getElem_cons_zero]
      refine ⟨frn, szn, ?_, fun g hg o _ => ?_⟩
      · rw [svn]
        rcases hv with ⟨A, rfl⟩ | ho
        · exact .inl ⟨rfl, A, rfl⟩
        · refine .inr ⟨[], ho.1, ?_⟩
          rcases ho.2 with h1 | ⟨g, cap, cur, q1, q2, q3⟩
          · exact .inl h1
          · exact .inr ⟨g, cap, cur, q1, Nat.le_trans h0.ext.size q2, q3⟩
      · rw [svn] at hg
        exact h0.fresh (hheld g hg) o
  · rcases Nat.lt_or_ge x σ.length with hx' | hx'
    · rcases Nat.lt_or_ge y σ.length with hy' | hy'
      · rw [List.getElem_append_left hx', List.getElem_append_left hy', Blk.lies_same (κ := κ) (κ' := κ.own v size) rfl (svo x hx'), Blk.lies_same (κ := κ) (κ' := κ.own v size) rfl (svo y hy')]
        exact h.apart x y hx' hy' g hne
      · have hye : y = σ.length := by simp at hy; omega
        subst hye
        rw [List.getElem_append_left hx', List.getElem_append_right (Nat.le_refl _), Blk.lies_same (κ := κ) (κ' := κ.own v size) rfl (svo x hx')]
        simp only [Nat.sub_self, List.getElem_cons_zero, Blk.lies]
        rw [svn]
        intro e1 e2
        have := (h0.lies_lt hx' e1).2
        have := hheld g e2
        omega
    · have hxe : x = σ.length := by simp at hx; omega
      subst hxe
      have hy' : y < σ.length := by simp at hy; omega
      rw [List.getElem_append_right (Nat.le_refl _), List.getElem_append_left hy', Blk.lies_same (κ := κ) (κ' := κ.own v size) rfl (svo y hy')]
      simp only [Nat.sub_self, List.getElem_cons_zero, Blk.lies]
      rw [svn]
      intro e1 e2
      have := (h0.lies_lt hy' e2).2
      have := hheld g e1
      omega
/-- Out of a contract over worlds that hands back an empty slice with room. -/
theorem DC.of_room {f : FuncId} {args : List V} {e size : Nat} (hen : Enters P f) (h : ∀ κ w vs, Rep w0 κ σ w → Fits κ args vs → Calls P f vs.toArray w (fun r w' => ∃ v, r = .returned v ∧ Below w.heap.size w w' ∧ ((∃ A, v = .slice A 0 0) ∨ w'.ownsRow w.heap.size e size v 0 []))) :
    DC P w0 f args σ (Same (.osl σ.length []) (σ ++ [.spare e size 0])) := by
  refine ⟨hen, fun κ w vs hrep hfit => (h κ w vs hrep hfit).mono ?_⟩
  rintro r w' ⟨v, he, hb, hv⟩
  have hfr : (κ.own v size).fr σ.length = some 0 := by show (if σ.length = κ.n then _ else _) = _; rw [if_pos hrep.n.symm]
  have hsv : (κ.own v size).sv σ.length = v := by show (if σ.length = κ.n then _ else _) = _; rw [if_pos hrep.n.symm]
  have hrc : RC (κ.own v size).m (.sl []) v := by
    rcases hv with ⟨A, rfl⟩ | ho
    · exact .sl [] 0 A 0 [] (by simp) (Nat.le_refl _) (Nat.zero_le _) (by simp) (fun h => absurd rfl h) (fun i hi => by simp at hi)
    · rcases ho.2 with ⟨rfl, _⟩ | ⟨g, cap, cur, rfl, _, _, hc, hcm, _⟩
      · exact RC.nil _
      · exact .sl [] 0 _ cap [] (by simp) hc hcm (by simp) (fun h => absurd rfl h) (fun i hi => by simp at hi)
  exact ⟨v, .osl σ.length [], _, κ.own v size, he, ⟨rfl, rfl⟩, K.own_le, hrep.ownNew hb e size v hv, .osl hrc (by show _ < κ.n + 1; rw [hrep.n]; omega) hfr (Nat.le_refl _) (fun _ => hsv.symm) (by simp)⟩
/-- A slice of nothing without room may be taken for one's own. -/
theorem Lew.own {n0 : Nat} {ρ : Env} (d e size : Nat) (hρ : ρ d = .csl []) : Lew n0 ⟨ρ.put (some d) (.osl σ.length []), σ ++ [.spare e size 0]⟩ ⟨ρ, σ⟩ := fun w0 κ0 n κ a w hκ hR => by
  have hrep := hR.rep
  have hv := hR.env d
  rw [show (⟨ρ, σ⟩ : St).ρ d = ρ d from rfl, hρ] at hv
  generalize hx : a.tmps.getD d undef = v at hv
  cases hv with
  | csl h1 =>
    rename_i A
    have hle : κ.le (κ.own (.slice A 0 0) size) := K.own_le
    have frn : (κ.own (.slice A 0 0) size).fr σ.length = some 0 := by show (if σ.length = κ.n then _ else _) = _; rw [if_pos hrep.n.symm]
    have svn : (κ.own (.slice A 0 0) size).sv σ.length = .slice A 0 0 := by show (if σ.length = κ.n then _ else _) = _; rw [if_pos hrep.n.symm]
    refine ⟨κ.own (.slice A 0 0) size, hrep.own e size A, fun k => ?_, hR.size, hR.defers, K.le_trans hR.le hle⟩
    show RV _ (Env.put ρ (some d) _ k) _
    rw [put_some]
    by_cases hk : k = d
    · subst hk
      rw [if_pos rfl, hx]
      exact .osl (h1.mono hle.m) (by show _ < κ.n + 1; rw [hrep.n]; exact Nat.lt_succ_self _) frn (Nat.le_refl _) (fun _ => svn.symm) (by simp)
    · rw [if_neg hk]
      exact (hR.env k).mono hle
theorem W.own {n0 : Nat} {Q : St → Prop} {k : List It} {ρ : Env} (d e size : Nat) (hρ : ρ d = .csl []) (h : W P w0 n0 Q k ⟨ρ.put (some d) (.osl σ.length []), σ ++ [.spare e size 0]⟩) : W P w0 n0 Q k ⟨ρ, σ⟩ := .weak (Lew.own d e size hρ) h
end
end Go.Lamb
namespace Go.Lamb
open Go Go.RowKit

section
variable {P : Program} {w0 w w' : World} {κ : K} {σ : H}
/-- A cell of a block may be taken for what it is, too. -/
theorem Rep.turn (h : Rep w0 κ σ w) {b j : Nat} {cs : List V} {tg : Option TypeId} {y : V} (hb : σ[b]? = some (.cells cs tg)) (hl : y.leaf = true)
    (hxy : ∀ vs t, w.heap[κ.pos b]? = some (.cells vs t (0, 0)) → ∀ (hj : j < cs.length), RV κ cs[j] (vs.getD j undef) → RV κ y (vs.getD j undef)) : Rep w0 κ (σ.set b (.cells (cs.set j y) tg)) w := by
  obtain ⟨hlt, hbe⟩ := List.getElem?_eq_some_iff.1 hb
  have key : ∀ z (hz : z < σ.length) (hz' : z < (σ.set b (.cells (cs.set j y) tg)).length) g, ((σ.set b (.cells (cs.set j y) tg))[z]).lies κ z = some g → (σ[z]).lies κ z = some g := fun z hz hz' g hg => by
    by_cases hzb : z = b
    · subst hzb
      rw [List.getElem_set_self] at hg
      rw [hbe]; exact hg
    · rw [List.getElem_set_ne (fun e => hzb e.symm)] at hg
      exact hg
  refine ⟨by rw [List.length_set]; exact h.n, h.ext, h.mem, fun c hc => ?_, fun x z hx hz g hne => ?_⟩
  · have hc' : c < σ.length := by simpa using hc
    have h1 := h.blk c hc'
    by_cases hcb : c = b
    · subst hcb
      rw [List.getElem_set_self]
      rw [hbe] at h1
      obtain ⟨vs, t, k1, k2, k3⟩ := h1.row
      refine ⟨h1.fr, ⟨vs, t, k1, by rw [List.length_set]; exact k2, fun i hi => ?_⟩, h1.own, h1.free, h1.ty⟩
      have hi' : i < cs.length := by simpa using hi
      by_cases hij : j = i
      · subst hij
        rw [List.getElem_set_self]
        exact ⟨hl, hxy vs t k1 hi' (k3 j hi').2⟩
      · rw [List.getElem_set_ne hij]
        exact k3 i hi'
    · rw [List.getElem_set_ne (fun e => hcb e.symm)]
      exact h1
  · have hx' : x < σ.length := by simpa using hx
    have hz' : z < σ.length := by simpa using hz
    intro e1 e2
    exact h.apart x z hx' hz' g hne (key x hx' hx g e1) (key z hz' hz g e2)
theorem Lew.ownCell {n0 : Nat} {ρ : Env} (b j e size : Nat) {cs : List V} {tg : Option TypeId} (hb : σ[b]? = some (.cells cs tg)) (hj : cs[j]? = some (.csl [])) :
    Lew n0 ⟨ρ, (σ ++ [Blk.spare e size 0]).set b (.cells (cs.set j (.osl σ.length [])) tg)⟩ ⟨ρ, σ⟩ := fun w0 κ0 n κ a w hκ hR => by
  have hrep := hR.rep
  obtain ⟨hlt, hbe⟩ := List.getElem?_eq_some_iff.1 hb
  obtain ⟨hjl, hje⟩ := List.getElem?_eq_some_iff.1 hj
  have h1 := hrep.blk b hlt
  rw [show (⟨ρ, σ⟩ : St).σ[b] = .cells cs tg from hbe] at h1
  obtain ⟨vs, t, k1, k2, k3⟩ := h1.row
  have hv := (k3 j hjl).2
  rw [hje] at hv
  generalize hx : vs.getD j undef = v at hv
  cases hv with
  | csl hc =>
    rename_i A
    have hle : κ.le (κ.own (.slice A 0 0) size) := K.own_le
    have frn : (κ.own (.slice A 0 0) size).fr σ.length = some 0 := by show (if σ.length = κ.n then _ else _) = _; rw [if_pos hrep.n.symm]
    have svn : (κ.own (.slice A 0 0) size).sv σ.length = .slice A 0 0 := by show (if σ.length = κ.n then _ else _) = _; rw [if_pos hrep.n.symm]
    have hr2 := hrep.own e size A
    have hpos : (κ.own (.slice A 0 0) size).pos b = κ.pos b := (hle.cells b (by rw [hrep.n]; exact hlt) h1.fr).2
    refine ⟨κ.own (.slice A 0 0) size, hr2.turn (b := b) (j := j) (cs := cs) (tg := tg) (y := .osl σ.length []) ((List.getElem?_append_left hlt).trans hb) rfl (fun vs' t' k1' hj' hv' => ?_), fun k => (hR.env k).mono hle, hR.size, hR.defers, K.le_trans hR.le hle⟩
    rw [hpos, k1] at k1'
    injection k1' with k1'
    injection k1' with e1 e2
    subst e1
    rw [hx]
    exact .osl (hc.mono hle.m) (by show _ < κ.n + 1; rw [hrep.n]; exact Nat.lt_succ_self _) frn (Nat.le_refl _) (fun _ => svn.symm) (by simp)
theorem W.ownCell {n0 : Nat} {Q : St → Prop} {k : List It} {ρ : Env} (b j e size : Nat) {cs : List V} {tg : Option TypeId} (hb : σ[b]? = some (.cells cs tg)) (hj : cs[j]? = some (.csl []))
    (h : W P w0 n0 Q k ⟨ρ, (σ ++ [Blk.spare e size 0]).set b (.cells (cs.set j (.osl σ.length [])) tg)⟩) : W P w0 n0 Q k ⟨ρ, σ⟩ := .weak (Lew.ownCell b j e size hb hj) h
end
end Go.Lamb
namespace Go.Lamb
open Go Go.RowKit

structure Two (σ : H) (b v : Nat) : Prop where
  ne : b ≠ v
  lb : b < σ.length
  lv : v < σ.length
/-- The heap with these two blocks. -/
def rs (σ : H) (b v : Nat) (X Y : Blk) : H := (σ.set b X).set v Y
section
variable {σ : H} {b v : Nat}
@[simp] theorem rs_len (X Y : Blk) : (rs σ b v X Y).length = σ.length := by simp [rs]
theorem rs_app (D : Two σ b v) (L : H) (X Y : Blk) : rs (σ ++ L) b v X Y = rs σ b v X Y ++ L := by
  unfold rs
  rw [List.set_append_left _ _ D.lb, List.set_append_left _ _ (by simpa using D.lv)]
theorem rs_b (D : Two σ b v) (X Y : Blk) : (rs σ b v X Y)[b]? = some X := by
  unfold rs
  rw [List.getElem?_set_ne (fun e => D.ne e.symm), List.getElem?_set_self D.lb]
theorem rs_v (D : Two σ b v) (X Y : Blk) : (rs σ b v X Y)[v]? = some Y := by
  unfold rs
  rw [List.getElem?_set_self (by simpa using D.lv)]
theorem rs_bL (D : Two σ b v) (L : H) (X Y : Blk) : (rs σ b v X Y ++ L)[b]? = some X := by
  rw [List.getElem?_append_left (by simpa using D.lb), rs_b D]
theorem rs_vL (D : Two σ b v) (L : H) (X Y : Blk) : (rs σ b v X Y ++ L)[v]? = some Y := by
  rw [List.getElem?_append_left (by simpa using D.lv), rs_v D]
theorem rs_sb (D : Two σ b v) (X Y Z : Blk) : (rs σ b v X Y).set b Z = rs σ b v Z Y := by
  unfold rs
  rw [List.set_comm _ _ (fun e => D.ne e.symm), List.set_set]
theorem rs_sv (X Y Z : Blk) : (rs σ b v X Y).set v Z = rs σ b v X Z := by
  unfold rs
  rw [List.set_set]
theorem rs_sbL (D : Two σ b v) (L : H) (X Y Z : Blk) : (rs σ b v X Y ++ L).set b Z = rs σ b v Z Y ++ L := by
  rw [List.set_append_left _ _ (by simpa using D.lb), rs_sb D]
theorem rs_svL (D : Two σ b v) (L : H) (X Y Z : Blk) : (rs σ b v X Y ++ L).set v Z = rs σ b v X Z ++ L := by
  rw [List.set_append_left _ _ (by simpa using D.lv), rs_sv]
theorem rs_g0 (x : Blk) (L : H) (X Y : Blk) : (rs σ b v X Y ++ x :: L)[σ.length]? = some x := by
  rw [List.getElem?_append_right (by simp), rs_len, Nat.sub_self]; rfl
theorem rs_g (k : Nat) (L : H) (X Y : Blk) : (rs σ b v X Y ++ L)[σ.length + k]? = L[k]? := by
  rw [List.getElem?_append_right (by simp), rs_len, Nat.add_sub_cancel_left]
theorem rs_s0 (x : Blk) (L : H) (X Y : Blk) : (rs σ b v X Y ++ L).set σ.length x = rs σ b v X Y ++ L.set 0 x := by
  rw [List.set_append_right _ _ (by simp), rs_len, Nat.sub_self]
theorem rs_s (k : Nat) (x : Blk) (L : H) (X Y : Blk) : (rs σ b v X Y ++ L).set (σ.length + k) x = rs σ b v X Y ++ L.set k x := by
  rw [List.set_append_right _ _ (by simp), rs_len, Nat.add_sub_cancel_left]
theorem Two.app (D : Two σ b v) (L : H) : Two (σ ++ L) b v := ⟨D.ne, by have := D.lb; simp; omega, by have := D.lv; simp; omega⟩
theorem rsA (D : Two σ b v) : (∀ X Y : Blk, (rs σ b v X Y)[b]? = some X) ∧ (∀ (L : H) (X Y : Blk), (rs σ b v X Y ++ L)[b]? = some X) ∧ (∀ X Y : Blk, (rs σ b v X Y)[v]? = some Y) ∧ (∀ (L : H) (X Y : Blk), (rs σ b v X Y ++ L)[v]? = some Y) ∧ (∀ X Y Z : Blk, (rs σ b v X Y).set b Z = rs σ b v Z Y) ∧ (∀ (L : H) (X Y Z : Blk), (rs σ b v X Y ++ L).set b Z = rs σ b v Z Y ++ L) ∧ (∀ (L : H) (X Y Z : Blk), (rs σ b v X Y ++ L).set v Z = rs σ b v X Z ++ L) ∧ (∀ (L : H) (X Y : Blk), rs (σ ++ L) b v X Y = rs σ b v X Y ++ L) :=
  ⟨rs_b D, rs_bL D, rs_v D, rs_vL D, rs_sb D, rs_sbL D, rs_svL D, rs_app D⟩
theorem rs_ok (D : Two σ b v) {X Y X' Y' : Blk} (h : H.ok (rs σ b v X Y)) (hx : ∀ cs tg, X' = .cells cs tg → ∀ x ∈ cs, V.low σ.length x) (hy : ∀ cs tg, Y' = .cells cs tg → ∀ x ∈ cs, V.low σ.length x) : H.ok (rs σ b v X' Y') := by
  intro B hB cs tg hc x hxm
  rw [rs_len]
  obtain ⟨i, hi, rfl⟩ := List.getElem_of_mem hB
  have hi' : i < σ.length := by simpa using hi
  have hg : (rs σ b v X' Y')[i]? = some (.cells cs tg) := by rw [List.getElem?_eq_getElem hi, hc]
  by_cases hv : i = v
  · subst hv
    rw [rs_v D] at hg
    injection hg with hg
    exact hy cs tg hg x hxm
  · by_cases hb : i = b
    · subst hb
      rw [rs_b D] at hg
      injection hg with hg
      exact hx cs tg hg x hxm
    · have e : (rs σ b v X Y)[i]? = some (.cells cs tg) := by
        rw [← hg]
        unfold rs
        rw [List.getElem?_set_ne (fun e => hv e.symm), List.getElem?_set_ne (fun e => hb e.symm), List.getElem?_set_ne (fun e => hv e.symm), List.getElem?_set_ne (fun e => hb e.symm)]
      have := h (.cells cs tg) (List.mem_of_getElem? e) cs tg rfl x hxm
      rwa [rs_len] at this
/-- A contract at these two blocks, with more behind. -/
theorem DC.lift {P : Program} {w0 : World} {f : FuncId} {args : List V} {L : H} {X Y X' Y' : Blk} {d : V} (D : Two σ b v) (h : Two (σ ++ L) b v → DC P w0 f args (rs (σ ++ L) b v X Y) (Same d (rs (σ ++ L) b v X' Y'))) : DC P w0 f args (rs σ b v X Y ++ L) (Same d (rs σ b v X' Y' ++ L)) := by rw [← rs_app D, ← rs_app D]; exact h (D.app L)
theorem DC.liftR {P : Program} {w0 : World} {f : FuncId} {args : List V} {L : H} {X Y : Blk} {R : V → H → Prop} (D : Two σ b v) (h : Two (σ ++ L) b v → DC P w0 f args (rs (σ ++ L) b v X Y) R) : DC P w0 f args (rs σ b v X Y ++ L) R := by rw [← rs_app D]; exact h (D.app L)
end
end Go.Lamb
namespace Go.Lamb
open Go Go.RowKit

/-- The heap with this block. -/
def rz (σ : H) (b : Nat) (X : Blk) : H := σ.set b X
section
variable {σ : H} {b : Nat}
@[simp] theorem rz_len (X : Blk) : (rz σ b X).length = σ.length := by simp [rz]
theorem rz_app (D : b < σ.length) (L : H) (X : Blk) : rz (σ ++ L) b X = rz σ b X ++ L := List.set_append_left _ _ D
theorem rz_b (D : b < σ.length) (X : Blk) : (rz σ b X)[b]? = some X := List.getElem?_set_self D
theorem rz_bL (D : b < σ.length) (L : H) (X : Blk) : (rz σ b X ++ L)[b]? = some X := by
  rw [List.getElem?_append_left (by simpa using D), rz_b D]
theorem rz_sb (X Z : Blk) : (rz σ b X).set b Z = rz σ b Z := by unfold rz; rw [List.set_set]
theorem rz_sbL (D : b < σ.length) (L : H) (X Z : Blk) : (rz σ b X ++ L).set b Z = rz σ b Z ++ L := by
  rw [List.set_append_left _ _ (by simpa using D), rz_sb]
theorem rz_g0 (x : Blk) (L : H) (X : Blk) : (rz σ b X ++ x :: L)[σ.length]? = some x := by
  rw [List.getElem?_append_right (by simp), rz_len, Nat.sub_self]; rfl
theorem rz_g (k : Nat) (L : H) (X : Blk) : (rz σ b X ++ L)[σ.length + k]? = L[k]? := by
  rw [List.getElem?_append_right (by simp), rz_len, Nat.add_sub_cancel_left]
theorem rz_s0 (x : Blk) (L : H) (X : Blk) : (rz σ b X ++ L).set σ.length x = rz σ b X ++ L.set 0 x := by
  rw [List.set_append_right _ _ (by simp), rz_len, Nat.sub_self]
theorem rz_s (k : Nat) (x : Blk) (L : H) (X : Blk) : (rz σ b X ++ L).set (σ.length + k) x = rz σ b X ++ L.set k x := by
  rw [List.set_append_right _ _ (by simp), rz_len, Nat.add_sub_cancel_left]
theorem rz_lt (D : b < σ.length) (L : H) : b < (σ ++ L).length := by simp; omega
theorem rz_ok (D : b < σ.length) {X X' : Blk} (h : H.ok (rz σ b X)) (hx : ∀ cs tg, X' = .cells cs tg → ∀ x ∈ cs, V.low σ.length x) : H.ok (rz σ b X') := by
  intro B hB cs tg hc x hxm
  rw [rz_len]
  obtain ⟨i, hi, rfl⟩ := List.getElem_of_mem hB
  have hi' : i < σ.length := by simpa using hi
  have hg : (rz σ b X')[i]? = some (.cells cs tg) := by rw [List.getElem?_eq_getElem hi, hc]
  by_cases hb : i = b
  · subst hb
    rw [rz_b D] at hg
    injection hg with hg
    exact hx cs tg hg x hxm
  · have e : (rz σ b X)[i]? = some (.cells cs tg) := by
      rw [← hg]
      unfold rz
      rw [List.getElem?_set_ne (fun e => hb e.symm), List.getElem?_set_ne (fun e => hb e.symm)]
    have := h (.cells cs tg) (List.mem_of_getElem? e) cs tg rfl x hxm
    rwa [rz_len] at this
theorem rzA (D : b < σ.length) : (∀ X : Blk, (rz σ b X)[b]? = some X) ∧ (∀ (L : H) (X : Blk), (rz σ b X ++ L)[b]? = some X) ∧ (∀ (L : H) (X Z : Blk), (rz σ b X ++ L).set b Z = rz σ b Z ++ L) ∧ (∀ (L : H) (X : Blk), rz (σ ++ L) b X = rz σ b X ++ L) := ⟨rz_b D, rz_bL D, rz_sbL D, rz_app D⟩
/-- A contract at this block, with more behind. -/
theorem DC.lift1 {P : Program} {w0 : World} {f : FuncId} {args : List V} {L : H} {X X' : Blk} {d : V} (D : b < σ.length) (h : b < (σ ++ L).length → DC P w0 f args (rz (σ ++ L) b X) (Same d (rz (σ ++ L) b X'))) : DC P w0 f args (rz σ b X ++ L) (Same d (rz σ b X' ++ L)) := by rw [← rz_app D, ← rz_app D]; exact h (rz_lt D L)
theorem DC.lift1R {P : Program} {w0 : World} {f : FuncId} {args : List V} {L : H} {X : Blk} {R : V → H → Prop} (D : b < σ.length) (h : b < (σ ++ L).length → DC P w0 f args (rz (σ ++ L) b X) R) : DC P w0 f args (rz σ b X ++ L) R := by rw [← rz_app D]; exact h (rz_lt D L)
end
section
variable {P : Program} {w0 : World} {σ : H}
/-- What a body must come to that hands back new blocks. -/
def FinN (r : List ResV) (R : V → H → Prop) (s : St) : Prop := ∃ vs d, resEval s r = some vs ∧ V.wk (resV vs) d ∧ R d s.σ
theorem DC.of_codeN {f : FuncId} {fn : Func} {x : AC} {r : List ResV} {args : List V} {R : V → H → Prop} (hm : P.follows .mixedOrders = true) (hf : P.funcs[f]? = some fn) (hb : fn.body = some (fn.body.getD .skip)) (htr : tr P fn.ntmps (fn.body.getD .skip) = some x)
    (hres : trRes P fn.results.toList = some r) (hargs : args.length ≤ fn.ntmps) (hen : Enters P f) (hW : H.ok σ → (∀ x ∈ args, V.Sz x) → W P w0 σ.length (FinN r R) [.code x] ⟨argEnv args, σ⟩) : DC P w0 f args σ R := by
  refine ⟨hen, fun κ w vs hrep hfit => ?_⟩
  refine calls_of_wp hf hb ?_
  have hR : Rel w0 κ fn.ntmps κ ⟨argEnv args, σ⟩ { tmps := vs.toArray ++ Array.replicate (fn.ntmps - vs.toArray.size) undef, defers := [] } w :=
    ⟨hrep, argEnv_ok hfit _, by simp [hfit.1]; omega, rfl, K.le_refl κ⟩
  have hfin : ∀ s κ' a w, Rel w0 κ fn.ntmps κ' s a w → FinN r R s → a.defers = [] ∧ ∃ v, (results fn a.tmps).run P w = .ok v w ∧ ∃ v' d σ' κ'', Ending.returned v = .returned v' ∧ R d σ' ∧ κ.le κ'' ∧ Rep w0 κ'' σ' w ∧ RV κ'' d v' := by
    rintro s κ' a w hR' ⟨vs, d, h1, h2, h3⟩
    obtain ⟨v, k1, k2⟩ := results_ok hR' hres h1
    exact ⟨hR'.defers, v, k1, v, d, s.σ, κ', rfl, h3, hR'.le, hR'.rep, k2.wk h2⟩
  refine wp_mono (code_sound (n0 := σ.length) hrep.n hm (fn.body.getD .skip) x htr (hW hrep.ok hfit.sz) hR) ?_
  rintro e a w' ⟨s, κ', hR', hs⟩
  cases e with
  | normal =>
    obtain ⟨t, hl, hq⟩ := W.inv_done hs
    obtain ⟨κ2, hR2⟩ := hl w0 κ fn.ntmps κ' a w' hrep.n hR'
    exact hfin t κ2 a w' hR2 hq
  | ret => exact hfin s κ' a w' hR' hs
  | exit id => obtain ⟨k', hp, _⟩ := hs; cases hp
  | goto l => exact hs.elim
  | panic ch => exact hs.elim
  | outgrown => exact hs.elim
theorem CodeIs.goN {f : FuncId} {n : Nat} {fn : Func} {x : AC} {r : List ResV} (K : CodeIs P f n fn x r) {args : List V} {R : V → H → Prop} (ha : args.length = n) (h : H.ok σ → (∀ x ∈ args, V.Sz x) → W P w0 σ.length (FinN r R) [.code x] ⟨argEnv args, σ⟩) : DC P w0 f args σ R :=
  DC.of_codeN K.hm K.hf K.hb K.htr K.hres (by rw [ha]; exact K.hn) K.en h
end
end Go.Lamb
namespace Go.Lamb
open Go Go.RowKit

/-- The token at whatever place. -/
def tokI (t : List Tok) (i : Int) : Tok := if 0 ≤ i then tokL t i.toNat else ⟨0, [], 0, lastPos t⟩
theorem tokI_nat (t : List Tok) (i : Nat) : tokI t (i : Int) = tokL t i := by rw [tokI, if_pos (by omega), Int.toNat_natCast]
structure TyO where
  u : Typ
  j : Int
  ws : List Str
  e : Int
  p : Int
/-- A bracket behind it. -/
def closeO (t : List Tok) (o : TyO) : TyO := ⟨o.u, IntKind.i64.wrap (o.j + 1), o.ws, if o.e = 0 then (if (tokI t o.j).kind = 6 then 0 else 50) else o.e, if o.e = 0 then (if (tokI t o.j).kind = 6 then 0 else (tokI t o.j).pos) else o.p⟩
mutual
def tyAtomG : Nat → List Tok → Nat → Nat → List Str → Option TyO
  | 0, _, _, _, _ => none
  | f + 1, t, depth, i, vs =>
    if (tokL t i).kind = 1 then some ⟨.con (tokL t i).text, (i + 1 : Nat), vs, 0, 0⟩
    else if (tokL t i).kind = 2 then some ⟨.var (vnum vs (tokL t i).text), (i + 1 : Nat), vadd vs (tokL t i).text, 0, 0⟩
    else if (tokL t i).kind = 5 then
      match (if 200 ≤ depth then some ⟨.none, (i + 1 : Nat), vs, 31, (tokL t i).pos⟩ else tyTypeG f t (depth + 1) (i + 1) vs) with
      | none => none
      | some o => some (closeO t o)
    else some ⟨.none, (i : Nat), vs, 50, (tokL t i).pos⟩
def tyArgsG : Nat → List Tok → Nat → TyO → Option TyO
  | 0, _, _, _ => none
  | f + 1, t, depth, o =>
    if o.e = 0 ∧ tyBegins (tokI t o.j) = true then
      match tyAtomG f t depth o.j.toNat o.ws with
      | none => none
      | some a => tyArgsG f t depth ⟨o.u.put a.u, a.j, a.ws, a.e, a.p⟩
    else some o
def tyTailG : Nat → List Tok → Nat → TyO → Option TyO
  | 0, _, _, _ => none
  | f + 1, t, depth, o =>
    if o.e = 0 ∧ (tokI t o.j).kind = 4 ∧ (tokI t o.j).text = [45, 62] then
      match (if 200 ≤ depth then some ⟨.none, IntKind.i64.wrap (o.j + 1), o.ws, 31, (tokI t o.j).pos⟩ else tyTypeG f t (depth + 1) (o.j + 1).toNat o.ws) with
      | none => none
      | some y => some ⟨.arr o.u y.u, y.j, y.ws, y.e, y.p⟩
    else some o
def tyTypeG : Nat → List Tok → Nat → Nat → List Str → Option TyO
  | 0, _, _, _, _ => none
  | f + 1, t, depth, i, vs => match tyAtomG f t depth i vs with
    | none => none
    | some o => match (if (tokL t i).kind = 1 then tyArgsG f t depth o else some o) with
      | none => none
      | some o2 => tyTailG f t depth o2
end
/-- What comes of it, in both words. -/
def TOut (r : TyR) (o : TyO) : Prop := match r with
  | .ok (u, j, ws) => o = ⟨u, (j : Nat), ws, 0, 0⟩
  | .error x => o.e = x.e ∧ o.p = x.pos ∧ (x.e == 0) = false
theorem args_stop {f : Nat} {t : List Tok} {depth : Nat} {o : TyO} (h : o.e ≠ 0) : tyArgsG (f + 1) t depth o = some o := by rw [tyArgsG, if_neg (fun c => h c.1)]
theorem tail_stop {f : Nat} {t : List Tok} {depth : Nat} {o : TyO} (h : o.e ≠ 0) : tyTailG (f + 1) t depth o = some o := by rw [tyTailG, if_neg (fun c => h c.1)]
theorem close_ok {t : List Tok} {u : Typ} {j : Nat} {ws : List Str} (hj : j ≤ 2000000) : closeO t ⟨u, (j : Nat), ws, 0, 0⟩ = if (tokL t j).kind = 6 then ⟨u, (j + 1 : Nat), ws, 0, 0⟩ else ⟨u, (j + 1 : Nat), ws, 50, (tokL t j).pos⟩ := by
  unfold closeO
  simp only [if_true, tokI_nat]
  have : IntKind.i64.wrap ((j : Int) + 1) = ((j + 1 : Nat) : Int) := by rw [wrap_in] <;> omega
  rw [this]
  by_cases h : (tokL t j).kind = 6
  · simp only [if_pos h]
  · simp only [if_neg h]
theorem close_bad {t : List Tok} {o : TyO} (h : o.e ≠ 0) : closeO t o = ⟨o.u, IntKind.i64.wrap (o.j + 1), o.ws, o.e, o.p⟩ := by
  unfold closeO
  simp only [if_neg h]
theorem ty_out : ∀ (f : Nat), (∀ t depth i vs r, t.length ≤ 1000000 → tyAtomF f t depth i vs = some r → ∃ o, tyAtomG f t depth i vs = some o ∧ TOut r o) ∧
    (∀ t depth i vs u r, t.length ≤ 1000000 → tyArgsF f t depth i vs u = some r → ∃ o, tyArgsG f t depth ⟨u, (i : Nat), vs, 0, 0⟩ = some o ∧ TOut r o) ∧
    (∀ t depth i vs u r, t.length ≤ 1000000 → i ≤ t.length → tyTailF f t depth i vs u = some r → ∃ o, tyTailG f t depth ⟨u, (i : Nat), vs, 0, 0⟩ = some o ∧ TOut r o) ∧
    (∀ t depth i vs r, t.length ≤ 1000000 → tyTypeF f t depth i vs = some r → ∃ o, tyTypeG f t depth i vs = some o ∧ TOut r o)
  | 0 => ⟨fun _ _ _ _ _ _ h => by simp [tyAtomF] at h, fun _ _ _ _ _ _ _ h => by simp [tyArgsF] at h, fun _ _ _ _ _ _ _ _ h => by simp [tyTailF] at h, fun _ _ _ _ _ _ h => by simp [tyTypeF] at h⟩
  | f + 1 => by
    obtain ⟨h1, h2, h3, h4⟩ := ty_out f
    have hpos : ∀ {t depth i vs r}, tyAtomF f t depth i vs = some r → 0 < f := fun h => by
      cases f with
      | zero => simp [tyAtomF] at h
      | succ f => omega
    refine ⟨fun t depth i vs r ht h => ?_, fun t depth i vs u r ht h => ?_, fun t depth i vs u r ht hi h => ?_, fun t depth i vs r ht h => ?_⟩
    · rw [tyAtomF] at h
      rw [tyAtomG]
      by_cases c1 : (tokL t i).kind = 1
      · rw [if_pos c1] at h ⊢
        injection h with h; subst h
        exact ⟨_, rfl, rfl⟩
      rw [if_neg c1] at h ⊢
      by_cases c2 : (tokL t i).kind = 2
      · rw [if_pos c2] at h ⊢
        injection h with h; subst h
        exact ⟨_, rfl, rfl⟩
      rw [if_neg c2] at h ⊢
      by_cases c3 : (tokL t i).kind = 5
      · rw [if_pos c3] at h ⊢
        by_cases c4 : 200 ≤ depth
        · rw [if_pos c4] at h ⊢
          injection h with h; subst h
          refine ⟨_, rfl, ?_⟩
          rw [close_bad (by show (31 : Int) ≠ 0; decide)]
          exact ⟨rfl, rfl, rfl⟩
        · rw [if_neg c4] at h ⊢
          cases he : tyTypeF f t (depth + 1) (i + 1) vs with
          | none => rw [he] at h; cases h
          | some y =>
            rw [he] at h
            obtain ⟨o, ho, hO⟩ := h4 _ _ _ _ _ ht he
            rw [ho]
            cases y with
            | error b =>
              injection h with h; subst h
              obtain ⟨q1, q2, q3⟩ := hO
              have hne : o.e ≠ 0 := by rw [q1]; simpa using q3
              refine ⟨_, rfl, ?_⟩
              rw [close_bad hne]
              exact ⟨q1, q2, q3⟩
            | ok y =>
              obtain ⟨u, j, ws⟩ := y
              have hb := (ty_bounds f).2.2.2 _ _ _ _ _ _ _ he
              have hO' : o = ⟨u, (j : Nat), ws, 0, 0⟩ := hO
              subst hO'
              refine ⟨_, rfl, ?_⟩
              rw [close_ok (by omega)]
              simp only at h
              by_cases c6 : (tokL t j).kind = 6
              · rw [if_pos c6] at h ⊢
                injection h with h; subst h
                rfl
              · rw [if_neg c6] at h ⊢
                injection h with h; subst h
                exact ⟨rfl, rfl, rfl⟩
      · rw [if_neg c3] at h ⊢
        injection h with h; subst h
        exact ⟨_, rfl, rfl, rfl, rfl⟩
    · rw [tyArgsF] at h
      rw [tyArgsG]
      simp only [tokI_nat, true_and, Int.toNat_natCast]
      by_cases c1 : tyBegins (tokL t i) = false
      · rw [if_pos c1] at h
        rw [if_neg (by rw [c1]; decide)]
        injection h with h; subst h
        exact ⟨_, rfl, rfl⟩
      · rw [if_neg c1] at h
        rw [if_pos (by simpa using c1)]
        cases he : tyAtomF f t depth i vs with
        | none => rw [he] at h; cases h
        | some y =>
          rw [he] at h
          have hf := hpos he
          obtain ⟨o, ho, hO⟩ := h1 _ _ _ _ _ ht he
          rw [ho]
          cases y with
          | error b =>
            injection h with h; subst h
            obtain ⟨q1, q2, q3⟩ := hO
            have hne : o.e ≠ 0 := by rw [q1]; simpa using q3
            obtain ⟨f', rfl⟩ : ∃ f', f = f' + 1 := ⟨f - 1, by omega⟩
            exact ⟨_, args_stop hne, q1, q2, q3⟩
          | ok y =>
            obtain ⟨a, j, ws⟩ := y
            have hO' : o = ⟨a, (j : Nat), ws, 0, 0⟩ := hO
            subst hO'
            exact h2 _ _ _ _ _ _ ht h
    · rw [tyTailF] at h
      rw [tyTailG]
      simp only [tokI_nat, true_and]
      by_cases c1 : (tokL t i).kind = 4 ∧ (tokL t i).text = [45, 62]
      · rw [if_pos c1] at h
        rw [if_pos c1]
        by_cases c4 : 200 ≤ depth
        · rw [if_pos c4] at h ⊢
          injection h with h; subst h
          exact ⟨_, rfl, rfl, rfl, rfl⟩
        · rw [if_neg c4] at h ⊢
          have e : ((i : Int) + 1).toNat = i + 1 := by omega
          rw [e]
          cases he : tyTypeF f t (depth + 1) (i + 1) vs with
          | none => rw [he] at h; cases h
          | some y =>
            rw [he] at h
            obtain ⟨o, ho, hO⟩ := h4 _ _ _ _ _ ht he
            rw [ho]
            cases y with
            | error b =>
              injection h with h; subst h
              exact ⟨_, rfl, hO⟩
            | ok y =>
              obtain ⟨a, j, ws⟩ := y
              have hO' : o = ⟨a, (j : Nat), ws, 0, 0⟩ := hO
              subst hO'
              injection h with h; subst h
              exact ⟨_, rfl, rfl⟩
      · rw [if_neg c1] at h
        rw [if_neg c1]
        injection h with h; subst h
        exact ⟨_, rfl, rfl⟩
    · rw [tyTypeF] at h
      rw [tyTypeG]
      cases he : tyAtomF f t depth i vs with
      | none => rw [he] at h; cases h
      | some y =>
        rw [he] at h
        have hf := hpos he
        obtain ⟨f', hf'⟩ : ∃ f', f = f' + 1 := ⟨f - 1, by omega⟩
        obtain ⟨o, ho, hO⟩ := h1 _ _ _ _ _ ht he
        rw [ho]
        simp only
        cases y with
        | error b =>
          injection h with h; subst h
          obtain ⟨q1, q2, q3⟩ := hO
          have hne : o.e ≠ 0 := by rw [q1]; simpa using q3
          refine ⟨o, ?_, q1, q2, q3⟩
          subst hf'
          by_cases c1 : (tokL t i).kind = 1
          · rw [if_pos c1, args_stop hne]
            exact tail_stop hne
          · rw [if_neg c1]
            exact tail_stop hne
        | ok y =>
          obtain ⟨a, j, ws⟩ := y
          have b1 := (ty_bounds f).1 _ _ _ _ _ _ _ he
          have hO' : o = ⟨a, (j : Nat), ws, 0, 0⟩ := hO
          subst hO'
          simp only at h
          by_cases c1 : (tokL t i).kind = 1
          · rw [if_pos c1] at h ⊢
            cases hg : tyArgsF f t depth j ws a with
            | none => rw [hg] at h; cases h
            | some z =>
              rw [hg] at h
              obtain ⟨o2, ho2, hO2⟩ := h2 _ _ _ _ _ _ ht hg
              rw [ho2]
              cases z with
              | error b =>
                injection h with h; subst h
                obtain ⟨q1, q2, q3⟩ := hO2
                have hne : o2.e ≠ 0 := by rw [q1]; simpa using q3
                subst hf'
                exact ⟨o2, tail_stop hne, q1, q2, q3⟩
              | ok z =>
                obtain ⟨a2, j2, ws2⟩ := z
                have b2 := (ty_bounds f).2.1 _ _ _ _ _ _ _ _ hg b1.2.1
                have hO' : o2 = ⟨a2, (j2 : Nat), ws2, 0, 0⟩ := hO2
                subst hO'
                exact h3 _ _ _ _ _ _ ht b2.2.1 h
          · rw [if_neg c1] at h ⊢
            exact h3 _ _ _ _ _ _ ht b1.2.1 h
end Go.Lamb
namespace Go.Lamb
open Go Go.RowKit

mutual
def validT : Typ → Bool
  | .mk k s n l => (if k = 0 then isNameB s && n == 0 else if k = 1 then s == [] && decide (0 ≤ n) && decide (n ≤ 4611686018427387904) && l.length == 0 else if k = 2 then s == [] && n == 0 && l.length == 2 else false) && validTs l
def validTs : List Typ → Bool
  | [] => true
  | x :: l => validT x && validTs l
end
/-- Things in front of an arrow, one by one. -/
def arrows (l : List Typ) (u : Typ) : Typ := l.foldr Typ.arr u
mutual
def depthT : Typ → Nat
  | .mk _ _ _ l => depthTs l + 1
def depthTs : List Typ → Nat
  | [] => 0
  | x :: l => max (depthT x) (depthTs l)
end
end Go.Lamb
namespace Go.Lamb
open Go Go.RowKit

theorem fit_str {κ : K} (s : ByteArray) (h : s.size ≤ maxLen) : RV κ (S s.data.toList) (.string s) := by
  have := RC.str (m := κ.m) s.data.toList (by simpa using h)
  rw [← bs_of] at this
  exact .c this
end Go.Lamb
namespace Go.Lamb
open Go Go.RowKit

mutual
def tyAtomQ : Nat → List Tok → Nat → Nat → List Str → Option TyO
  | 0, _, _, _, _ => none
  | f + 1, t, depth, i, vs =>
    if (tokL t i).kind = 1 then some ⟨.con (tokL t i).text, (i + 1 : Nat), vs, 0, 0⟩
    else if (tokL t i).kind = 2 then some ⟨.var (vnum vs (tokL t i).text), (i + 1 : Nat), vadd vs (tokL t i).text, 0, 0⟩
    else if (tokL t i).kind = 5 then
      if 200 ≤ depth then some ⟨.none, (i + 1 : Nat), vs, 31, (tokL t i).pos⟩
      else match tyTypeQ f t (depth + 1) (i + 1) vs with
        | none => none
        | some o => some (closeO t o)
    else some ⟨.none, (i : Nat), vs, 50, (tokL t i).pos⟩
def tyArgsQ : Nat → List Tok → Nat → TyO → Option TyO
  | 0, _, _, _ => none
  | f + 1, t, depth, o =>
    if o.e = 0 ∧ tyBegins (tokI t o.j) = true then
      match tyAtomQ f t depth o.j.toNat o.ws with
      | none => none
      | some a => tyArgsQ f t depth ⟨o.u.put a.u, a.j, a.ws, a.e, a.p⟩
    else some o
def tyTailQ : Nat → List Tok → Nat → TyO → Option TyO
  | 0, _, _, _ => none
  | f + 1, t, depth, o =>
    if o.e = 0 ∧ (tokI t o.j).kind = 4 ∧ (tokI t o.j).text = [45, 62] then
      if 200 ≤ depth then some ⟨.none, o.j, o.ws, 31, (tokI t o.j).pos⟩
      else match tyTypeQ f t (depth + 1) (o.j + 1).toNat o.ws with
        | none => none
        | some y => some ⟨.arr o.u y.u, y.j, y.ws, y.e, y.p⟩
    else some o
def tyTypeQ : Nat → List Tok → Nat → Nat → List Str → Option TyO
  | 0, _, _, _, _ => none
  | f + 1, t, depth, i, vs => match tyAtomQ f t depth i vs with
    | none => none
    | some o => match (if (tokL t i).kind = 1 then tyArgsQ f t depth o else some o) with
      | none => none
      | some o2 => tyTailQ f t depth o2
end
theorem args_stopQ {f : Nat} {t : List Tok} {depth : Nat} {o : TyO} (h : o.e ≠ 0) : tyArgsQ (f + 1) t depth o = some o := by rw [tyArgsQ, if_neg (fun c => h c.1)]
theorem tail_stopQ {f : Nat} {t : List Tok} {depth : Nat} {o : TyO} (h : o.e ≠ 0) : tyTailQ (f + 1) t depth o = some o := by rw [tyTailQ, if_neg (fun c => h c.1)]
theorem ty_outQ : ∀ (f : Nat), (∀ t depth i vs r, t.length ≤ 1000000 → tyAtomF f t depth i vs = some r → ∃ o, tyAtomQ f t depth i vs = some o ∧ TOut r o) ∧
    (∀ t depth i vs u r, t.length ≤ 1000000 → tyArgsF f t depth i vs u = some r → ∃ o, tyArgsQ f t depth ⟨u, (i : Nat), vs, 0, 0⟩ = some o ∧ TOut r o) ∧
    (∀ t depth i vs u r, t.length ≤ 1000000 → i ≤ t.length → tyTailF f t depth i vs u = some r → ∃ o, tyTailQ f t depth ⟨u, (i : Nat), vs, 0, 0⟩ = some o ∧ TOut r o) ∧
    (∀ t depth i vs r, t.length ≤ 1000000 → tyTypeF f t depth i vs = some r → ∃ o, tyTypeQ f t depth i vs = some o ∧ TOut r o)
  | 0 => ⟨fun _ _ _ _ _ _ h => by simp [tyAtomF] at h, fun _ _ _ _ _ _ _ h => by simp [tyArgsF] at h, fun _ _ _ _ _ _ _ _ h => by simp [tyTailF] at h, fun _ _ _ _ _ _ h => by simp [tyTypeF] at h⟩
  | f + 1 => by
    obtain ⟨h1, h2, h3, h4⟩ := ty_outQ f
    have hpos : ∀ {t depth i vs r}, tyAtomF f t depth i vs = some r → 0 < f := fun h => by
      cases f with
      | zero => simp [tyAtomF] at h
      | succ f => omega
    refine ⟨fun t depth i vs r ht h => ?_, fun t depth i vs u r ht h => ?_, fun t depth i vs u r ht hi h => ?_, fun t depth i vs r ht h => ?_⟩
    · rw [tyAtomF] at h
      rw [tyAtomQ]
      by_cases c1 : (tokL t i).kind = 1
      · rw [if_pos c1] at h ⊢
        injection h with h; subst h
        exact ⟨_, rfl, rfl⟩
      rw [if_neg c1] at h ⊢
      by_cases c2 : (tokL t i).kind = 2
      · rw [if_pos c2] at h ⊢
        injection h with h; subst h
        exact ⟨_, rfl, rfl⟩
      rw [if_neg c2] at h ⊢
      by_cases c3 : (tokL t i).kind = 5
      · rw [if_pos c3] at h ⊢
        by_cases c4 : 200 ≤ depth
        · rw [if_pos c4] at h ⊢
          injection h with h; subst h
          exact ⟨_, rfl, rfl, rfl, rfl⟩
        · rw [if_neg c4] at h ⊢
          cases he : tyTypeF f t (depth + 1) (i + 1) vs with
          | none => rw [he] at h; cases h
          | some y =>
            rw [he] at h
            obtain ⟨o, ho, hO⟩ := h4 _ _ _ _ _ ht he
            rw [ho]
            cases y with
            | error b =>
              injection h with h; subst h
              obtain ⟨q1, q2, q3⟩ := hO
              have hne : o.e ≠ 0 := by rw [q1]; simpa using q3
              refine ⟨_, rfl, ?_⟩
              rw [close_bad hne]
              exact ⟨q1, q2, q3⟩
            | ok y =>
              obtain ⟨u, j, ws⟩ := y
              have hb := (ty_bounds f).2.2.2 _ _ _ _ _ _ _ he
              have hO' : o = ⟨u, (j : Nat), ws, 0, 0⟩ := hO
              subst hO'
              refine ⟨_, rfl, ?_⟩
              rw [close_ok (by omega)]
              simp only at h
              by_cases c6 : (tokL t j).kind = 6
              · rw [if_pos c6] at h ⊢
                injection h with h; subst h
                rfl
              · rw [if_neg c6] at h ⊢
                injection h with h; subst h
                exact ⟨rfl, rfl, rfl⟩
      · rw [if_neg c3] at h ⊢
        injection h with h; subst h
        exact ⟨_, rfl, rfl, rfl, rfl⟩
    · rw [tyArgsF] at h
      rw [tyArgsQ]
      simp only [tokI_nat, true_and, Int.toNat_natCast]
      by_cases c1 : tyBegins (tokL t i) = false
      · rw [if_pos c1] at h
        rw [if_neg (by rw [c1]; decide)]
        injection h with h; subst h
        exact ⟨_, rfl, rfl⟩
      · rw [if_neg c1] at h
        rw [if_pos (by simpa using c1)]
        cases he : tyAtomF f t depth i vs with
        | none => rw [he] at h; cases h
        | some y =>
          rw [he] at h
          have hf := hpos he
          obtain ⟨o, ho, hO⟩ := h1 _ _ _ _ _ ht he
          rw [ho]
          cases y with
          | error b =>
            injection h with h; subst h
            obtain ⟨q1, q2, q3⟩ := hO
            have hne : o.e ≠ 0 := by rw [q1]; simpa using q3
            obtain ⟨f', rfl⟩ : ∃ f', f = f' + 1 := ⟨f - 1, by omega⟩
            exact ⟨_, args_stopQ hne, q1, q2, q3⟩
          | ok y =>
            obtain ⟨a, j, ws⟩ := y
            have hO' : o = ⟨a, (j : Nat), ws, 0, 0⟩ := hO
            subst hO'
            exact h2 _ _ _ _ _ _ ht h
    · rw [tyTailF] at h
      rw [tyTailQ]
      simp only [tokI_nat, true_and]
      by_cases c1 : (tokL t i).kind = 4 ∧ (tokL t i).text = [45, 62]
      · rw [if_pos c1] at h
        rw [if_pos c1]
        by_cases c4 : 200 ≤ depth
        · rw [if_pos c4] at h ⊢
          injection h with h; subst h
          exact ⟨_, rfl, rfl, rfl, rfl⟩
        · rw [if_neg c4] at h ⊢
          have e : ((i : Int) + 1).toNat = i + 1 := by omega
          rw [e]
          cases he : tyTypeF f t (depth + 1) (i + 1) vs with
          | none => rw [he] at h; cases h
          | some y =>
            rw [he] at h
            obtain ⟨o, ho, hO⟩ := h4 _ _ _ _ _ ht he
            rw [ho]
            cases y with
            | error b =>
              injection h with h; subst h
              exact ⟨_, rfl, hO⟩
            | ok y =>
              obtain ⟨a, j, ws⟩ := y
              have hO' : o = ⟨a, (j : Nat), ws, 0, 0⟩ := hO
              subst hO'
              injection h with h; subst h
              exact ⟨_, rfl, rfl⟩
      · rw [if_neg c1] at h
        rw [if_neg c1]
        injection h with h; subst h
        exact ⟨_, rfl, rfl⟩
    · rw [tyTypeF] at h
      rw [tyTypeQ]
      cases he : tyAtomF f t depth i vs with
      | none => rw [he] at h; cases h
      | some y =>
        rw [he] at h
        have hf := hpos he
        obtain ⟨f', hf'⟩ : ∃ f', f = f' + 1 := ⟨f - 1, by omega⟩
        obtain ⟨o, ho, hO⟩ := h1 _ _ _ _ _ ht he
        rw [ho]
        simp only
        cases y with
        | error b =>
          injection h with h; subst h
          obtain ⟨q1, q2, q3⟩ := hO
          have hne : o.e ≠ 0 := by rw [q1]; simpa using q3
          refine ⟨o, ?_, q1, q2, q3⟩
          subst hf'
          by_cases c1 : (tokL t i).kind = 1
          · rw [if_pos c1, args_stopQ hne]
            exact tail_stopQ hne
          · rw [if_neg c1]
            exact tail_stopQ hne
        | ok y =>
          obtain ⟨a, j, ws⟩ := y
          have b1 := (ty_bounds f).1 _ _ _ _ _ _ _ he
          have hO' : o = ⟨a, (j : Nat), ws, 0, 0⟩ := hO
          subst hO'
          simp only at h
          by_cases c1 : (tokL t i).kind = 1
          · rw [if_pos c1] at h ⊢
            cases hg : tyArgsF f t depth j ws a with
            | none => rw [hg] at h; cases h
            | some z =>
              rw [hg] at h
              obtain ⟨o2, ho2, hO2⟩ := h2 _ _ _ _ _ _ ht hg
              rw [ho2]
              cases z with
              | error b =>
                injection h with h; subst h
                obtain ⟨q1, q2, q3⟩ := hO2
                have hne : o2.e ≠ 0 := by rw [q1]; simpa using q3
                subst hf'
                exact ⟨o2, tail_stopQ hne, q1, q2, q3⟩
              | ok z =>
                obtain ⟨a2, j2, ws2⟩ := z
                have b2 := (ty_bounds f).2.1 _ _ _ _ _ _ _ _ hg b1.2.1
                have hO' : o2 = ⟨a2, (j2 : Nat), ws2, 0, 0⟩ := hO2
                subst hO'
                exact h3 _ _ _ _ _ _ ht b2.2.1 h
          · rw [if_neg c1] at h ⊢
            exact h3 _ _ _ _ _ _ ht b1.2.1 h
end Go.Lamb

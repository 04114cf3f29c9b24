/-
  Plain: small aids of the walks.
  Plain: how a tree is written.
  Plain: which trees could have been read, which are the same, and how large they are.
  Plain: how long a tree's text is.
  Plain: how far is read.
  Plain: contracts of functions that are called as they leave (deferred); a struct with a slice that is nil, laid in a world.
  Plain: bytes that are frozen where a builder kept them.
-/
import Derived.Test.YtljjlhdkkbaehaaGreatDoorQJ9
import Derived.Lib.ItoaNum
import Derived.Lib.ItoaLen
import Derived.Test.YtljjlhdkkbaehaaGreatDoorQJ8
import Derived.Defers
import Derived.Lib.UnsafeStr
set_option linter.unusedSimpArgs false
set_option linter.unusedVariables false
set_option maxHeartbeats 8000000
set_option maxRecDepth 20000
namespace Go.Lamb
open Go Go.RowKit

theorem DC.toSame {P : Program} {w0 : World} {f : FuncId} {args : List V} {σ τ : H} {d d' : V} (h : DC P w0 f args σ (Same d τ)) (e : d = d') : DC P w0 f args σ (Same d' τ) := by subst e; exact h
end Go.Lamb
namespace Go.Lamb
open Go Go.RowKit

def lamP (p : Pre) : Bool := p.k == 4 && p.l.length == 1
def appP (p : Pre) : Bool := p.k == 3 && p.l.length == 2
/-- The operator that makes a tree, if one does, and what it is made of. -/
def infP (l : List OpT) (p : Pre) : Option (OpT × Pre × Pre) :=
  if p.k = 3 then match p.l with
    | [f, b] => if f.k = 3 then match f.l with
        | [c, a] => if c.k = 0 then (findL l c.name).map fun o => (o, a, b) else none
        | _ => none
      else none
    | _ => none
  else none
def wordP (l : List OpT) (p : Pre) : List UInt8 :=
  if p.k = 0 then (if (findL l p.name).isSome then 40 :: p.name ++ [41] else p.name)
  else if p.k = 1 then p.name
  else if p.k = 2 then Lib.itoa (max p.n 0)
  else [63]
def putP (s : List UInt8) (b : Bool) : List UInt8 := if b then 40 :: s ++ [41] else s
/-- Is a tree to one side of an operator in brackets? (fix: 1 left, 2 right.) -/
def sideB (l : List OpT) (o : OpT) (fix : Int) (p : Pre) : Bool := lamP p || (match infP l p with | some (x, _, _) => !besideL o x fix | none => false)

/-- A tree's text, with those of its parts. -/
inductive ShR where
  | mk (text : List UInt8) (kids : List ShR)
  deriving Inhabited
def ShR.text : ShR → List UInt8 | .mk s _ => s
def ShR.kids : ShR → List ShR | .mk _ r => r
def kidS (r : List ShR) (i : Nat) : ShR := (r[i]?).getD (.mk [] [])
def stepS (l : List OpT) (p : Pre) (r : List ShR) : List UInt8 := match infP l p with
  | some (o, a, b) => putP (kidS (kidS r 0).kids 1).text (sideB l o 1 a) ++ (32 :: o.name ++ [32]) ++ putP (kidS r 1).text (sideB l o 2 b)
  | none =>
    if lamP p then p.name ++ [92, 32] ++ (kidS r 0).text
    else if appP p then
      let f := (p.l[0]?).getD .none
      let b := (p.l[1]?).getD .none
      putP (kidS r 0).text ((infP l f).isSome || lamP f) ++ 32 :: putP (kidS r 1).text (lamP b || appP b)
    else wordP l p
mutual
def showR (l : List OpT) : Pre → ShR
  | .mk k s n cs a => .mk (stepS l (.mk k s n cs a) (showRs l cs)) (showRs l cs)
def showRs (l : List OpT) : List Pre → List ShR
  | [] => []
  | p :: r => showR l p :: showRs l r
end
theorem showRs_map (l : List OpT) : ∀ r : List Pre, showRs l r = r.map (showR l)
  | [] => by simp [showRs]
  | p :: r => by rw [showRs, showRs_map l r, List.map_cons]
def showL (l : List OpT) (p : Pre) : List UInt8 := (showR l p).text
theorem showR_kids (l : List OpT) (p : Pre) : (showR l p).kids = p.l.map (showR l) := by
  cases p
  rw [showR, showRs_map]
  rfl
theorem showL_eq (l : List OpT) (p : Pre) : showL l p = stepS l p (p.l.map (showR l)) := by
  cases p
  rw [showL, showR, showRs_map]
  rfl
theorem infP_some {l : List OpT} {p : Pre} {o : OpT} {a b : Pre} (h : infP l p = some (o, a, b)) :
    p.k = 3 ∧ ∃ f c, p.l = [f, b] ∧ f.k = 3 ∧ f.l = [c, a] ∧ c.k = 0 ∧ findL l c.name = some o := by
  unfold infP at h
  split at h
  · rename_i h3
    split at h
    · rename_i f b' hl
      split at h
      · rename_i hf
        split at h
        · rename_i c a' hfl
          split at h
          · rename_i hc
            cases e : findL l c.name with
            | none => rw [e] at h; cases h
            | some o' =>
              rw [e] at h
              injection h with h
              injection h with h1 h2
              injection h2 with h2 h4
              subst h1 h2 h4
              exact ⟨h3, f, c, hl, hf, hfl, hc, e⟩
          · cases h
        · cases h
      · cases h
    · cases h
  · cases h
theorem infP_app {l : List OpT} {p : Pre} (h : (infP l p).isSome = true) : appP p = true := by
  cases e : infP l p with
  | none => rw [e] at h; cases h
  | some x =>
    obtain ⟨o, a, b⟩ := x
    obtain ⟨h1, f, c, h2, _⟩ := infP_some e
    simp [appP, h1, h2]
theorem showL_inf {l : List OpT} {p : Pre} {o : OpT} {a b : Pre} (h : infP l p = some (o, a, b)) :
    showL l p = putP (showL l a) (sideB l o 1 a) ++ (32 :: o.name ++ [32]) ++ putP (showL l b) (sideB l o 2 b) := by
  obtain ⟨_, f, c, h2, _, h3, _⟩ := infP_some h
  rw [showL_eq, stepS, h]
  simp only [h2, List.map_cons, List.map_nil, kidS, List.getElem?_cons_zero, List.getElem?_cons_succ, Option.getD_some, showR_kids, h3]
  rfl
theorem showL_lam {l : List OpT} {p q : Pre} (hk : p.k = 4) (hl : p.l = [q]) : showL l p = p.name ++ [92, 32] ++ showL l q := by
  have h0 : infP l p = none := by unfold infP; rw [if_neg (by omega)]
  have h1 : lamP p = true := by simp [lamP, hk, hl]
  rw [showL_eq, stepS, h0]
  simp only [h1, if_true, hl, List.map_cons, List.map_nil, kidS, List.getElem?_cons_zero, Option.getD_some]
  rfl
theorem showL_app {l : List OpT} {p f b : Pre} (hi : infP l p = none) (hk : p.k = 3) (hl : p.l = [f, b]) :
    showL l p = putP (showL l f) ((infP l f).isSome || lamP f) ++ 32 :: putP (showL l b) (lamP b || appP b) := by
  have h1 : lamP p = false := by simp [lamP, hk]
  have h2 : appP p = true := by simp [appP, hk, hl]
  rw [showL_eq, stepS, hi]
  simp only [h1, h2, if_true, Bool.false_eq_true, if_false, hl, List.map_cons, List.map_nil, kidS, List.getElem?_cons_zero, List.getElem?_cons_succ, Option.getD_some]
  rfl
theorem showL_word {l : List OpT} {p : Pre} (h1 : lamP p = false) (h2 : appP p = false) : showL l p = wordP l p := by
  have h0 : infP l p = none := by
    cases e : infP l p with
    | none => rfl
    | some x => rw [infP_app (by rw [e]; rfl)] at h2; cases h2
  rw [showL_eq, stepS, h0]
  simp only [h1, h2, Bool.false_eq_true, if_false]
end Go.Lamb
namespace Go.Lamb
open Go Go.RowKit

theorem Pre.ind {P : Pre → Prop} (h : ∀ p, (∀ q ∈ p.l, P q) → P p) : ∀ p, P p
  | .mk k s n l a => h _ fun q hq => Pre.ind h q
termination_by p => SizeOf.sizeOf p
decreasing_by
  have := List.sizeOf_lt_of_mem hq
  simp only [Pre.l] at this
  simp only [Pre.mk.sizeOf_spec]
  omega
mutual
/-- The same, but for places? -/
def samePre : Pre → Pre → Bool
  | .mk k s n l _, .mk k' s' n' l' _ => k == k' && s == s' && n == n' && samePres l l'
def samePres : List Pre → List Pre → Bool
  | [], [] => true
  | x :: l, y :: r => samePre x y && samePres l r
  | _, _ => false
end
/-- May one be so, but for what it is made of? -/
def nodeOk (l : List OpT) (k : Int) (s : List UInt8) (n : Int) (len : Nat) : Bool :=
  if k = 0 then (isNameB s || isSymB s) && n == 0 && len == 0
  else if k = 1 then isVarB s && !(findL l s).isSome && n == 0 && len == 0
  else if k = 2 then s == [] && decide (0 ≤ n) && len == 0
  else if k = 3 then s == [] && n == 0 && len == 2
  else if k = 4 then (isNameB s || isVarB s) && !(findL l s).isSome && n == 0 && len == 1
  else false
mutual
def validPre (o : List OpT) : Pre → Bool
  | .mk k s n l _ => nodeOk o k s n l.length && validPres o l
def validPres (o : List OpT) : List Pre → Bool
  | [] => true
  | x :: l => validPre o x && validPres o l
end
mutual
/-- What is left of so many nodes. -/
def leftP : Pre → Int → Int
  | .mk _ _ _ l _, n => leftPs l (n - 1)
def leftPs : List Pre → Int → Int
  | [], n => n
  | p :: l, n => if 0 ≤ n then leftPs l (leftP p n) else n
end
theorem leftP_eq (p : Pre) (n : Int) : leftP p n = leftPs p.l (n - 1) := by cases p; simp [leftP, Pre.l]
theorem leftPs_neg {l : List Pre} {n : Int} (h : ¬ 0 ≤ n) : leftPs l n = n := by
  cases l with
  | nil => rfl
  | cons p l => rw [leftPs, if_neg h]
mutual
theorem leftP_le : ∀ (p : Pre) (n : Int), 0 ≤ n → -1 ≤ leftP p n ∧ leftP p n ≤ n - 1
  | .mk _ _ _ l _, n, h => by rw [leftP]; exact leftPs_le l (n - 1) (by omega)
theorem leftPs_le : ∀ (l : List Pre) (n : Int), -1 ≤ n → -1 ≤ leftPs l n ∧ leftPs l n ≤ n
  | [], n, h => by rw [leftPs]; omega
  | p :: l, n, h => by
    rw [leftPs]
    split
    · rename_i h0
      have h1 := leftP_le p n h0
      have h2 := leftPs_le l (leftP p n) h1.1
      omega
    · omega
end
theorem leftPs_step {l : List Pre} {i : Nat} {n : Int} (hi : i < l.length) (hn : 0 ≤ n) : leftPs (l.drop i) n = leftPs (l.drop (i + 1)) (leftP l[i] n) := by
  rw [List.drop_eq_getElem_cons hi, leftPs, if_pos hn]
theorem leftPs_end {l : List Pre} {i : Nat} {n : Int} (hi : l.length ≤ i) : leftPs (l.drop i) n = n := by
  rw [List.drop_eq_nil_of_le hi, leftPs]
end Go.Lamb
namespace Go.Lamb
open Go Go.RowKit
mutual
def nodesP : Pre → Nat
  | .mk _ _ _ l _ => 1 + nodesPs l
def nodesPs : List Pre → Nat
  | [] => 0
  | p :: l => nodesP p + nodesPs l
end
theorem nodesP_eq (p : Pre) : nodesP p = 1 + nodesPs p.l := by cases p; rw [nodesP]; rfl
mutual
theorem leftP_nodes : ∀ (p : Pre) (n : Int), 0 ≤ leftP p n → leftP p n = n - nodesP p
  | .mk _ _ _ l _, n, h => by
    rw [leftP] at h ⊢
    rw [leftPs_nodes l (n - 1) h, nodesP]
    omega
theorem leftPs_nodes : ∀ (l : List Pre) (n : Int), 0 ≤ leftPs l n → leftPs l n = n - nodesPs l
  | [], n, h => by rw [leftPs, nodesPs]; omega
  | p :: l, n, h => by
    rw [leftPs] at h ⊢
    split at h
    · rename_i h0
      rw [if_pos h0]
      by_cases h1 : 0 ≤ leftP p n
      · rw [leftPs_nodes l _ h, leftP_nodes p n h1, nodesPs]
        omega
      · rw [leftPs_neg h1] at h
        omega
    · omega
end
mutual
/-- Has a tree a name that is too long? -/
def longP : Pre → Bool
  | .mk _ s _ l _ => decide ((s.length : Int) > 100) || longPs l
def longPs : List Pre → Bool
  | [] => false
  | p :: l => longP p || longPs l
end
theorem longPs_any : ∀ l : List Pre, longPs l = l.any longP
  | [] => by simp [longPs]
  | p :: l => by rw [longPs, List.any_cons, longPs_any l]
theorem longP_eq (p : Pre) : longP p = (decide ((p.name.length : Int) > 100) || p.l.any longP) := by
  cases p
  rw [longP, longPs_any]
  rfl
theorem longP_no {p : Pre} (h : longP p = false) : p.name.length ≤ 100 ∧ ∀ q ∈ p.l, longP q = false := by
  rw [longP_eq, Bool.or_eq_false_iff, decide_eq_false_iff_not] at h
  refine ⟨by have := h.1; omega, fun q hq => ?_⟩
  have := List.any_eq_false.1 h.2 q hq
  simpa using this
theorem putP_len (s : List UInt8) (b : Bool) : (putP s b).length ≤ s.length + 2 := by
  cases b <;> simp [putP]
theorem wordP_len {l : List OpT} {p : Pre} (h : p.name.length ≤ 100) (hn : p.n ≤ 9223372036854775807) : (wordP l p).length ≤ 102 := by
  unfold wordP
  split
  · split
    · simp; omega
    · omega
  · split
    · omega
    · split
      · have := Lib.itoa_length_le (max p.n 0) (by omega) (by omega)
        omega
      · simp
/-- All numbers of a tree are numbers of the machine. -/
inductive OkP : Pre → Prop where
  | mk {k : Int} {s : List UInt8} {n : Int} {l : List Pre} {a : Int} (hn : n ≤ 9223372036854775807) (h : ∀ x ∈ l, OkP x) : OkP (.mk k s n l a)
theorem OkP.n {p : Pre} (h : OkP p) : p.n ≤ 9223372036854775807 := by cases h; assumption
theorem OkP.mem {p x : Pre} (h : OkP p) (hx : x ∈ p.l) : OkP x := by cases h with | mk _ h => exact h x hx
def ShLen (l : List OpT) (p : Pre) : Prop := longP p = false → OkP p → (showL l p).length ≤ 206 * nodesP p
theorem showL_len (l : List OpT) (p : Pre) : ShLen l p := by
  refine (Pre.ind (P := fun p => ShLen l p ∧ ∀ q ∈ p.l, ShLen l q) (fun p ih => ⟨fun hL hO => ?_, fun q hq => (ih q hq).1⟩) p).1
  obtain ⟨hnm, hkids⟩ := longP_no hL
  have hnp := nodesP_eq p
  cases hi : infP l p with
  | some x =>
    obtain ⟨o, a, b⟩ := x
    obtain ⟨_, f, c, h2, _, h3, _, h5⟩ := infP_some hi
    have hf : f ∈ p.l := by rw [h2]; simp
    have hb : b ∈ p.l := by rw [h2]; simp
    have ha : a ∈ f.l := by rw [h3]; simp
    have hc : c ∈ f.l := by rw [h3]; simp
    obtain ⟨_, hfk⟩ := longP_no (hkids f hf)
    have la := (ih f hf).2 a ha (hfk a ha) ((hO.mem hf).mem ha)
    have lb := (ih b hb).1 (hkids b hb) (hO.mem hb)
    have hcn := (longP_no (hfk c hc)).1
    have hon : o.name = c.name := by
      have := List.find?_some h5
      simpa using this
    have p1 := putP_len (showL l a) (sideB l o 1 a)
    have p2 := putP_len (showL l b) (sideB l o 2 b)
    have n1 := nodesP_eq f
    have n2 := nodesP_eq c
    rw [h2, nodesPs, nodesPs, nodesPs] at hnp
    rw [h3, nodesPs, nodesPs, nodesPs] at n1
    rw [showL_inf hi]
    simp only [List.length_append, List.length_cons, List.length_nil, hon]
    omega
  | none =>
    by_cases h1 : lamP p = true
    · have h1' := h1
      unfold lamP at h1'
      simp only [Bool.and_eq_true, beq_iff_eq] at h1'
      obtain ⟨hk, hlen⟩ := h1'
      obtain ⟨q, hq⟩ := List.length_eq_one_iff.1 hlen
      have hqm : q ∈ p.l := by rw [hq]; simp
      have lq := (ih q hqm).1 (hkids q hqm) (hO.mem hqm)
      rw [hq, nodesPs, nodesPs] at hnp
      rw [showL_lam hk hq]
      simp only [List.length_append, List.length_cons, List.length_nil]
      omega
    · have h1 : lamP p = false := by simpa using h1
      by_cases h2 : appP p = true
      · have h2' := h2
        unfold appP at h2'
        simp only [Bool.and_eq_true, beq_iff_eq] at h2'
        obtain ⟨hk, hlen⟩ := h2'
        obtain ⟨f, b, hq⟩ : ∃ f b, p.l = [f, b] := by
          match p.l, hlen with
          | [f, b], _ => exact ⟨f, b, rfl⟩
        have hf : f ∈ p.l := by rw [hq]; simp
        have hb : b ∈ p.l := by rw [hq]; simp
        have lf := (ih f hf).1 (hkids f hf) (hO.mem hf)
        have lb := (ih b hb).1 (hkids b hb) (hO.mem hb)
        have p1 := putP_len (showL l f) ((infP l f).isSome || lamP f)
        have p2 := putP_len (showL l b) (lamP b || appP b)
        rw [hq, nodesPs, nodesPs, nodesPs] at hnp
        rw [showL_app hi hk hq]
        simp only [List.length_append, List.length_cons]
        omega
      · have h2 : appP p = false := by simpa using h2
        rw [showL_word h1 h2]
        have := wordP_len (l := l) hnm hO.n
        omega
end Go.Lamb
namespace Go.Lamb
open Go Go.RowKit

theorem tokL_lt {t : List Tok} {i : Nat} (h : (tokL t i).kind ≠ 0) : i < t.length := by
  rcases Nat.lt_or_ge i t.length with h' | h'
  · exact h'
  · rw [tokL, List.getElem?_eq_none h'] at h
    exact absurd rfl h
theorem begins_lt {l : List OpT} {t : List Tok} {i : Nat} (h : beginsL l (tokL t i) ≠ false) : i < t.length := by
  refine tokL_lt fun e => h ?_
  rw [beginsL, e]
  simp
theorem opOf_lt {l : List OpT} {t : List Tok} {i : Nat} {o : OpT} (h : opOf l (tokL t i) = some o) : i < t.length := by
  refine tokL_lt fun e => ?_
  rw [opOf, e] at h
  simp at h
theorem fuel_bounds : ∀ (f : Nat),
    (∀ l t depth i p j, atomF f l t depth i = some (.ok (p, j)) → i < j ∧ j ≤ t.length) ∧
    (∀ l t depth i p pos last q j, argsF f l t depth i p pos last = some (.ok (q, j)) → i ≤ t.length → i ≤ j ∧ j ≤ t.length) ∧
    (∀ l t least depth i m j, exprF f l t least depth i = some (.ok (m, j)) → i < j ∧ j ≤ t.length) ∧
    (∀ l t least depth i m r j, chainF f l t least depth i m = some (.ok (r, j)) → i ≤ t.length → i ≤ j ∧ j ≤ t.length)
  | 0 => ⟨fun _ _ _ _ _ _ h => by simp [atomF] at h, fun _ _ _ _ _ _ _ _ _ h => by simp [argsF] at h, fun _ _ _ _ _ _ _ h => by simp [exprF] at h, fun _ _ _ _ _ _ _ _ h => by simp [chainF] at h⟩
  | f + 1 => by
    obtain ⟨h1, h2, h3, h4⟩ := fuel_bounds f
    refine ⟨fun l t depth i p j h => ?_, fun l t depth i p pos last q j h hi => ?_, fun l t least depth i m j h => ?_, fun l t least depth i m r j h hi => ?_⟩
    · rw [atomF] at h
      simp only at h
      split at h
      · cases h
      · rename_i hb
        have hlt := begins_lt hb
        split at h
        · split at h
          · rename_i hc
            have := tokL_lt (t := t) (i := i + 2) (by rw [hc.2]; decide)
            injection h with h; injection h with h; injection h with _ h
            omega
          · split at h
            · cases h
            · cases he : exprF f l t 0 (depth + 1) (i + 1) with
              | none => rw [he] at h; cases h
              | some x =>
                rw [he] at h
                cases x with
                | error b => cases h
                | ok x =>
                  obtain ⟨m, k⟩ := x
                  simp only at h
                  split at h
                  · rename_i hk
                    have := tokL_lt (t := t) (i := k) (by rw [hk]; decide)
                    have := h3 _ _ _ _ _ _ _ he
                    injection h with h; injection h with h; injection h with _ h
                    omega
                  · cases h
        · split at h
          · injection h with h; injection h with h; injection h with _ h
            omega
          · split at h
            · split at h
              · cases h
              · cases he : exprF f l t 0 (depth + 1) (i + 2) with
                | none => rw [he] at h; cases h
                | some x =>
                  rw [he] at h
                  cases x with
                  | error b => cases h
                  | ok x =>
                    obtain ⟨m, k⟩ := x
                    have := h3 _ _ _ _ _ _ _ he
                    injection h with h; injection h with h; injection h with _ h
                    omega
            · injection h with h; injection h with h; injection h with _ h
              omega
    · rw [argsF] at h
      split at h
      · injection h with h; injection h with h; injection h with _ h
        omega
      · cases he : atomF f l t depth i with
        | none => rw [he] at h; cases h
        | some x =>
          rw [he] at h
          cases x with
          | error b => cases h
          | ok x =>
            have := h1 _ _ _ _ _ _ he
            have := h2 _ _ _ _ _ _ _ _ _ h this.2
            omega
    · rw [exprF] at h
      cases he : atomF f l t depth i with
      | none => rw [he] at h; cases h
      | some x =>
        rw [he] at h
        cases x with
        | error b => cases h
        | ok x =>
          simp only at h
          have k1 := h1 _ _ _ _ _ _ he
          cases hg : argsF f l t depth x.2 x.1 x.1.pos (lamAt t i) with
          | none => rw [hg] at h; cases h
          | some y =>
            rw [hg] at h
            cases y with
            | error b => cases h
            | ok y =>
              have k2 := h2 _ _ _ _ _ _ _ _ _ hg k1.2
              have k3 := h4 _ _ _ _ _ _ _ _ h k2.2
              omega
    · rw [chainF] at h
      cases ho : opOf l (tokL t i) with
      | none =>
        rw [ho] at h
        injection h with h; injection h with h; injection h with _ h
        omega
      | some o =>
        rw [ho] at h
        simp only at h
        have hlt := opOf_lt ho
        split at h
        · injection h with h; injection h with h; injection h with _ h
          omega
        · split at h
          · cases h
          · split at h
            · cases h
            · cases he : exprF f l t (nextL o) (depth + 1) (i + 1) with
              | none => rw [he] at h; cases h
              | some x =>
                rw [he] at h
                cases x with
                | error b => cases h
                | ok x =>
                  have k1 := h3 _ _ _ _ _ _ _ he
                  simp only at h
                  cases hb : x.1.by_ with
                  | none =>
                    rw [hb] at h
                    have := h4 _ _ _ _ _ _ _ _ h k1.2
                    omega
                  | some y =>
                    rw [hb] at h
                    simp only at h
                    split at h
                    · have := h4 _ _ _ _ _ _ _ _ h k1.2
                      omega
                    · cases h
/-- Something is read, or something is wrong. -/
theorem fuel_enough (l : List OpT) (t : List Tok) : ∀ (n : Nat),
    (∀ depth i, t.length ≤ i + n → ∃ f r, atomF f l t depth i = some r) ∧
    (∀ depth i p pos last, t.length ≤ i + n → ∃ f r, argsF f l t depth i p pos last = some r) ∧
    (∀ least depth i, t.length ≤ i + n → ∃ f r, exprF f l t least depth i = some r) ∧
    (∀ least depth i m, t.length ≤ i + n → ∃ f r, chainF f l t least depth i m = some r) := by
  intro n
  induction n using Nat.strongRecOn with
  | ind n ih =>
    have hA : ∀ depth i, t.length ≤ i + n → ∃ f r, atomF f l t depth i = some r := fun depth i hi => by
      by_cases hb : beginsL l (tokL t i) = false
      · exact ⟨1, _, by rw [atomF]; simp only; rw [if_pos hb]⟩
      · have hlt := begins_lt hb
        obtain ⟨n', rfl⟩ : ∃ n', n = n' + 1 := ⟨n - 1, by omega⟩
        obtain ⟨f1, r1, h1⟩ := (ih n' (by omega)).2.2.1 0 (depth + 1) (i + 1) (by omega)
        obtain ⟨f2, r2, h2⟩ : ∃ f r, exprF f l t 0 (depth + 1) (i + 2) = some r := by
          rcases Nat.lt_or_ge 0 n' with h | h
          · obtain ⟨n2, rfl⟩ : ∃ n2, n' = n2 + 1 := ⟨n' - 1, by omega⟩
            exact (ih n2 (by omega)).2.2.1 0 (depth + 1) (i + 2) (by omega)
          · exact (ih n' (by omega)).2.2.1 0 (depth + 1) (i + 2) (by omega)
        have h1' := (fuel_le (Nat.le_max_left f1 f2)).2.2.1 _ _ _ _ _ _ h1
        have h2' := (fuel_le (Nat.le_max_right f1 f2)).2.2.1 _ _ _ _ _ _ h2
        refine ⟨max f1 f2 + 1, ?_⟩
        rw [atomF]
        simp only
        rw [if_neg hb, h1', h2']
        split
        · split
          · exact ⟨_, rfl⟩
          · split
            · exact ⟨_, rfl⟩
            · cases r1 with
              | error b => exact ⟨_, rfl⟩
              | ok x =>
                simp only
                split
                · exact ⟨_, rfl⟩
                · exact ⟨_, rfl⟩
        · split
          · exact ⟨_, rfl⟩
          · split
            · split
              · exact ⟨_, rfl⟩
              · cases r2 with
                | error b => exact ⟨_, rfl⟩
                | ok x => exact ⟨_, rfl⟩
            · exact ⟨_, rfl⟩
    have hG : ∀ depth i p pos last, t.length ≤ i + n → ∃ f r, argsF f l t depth i p pos last = some r := fun depth i p pos last hi => by
      by_cases hc : last = true ∨ beginsL l (tokL t i) = false
      · exact ⟨1, _, by rw [argsF, if_pos hc]⟩
      · have hlt : i < t.length := begins_lt fun e => hc (.inr e)
        obtain ⟨f1, r1, h1⟩ := hA depth i hi
        cases r1 with
        | error b => exact ⟨f1 + 1, _, by rw [argsF, if_neg hc, h1]⟩
        | ok x =>
          obtain ⟨q, j⟩ := x
          have hj := (fuel_bounds f1).1 _ _ _ _ _ _ h1
          obtain ⟨n', rfl⟩ : ∃ n', n = n' + 1 := ⟨n - 1, by omega⟩
          obtain ⟨f2, r2, h2⟩ := (ih n' (by omega)).2.1 depth j (Pre.app p q pos) pos (lamAt t i) (by omega)
          refine ⟨max f1 f2 + 1, r2, ?_⟩
          rw [argsF, if_neg hc, (fuel_le (Nat.le_max_left f1 f2)).1 _ _ _ _ _ h1]
          exact (fuel_le (Nat.le_max_right f1 f2)).2.1 _ _ _ _ _ _ _ _ h2
    have hC : ∀ least depth i m, t.length ≤ i + n → ∃ f r, chainF f l t least depth i m = some r := fun least depth i m hi => by
      cases ho : opOf l (tokL t i) with
      | none => exact ⟨1, _, by rw [chainF, ho]⟩
      | some o =>
        have hlt := opOf_lt ho
        obtain ⟨n', rfl⟩ : ∃ n', n = n' + 1 := ⟨n - 1, by omega⟩
        obtain ⟨f1, r1, h1⟩ := (ih n' (by omega)).2.2.1 (nextL o) (depth + 1) (i + 1) (by omega)
        cases r1 with
        | error b =>
          refine ⟨f1 + 1, ?_⟩
          rw [chainF, ho]
          simp only
          rw [h1]
          split
          · exact ⟨_, rfl⟩
          · split
            · exact ⟨_, rfl⟩
            · split
              · exact ⟨_, rfl⟩
              · exact ⟨_, rfl⟩
        | ok x =>
          obtain ⟨r, j⟩ := x
          have hj := (fuel_bounds f1).2.2.1 _ _ _ _ _ _ _ h1
          obtain ⟨f2, r2, h2⟩ := (ih n' (by omega)).2.2.2 least depth j ⟨applyL o (tokL t i).pos m.p r.p, some (o, (tokL t i).pos)⟩ (by omega)
          refine ⟨max f1 f2 + 1, ?_⟩
          rw [chainF, ho]
          simp only
          rw [(fuel_le (Nat.le_max_left f1 f2)).2.2.1 _ _ _ _ _ _ h1]
          simp only
          rw [(fuel_le (Nat.le_max_right f1 f2)).2.2.2 _ _ _ _ _ _ _ h2]
          split
          · exact ⟨_, rfl⟩
          · split
            · exact ⟨_, rfl⟩
            · split
              · exact ⟨_, rfl⟩
              · cases hb : r.by_ with
                | none => exact ⟨_, rfl⟩
                | some y =>
                  simp only
                  split
                  · exact ⟨_, rfl⟩
                  · exact ⟨_, rfl⟩
    refine ⟨hA, hG, fun least depth i hi => ?_, hC⟩
    obtain ⟨f1, r1, h1⟩ := hA depth i hi
    cases r1 with
    | error b => exact ⟨f1 + 1, _, by rw [exprF, h1]⟩
    | ok x =>
      obtain ⟨p, j⟩ := x
      have hj := (fuel_bounds f1).1 _ _ _ _ _ _ h1
      obtain ⟨f2, r2, h2⟩ := hG depth j p p.pos (lamAt t i) (by omega)
      cases r2 with
      | error b =>
        refine ⟨max f1 f2 + 1, .error b, ?_⟩
        rw [exprF, (fuel_le (Nat.le_max_left f1 f2)).1 _ _ _ _ _ h1]
        simp only
        rw [(fuel_le (Nat.le_max_right f1 f2)).2.1 _ _ _ _ _ _ _ _ h2]
      | ok y =>
        obtain ⟨q, k⟩ := y
        have hk := (fuel_bounds f2).2.1 _ _ _ _ _ _ _ _ _ h2 hj.2
        obtain ⟨f3, r3, h3⟩ := hC least depth k ⟨q, none⟩ (by omega)
        refine ⟨max (max f1 f2) f3 + 1, r3, ?_⟩
        rw [exprF, (fuel_le (by omega : f1 ≤ max (max f1 f2) f3)).1 _ _ _ _ _ h1]
        simp only
        rw [(fuel_le (by omega : f2 ≤ max (max f1 f2) f3)).2.1 _ _ _ _ _ _ _ _ h2]
        exact (fuel_le (by omega : f3 ≤ max (max f1 f2) f3)).2.2.2 _ _ _ _ _ _ _ h3
theorem Expr.some (l : List OpT) (t : List Tok) (least : Int) (depth i : Nat) : ∃ r, Expr l t least depth i r := by
  obtain ⟨f, r, h⟩ := (fuel_enough l t t.length).2.2.1 least depth i (by omega)
  exact ⟨r, f, h⟩
end Go.Lamb
namespace Go.Lamb
open Go Go.RowKit

section
variable {P : Program} {w0 w : World} {κ : K} {σ : H}
theorem CodeIs.wp {f : FuncId} {n : Nat} {fn : Func} {x : AC} {r : List ResV} (K : CodeIs P f n fn x r) {args : List V} {R : V → H → Prop} (ha : args.length = n) (hW : H.ok σ → (∀ x ∈ args, V.Sz x) → W P w0 σ.length (Fin r σ.length R) [.code x] ⟨argEnv args, σ⟩)
    {vs : List Value} (hrep : Rep w0 κ σ w) (hfit : Fits κ args vs) :
    (fn.body.getD .skip).wp P (bodyPost P fn (fun e w' => ∃ v d σ' κ', e = .returned v ∧ R d σ' ∧ κ.le κ' ∧ Rep w0 κ' σ' w' ∧ RV κ' d v)) { tmps := vs.toArray ++ Array.replicate (fn.ntmps - vs.toArray.size) undef, defers := [] } w := by
  have hn := K.hn
  have hR : Rel w0 κ fn.ntmps κ ⟨argEnv args, σ⟩ { tmps := vs.toArray ++ Array.replicate (fn.ntmps - vs.toArray.size) undef, defers := [] } w :=
    ⟨hrep, argEnv_ok hfit _, by simp [hfit.1]; omega, rfl, Lamb.K.le_refl κ⟩
  have hfin : ∀ s κ' a w, Rel w0 κ fn.ntmps κ' s a w → Fin r σ.length R s → a.defers = [] ∧ ∃ v, (results fn a.tmps).run P w = .ok v w ∧ ∃ v' d σ' κ'', Ending.returned v = .returned v' ∧ R d σ' ∧ κ.le κ'' ∧ Rep w0 κ'' σ' w ∧ RV κ'' d v' := by
    rintro s κ' a w hR' ⟨vs, d, σ', h1, h2, h3, h4, h5, h6, h7⟩
    obtain ⟨v, k1, k2⟩ := results_ok hR' K.hres h1
    have hcut := (hR'.rep.cut σ.length h4 h5).wkH h6
    exact ⟨hR'.defers, v, k1, v, d, σ', κ'.cut σ.length, rfl, h7, Lamb.K.cut_le hR'.le (by rw [hrep.n]; exact Nat.le_refl _), hcut, (k2.wk h2).cut h3⟩
  refine wp_mono (code_sound (n0 := σ.length) hrep.n K.hm (fn.body.getD .skip) x K.htr (hW hrep.ok hfit.sz) hR) ?_
  rintro e a w' ⟨s, κ', hR', hs⟩
  cases e with
  | normal =>
    obtain ⟨t, hl, hq⟩ := W.inv_done hs
    obtain ⟨κ2, hR2⟩ := hl w0 κ fn.ntmps κ' a w' hrep.n hR'
    exact hfin t κ2 a w' hR2 hq
  | ret => exact hfin s κ' a w' hR' hs
  | exit id => obtain ⟨k', hp, _⟩ := hs; cases hp
  | goto l => exact hs.elim
  | panic ch => exact hs.elim
  | outgrown => exact hs.elim
/-- A contract of a function that is called as another leaves. -/
def DCD (P : Program) (w0 : World) (f : FuncId) (args : List V) (σ : H) (R : V → H → Prop) : Prop :=
  ∀ κ w (vs : List Value) (u : FrameMode), Rep w0 κ σ w → Fits κ args vs → CallsD P f vs.toArray u w (fun e u' w' => u' = u ∧ ∃ v d σ' κ', e = .returned v ∧ R d σ' ∧ κ.le κ' ∧ Rep w0 κ' σ' w' ∧ RV κ' d v)
theorem CodeIs.goD {f : FuncId} {n : Nat} {fn : Func} {x : AC} {r : List ResV} (K : CodeIs P f n fn x r) {args : List V} {R : V → H → Prop} (ha : args.length = n) (hW : H.ok σ → (∀ x ∈ args, V.Sz x) → W P w0 σ.length (Fin r σ.length R) [.code x] ⟨argEnv args, σ⟩) : DCD P w0 f args σ R :=
  fun κ w vs u hrep hfit => callsD_of_wp K.hf K.hb (CodeIs.wp K ha hW hrep hfit)
theorem turnNil (h : Rep w0 κ σ w) {b j : Nat} (e size : Nat) {cs : List V} {tg : Option TypeId} {vs : Array Value} {T : TypeId} (hb : σ[b]? = some (.cells cs tg)) (hj : j < cs.length) (hk : w.heap[κ.pos b]? = some (.cells vs T (0, 0))) (hx : vs.getD j undef = .slice none 0 0) :
    ∃ κ', κ.le κ' ∧ Rep w0 κ' ((σ ++ [Blk.spare e size 0]).set b (.cells (cs.set j (.osl σ.length [])) tg)) w ∧ κ'.sv σ.length = .slice none 0 0 ∧ κ'.fr σ.length = some 0 := by
  obtain ⟨hlt, hbe⟩ := List.getElem?_eq_some_iff.1 hb
  have h1 := h.blk b hlt
  rw [hbe] at h1
  have hle : κ.le (κ.own (.slice none 0 0) size) := K.own_le
  have frn : (κ.own (.slice none 0 0) size).fr σ.length = some 0 := by show (if σ.length = κ.n then _ else _) = _; rw [if_pos h.n.symm]
  have svn : (κ.own (.slice none 0 0) size).sv σ.length = .slice none 0 0 := by show (if σ.length = κ.n then _ else _) = _; rw [if_pos h.n.symm]
  have hr2 := h.own e size none
  have hpos : (κ.own (.slice none 0 0) size).pos b = κ.pos b := (hle.cells b (by rw [h.n]; exact hlt) h1.fr).2
  refine ⟨κ.own (.slice none 0 0) size, hle, hr2.turn (b := b) (j := j) (cs := cs) (tg := tg) (y := .osl σ.length []) ((List.getElem?_append_left hlt).trans hb) rfl (fun vs' t' k1' hj' hv' => ?_), svn, frn⟩
  rw [hpos, hk] at k1'
  injection k1' with k1'
  injection k1' with e1 e2
  subst e1
  rw [hx]
  exact .osl (RC.nil _) (by show _ < κ.n + 1; rw [h.n]; exact Nat.lt_succ_self _) frn (Nat.le_refl _) (fun _ => svn.symm) (by simp)
end
end Go.Lamb
namespace Go.Lamb
open Go Go.RowKit
theorem freeze_other (w : World) (g n k : Nat) (h : k ≠ g) : (w.freeze ⟨g, 0, none⟩ n).heap[k]? = w.heap[k]? := by
  unfold World.freeze
  split
  · rfl
  · simp only [Array.getElem?_modify]
    rw [if_neg (Ne.symm h)]
theorem freeze_cell (w : World) (g n k o : Nat) : (w.freeze ⟨g, 0, none⟩ n).cell? ⟨k, o, none⟩ = w.cell? ⟨k, o, none⟩ := by
  by_cases h : k = g
  · subst h
    unfold World.freeze
    split
    · rfl
    · unfold World.cell?
      simp only [Array.getElem?_modify, if_true]
      cases w.heap[k]? with
      | none => rfl
      | some x => cases x <;> rfl
  · exact World.cell?_of_block (w := w) (a := ⟨k, o, none⟩) (freeze_other w g n k h)
/-- The bytes of a slice of one's own are frozen: its block is one's own no more. -/
theorem Rep.gone {w0 w : World} {κ : K} {σ : H} (h : Rep w0 κ σ w) {v g n : Nat} {e : TypeId} {size m : Nat} (hv : σ[v]? = some (.spare e size m)) (hg : heldBy (κ.sv v) = some g) (hown : w0.heap.size ≤ g) : Rep w0 κ (σ.set v .gone) (w.freeze ⟨g, 0, none⟩ n) := by
  obtain ⟨hlt, hv'⟩ := List.getElem?_eq_some_iff.1 hv
  refine ⟨by simpa using h.n, Lib.below_freeze h.ext (p := ⟨g, 0, none⟩) hown n, fun x o u hm => by rw [freeze_cell]; exact h.mem x o u hm, fun x hx => ?_, fun x y hx hy q hne => ?_⟩
  · have hx' : x < σ.length := by simpa using hx
    by_cases hxv : x = v
    · subst hxv
      rw [List.getElem_set_self]
      trivial
    · rw [List.getElem_set_ne (Ne.symm hxv)]
      refine Blk.is_of (h.blk x hx') fun q hq => freeze_other w g n q fun e => ?_
      subst e
      exact h.apart x v hx' hlt _ hxv hq (by rw [hv']; exact hg)
  · have hx' : x < σ.length := by simpa using hx
    have hy' : y < σ.length := by simpa using hy
    by_cases hxv : x = v
    · subst hxv
      rw [List.getElem_set_self]
      intro hq
      cases hq
    · by_cases hyv : y = v
      · subst hyv
        intro _
        rw [List.getElem_set_self]
        intro hq
        cases hq
      · rw [List.getElem_set_ne (Ne.symm hxv), List.getElem_set_ne (Ne.symm hyv)]
        exact h.apart x y hx' hy' q hne
end Go.Lamb

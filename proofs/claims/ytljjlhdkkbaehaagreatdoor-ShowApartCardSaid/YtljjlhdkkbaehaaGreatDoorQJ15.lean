/-
  Plain: small aids of the walks.
  Plain: how a tree is written.
  Plain: which trees could have been read, which are the same, and how large they are.
  Plain: how long a tree's text is.
  Plain: words at the head of a text, whatever stands behind them; trees without their places.
  Plain: how far is read.
  Plain: what is read hangs on the tokens that are read alone.
  Plain: how deep may be nested.
  Plain: what is written of a tree is read as it.
  Plain: what is written of a tree is read as it: words, abstractions, applications, operators.
  Plain: what is written of a tree is read as it: operators; all.
  Plain: types, and how types are read of tokens.
  Plain: sentences, and how they are read of tokens.
  Plain: what is read of a sentence alone.
  Plain: what is read further on.
  Plain: what is read of a text, and of more behind it.
  Plain: the document's examples of sentences, reckoned.
  Plain: how types are read, with what is left where something is wrong.
  Plain: what a type takes, what comes of it, and which types may be.
  Plain: how types are read in the document's words, with what is left where something is wrong.
  Plain: contracts of functions that are called as they leave (deferred); a struct with a slice that is nil, laid in a world.
  Plain: bytes that are frozen where a builder kept them.
  Plain: what is read of tokens is a tree that could have been read.
-/
import Derived.Test.YtljjlhdkkbaehaaGreatDoorQEnc
import Derived.Test.YtljjlhdkkbaehaaGreatDoorQRd1
import Derived.Lib.ItoaNum
import Derived.Lib.ItoaLen
import Derived.Test.YtljjlhdkkbaehaaGreatDoorQLxK
import Derived.Test.YtljjlhdkkbaehaaGreatDoorQLexNl
import Derived.Test.YtljjlhdkkbaehaaGreatDoorQJ10
import Derived.Defers
import Derived.Lib.UnsafeStr
set_option linter.unusedSimpArgs false
set_option linter.unusedVariables false
set_option maxHeartbeats 8000000
set_option maxRecDepth 20000
namespace Go.Lamb
open Go Go.RowKit

theorem DC.toSame {P : Program} {w0 : World} {f : FuncId} {args : List V} {σ τ : H} {d d' : V} (h : DC P w0 f args σ (Same d τ)) (e : d = d') : DC P w0 f args σ (Same d' τ) := by subst e; exact h
theorem fit_str {κ : K} (s : ByteArray) (h : s.size ≤ maxLen) : RV κ (S s.data.toList) (.string s) := by
  have := RC.str (m := κ.m) s.data.toList (by simpa using h)
  rw [← bs_of] at this
  exact .c this
end Go.Lamb
namespace Go.Lamb
open Go Go.RowKit

def lamP (p : Pre) : Bool := p.k == 4 && p.l.length == 1
def appP (p : Pre) : Bool := p.k == 3 && p.l.length == 2
/-- The operator that makes a tree, if one does, and what it is made of. -/
def infP (l : List OpT) (p : Pre) : Option (OpT × Pre × Pre) :=
  if p.k = 3 then match p.l with
    | [f, b] => if f.k = 3 then match f.l with
        | [c, a] => if c.k = 0 then (findL l c.name).map fun o => (o, a, b) else none
        | _ => none
      else none
    | _ => none
  else none
def wordP (l : List OpT) (p : Pre) : List UInt8 :=
  if p.k = 0 then (if (findL l p.name).isSome then 40 :: p.name ++ [41] else p.name)
  else if p.k = 1 then p.name
  else if p.k = 2 then Lib.itoa (max p.n 0)
  else [63]
def putP (s : List UInt8) (b : Bool) : List UInt8 := if b then 40 :: s ++ [41] else s
/-- Is a tree to one side of an operator in brackets? (fix: 1 left, 2 right.) -/
def sideB (l : List OpT) (o : OpT) (fix : Int) (p : Pre) : Bool := lamP p || (match infP l p with | some (x, _, _) => !besideL o x fix | none => false)

/-- A tree's text, with those of its parts. -/
inductive ShR where
  | mk (text : List UInt8) (kids : List ShR)
  deriving Inhabited
def ShR.text : ShR → List UInt8 | .mk s _ => s
def ShR.kids : ShR → List ShR | .mk _ r => r
def kidS (r : List ShR) (i : Nat) : ShR := (r[i]?).getD (.mk [] [])
def stepS (l : List OpT) (p : Pre) (r : List ShR) : List UInt8 := match infP l p with
  | some (o, a, b) => putP (kidS (kidS r 0).kids 1).text (sideB l o 1 a) ++ (32 :: o.name ++ [32]) ++ putP (kidS r 1).text (sideB l o 2 b)
  | none =>
    if lamP p then p.name ++ [92, 32] ++ (kidS r 0).text
    else if appP p then
      let f := (p.l[0]?).getD .none
      let b := (p.l[1]?).getD .none
      putP (kidS r 0).text ((infP l f).isSome || lamP f) ++ 32 :: putP (kidS r 1).text (lamP b || appP b)
    else wordP l p
mutual
def showR (l : List OpT) : Pre → ShR
  | .mk k s n cs a => .mk (stepS l (.mk k s n cs a) (showRs l cs)) (showRs l cs)
def showRs (l : List OpT) : List Pre → List ShR
  | [] => []
  | p :: r => showR l p :: showRs l r
end
theorem showRs_map (l : List OpT) : ∀ r : List Pre, showRs l r = r.map (showR l)
  | [] => by simp [showRs]
  | p :: r => by rw [showRs, showRs_map l r, List.map_cons]
def showL (l : List OpT) (p : Pre) : List UInt8 := (showR l p).text
theorem showR_kids (l : List OpT) (p : Pre) : (showR l p).kids = p.l.map (showR l) := by
  cases p
  rw [showR, showRs_map]
  rfl
theorem showL_eq (l : List OpT) (p : Pre) : showL l p = stepS l p (p.l.map (showR l)) := by
  cases p
  rw [showL, showR, showRs_map]
  rfl
theorem infP_some {l : List OpT} {p : Pre} {o : OpT} {a b : Pre} (h : infP l p = some (o, a, b)) :
    p.k = 3 ∧ ∃ f c, p.l = [f, b] ∧ f.k = 3 ∧ f.l = [c, a] ∧ c.k = 0 ∧ findL l c.name = some o := by
  unfold infP at h
  split at h
  · rename_i h3
    split at h
    · rename_i f b' hl
      split at h
      · rename_i hf
        split at h
        · rename_i c a' hfl
          split at h
          · rename_i hc
            cases e : findL l c.name with
            | none => rw [e] at h; cases h
            | some o' =>
              rw [e] at h
              injection h with h
              injection h with h1 h2
              injection h2 with h2 h4
              subst h1 h2 h4
              exact ⟨h3, f, c, hl, hf, hfl, hc, e⟩
          · cases h
        · cases h
      · cases h
    · cases h
  · cases h
theorem infP_app {l : List OpT} {p : Pre} (h : (infP l p).isSome = true) : appP p = true := by
  cases e : infP l p with
  | none => rw [e] at h; cases h
  | some x =>
    obtain ⟨o, a, b⟩ := x
    obtain ⟨h1, f, c, h2, _⟩ := infP_some e
    simp [appP, h1, h2]
theorem showL_inf {l : List OpT} {p : Pre} {o : OpT} {a b : Pre} (h : infP l p = some (o, a, b)) :
    showL l p = putP (showL l a) (sideB l o 1 a) ++ (32 :: o.name ++ [32]) ++ putP (showL l b) (sideB l o 2 b) := by
  obtain ⟨_, f, c, h2, _, h3, _⟩ := infP_some h
  rw [showL_eq, stepS, h]
  simp only [h2, List.map_cons, List.map_nil, kidS, List.getElem?_cons_zero, List.getElem?_cons_succ, Option.getD_some, showR_kids, h3]
  rfl
theorem showL_lam {l : List OpT} {p q : Pre} (hk : p.k = 4) (hl : p.l = [q]) : showL l p = p.name ++ [92, 32] ++ showL l q := by
  have h0 : infP l p = none := by unfold infP; rw [if_neg (by omega)]
  have h1 : lamP p = true := by simp [lamP, hk, hl]
  rw [showL_eq, stepS, h0]
  simp only [h1, if_true, hl, List.map_cons, List.map_nil, kidS, List.getElem?_cons_zero, Option.getD_some]
  rfl
theorem showL_app {l : List OpT} {p f b : Pre} (hi : infP l p = none) (hk : p.k = 3) (hl : p.l = [f, b]) :
    showL l p = putP (showL l f) ((infP l f).isSome || lamP f) ++ 32 :: putP (showL l b) (lamP b || appP b) := by
  have h1 : lamP p = false := by simp [lamP, hk]
  have h2 : appP p = true := by simp [appP, hk, hl]
  rw [showL_eq, stepS, hi]
  simp only [h1, h2, if_true, Bool.false_eq_true, if_false, hl, List.map_cons, List.map_nil, kidS, List.getElem?_cons_zero, List.getElem?_cons_succ, Option.getD_some]
  rfl
theorem showL_word {l : List OpT} {p : Pre} (h1 : lamP p = false) (h2 : appP p = false) : showL l p = wordP l p := by
  have h0 : infP l p = none := by
    cases e : infP l p with
    | none => rfl
    | some x => rw [infP_app (by rw [e]; rfl)] at h2; cases h2
  rw [showL_eq, stepS, h0]
  simp only [h1, h2, Bool.false_eq_true, if_false]
end Go.Lamb
namespace Go.Lamb
open Go Go.RowKit

/-- Are two rows as long, and each two such? -/
def zipAll {α β : Type} (f : α → β → Bool) : List α → List β → Bool
  | [], [] => true
  | x :: l, y :: r => f x y && zipAll f l r
  | _, _ => false
theorem zipAll_len {α β : Type} {f : α → β → Bool} : ∀ {l : List α} {r : List β}, l.length ≠ r.length → zipAll f l r = false
  | [], [], h => absurd rfl h
  | x :: l, y :: r, h => by
    rw [zipAll, zipAll_len (l := l) (r := r) (fun e => h (by simp [e])), Bool.and_false]
  | [], _ :: _, _ => rfl
  | _ :: _, [], _ => rfl
theorem zipAll_no {α β : Type} {f : α → β → Bool} : ∀ {l : List α} {r : List β} {j : Nat} (hj : j < l.length) (hj' : j < r.length), f l[j] r[j] = false → zipAll f l r = false
  | x :: l, y :: r, 0, _, _, h => by rw [zipAll]; simp only [List.getElem_cons_zero] at h; rw [h]; rfl
  | x :: l, y :: r, j + 1, hj, hj', h => by
    rw [zipAll, zipAll_no (j := j) (by simpa using hj) (by simpa using hj') (by simpa using h), Bool.and_false]
  | [], _, _, hj, _, _ => by simp at hj
  | _ :: _, [], _, _, hj', _ => by simp at hj'
theorem zipAll_yes {α β : Type} {f : α → β → Bool} : ∀ {l : List α} {r : List β}, l.length = r.length → (∀ j (hj : j < l.length) (hj' : j < r.length), f l[j] r[j] = true) → zipAll f l r = true
  | [], [], _, _ => rfl
  | x :: l, y :: r, hl, h => by
    rw [zipAll, zipAll_yes (by simpa using hl) (fun j hj hj' => h (j + 1) (Nat.succ_lt_succ hj) (Nat.succ_lt_succ hj'))]
    have := h 0 (by simp) (by simp)
    simp only [List.getElem_cons_zero] at this
    rw [this]; rfl
  | [], _ :: _, hl, _ => by simp at hl
  | _ :: _, [], hl, _ => by simp at hl
theorem Pre.ind {P : Pre → Prop} (h : ∀ p, (∀ q ∈ p.l, P q) → P p) : ∀ p, P p
  | .mk k s n l a => h _ fun q hq => Pre.ind h q
termination_by p => SizeOf.sizeOf p
decreasing_by
  have := List.sizeOf_lt_of_mem hq
  simp only [Pre.l] at this
  simp only [Pre.mk.sizeOf_spec]
  omega
mutual
/-- The same, but for places? -/
def samePre : Pre → Pre → Bool
  | .mk k s n l _, .mk k' s' n' l' _ => k == k' && s == s' && n == n' && samePres l l'
def samePres : List Pre → List Pre → Bool
  | [], [] => true
  | x :: l, y :: r => samePre x y && samePres l r
  | _, _ => false
end
theorem samePres_zip : ∀ (l r : List Pre), samePres l r = zipAll samePre l r
  | [], [] => by simp [samePres, zipAll]
  | x :: l, y :: r => by rw [samePres, zipAll, samePres_zip l r]
  | [], _ :: _ => by simp [samePres, zipAll]
  | _ :: _, [] => by simp [samePres, zipAll]
theorem samePre_eq (p q : Pre) : samePre p q = (p.k == q.k && p.name == q.name && p.n == q.n && zipAll samePre p.l q.l) := by
  cases p; cases q
  simp only [samePre, samePres_zip, Pre.k, Pre.name, Pre.n, Pre.l]
/-- May one be so, but for what it is made of? -/
def nodeOk (l : List OpT) (k : Int) (s : List UInt8) (n : Int) (len : Nat) : Bool :=
  if k = 0 then (isNameB s || isSymB s) && n == 0 && len == 0
  else if k = 1 then isVarB s && !(findL l s).isSome && n == 0 && len == 0
  else if k = 2 then s == [] && decide (0 ≤ n) && len == 0
  else if k = 3 then s == [] && n == 0 && len == 2
  else if k = 4 then (isNameB s || isVarB s) && !(findL l s).isSome && n == 0 && len == 1
  else false
mutual
def validPre (o : List OpT) : Pre → Bool
  | .mk k s n l _ => nodeOk o k s n l.length && validPres o l
def validPres (o : List OpT) : List Pre → Bool
  | [] => true
  | x :: l => validPre o x && validPres o l
end
theorem validPres_all (o : List OpT) : ∀ (l : List Pre), validPres o l = l.all (validPre o)
  | [] => by simp [validPres]
  | x :: l => by rw [validPres, List.all_cons, validPres_all o l]
theorem validPre_eq (o : List OpT) (p : Pre) : validPre o p = (nodeOk o p.k p.name p.n p.l.length && p.l.all (validPre o)) := by
  cases p
  simp only [validPre, validPres_all, Pre.k, Pre.name, Pre.n, Pre.l]
mutual
/-- What is left of so many nodes. -/
def leftP : Pre → Int → Int
  | .mk _ _ _ l _, n => leftPs l (n - 1)
def leftPs : List Pre → Int → Int
  | [], n => n
  | p :: l, n => if 0 ≤ n then leftPs l (leftP p n) else n
end
theorem leftP_eq (p : Pre) (n : Int) : leftP p n = leftPs p.l (n - 1) := by cases p; simp [leftP, Pre.l]
theorem leftPs_neg {l : List Pre} {n : Int} (h : ¬ 0 ≤ n) : leftPs l n = n := by
  cases l with
  | nil => rfl
  | cons p l => rw [leftPs, if_neg h]
mutual
theorem leftP_le : ∀ (p : Pre) (n : Int), 0 ≤ n → -1 ≤ leftP p n ∧ leftP p n ≤ n - 1
  | .mk _ _ _ l _, n, h => by rw [leftP]; exact leftPs_le l (n - 1) (by omega)
theorem leftPs_le : ∀ (l : List Pre) (n : Int), -1 ≤ n → -1 ≤ leftPs l n ∧ leftPs l n ≤ n
  | [], n, h => by rw [leftPs]; omega
  | p :: l, n, h => by
    rw [leftPs]
    split
    · rename_i h0
      have h1 := leftP_le p n h0
      have h2 := leftPs_le l (leftP p n) h1.1
      omega
    · omega
end
theorem leftPs_step {l : List Pre} {i : Nat} {n : Int} (hi : i < l.length) (hn : 0 ≤ n) : leftPs (l.drop i) n = leftPs (l.drop (i + 1)) (leftP l[i] n) := by
  rw [List.drop_eq_getElem_cons hi, leftPs, if_pos hn]
theorem leftPs_end {l : List Pre} {i : Nat} {n : Int} (hi : l.length ≤ i) : leftPs (l.drop i) n = n := by
  rw [List.drop_eq_nil_of_le hi, leftPs]
end Go.Lamb
namespace Go.Lamb
open Go Go.RowKit
mutual
def nodesP : Pre → Nat
  | .mk _ _ _ l _ => 1 + nodesPs l
def nodesPs : List Pre → Nat
  | [] => 0
  | p :: l => nodesP p + nodesPs l
end
theorem nodesP_eq (p : Pre) : nodesP p = 1 + nodesPs p.l := by cases p; rw [nodesP]; rfl
mutual
theorem leftP_nodes : ∀ (p : Pre) (n : Int), 0 ≤ leftP p n → leftP p n = n - nodesP p
  | .mk _ _ _ l _, n, h => by
    rw [leftP] at h ⊢
    rw [leftPs_nodes l (n - 1) h, nodesP]
    omega
theorem leftPs_nodes : ∀ (l : List Pre) (n : Int), 0 ≤ leftPs l n → leftPs l n = n - nodesPs l
  | [], n, h => by rw [leftPs, nodesPs]; omega
  | p :: l, n, h => by
    rw [leftPs] at h ⊢
    split at h
    · rename_i h0
      rw [if_pos h0]
      by_cases h1 : 0 ≤ leftP p n
      · rw [leftPs_nodes l _ h, leftP_nodes p n h1, nodesPs]
        omega
      · rw [leftPs_neg h1] at h
        omega
    · omega
end
mutual
/-- Has a tree a name that is too long? -/
def longP : Pre → Bool
  | .mk _ s _ l _ => decide ((s.length : Int) > 100) || longPs l
def longPs : List Pre → Bool
  | [] => false
  | p :: l => longP p || longPs l
end
theorem longPs_any : ∀ l : List Pre, longPs l = l.any longP
  | [] => by simp [longPs]
  | p :: l => by rw [longPs, List.any_cons, longPs_any l]
theorem longP_eq (p : Pre) : longP p = (decide ((p.name.length : Int) > 100) || p.l.any longP) := by
  cases p
  rw [longP, longPs_any]
  rfl
theorem longP_no {p : Pre} (h : longP p = false) : p.name.length ≤ 100 ∧ ∀ q ∈ p.l, longP q = false := by
  rw [longP_eq, Bool.or_eq_false_iff, decide_eq_false_iff_not] at h
  refine ⟨by have := h.1; omega, fun q hq => ?_⟩
  have := List.any_eq_false.1 h.2 q hq
  simpa using this
theorem putP_len (s : List UInt8) (b : Bool) : (putP s b).length ≤ s.length + 2 := by
  cases b <;> simp [putP]
theorem wordP_len {l : List OpT} {p : Pre} (h : p.name.length ≤ 100) (hn : p.n ≤ 9223372036854775807) : (wordP l p).length ≤ 102 := by
  unfold wordP
  split
  · split
    · simp; omega
    · omega
  · split
    · omega
    · split
      · have := Lib.itoa_length_le (max p.n 0) (by omega) (by omega)
        omega
      · simp
/-- All numbers of a tree are numbers of the machine. -/
inductive OkP : Pre → Prop where
  | mk {k : Int} {s : List UInt8} {n : Int} {l : List Pre} {a : Int} (hn : n ≤ 9223372036854775807) (h : ∀ x ∈ l, OkP x) : OkP (.mk k s n l a)
theorem OkP.n {p : Pre} (h : OkP p) : p.n ≤ 9223372036854775807 := by cases h; assumption
theorem OkP.mem {p x : Pre} (h : OkP p) (hx : x ∈ p.l) : OkP x := by cases h with | mk _ h => exact h x hx
def ShLen (l : List OpT) (p : Pre) : Prop := longP p = false → OkP p → (showL l p).length ≤ 206 * nodesP p
theorem showL_len (l : List OpT) (p : Pre) : ShLen l p := by
  refine (Pre.ind (P := fun p => ShLen l p ∧ ∀ q ∈ p.l, ShLen l q) (fun p ih => ⟨fun hL hO => ?_, fun q hq => (ih q hq).1⟩) p).1
  obtain ⟨hnm, hkids⟩ := longP_no hL
  have hnp := nodesP_eq p
  cases hi : infP l p with
  | some x =>
    obtain ⟨o, a, b⟩ := x
    obtain ⟨_, f, c, h2, _, h3, _, h5⟩ := infP_some hi
    have hf : f ∈ p.l := by rw [h2]; simp
    have hb : b ∈ p.l := by rw [h2]; simp
    have ha : a ∈ f.l := by rw [h3]; simp
    have hc : c ∈ f.l := by rw [h3]; simp
    obtain ⟨_, hfk⟩ := longP_no (hkids f hf)
    have la := (ih f hf).2 a ha (hfk a ha) ((hO.mem hf).mem ha)
    have lb := (ih b hb).1 (hkids b hb) (hO.mem hb)
    have hcn := (longP_no (hfk c hc)).1
    have hon : o.name = c.name := by
      have := List.find?_some h5
      simpa using this
    have p1 := putP_len (showL l a) (sideB l o 1 a)
    have p2 := putP_len (showL l b) (sideB l o 2 b)
    have n1 := nodesP_eq f
    have n2 := nodesP_eq c
    rw [h2, nodesPs, nodesPs, nodesPs] at hnp
    rw [h3, nodesPs, nodesPs, nodesPs] at n1
    rw [showL_inf hi]
    simp only [List.length_append, List.length_cons, List.length_nil, hon]
    omega
  | none =>
    by_cases h1 : lamP p = true
    · have h1' := h1
      unfold lamP at h1'
      simp only [Bool.and_eq_true, beq_iff_eq] at h1'
      obtain ⟨hk, hlen⟩ := h1'
      obtain ⟨q, hq⟩ := List.length_eq_one_iff.1 hlen
      have hqm : q ∈ p.l := by rw [hq]; simp
      have lq := (ih q hqm).1 (hkids q hqm) (hO.mem hqm)
      rw [hq, nodesPs, nodesPs] at hnp
      rw [showL_lam hk hq]
      simp only [List.length_append, List.length_cons, List.length_nil]
      omega
    · have h1 : lamP p = false := by simpa using h1
      by_cases h2 : appP p = true
      · have h2' := h2
        unfold appP at h2'
        simp only [Bool.and_eq_true, beq_iff_eq] at h2'
        obtain ⟨hk, hlen⟩ := h2'
        obtain ⟨f, b, hq⟩ : ∃ f b, p.l = [f, b] := by
          match p.l, hlen with
          | [f, b], _ => exact ⟨f, b, rfl⟩
        have hf : f ∈ p.l := by rw [hq]; simp
        have hb : b ∈ p.l := by rw [hq]; simp
        have lf := (ih f hf).1 (hkids f hf) (hO.mem hf)
        have lb := (ih b hb).1 (hkids b hb) (hO.mem hb)
        have p1 := putP_len (showL l f) ((infP l f).isSome || lamP f)
        have p2 := putP_len (showL l b) (lamP b || appP b)
        rw [hq, nodesPs, nodesPs, nodesPs] at hnp
        rw [showL_app hi hk hq]
        simp only [List.length_append, List.length_cons]
        omega
      · have h2 : appP p = false := by simpa using h2
        rw [showL_word h1 h2]
        have := wordP_len (l := l) hnm hO.n
        omega
end Go.Lamb
namespace Go.Lamb
open Go Go.RowKit

/-- What stands behind a word: nothing, a blank, a bracket that is shut, or an abstraction's sign. -/
def Dl (r : List UInt8) : Prop := ∀ c l, r = c :: l → c = 32 ∨ c = 41 ∨ c = 92 ∨ c = 46
theorem dl_nil : Dl [] := fun c l h => by cases h
theorem dl_32 (r : List UInt8) : Dl (32 :: r) := fun c l h => by injection h with h _; exact .inl h.symm
theorem dl_41 (r : List UInt8) : Dl (41 :: r) := fun c l h => by injection h with h _; exact .inr (.inl h.symm)
theorem dl_92 (r : List UInt8) : Dl (92 :: r) := fun c l h => by injection h with h _; exact .inr (.inr (.inl h.symm))
theorem run_dl {p : UInt8 → Bool} (h1 : p 32 = false) (h2 : p 41 = false) (h3 : p 92 = false) (h4 : p 46 = false) {r : List UInt8} (hr : Dl r) : ∀ u : List UInt8, runLen p (u ++ r) = runLen p u
  | [] => by
    cases r with
    | nil => rfl
    | cons c l =>
      have : p c = false := by rcases hr c l rfl with rfl | rfl | rfl | rfl <;> assumption
      simp [runLen, this]
  | c :: u => by simp only [List.cons_append, runLen, run_dl h1 h2 h3 h4 hr u]
theorem one_dl {u r : List UInt8} (hu : u ≠ []) (hr : Dl r) : oneL (u ++ r) = oneL u := by
  cases u with
  | nil => exact absurd rfl hu
  | cons c u =>
    have e : c :: u ++ r = c :: (u ++ r) := rfl
    have r1 := run_dl (p := digitB) (by decide) (by decide) (by decide) (by decide) hr (c :: u)
    have r2 := run_dl (p := insideB) (by decide) (by decide) (by decide) (by decide) hr (c :: u)
    have r3 := run_dl (p := signB) (by decide) (by decide) (by decide) (by decide) hr (c :: u)
    have t1 : (c :: u ++ r).take (runLen digitB (c :: u)) = (c :: u).take (runLen digitB (c :: u)) := List.take_append_of_le_length (runLen_le _ _)
    have t2 : (c :: u ++ r).take (runLen insideB (c :: u)) = (c :: u).take (runLen insideB (c :: u)) := List.take_append_of_le_length (runLen_le _ _)
    have t3 : (c :: u ++ r).take (runLen signB (c :: u)) = (c :: u).take (runLen signB (c :: u)) := List.take_append_of_le_length (runLen_le _ _)
    have t4 : (c :: u ++ r).take 1 = (c :: u).take 1 := List.take_append_of_le_length (by simp)
    rw [e] at r1 r2 r3 t1 t2 t3 t4 ⊢
    simp only [oneL, numR, wordR, r1, r2, r3, t1, t2, t3, t4]
/-- A word that is one token. -/
structure Wd (w : List UInt8) (k : Key) : Prop where
  ne : w ≠ []
  one : oneL w = ⟨k.1, k.2.1, k.2.2, w.length, 0⟩
  kind : k.1 ≠ 0
  skip : ∀ r, skipL false (w ++ r) = w ++ r
theorem skip_head {c : UInt8} {u : List UInt8} (h1 : blanks.contains c = false) (h2 : (c == 37) = false) (r : List UInt8) : skipL false ((c :: u) ++ r) = (c :: u) ++ r := by
  simp only [List.cons_append, skipL, h1, h2, Bool.false_eq_true, if_false]
theorem lx_word {w r : List UInt8} {k : Key} {ks : List Key} (hw : Wd w k) (hr : Dl r) (h : LX r ks) : LX (w ++ r) (k :: ks) := fun N => by
  obtain ⟨i1, i2⟩ := h N
  have h1 := (one_dl hw.ne hr).trans hw.one
  rw [hw.skip, lexAt_eq, h1]
  have hd : (w ++ r).drop w.length = r := List.drop_left
  simp only [ne_eq, not_true, if_false, hw.kind, hd]
  unfold LexR.cons
  rw [if_pos i1]
  refine ⟨rfl, ?_⟩
  rw [List.map_cons, i2]
  simp [tokAt, h1, Tok.key]
theorem runLen_of_all {p : UInt8 → Bool} {l : List UInt8} (h : l.all p = true) : runLen p l = l.length := (runLen_all p l).2 h
theorem kd1 : (1 : Int) ≠ 0 := by decide
theorem kd2 : (2 : Int) ≠ 0 := by decide
theorem kd4 : (4 : Int) ≠ 0 := by decide
theorem wd_name {w : List UInt8} (hw : isNameB w = true) : Wd w (1, w, 0) := by
  simp only [isNameB, Bool.and_eq_true, fitsB, decide_eq_true_eq] at hw
  obtain ⟨⟨⟨h1, h2⟩, h3⟩, h4⟩ := hw
  cases w with
  | nil => exact absurd rfl h1
  | cons c u =>
    have h3' : smallB c = true := h3
    obtain ⟨q1, q2, q3, q4⟩ := small_not h3'
    refine ⟨h1, ?_, kd1, skip_head q1 q2⟩
    simp only [oneL, q3, q4, h3', Bool.false_eq_true, if_false, if_true, ne_eq, not_true]
    rw [runLen_of_all h4]
    unfold wordR
    rw [if_neg (by omega), List.take_length]
theorem wd_var {w : List UInt8} (hw : isVarB w = true) : Wd w (2, w, 0) := by
  simp only [isVarB, Bool.and_eq_true, fitsB, decide_eq_true_eq] at hw
  obtain ⟨⟨⟨h1, h2⟩, h3⟩, h4⟩ := hw
  cases w with
  | nil => exact absurd rfl h1
  | cons c u =>
    have h3' : greatB c = true := h3
    obtain ⟨q1, q2, q3, q4, q5⟩ := great_not h3'
    refine ⟨h1, ?_, kd2, skip_head q1 q2⟩
    simp only [oneL, q3, q4, q5, h3', Bool.false_eq_true, if_false, if_true, ne_eq, not_true]
    rw [runLen_of_all h4]
    unfold wordR
    rw [if_neg (by omega), List.take_length]
theorem sign_not {c : UInt8} (h : signB c = true) : blanks.contains c = false ∧ (c == 37) = false ∧ markN c = 0 ∧ digitB c = false ∧ smallB c = false ∧ greatB c = false := by
  have key : ∀ x ∈ signs, blanks.contains x = false ∧ (x == 37) = false ∧ markN x = 0 ∧ digitB x = false ∧ smallB x = false ∧ greatB x = false := by decide
  exact key c (by simpa [signB] using h)
theorem single_not {c : UInt8} (h : singles.contains c = true) : blanks.contains c = false ∧ (c == 37) = false ∧ markN c = 0 ∧ digitB c = false ∧ smallB c = false ∧ greatB c = false ∧ signB c = false := by
  have key : ∀ x ∈ singles, blanks.contains x = false ∧ (x == 37) = false ∧ markN x = 0 ∧ digitB x = false ∧ smallB x = false ∧ greatB x = false ∧ signB x = false := by decide
  exact key c (by simpa using h)
theorem wd_sym {w : List UInt8} (hw : isSymB w = true) : Wd w (4, w, 0) := by
  simp only [isSymB, Bool.and_eq_true, Bool.or_eq_true, fitsB, decide_eq_true_eq] at hw
  obtain ⟨⟨h1, h2⟩, h3⟩ := hw
  cases w with
  | nil => exact absurd rfl h1
  | cons c u =>
    rcases h3 with h3 | ⟨h3, h4⟩
    · have h3' : signB c = true := by rw [List.all_cons, Bool.and_eq_true] at h3; exact h3.1
      obtain ⟨q1, q2, q3, q4, q5, q6⟩ := sign_not h3'
      refine ⟨h1, ?_, kd4, skip_head q1 q2⟩
      simp only [oneL, q3, q4, q5, q6, h3', Bool.false_eq_true, if_false, if_true, ne_eq, not_true]
      rw [runLen_of_all h3]
      unfold wordR
      rw [if_neg (by omega), List.take_length]
    · have h4' : singles.contains c = true := h4
      obtain ⟨q1, q2, q3, q4, q5, q6, q7⟩ := single_not h4'
      have hu : u = [] := List.eq_nil_of_length_eq_zero (by simpa using h3)
      subst hu
      refine ⟨h1, ?_, kd4, skip_head q1 q2⟩
      simp only [oneL, q3, q4, q5, q6, q7, h4', Bool.false_eq_true, if_false, if_true, ne_eq, not_true]
      rfl
theorem digit_not {c : UInt8} (h : digitB c = true) : blanks.contains c = false ∧ (c == 37) = false := by
  simp only [digitB, Bool.and_eq_true, decide_eq_true_eq] at h
  constructor
  · simp only [blanks, List.contains_cons, List.contains_nil, Bool.or_false, Bool.or_eq_false_iff, beq_eq_false_iff_ne, ne_eq]
    refine ⟨fun e => ?_, fun e => ?_, fun e => ?_, fun e => ?_⟩ <;> (rw [e] at h; revert h; decide)
  · simp only [beq_eq_false_iff_ne, ne_eq]
    intro e; rw [e] at h; revert h; decide
theorem wd_int {n : Int} (h0 : 0 ≤ n) (h1 : n ≤ 9223372036854775807) : Wd (Lib.itoa n) (3, [], n) := by
  have e : Lib.itoa n = Lib.decDigits n.toNat := by unfold Lib.itoa; rw [if_neg (by omega)]
  have ha := dec_all n.toNat
  have hv := dec_val n.toNat
  have hl := Lib.decDigits_length n.toNat
  have hp := Lib.nDigits_pos n.toNat
  rw [e]
  generalize Lib.decDigits n.toNat = ds at *
  cases ds with
  | nil => simp at hl; omega
  | cons c u =>
    have hc : digitB c = true := by rw [List.all_cons, Bool.and_eq_true] at ha; exact ha.1
    obtain ⟨q1, q2⟩ := digit_not hc
    refine ⟨by simp, ?_, by show (3 : Int) ≠ 0; decide, skip_head q1 q2⟩
    simp only [oneL, numR, digit_mark hc, hc, ne_eq, not_true, if_false, if_true]
    rw [runLen_of_all ha, List.take_length, hv, if_pos (by omega)]
    simp only [OneR.mk.injEq, and_true, true_and]
    omega
theorem lx_lam {r : List UInt8} {ks : List Key} (h : LX r ks) : LX (92 :: 32 :: r) ((8, [], 0) :: ks) := lx_one (w := [92]) rfl rfl (by decide) (lx_blank h)

/-! ### trees without their places -/
theorem zipAll_swap {α : Type} {f : α → α → Bool} : ∀ {l r : List α}, (∀ x ∈ l, ∀ y, f x y = f y x) → zipAll f l r = zipAll f r l
  | [], [], _ => rfl
  | x :: l, y :: r, h => by
    rw [zipAll, zipAll, h x (List.mem_cons_self ..) y, zipAll_swap (fun a ha b => h a (List.mem_cons_of_mem _ ha) b)]
  | [], _ :: _, _ => rfl
  | _ :: _, [], _ => rfl
theorem samePre_comm (p : Pre) : ∀ q, samePre p q = samePre q p := by
  induction p using Pre.ind with
  | h p ih =>
    intro q
    rw [samePre_eq, samePre_eq, zipAll_swap (fun x hx y => ih x hx y), Bool.beq_comm (a := p.k), Bool.beq_comm (a := p.name), Bool.beq_comm (a := p.n)]
theorem zipAll_trans {α : Type} {f : α → α → Bool} : ∀ {l r s : List α}, (∀ x ∈ l, ∀ y z, f x y = true → f y z = true → f x z = true) → zipAll f l r = true → zipAll f r s = true → zipAll f l s = true
  | [], [], [], _, _, _ => rfl
  | x :: l, y :: r, z :: s, h, h1, h2 => by
    rw [zipAll, Bool.and_eq_true] at h1 h2 ⊢
    exact ⟨h x (List.mem_cons_self ..) y z h1.1 h2.1, zipAll_trans (fun a ha => h a (List.mem_cons_of_mem _ ha)) h1.2 h2.2⟩
  | [], [], _ :: _, _, _, h2 => by cases h2
  | [], _ :: _, _, _, h1, _ => by cases h1
  | _ :: _, [], _, _, h1, _ => by cases h1
  | _ :: _, _ :: _, [], _, _, h2 => by cases h2
theorem samePre_trans (p : Pre) : ∀ q r, samePre p q = true → samePre q r = true → samePre p r = true := by
  induction p using Pre.ind with
  | h p ih =>
    intro q r h1 h2
    rw [samePre_eq] at h1 h2 ⊢
    simp only [Bool.and_eq_true, beq_iff_eq] at h1 h2 ⊢
    obtain ⟨⟨⟨a1, a2⟩, a3⟩, a4⟩ := h1
    obtain ⟨⟨⟨b1, b2⟩, b3⟩, b4⟩ := h2
    exact ⟨⟨⟨a1.trans b1, a2.trans b2⟩, a3.trans b3⟩, zipAll_trans (fun x hx y z => ih x hx y z) a4 b4⟩
/-- The same trees have the same texts. -/
theorem zip_map {α β : Type} {f : α → α → Bool} {g : α → β} : ∀ {l r : List α}, (∀ x ∈ l, ∀ y, f x y = true → g x = g y) → zipAll f l r = true → l.map g = r.map g
  | [], [], _, _ => rfl
  | x :: l, y :: r, h, h1 => by
    rw [zipAll, Bool.and_eq_true] at h1
    rw [List.map_cons, List.map_cons, h x (List.mem_cons_self ..) y h1.1, zip_map (fun a ha => h a (List.mem_cons_of_mem _ ha)) h1.2]
  | [], _ :: _, _, h1 => by cases h1
  | _ :: _, [], _, h1 => by cases h1
/-- A tree without its places. -/
def Pre.bare : Pre → Pre
  | .mk k s n l _ => .mk k s n (bares l) 0
where bares : List Pre → List Pre
  | [] => []
  | p :: l => p.bare :: bares l
theorem bares_map : ∀ l : List Pre, Pre.bare.bares l = l.map Pre.bare
  | [] => rfl
  | p :: l => by rw [Pre.bare.bares, bares_map l, List.map_cons]
theorem bare_eq (p : Pre) : p.bare = .mk p.k p.name p.n (p.l.map Pre.bare) 0 := by
  cases p
  rw [Pre.bare, bares_map]
  rfl
theorem same_bare (p : Pre) : ∀ q, samePre p q = true → p.bare = q.bare := by
  induction p using Pre.ind with
  | h p ih =>
    intro q h
    rw [samePre_eq] at h
    simp only [Bool.and_eq_true, beq_iff_eq] at h
    obtain ⟨⟨⟨h1, h2⟩, h3⟩, h4⟩ := h
    rw [bare_eq, bare_eq q, h1, h2, h3, zip_map (fun x hx y => ih x hx y) h4]
theorem bare_kids (p : Pre) : p.bare.l = p.l.map Pre.bare := by rw [bare_eq]; rfl
theorem bare_k (p : Pre) : p.bare.k = p.k ∧ p.bare.name = p.name ∧ p.bare.n = p.n := by rw [bare_eq]; exact ⟨rfl, rfl, rfl⟩
theorem lamP_bare (p : Pre) : lamP p.bare = lamP p := by unfold lamP; rw [(bare_k p).1, bare_kids, List.length_map]
theorem appP_bare (p : Pre) : appP p.bare = appP p := by unfold appP; rw [(bare_k p).1, bare_kids, List.length_map]
theorem infP_bare (l : List OpT) (p : Pre) : infP l p.bare = (infP l p).map fun x => (x.1, x.2.1.bare, x.2.2.bare) := by
  unfold infP
  rw [(bare_k p).1, bare_kids]
  by_cases h3 : p.k = 3
  · rw [if_pos h3, if_pos h3]
    cases hl : p.l with
    | nil => rfl
    | cons f r =>
      match r with
      | [] => rfl
      | [b] =>
        simp only [List.map_cons, List.map_nil]
        rw [(bare_k f).1, bare_kids]
        by_cases hf : f.k = 3
        · rw [if_pos hf, if_pos hf]
          cases hfl : f.l with
          | nil => rfl
          | cons c r =>
            match r with
            | [] => rfl
            | [a] =>
              simp only [List.map_cons, List.map_nil]
              rw [(bare_k c).1, (bare_k c).2.1]
              by_cases hc : c.k = 0
              · rw [if_pos hc, if_pos hc]
                cases findL l c.name <;> rfl
              · rw [if_neg hc, if_neg hc]; rfl
            | _ :: _ :: _ => rfl
        · rw [if_neg hf, if_neg hf]; rfl
      | _ :: _ :: _ => rfl
  · rw [if_neg h3, if_neg h3]; rfl
theorem sideB_bare (l : List OpT) (o : OpT) (fix : Int) (p : Pre) : sideB l o fix p.bare = sideB l o fix p := by
  unfold sideB
  rw [lamP_bare, infP_bare]
  cases infP l p <;> rfl
theorem wordP_bare (l : List OpT) (p : Pre) : wordP l p.bare = wordP l p := by
  unfold wordP
  rw [(bare_k p).1, (bare_k p).2.1, (bare_k p).2.2]
theorem showL_bare (l : List OpT) (p : Pre) : showL l p.bare = showL l p := by
  refine (Pre.ind (P := fun p => showL l p.bare = showL l p ∧ ∀ q ∈ p.l, showL l q.bare = showL l q) (fun p ih => ⟨?_, fun q hq => (ih q hq).1⟩) p).1
  cases hi : infP l p with
  | some x =>
    obtain ⟨o, a, b⟩ := x
    obtain ⟨_, f, c, h2, _, h3, _⟩ := infP_some hi
    have hf : f ∈ p.l := by rw [h2]; simp
    have hb : infP l p.bare = some (o, a.bare, b.bare) := by rw [infP_bare, hi]; rfl
    rw [showL_inf hi, showL_inf hb, (ih f hf).2 a (by rw [h3]; simp), (ih b (by rw [h2]; simp)).1, sideB_bare, sideB_bare]
  | none =>
    have hb : infP l p.bare = none := by rw [infP_bare, hi]; rfl
    by_cases h1 : lamP p = true
    · have h1' := h1
      unfold lamP at h1'
      simp only [Bool.and_eq_true, beq_iff_eq] at h1'
      obtain ⟨q, hq⟩ := List.length_eq_one_iff.1 h1'.2
      rw [showL_lam h1'.1 hq, showL_lam (p := p.bare) (q := q.bare) (by rw [(bare_k p).1]; exact h1'.1) (by rw [bare_kids, hq]; rfl), (bare_k p).2.1, (ih q (by rw [hq]; simp)).1]
    · have h1 : lamP p = false := by simpa using h1
      by_cases h2 : appP p = true
      · have h2' := h2
        unfold appP at h2'
        simp only [Bool.and_eq_true, beq_iff_eq] at h2'
        obtain ⟨f, c, hq⟩ : ∃ f c, p.l = [f, c] := by
          match p.l, h2'.2 with
          | [f, c], _ => exact ⟨f, c, rfl⟩
        have e1 : (infP l f.bare).isSome = (infP l f).isSome := by rw [infP_bare]; cases infP l f <;> rfl
        rw [showL_app hi h2'.1 hq, showL_app (p := p.bare) (f := f.bare) (b := c.bare) hb (by rw [(bare_k p).1]; exact h2'.1) (by rw [bare_kids, hq]; rfl), (ih f (by rw [hq]; simp)).1, (ih c (by rw [hq]; simp)).1, lamP_bare, lamP_bare, appP_bare, e1]
      · have h2 : appP p = false := by simpa using h2
        rw [showL_word h1 h2, showL_word (by rw [lamP_bare]; exact h1) (by rw [appP_bare]; exact h2), wordP_bare]
theorem showL_same {l : List OpT} {p q : Pre} (h : samePre p q = true) : showL l p = showL l q := by
  rw [← showL_bare l p, ← showL_bare l q, same_bare p q h]
end Go.Lamb
namespace Go.Lamb
open Go Go.RowKit

theorem tokL_lt {t : List Tok} {i : Nat} (h : (tokL t i).kind ≠ 0) : i < t.length := by
  rcases Nat.lt_or_ge i t.length with h' | h'
  · exact h'
  · rw [tokL, List.getElem?_eq_none h'] at h
    exact absurd rfl h
theorem begins_lt {l : List OpT} {t : List Tok} {i : Nat} (h : beginsL l (tokL t i) ≠ false) : i < t.length := by
  refine tokL_lt fun e => h ?_
  rw [beginsL, e]
  simp
theorem opOf_lt {l : List OpT} {t : List Tok} {i : Nat} {o : OpT} (h : opOf l (tokL t i) = some o) : i < t.length := by
  refine tokL_lt fun e => ?_
  rw [opOf, e] at h
  simp at h
theorem fuel_bounds : ∀ (f : Nat),
    (∀ l t depth i p j, atomF f l t depth i = some (.ok (p, j)) → i < j ∧ j ≤ t.length) ∧
    (∀ l t depth i p pos last q j, argsF f l t depth i p pos last = some (.ok (q, j)) → i ≤ t.length → i ≤ j ∧ j ≤ t.length) ∧
    (∀ l t least depth i m j, exprF f l t least depth i = some (.ok (m, j)) → i < j ∧ j ≤ t.length) ∧
    (∀ l t least depth i m r j, chainF f l t least depth i m = some (.ok (r, j)) → i ≤ t.length → i ≤ j ∧ j ≤ t.length)
  | 0 => ⟨fun _ _ _ _ _ _ h => by simp [atomF] at h, fun _ _ _ _ _ _ _ _ _ h => by simp [argsF] at h, fun _ _ _ _ _ _ _ h => by simp [exprF] at h, fun _ _ _ _ _ _ _ _ h => by simp [chainF] at h⟩
  | f + 1 => by
    obtain ⟨h1, h2, h3, h4⟩ := fuel_bounds f
    refine ⟨fun l t depth i p j h => ?_, fun l t depth i p pos last q j h hi => ?_, fun l t least depth i m j h => ?_, fun l t least depth i m r j h hi => ?_⟩
    · rw [atomF] at h
      simp only at h
      split at h
      · cases h
      · rename_i hb
        have hlt := begins_lt hb
        split at h
        · split at h
          · rename_i hc
            have := tokL_lt (t := t) (i := i + 2) (by rw [hc.2]; decide)
            injection h with h; injection h with h; injection h with _ h
            omega
          · split at h
            · cases h
            · cases he : exprF f l t 0 (depth + 1) (i + 1) with
              | none => rw [he] at h; cases h
              | some x =>
                rw [he] at h
                cases x with
                | error b => cases h
                | ok x =>
                  obtain ⟨m, k⟩ := x
                  simp only at h
                  split at h
                  · rename_i hk
                    have := tokL_lt (t := t) (i := k) (by rw [hk]; decide)
                    have := h3 _ _ _ _ _ _ _ he
                    injection h with h; injection h with h; injection h with _ h
                    omega
                  · cases h
        · split at h
          · injection h with h; injection h with h; injection h with _ h
            omega
          · split at h
            · split at h
              · cases h
              · cases he : exprF f l t 0 (depth + 1) (i + 2) with
                | none => rw [he] at h; cases h
                | some x =>
                  rw [he] at h
                  cases x with
                  | error b => cases h
                  | ok x =>
                    obtain ⟨m, k⟩ := x
                    have := h3 _ _ _ _ _ _ _ he
                    injection h with h; injection h with h; injection h with _ h
                    omega
            · injection h with h; injection h with h; injection h with _ h
              omega
    · rw [argsF] at h
      split at h
      · injection h with h; injection h with h; injection h with _ h
        omega
      · cases he : atomF f l t depth i with
        | none => rw [he] at h; cases h
        | some x =>
          rw [he] at h
          cases x with
          | error b => cases h
          | ok x =>
            have := h1 _ _ _ _ _ _ he
            have := h2 _ _ _ _ _ _ _ _ _ h this.2
            omega
    · rw [exprF] at h
      cases he : atomF f l t depth i with
      | none => rw [he] at h; cases h
      | some x =>
        rw [he] at h
        cases x with
        | error b => cases h
        | ok x =>
          simp only at h
          have k1 := h1 _ _ _ _ _ _ he
          cases hg : argsF f l t depth x.2 x.1 x.1.pos (lamAt t i) with
          | none => rw [hg] at h; cases h
          | some y =>
            rw [hg] at h
            cases y with
            | error b => cases h
            | ok y =>
              have k2 := h2 _ _ _ _ _ _ _ _ _ hg k1.2
              have k3 := h4 _ _ _ _ _ _ _ _ h k2.2
              omega
    · rw [chainF] at h
      cases ho : opOf l (tokL t i) with
      | none =>
        rw [ho] at h
        injection h with h; injection h with h; injection h with _ h
        omega
      | some o =>
        rw [ho] at h
        simp only at h
        have hlt := opOf_lt ho
        split at h
        · injection h with h; injection h with h; injection h with _ h
          omega
        · split at h
          · cases h
          · split at h
            · cases h
            · cases he : exprF f l t (nextL o) (depth + 1) (i + 1) with
              | none => rw [he] at h; cases h
              | some x =>
                rw [he] at h
                cases x with
                | error b => cases h
                | ok x =>
                  have k1 := h3 _ _ _ _ _ _ _ he
                  simp only at h
                  cases hb : x.1.by_ with
                  | none =>
                    rw [hb] at h
                    have := h4 _ _ _ _ _ _ _ _ h k1.2
                    omega
                  | some y =>
                    rw [hb] at h
                    simp only at h
                    split at h
                    · have := h4 _ _ _ _ _ _ _ _ h k1.2
                      omega
                    · cases h
/-- Something is read, or something is wrong. -/
theorem fuel_enough (l : List OpT) (t : List Tok) : ∀ (n : Nat),
    (∀ depth i, t.length ≤ i + n → ∃ f r, atomF f l t depth i = some r) ∧
    (∀ depth i p pos last, t.length ≤ i + n → ∃ f r, argsF f l t depth i p pos last = some r) ∧
    (∀ least depth i, t.length ≤ i + n → ∃ f r, exprF f l t least depth i = some r) ∧
    (∀ least depth i m, t.length ≤ i + n → ∃ f r, chainF f l t least depth i m = some r) := by
  intro n
  induction n using Nat.strongRecOn with
  | ind n ih =>
    have hA : ∀ depth i, t.length ≤ i + n → ∃ f r, atomF f l t depth i = some r := fun depth i hi => by
      by_cases hb : beginsL l (tokL t i) = false
      · exact ⟨1, _, by rw [atomF]; simp only; rw [if_pos hb]⟩
      · have hlt := begins_lt hb
        obtain ⟨n', rfl⟩ : ∃ n', n = n' + 1 := ⟨n - 1, by omega⟩
        obtain ⟨f1, r1, h1⟩ := (ih n' (by omega)).2.2.1 0 (depth + 1) (i + 1) (by omega)
        obtain ⟨f2, r2, h2⟩ : ∃ f r, exprF f l t 0 (depth + 1) (i + 2) = some r := by
          rcases Nat.lt_or_ge 0 n' with h | h
          · obtain ⟨n2, rfl⟩ : ∃ n2, n' = n2 + 1 := ⟨n' - 1, by omega⟩
            exact (ih n2 (by omega)).2.2.1 0 (depth + 1) (i + 2) (by omega)
          · exact (ih n' (by omega)).2.2.1 0 (depth + 1) (i + 2) (by omega)
        have h1' := (fuel_le (Nat.le_max_left f1 f2)).2.2.1 _ _ _ _ _ _ h1
        have h2' := (fuel_le (Nat.le_max_right f1 f2)).2.2.1 _ _ _ _ _ _ h2
        refine ⟨max f1 f2 + 1, ?_⟩
        rw [atomF]
        simp only
        rw [if_neg hb, h1', h2']
        split
        · split
          · exact ⟨_, rfl⟩
          · split
            · exact ⟨_, rfl⟩
            · cases r1 with
              | error b => exact ⟨_, rfl⟩
              | ok x =>
                simp only
                split
                · exact ⟨_, rfl⟩
                · exact ⟨_, rfl⟩
        · split
          · exact ⟨_, rfl⟩
          · split
            · split
              · exact ⟨_, rfl⟩
              · cases r2 with
                | error b => exact ⟨_, rfl⟩
                | ok x => exact ⟨_, rfl⟩
            · exact ⟨_, rfl⟩
    have hG : ∀ depth i p pos last, t.length ≤ i + n → ∃ f r, argsF f l t depth i p pos last = some r := fun depth i p pos last hi => by
      by_cases hc : last = true ∨ beginsL l (tokL t i) = false
      · exact ⟨1, _, by rw [argsF, if_pos hc]⟩
      · have hlt : i < t.length := begins_lt fun e => hc (.inr e)
        obtain ⟨f1, r1, h1⟩ := hA depth i hi
        cases r1 with
        | error b => exact ⟨f1 + 1, _, by rw [argsF, if_neg hc, h1]⟩
        | ok x =>
          obtain ⟨q, j⟩ := x
          have hj := (fuel_bounds f1).1 _ _ _ _ _ _ h1
          obtain ⟨n', rfl⟩ : ∃ n', n = n' + 1 := ⟨n - 1, by omega⟩
          obtain ⟨f2, r2, h2⟩ := (ih n' (by omega)).2.1 depth j (Pre.app p q pos) pos (lamAt t i) (by omega)
          refine ⟨max f1 f2 + 1, r2, ?_⟩
          rw [argsF, if_neg hc, (fuel_le (Nat.le_max_left f1 f2)).1 _ _ _ _ _ h1]
          exact (fuel_le (Nat.le_max_right f1 f2)).2.1 _ _ _ _ _ _ _ _ h2
    have hC : ∀ least depth i m, t.length ≤ i + n → ∃ f r, chainF f l t least depth i m = some r := fun least depth i m hi => by
      cases ho : opOf l (tokL t i) with
      | none => exact ⟨1, _, by rw [chainF, ho]⟩
      | some o =>
        have hlt := opOf_lt ho
        obtain ⟨n', rfl⟩ : ∃ n', n = n' + 1 := ⟨n - 1, by omega⟩
        obtain ⟨f1, r1, h1⟩ := (ih n' (by omega)).2.2.1 (nextL o) (depth + 1) (i + 1) (by omega)
        cases r1 with
        | error b =>
          refine ⟨f1 + 1, ?_⟩
          rw [chainF, ho]
          simp only
          rw [h1]
          split
          · exact ⟨_, rfl⟩
          · split
            · exact ⟨_, rfl⟩
            · split
              · exact ⟨_, rfl⟩
              · exact ⟨_, rfl⟩
        | ok x =>
          obtain ⟨r, j⟩ := x
          have hj := (fuel_bounds f1).2.2.1 _ _ _ _ _ _ _ h1
          obtain ⟨f2, r2, h2⟩ := (ih n' (by omega)).2.2.2 least depth j ⟨applyL o (tokL t i).pos m.p r.p, some (o, (tokL t i).pos)⟩ (by omega)
          refine ⟨max f1 f2 + 1, ?_⟩
          rw [chainF, ho]
          simp only
          rw [(fuel_le (Nat.le_max_left f1 f2)).2.2.1 _ _ _ _ _ _ h1]
          simp only
          rw [(fuel_le (Nat.le_max_right f1 f2)).2.2.2 _ _ _ _ _ _ _ h2]
          split
          · exact ⟨_, rfl⟩
          · split
            · exact ⟨_, rfl⟩
            · split
              · exact ⟨_, rfl⟩
              · cases hb : r.by_ with
                | none => exact ⟨_, rfl⟩
                | some y =>
                  simp only
                  split
                  · exact ⟨_, rfl⟩
                  · exact ⟨_, rfl⟩
    refine ⟨hA, hG, fun least depth i hi => ?_, hC⟩
    obtain ⟨f1, r1, h1⟩ := hA depth i hi
    cases r1 with
    | error b => exact ⟨f1 + 1, _, by rw [exprF, h1]⟩
    | ok x =>
      obtain ⟨p, j⟩ := x
      have hj := (fuel_bounds f1).1 _ _ _ _ _ _ h1
      obtain ⟨f2, r2, h2⟩ := hG depth j p p.pos (lamAt t i) (by omega)
      cases r2 with
      | error b =>
        refine ⟨max f1 f2 + 1, .error b, ?_⟩
        rw [exprF, (fuel_le (Nat.le_max_left f1 f2)).1 _ _ _ _ _ h1]
        simp only
        rw [(fuel_le (Nat.le_max_right f1 f2)).2.1 _ _ _ _ _ _ _ _ h2]
      | ok y =>
        obtain ⟨q, k⟩ := y
        have hk := (fuel_bounds f2).2.1 _ _ _ _ _ _ _ _ _ h2 hj.2
        obtain ⟨f3, r3, h3⟩ := hC least depth k ⟨q, none⟩ (by omega)
        refine ⟨max (max f1 f2) f3 + 1, r3, ?_⟩
        rw [exprF, (fuel_le (by omega : f1 ≤ max (max f1 f2) f3)).1 _ _ _ _ _ h1]
        simp only
        rw [(fuel_le (by omega : f2 ≤ max (max f1 f2) f3)).2.1 _ _ _ _ _ _ _ _ h2]
        exact (fuel_le (by omega : f3 ≤ max (max f1 f2) f3)).2.2.2 _ _ _ _ _ _ _ h3
theorem Expr.some (l : List OpT) (t : List Tok) (least : Int) (depth i : Nat) : ∃ r, Expr l t least depth i r := by
  obtain ⟨f, r, h⟩ := (fuel_enough l t t.length).2.2.1 least depth i (by omega)
  exact ⟨r, f, h⟩
end Go.Lamb
namespace Go.Lamb
open Go Go.RowKit

/-- The first n tokens stand in the other row, further on by s; behind them a dot, or the end. -/
structure Part (t t' : List Tok) (s n : Nat) : Prop where
  same : ∀ k, k < n → tokL t' (k + s) = tokL t k
  out : ∀ k, k = n → (tokL t' (k + s)).kind = 0 ∨ (tokL t' (k + s)).kind = 7
theorem part_of {t ahead : List Tok} {n : Nat} (hn : n ≤ t.length) : Part t (ahead ++ t.take n) ahead.length n :=
  ⟨fun k hk => by
    rw [tokL, tokL, List.getElem?_append_right (by omega), Nat.add_sub_cancel, List.getElem?_take, if_pos hk, List.getElem?_eq_getElem (by omega)]
    rfl, fun k hk => by
    left
    rw [tokL, List.getElem?_append_right (by omega), Nat.add_sub_cancel, List.getElem?_take, if_neg (by omega)]
    rfl⟩
theorem lam_far {f : Nat} {l : List OpT} {t : List Tok} {depth i : Nat} {p : Pre} {j : Nat} (h : atomF f l t depth i = some (.ok (p, j))) (hl : lamAt t i = true) : i + 2 ≤ j := by
  cases f with
  | zero => simp [atomF] at h
  | succ f =>
    simp only [lamAt, decide_eq_true_eq] at hl
    obtain ⟨hk, hn⟩ := hl
    rw [atomF] at h
    simp only at h
    split at h
    · cases h
    · split at h
      · rename_i h5; omega
      · split at h
        · rename_i h3; omega
        · rw [if_pos ⟨by omega, hn⟩] at h
          split at h
          · cases h
          · split at h
            · cases h
            · cases h
            · rename_i m k he
              injection h with h; injection h with h; injection h with _ h
              have := ((fuel_bounds f).2.2.1 _ _ _ _ _ _ _ he).1
              omega
theorem lam_same {t t' : List Tok} {s n : Nat} (P : Part t t' s n) {f : Nat} {l : List OpT} {depth i : Nat} {p : Pre} {j : Nat} (h : atomF f l t depth i = some (.ok (p, j))) (hj : j ≤ n) : lamAt t' (i + s) = lamAt t i := by
  have hi := ((fuel_bounds f).1 _ _ _ _ _ _ h).1
  have e0 := P.same i (by omega)
  rcases Nat.lt_or_ge (i + 1) n with h1 | h1
  · have e1 := P.same (i + 1) h1
    rw [Nat.add_right_comm] at e1
    simp only [lamAt, e0, e1]
  · have e1 := P.out (i + 1) (by omega)
    rw [Nat.add_right_comm] at e1
    have hf : lamAt t i = false := by
      cases hl : lamAt t i
      · rfl
      · have := lam_far h hl; omega
    rw [hf]
    rcases e1 with e1 | e1 <;> simp [lamAt, e1]
theorem part_fuel {t t' : List Tok} {s n : Nat} (P : Part t t' s n) (hn : n ≤ t.length) : ∀ (f : Nat),
    (∀ l depth i p j, atomF f l t depth i = some (.ok (p, j)) → j ≤ n → atomF f l t' depth (i + s) = some (.ok (p, j + s))) ∧
    (∀ l depth i p pos last q j, argsF f l t depth i p pos last = some (.ok (q, j)) → i ≤ n → j ≤ n → argsF f l t' depth (i + s) p pos last = some (.ok (q, j + s))) ∧
    (∀ l least depth i m j, exprF f l t least depth i = some (.ok (m, j)) → j ≤ n → exprF f l t' least depth (i + s) = some (.ok (m, j + s))) ∧
    (∀ l least depth i m r j, chainF f l t least depth i m = some (.ok (r, j)) → i ≤ n → j ≤ n → chainF f l t' least depth (i + s) m = some (.ok (r, j + s)))
  | 0 => ⟨fun _ _ _ _ _ h => by simp [atomF] at h, fun _ _ _ _ _ _ _ _ h => by simp [argsF] at h, fun _ _ _ _ _ _ h => by simp [exprF] at h, fun _ _ _ _ _ _ _ h => by simp [chainF] at h⟩
  | f + 1 => by
    obtain ⟨h1, h2, h3, h4⟩ := part_fuel P hn f
    refine ⟨fun l depth i p j h hj => ?_, fun l depth i p pos last q j h hi hj => ?_, fun l least depth i m j h hj => ?_, fun l least depth i m r j h hi hj => ?_⟩
    · have hlt := ((fuel_bounds (f + 1)).1 _ _ _ _ _ _ h).1
      have e0 := P.same i (by omega)
      rw [atomF] at h ⊢
      simp only [e0] at h ⊢
      split at h
      · cases h
      · rename_i hb
        rw [if_neg hb]
        split at h
        · rename_i h5
          rw [if_pos h5]
          split at h
          · rename_i hc
            injection h with h; injection h with h; injection h with ha hb'
            subst hb'
            have e1 := P.same (i + 1) (by omega)
            have e2 := P.same (i + 2) (by omega)
            rw [Nat.add_right_comm] at e1 e2
            rw [e1, e2, if_pos hc, ← ha, Nat.add_right_comm]
          · rename_i hc
            split at h
            · cases h
            · rename_i hd
              split at h
              · cases h
              · cases h
              · rename_i m k he
                split at h
                · rename_i hk6
                  injection h with h; injection h with h; injection h with ha hb'
                  subst hb'
                  have hk := ((fuel_bounds f).2.2.1 _ _ _ _ _ _ _ he).1
                  have e1 := P.same (i + 1) (by omega)
                  have e2 := P.same (i + 2) (by omega)
                  have e3 := P.same k (by omega)
                  have he' := h3 _ _ _ _ _ _ he (by omega)
                  rw [Nat.add_right_comm] at e1 e2 he'
                  rw [e1, e2, if_neg hc, if_neg hd, he']
                  simp only [e3]
                  rw [if_pos hk6, ← ha, Nat.add_right_comm]
                · cases h
        · rename_i h5
          rw [if_neg h5]
          split at h
          · rename_i h3'
            rw [if_pos h3']
            injection h with h; injection h with h; injection h with ha hb'
            subst hb'
            rw [← ha, Nat.add_right_comm]
          · rename_i h3'
            rw [if_neg h3']
            split at h
            · rename_i hc
              split at h
              · cases h
              · rename_i hd
                split at h
                · cases h
                · cases h
                · rename_i m k he
                  injection h with h; injection h with h; injection h with ha hb'
                  subst hb'
                  have hk := ((fuel_bounds f).2.2.1 _ _ _ _ _ _ _ he).1
                  have e1 := P.same (i + 1) (by omega)
                  have he' := h3 _ _ _ _ _ _ he (by omega)
                  rw [Nat.add_right_comm] at e1 he'
                  rw [e1, if_pos hc, if_neg hd, he', ← ha]
            · rename_i hc
              injection h with h; injection h with h; injection h with ha hb'
              subst hb'
              have hc' : ¬ ((tokL t i).kind ≠ 4 ∧ (tokL t' (i + s + 1)).kind = 8) := by
                rcases Nat.lt_or_ge (i + 1) n with h1' | h1'
                · have e1 := P.same (i + 1) h1'
                  rw [Nat.add_right_comm] at e1
                  rw [e1]; exact hc
                · have e1 := P.out (i + 1) (by omega)
                  rw [Nat.add_right_comm] at e1
                  rcases e1 with e1 | e1 <;> (rw [e1]; simp)
              rw [if_neg hc', ← ha, Nat.add_right_comm]
    · rw [argsF] at h ⊢
      split at h
      · rename_i hc
        injection h with h; injection h with h; injection h with ha hb
        subst hb ha
        have hc' : last = true ∨ beginsL l (tokL t' (i + s)) = false := by
          rcases hc with hc | hc
          · exact .inl hc
          · right
            rcases Nat.lt_or_ge i n with h1' | h1'
            · rw [P.same i h1']; exact hc
            · rcases P.out i (by omega) with e1 | e1 <;> simp [beginsL, e1]
        rw [if_pos hc']
      · rename_i hc
        split at h
        · cases h
        · cases h
        · rename_i q' k he
          have hkj := ((fuel_bounds f).2.1 _ _ _ _ _ _ _ _ _ h ((fuel_bounds f).1 _ _ _ _ _ _ he).2).1
          have hik := ((fuel_bounds f).1 _ _ _ _ _ _ he).1
          have e0 := P.same i (by omega)
          rw [if_neg (by rw [e0]; exact hc), h1 _ _ _ _ _ he (by omega)]
          simp only
          rw [lam_same P he (by omega)]
          exact h2 _ _ _ _ _ _ _ _ h (by omega) hj
    · rw [exprF] at h ⊢
      split at h
      · cases h
      · cases h
      · rename_i p k he
        split at h
        · cases h
        · cases h
        · rename_i q k2 hg
          have b1 := (fuel_bounds f).1 _ _ _ _ _ _ he
          have b2 := (fuel_bounds f).2.1 _ _ _ _ _ _ _ _ _ hg b1.2
          have b3 := (fuel_bounds f).2.2.2 _ _ _ _ _ _ _ _ h b2.2
          rw [h1 _ _ _ _ _ he (by omega)]
          simp only
          rw [lam_same P he (by omega), h2 _ _ _ _ _ _ _ _ hg (by omega) (by omega)]
          exact h4 _ _ _ _ _ _ _ h (by omega) hj
    · rw [chainF] at h ⊢
      cases ho : opOf l (tokL t i) with
      | none =>
        rw [ho] at h
        injection h with h; injection h with h; injection h with ha hb
        subst hb ha
        have ho' : opOf l (tokL t' (i + s)) = none := by
          rcases Nat.lt_or_ge i n with h1' | h1'
          · rw [P.same i h1']; exact ho
          · rcases P.out i (by omega) with e1 | e1 <;> (rw [opOf, e1]; simp)
        rw [ho']
      | some o =>
        rw [ho] at h
        simp only at h
        split at h
        · rename_i hc
          injection h with h; injection h with h; injection h with ha hb
          subst hb ha
          rcases Nat.lt_or_ge i n with h1' | h1'
          · rw [P.same i h1', ho]
            simp only
            rw [if_pos hc]
          · have ho' : opOf l (tokL t' (i + s)) = none := by rcases P.out i (by omega) with e1 | e1 <;> (rw [opOf, e1]; simp)
            rw [ho']
        · rename_i hc
          split at h
          · cases h
          · rename_i hcl
            split at h
            · cases h
            · rename_i hd
              split at h
              · cases h
              · cases h
              · rename_i r' k he
                have b1 := (fuel_bounds f).2.2.1 _ _ _ _ _ _ _ he
                have hkj : k ≤ j := by
                  split at h
                  · split at h
                    · exact ((fuel_bounds f).2.2.2 _ _ _ _ _ _ _ _ h b1.2).1
                    · cases h
                  · exact ((fuel_bounds f).2.2.2 _ _ _ _ _ _ _ _ h b1.2).1
                have he' := h3 _ _ _ _ _ _ he (by omega)
                rw [Nat.add_right_comm] at he'
                have e0 := P.same i (by omega)
                rw [e0, ho]
                simp only
                rw [if_neg hc, if_neg hcl, if_neg hd, he']
                simp only
                split at h
                · rename_i b pos hby
                  split at h
                  · rename_i hbs
                    rw [if_pos hbs]
                    exact h4 _ _ _ _ _ _ _ h (by omega) hj
                  · cases h
                · exact h4 _ _ _ _ _ _ _ h (by omega) hj
/-- The same tokens alone, and further on, are the same tree. -/
theorem Expr.part {l : List OpT} {t ahead : List Tok} {least : Int} {depth n : Nat} {m : Made} (h : Expr l t least depth 0 (.ok (m, n))) : Expr l (ahead ++ t.take n) least depth ahead.length (.ok (m, n + ahead.length)) := by
  obtain ⟨f, h⟩ := h
  have hn := ((fuel_bounds f).2.2.1 _ _ _ _ _ _ _ h).2
  have := (part_fuel (part_of (ahead := ahead) hn) hn f).2.2.1 _ _ _ _ _ _ h (Nat.le_refl _)
  rw [Nat.zero_add] at this
  exact ⟨f, this⟩
/-- What is wrong has a number. -/
theorem err_fuel : ∀ (f : Nat),
    (∀ l t depth i b, atomF f l t depth i = some (.error b) → (b.e != 0) = true) ∧
    (∀ l t depth i p pos last b, argsF f l t depth i p pos last = some (.error b) → (b.e != 0) = true) ∧
    (∀ l t least depth i b, exprF f l t least depth i = some (.error b) → (b.e != 0) = true) ∧
    (∀ l t least depth i m b, chainF f l t least depth i m = some (.error b) → (b.e != 0) = true)
  | 0 => ⟨fun _ _ _ _ _ h => by simp [atomF] at h, fun _ _ _ _ _ _ _ _ h => by simp [argsF] at h, fun _ _ _ _ _ _ h => by simp [exprF] at h, fun _ _ _ _ _ _ _ h => by simp [chainF] at h⟩
  | f + 1 => by
    obtain ⟨h1, h2, h3, h4⟩ := err_fuel f
    refine ⟨fun l t depth i b h => ?_, fun l t depth i p pos last b h => ?_, fun l t least depth i b h => ?_, fun l t least depth i m b h => ?_⟩
    · rw [atomF] at h
      simp only at h
      repeat' split at h
      all_goals first
        | (cases h; done)
        | (injection h with h; injection h with h; subst h; rfl)
        | (injection h with h; injection h with h; subst h; rename_i he; exact h3 _ _ _ _ _ _ he)
        | (injection h with h; cases h)
    · rw [argsF] at h
      repeat' split at h
      all_goals first
        | (cases h; done)
        | (injection h with h; injection h with h; subst h; rename_i he; exact h1 _ _ _ _ _ he)
        | exact h2 _ _ _ _ _ _ _ _ h
        | (injection h with h; cases h)
    · rw [exprF] at h
      repeat' split at h
      all_goals first
        | (cases h; done)
        | (injection h with h; injection h with h; subst h; rename_i he; exact h1 _ _ _ _ _ he)
        | (injection h with h; injection h with h; subst h; rename_i he; exact h2 _ _ _ _ _ _ _ _ he)
        | exact h4 _ _ _ _ _ _ _ h
        | (injection h with h; cases h)
    · rw [chainF] at h
      repeat' split at h
      all_goals first
        | (cases h; done)
        | (injection h with h; injection h with h; subst h; rfl)
        | (injection h with h; injection h with h; subst h; rename_i he; exact h3 _ _ _ _ _ _ he)
        | exact h4 _ _ _ _ _ _ _ h
        | (injection h with h; cases h)
theorem Expr.err {l : List OpT} {t : List Tok} {least : Int} {depth i : Nat} {b : Bad} (h : Expr l t least depth i (.error b)) : (b.e != 0) = true := by
  obtain ⟨f, h⟩ := h
  exact (err_fuel f).2.2.1 _ _ _ _ _ _ h
end Go.Lamb
namespace Go.Lamb
open Go Go.RowKit

section
variable {l : List OpT} {t : List Tok} {least : Int} {d i j k : Nat}
theorem Expr.mk {p q : Pre} {r : Except Bad (Made × Nat)} (h1 : Atom l t d i (.ok (p, j))) (h2 : Args l t d j p p.pos (lamAt t i) (.ok (q, k))) (h3 : Chain l t least d k ⟨q, none⟩ r) : Expr l t least d i r := by
  obtain ⟨f1, h1⟩ := h1
  obtain ⟨f2, h2⟩ := h2
  obtain ⟨f3, h3⟩ := h3
  refine ⟨max f1 (max f2 f3) + 1, ?_⟩
  rw [exprF, (fuel_le (Nat.le_max_left _ _)).1 _ _ _ _ _ h1]
  simp only
  rw [(fuel_le (Nat.le_trans (Nat.le_max_left _ _) (Nat.le_max_right _ _))).2.1 _ _ _ _ _ _ _ _ h2]
  exact (fuel_le (Nat.le_trans (Nat.le_max_right _ _) (Nat.le_max_right _ _))).2.2.2 _ _ _ _ _ _ _ h3
theorem Expr.bad {b : Bad} (h1 : Atom l t d i (.error b)) : Expr l t least d i (.error b) := by
  obtain ⟨f, h⟩ := h1
  exact ⟨f + 1, by rw [exprF, h]⟩
theorem Args.stop {p : Pre} {pos : Int} {last : Bool} (h : last = true ∨ beginsL l (tokL t i) = false) : Args l t d i p pos last (.ok (p, i)) := ⟨1, by rw [argsF, if_pos h]⟩
theorem Chain.stop {m : Made} (h : opOf l (tokL t i) = none) : Chain l t least d i m (.ok (m, i)) := ⟨1, by rw [chainF, h]⟩
theorem Atom.name (hb : beginsL l (tokL t i) = true) (hk : (tokL t i).kind = 1) (hn : (tokL t (i + 1)).kind ≠ 8) : Atom l t d i (.ok (.mk 0 (tokL t i).text 0 [] (tokL t i).pos, i + 1)) := ⟨1, by
  rw [atomF]
  simp only [hb, hk]
  simp [hn]⟩
/-- A bracket. -/
theorem Atom.open_ {m : Made} (hd : d < 200) (hk : (tokL t i).kind = 5) (ho : opOf l (tokL t (i + 1)) = none) (h : Expr l t 0 (d + 1) (i + 1) (.ok (m, j))) (hc : (tokL t j).kind = 6) : Atom l t d i (.ok (m.p, j + 1)) := by
  obtain ⟨f, h⟩ := h
  refine ⟨f + 1, ?_⟩
  have hb : beginsL l (tokL t i) = true := by simp [beginsL, hk]
  rw [atomF]
  simp only [hb, hk, ho, h, hc]
  simp
  omega
/-- An operator of which the last one is done first. -/
theorem Chain.op {o : OpT} {m : Made} {r : Made} {q : Except Bad (Made × Nat)} (hd : d < 200) (ho : opOf l (tokL t i) = some o) (hp : ¬ o.prec < least) (hm : m.by_ = none) (h : Expr l t (nextL o) (d + 1) (i + 1) (.ok (r, j))) (hr : ∀ b pos, r.by_ = some (b, pos) → besideL o b 2 = true)
    (hc : Chain l t least d j ⟨applyL o (tokL t i).pos m.p r.p, some (o, (tokL t i).pos)⟩ q) : Chain l t least d i m q := by
  obtain ⟨f1, h⟩ := h
  obtain ⟨f2, hc⟩ := hc
  refine ⟨max f1 f2 + 1, ?_⟩
  rw [chainF, ho]
  simp only
  rw [if_neg hp, if_neg (by simp [clashL, hm]), if_neg (by omega), (fuel_le (Nat.le_max_left _ _)).2.2.1 _ _ _ _ _ _ h]
  simp only
  have hc' := (fuel_le (Nat.le_max_right f1 _)).2.2.2 _ _ _ _ _ _ _ hc
  cases hb : r.by_ with
  | none => exact hc'
  | some x => obtain ⟨b, pos⟩ := x; simp only; rw [if_pos (hr b pos hb)]; exact hc'
end
end Go.Lamb
namespace Go.Lamb
open Go Go.RowKit

def opK (l : List OpT) (k : Key) : Option OpT := if k.1 = 1 ∨ k.1 = 4 then findL l k.2.1 else none
def bK (l : List OpT) (k : Key) : Bool := if k.1 = 1 ∨ k.1 = 4 then (opK l k).isNone else decide (k.1 = 2 ∨ k.1 = 3 ∨ k.1 = 5)
theorem op_key {l : List OpT} {x : Tok} {k : Key} (h : x.key = k) : opOf l x = opK l k := by subst h; rfl
theorem begins_key {l : List OpT} {x : Tok} {k : Key} (h : x.key = k) : beginsL l x = bK l k := by
  subst h
  unfold beginsL bK
  by_cases h1 : x.kind = 1 ∨ x.kind = 4
  · have h2 : x.key.1 = 1 ∨ x.key.1 = 4 := h1
    rw [if_pos h1, if_pos h2]
    rfl
  · have h2 : ¬ (x.key.1 = 1 ∨ x.key.1 = 4) := h1
    rw [if_neg h1, if_neg h2]
    rfl
theorem lam_no1 {t : List Tok} {i : Nat} (h1 : (tokL t i).kind ≠ 1) (h2 : (tokL t i).kind ≠ 2) : lamAt t i = false := by
  simp [lamAt, h1, h2]
theorem lam_no8 {t : List Tok} {i : Nat} (h : (tokL t (i + 1)).kind ≠ 8) : lamAt t i = false := by
  simp [lamAt, h]
section
variable {l : List OpT} {t : List Tok} {d i j k : Nat} {least : Int}
theorem Chain.less {o : OpT} {m : Made} (ho : opOf l (tokL t i) = some o) (hp : o.prec < least) : Chain l t least d i m (.ok (m, i)) := ⟨1, by
  rw [chainF, ho]
  simp only [if_pos hp]⟩
theorem Chain.opG {o : OpT} {m mb : Made} {r : Except Bad (Made × Nat)} (hd : d < 200) (ho : opOf l (tokL t i) = some o) (hp : ¬ o.prec < least) (hc : clashL o m = false) (h : Expr l t (nextL o) (d + 1) (i + 1) (.ok (mb, j)))
    (hr : ∀ b pos, mb.by_ = some (b, pos) → besideL o b 2 = true) (h2 : Chain l t least d j ⟨applyL o (tokL t i).pos m.p mb.p, some (o, (tokL t i).pos)⟩ r) : Chain l t least d i m r := by
  obtain ⟨f, h⟩ := h
  obtain ⟨g, h2⟩ := h2
  refine ⟨f + g + 1, ?_⟩
  rw [chainF, ho]
  simp only
  rw [if_neg hp, hc, if_neg (by decide), if_neg (by omega), (fuel_le (Nat.le_add_right f g)).2.2.1 _ _ _ _ _ _ h]
  simp only
  have h3 := (fuel_le (Nat.le_add_left g f)).2.2.2 _ _ _ _ _ _ _ h2
  cases hb : mb.by_ with
  | none => exact h3
  | some x =>
    obtain ⟨b, pos⟩ := x
    simp only
    rw [if_pos (hr b pos hb)]
    exact h3
theorem Args.more {p q : Pre} {pos : Int} {r : Except Bad (Pre × Nat)} (hb : beginsL l (tokL t i) = true) (h1 : Atom l t d i (.ok (q, j))) (h2 : Args l t d j (Pre.app p q pos) pos (lamAt t i) r) : Args l t d i p pos false r := by
  obtain ⟨f, h1⟩ := h1
  obtain ⟨g, h2⟩ := h2
  refine ⟨f + g + 1, ?_⟩
  rw [argsF, if_neg (by simp [hb]), (fuel_le (Nat.le_add_right f g)).1 _ _ _ _ _ h1]
  exact (fuel_le (Nat.le_add_left g f)).2.1 _ _ _ _ _ _ _ _ h2
theorem Atom.word (hb : beginsL l (tokL t i) = true) (h5 : (tokL t i).kind ≠ 5) (h3 : (tokL t i).kind ≠ 3) (hn : (tokL t (i + 1)).kind ≠ 8) : Atom l t d i (.ok (.mk (if (tokL t i).kind = 2 then 1 else 0) (tokL t i).text 0 [] (tokL t i).pos, i + 1)) := ⟨1, by
  rw [atomF]
  simp only
  rw [if_neg (by simp [hb]), if_neg h5, if_neg h3, if_neg (by simp [hn])]⟩
theorem Atom.int (hb : beginsL l (tokL t i) = true) (h3 : (tokL t i).kind = 3) : Atom l t d i (.ok (.mk 2 [] (tokL t i).n [] (tokL t i).pos, i + 1)) := ⟨1, by
  rw [atomF]
  simp only
  rw [if_neg (by simp [hb]), if_neg (by omega), if_pos h3]⟩
theorem Atom.opw (hk : (tokL t i).kind = 5) (ho : (opOf l (tokL t (i + 1))).isSome = true) (h6 : (tokL t (i + 2)).kind = 6) : Atom l t d i (.ok (.mk 0 (tokL t (i + 1)).text 0 [] (tokL t (i + 1)).pos, i + 3)) := ⟨1, by
  have hb : beginsL l (tokL t i) = true := by simp [beginsL, hk]
  rw [atomF]
  simp only
  rw [if_neg (by simp [hb]), if_pos hk, if_pos ⟨ho, h6⟩]⟩
theorem Atom.lamG {m : Made} (hd : d < 200) (hb : beginsL l (tokL t i) = true) (hk : (tokL t i).kind = 1 ∨ (tokL t i).kind = 2) (hn : (tokL t (i + 1)).kind = 8) (h : Expr l t 0 (d + 1) (i + 2) (.ok (m, j))) : Atom l t d i (.ok (.mk 4 (tokL t i).text 0 [m.p] (tokL t i).pos, j)) := by
  obtain ⟨f, h⟩ := h
  refine ⟨f + 1, ?_⟩
  rw [atomF]
  simp only
  rw [if_neg (by simp [hb]), if_neg (by omega), if_neg (by omega), if_pos ⟨by omega, hn⟩, if_neg (by omega), h]
end

/-- What is known of operators that were declared. -/
structure OpsOk (l : List OpT) : Prop where
  name : ∀ o ∈ l, isNameB o.name = true ∨ isSymB o.name = true
  prec : ∀ o ∈ l, 1 ≤ o.prec ∧ o.prec ≤ 200
theorem find_mem {l : List OpT} {s : List UInt8} {o : OpT} (h : findL l s = some o) : o ∈ l ∧ o.name = s := ⟨List.mem_of_find?_eq_some h, by
  have := List.find?_some h
  simpa using this⟩
theorem next_eq {l : List OpT} (hl : OpsOk l) {o : OpT} (h : o ∈ l) : nextL o = if o.fix = 2 then o.prec else o.prec + 1 := by
  unfold nextL
  have := hl.prec o h
  rw [wrap_in (by omega) (by omega)]
theorem beside_1 {l : List OpT} (hl : OpsOk l) {o x : OpT} (ho : o ∈ l) (hx : x ∈ l) (h : besideL o x 1 = true) : o.prec ≤ x.prec ∧ o.prec < nextL x := by
  unfold besideL at h
  simp only [decide_eq_true_eq, gt_iff_lt] at h
  rw [next_eq hl hx]
  split <;> omega
theorem beside_2 {l : List OpT} (hl : OpsOk l) {o x : OpT} (ho : o ∈ l) (hx : x ∈ l) (h : besideL o x 2 = true) : nextL o ≤ x.prec ∧ nextL o ≤ nextL x := by
  unfold besideL at h
  simp only [decide_eq_true_eq, gt_iff_lt] at h
  rw [next_eq hl ho, next_eq hl hx]
  split <;> split <;> omega

/-! ### the shape of trees that could have been read -/
theorem valid_kid {l : List OpT} {p q : Pre} (h : validPre l p = true) (hq : q ∈ p.l) : validPre l q = true := by
  rw [validPre_eq, Bool.and_eq_true] at h
  exact List.all_eq_true.1 h.2 q hq
theorem valid_app {l : List OpT} {p : Pre} (h : validPre l p = true) (hk : p.k = 3) : p.name = [] ∧ p.n = 0 ∧ p.l.length = 2 := by
  rw [validPre_eq, Bool.and_eq_true] at h
  have h1 := h.1
  unfold nodeOk at h1
  rw [hk, if_neg (by decide), if_neg (by decide), if_neg (by decide), if_pos rfl] at h1
  simp only [Bool.and_eq_true, beq_iff_eq] at h1
  exact ⟨h1.1.1, h1.1.2, h1.2⟩
theorem valid_lam {l : List OpT} {p : Pre} (h : validPre l p = true) (hk : p.k = 4) : (isNameB p.name = true ∨ isVarB p.name = true) ∧ findL l p.name = none ∧ p.n = 0 ∧ p.l.length = 1 := by
  rw [validPre_eq, Bool.and_eq_true] at h
  have h1 := h.1
  unfold nodeOk at h1
  rw [hk, if_neg (by decide), if_neg (by decide), if_neg (by decide), if_neg (by decide), if_pos rfl] at h1
  simp only [Bool.and_eq_true, beq_iff_eq, Bool.or_eq_true, Bool.not_eq_true'] at h1
  exact ⟨h1.1.1.1, Option.not_isSome_iff_eq_none.1 (by rw [h1.1.1.2]; decide), h1.1.2, h1.2⟩
theorem valid_word {l : List OpT} {p : Pre} (h : validPre l p = true) (h3 : p.k ≠ 3) (h4 : p.k ≠ 4) :
    (p.k = 0 ∧ (isNameB p.name = true ∨ isSymB p.name = true) ∧ p.n = 0 ∧ p.l = []) ∨ (p.k = 1 ∧ isVarB p.name = true ∧ findL l p.name = none ∧ p.n = 0 ∧ p.l = []) ∨ (p.k = 2 ∧ p.name = [] ∧ 0 ≤ p.n ∧ p.l = []) := by
  rw [validPre_eq, Bool.and_eq_true] at h
  have h1 := h.1
  unfold nodeOk at h1
  split at h1
  · rename_i h0
    simp only [Bool.and_eq_true, beq_iff_eq, Bool.or_eq_true] at h1
    exact .inl ⟨h0, h1.1.1, h1.1.2, List.eq_nil_of_length_eq_zero h1.2⟩
  · split at h1
    · rename_i h0
      simp only [Bool.and_eq_true, beq_iff_eq, Bool.not_eq_true'] at h1
      exact .inr (.inl ⟨h0, h1.1.1.1, Option.not_isSome_iff_eq_none.1 (by rw [h1.1.1.2]; decide), h1.1.2, List.eq_nil_of_length_eq_zero h1.2⟩)
    · split at h1
      · rename_i h0
        simp only [Bool.and_eq_true, beq_iff_eq, decide_eq_true_eq] at h1
        exact .inr (.inr ⟨h0, h1.1.1, h1.1.2, List.eq_nil_of_length_eq_zero h1.2⟩)
      · first
          | (cases h1; done)
          | (rw [if_neg h3, if_neg h4] at h1; cases h1)
theorem lam_k {l : List OpT} {p : Pre} (h : validPre l p = true) : lamP p = true ↔ p.k = 4 := by
  constructor
  · intro e; unfold lamP at e; simp only [Bool.and_eq_true, beq_iff_eq] at e; exact e.1
  · intro e; simp [lamP, e, (valid_lam h e).2.2.2]
theorem app_k {l : List OpT} {p : Pre} (h : validPre l p = true) : appP p = true ↔ p.k = 3 := by
  constructor
  · intro e; unfold appP at e; simp only [Bool.and_eq_true, beq_iff_eq] at e; exact e.1
  · intro e; simp [appP, e, (valid_app h e).2.2]

/-- What is read of these tokens, if no operator made the tree and it is no abstraction: as a head with arguments. -/
def HdP (l : List OpT) (p : Pre) (ks : List Key) : Prop := ∀ (t : List Tok) (d i : Nat) (k : Key) (rest : List Key), KAt t i (ks ++ k :: rest) → k.1 ≠ 8 → d + nodesP p ≤ 200 →
  ∃ (p' : Pre) (pos : Int), samePre p p' = true ∧ ∀ r, Args l t d (i + ks.length) p' pos false r → ∃ a j, Atom l t d i (.ok (a, j)) ∧ Args l t d j a a.pos (lamAt t i) r
/-- What is read of these tokens, and a chain behind them. -/
def ExP (l : List OpT) (p : Pre) (ks : List Key) : Prop := ∀ (t : List Tok) (d i : Nat) (least : Int) (k : Key) (rest : List Key), KAt t i (ks ++ k :: rest) → d + nodesP p ≤ 200 → bK l k = false → k.1 ≠ 8 → (lamP p = true → opK l k = none) →
  (∀ o a b, infP l p = some (o, a, b) → least ≤ o.prec ∧ ∀ o', opK l k = some o' → o'.prec < nextL o) →
  ∃ m : Made, samePre p m.p = true ∧ (∀ b pos, m.by_ = some (b, pos) → ∃ x y, infP l p = some (b, x, y)) ∧ ∀ r, Chain l t least d (i + ks.length) m r → Expr l t least d i r
structure RB (l : List OpT) (p : Pre) (ks : List Key) : Prop where
  tx : ∀ r rs, Dl r → LX r rs → LX (showL l p ++ r) (ks ++ rs)
  fst : ∃ k0 ks', ks = k0 :: ks' ∧ bK l k0 = true ∧ opK l k0 = none ∧ k0.1 ≠ 8
  ex : ExP l p ks
  hd : lamP p = false → infP l p = none → HdP l p ks
theorem ex_of_hd {l : List OpT} {p : Pre} {ks : List Key} (h : HdP l p ks) : ExP l p ks := by
  intro t d i least k rest hk hd hb h8 _ _
  obtain ⟨p', pos, h1, h2⟩ := h t d i k rest hk h8 hd
  refine ⟨⟨p', none⟩, h1, fun b pos e => (by cases e), fun r hr => ?_⟩
  obtain ⟨hk1, _, _⟩ := hk.app.cons
  obtain ⟨a, j, h3, h4⟩ := h2 _ (Args.stop (.inr (by rw [begins_key hk1]; exact hb)))
  exact Expr.mk h3 h4 hr

/-! ### brackets -/
theorem bk6 (l : List OpT) : bK l (6, [], 0) = false := by simp [bK]
theorem opk6 (l : List OpT) : opK l (6, [], 0) = none := by simp [opK]
theorem bk0 (l : List OpT) : bK l (0, [], 0) = false := by simp [bK]
theorem opk0 (l : List OpT) : opK l (0, [], 0) = none := by simp [opK]
theorem RB.bracket {l : List OpT} (hl : OpsOk l) {p : Pre} {ks : List Key} (h : RB l p ks) {t : List Tok} {d i : Nat} {rest : List Key} (hk : KAt t i (brK ks true ++ rest)) (hd : d + 1 + nodesP p ≤ 200) :
    ∃ a, samePre p a = true ∧ Atom l t d i (.ok (a, i + (brK ks true).length)) ∧ lamAt t i = false ∧ beginsL l (tokL t i) = true := by
  have e : brK ks true = (5, [], 0) :: (ks ++ [(6, [], 0)]) := rfl
  rw [e] at hk ⊢
  rw [List.cons_append, List.append_assoc] at hk
  obtain ⟨h1, _, h2⟩ := hk.cons
  have h5 : (tokL t i).kind = 5 := (key_kind h1).1
  obtain ⟨m, m1, m2, m3⟩ := h.ex t (d + 1) (i + 1) 0 (6, [], 0) rest h2 (by omega) (bk6 l) (by show (6 : Int) ≠ 8; decide) (fun _ => opk6 l) (fun o a b ho => by
    obtain ⟨_, _, c, _, _, _, _, hf⟩ := infP_some ho
    have := hl.prec o (find_mem hf).1
    exact ⟨by omega, fun o' e => by rw [opk6] at e; cases e⟩)
  obtain ⟨h6, _, _⟩ := (KAt.app h2).cons
  have hx := m3 _ (Chain.stop (by rw [op_key h6]; exact opk6 l))
  obtain ⟨k0, ks', e0, _, e2, _⟩ := h.fst
  have hf : opOf l (tokL t (i + 1)) = none := by
    rw [e0, List.cons_append] at h2
    rw [op_key h2.cons.1]
    exact e2
  have ha := Atom.open_ (show d < 200 by omega) h5 hf hx (key_kind h6).1
  refine ⟨m.p, m1, ?_, lam_no1 (by omega) (by omega), by simp [beginsL, h5]⟩
  rw [List.length_cons, List.length_append, List.length_cons, List.length_nil, show i + (ks.length + (0 + 1) + 1) = i + 1 + ks.length + 1 by omega]
  exact ha
theorem lx_putP {s : List UInt8} {ks : List Key} {b : Bool} (h : ∀ r rs, Dl r → LX r rs → LX (s ++ r) (ks ++ rs)) {r : List UInt8} {rs : List Key} (hr : Dl r) (hx : LX r rs) : LX (putP s b ++ r) (brK ks b ++ rs) := by
  unfold putP brK
  cases b
  · exact h r rs hr hx
  · simp only [if_true, List.cons_append, List.append_assoc, List.nil_append]
    exact lx_open (h _ _ (dl_41 r) (lx_close hx))
end Go.Lamb
namespace Go.Lamb
open Go Go.RowKit

def kindW (s : List UInt8) : Int := if isNameB s then 1 else 4
theorem wd_w {s : List UInt8} (h : isNameB s = true ∨ isSymB s = true) : Wd s (kindW s, s, 0) := by
  unfold kindW
  cases hn : isNameB s
  · rw [hn] at h
    exact wd_sym (h.resolve_left (by decide))
  · exact wd_name hn
theorem kindW_or (s : List UInt8) : kindW s = 1 ∨ kindW s = 4 := by unfold kindW; split <;> simp
theorem opK_w (l : List OpT) (s : List UInt8) : opK l (kindW s, s, 0) = findL l s := by
  unfold opK
  rw [if_pos (kindW_or s)]
theorem bK_w (l : List OpT) (s : List UInt8) : bK l (kindW s, s, 0) = (findL l s).isNone := by
  unfold bK
  rw [if_pos (kindW_or s), opK_w]
theorem same_leaf {p : Pre} {a : Int} (hl : p.l = []) : samePre p (.mk p.k p.name p.n [] a) = true := by
  rw [samePre_eq, hl]
  simp [Pre.k, Pre.name, Pre.n, Pre.l, zipAll]
/-- Words. -/
theorem back_word {l : List OpT} (hl : OpsOk l) {p : Pre} (hv : validPre l p = true) (hO : OkP p) (h1 : lamP p = false) (h2 : appP p = false) :
    ∃ ks, RB l p ks ∧ (∀ (t : List Tok) (d i : Nat) (k : Key) (rest : List Key), KAt t i (ks ++ k :: rest) → k.1 ≠ 8 → ∃ a, samePre p a = true ∧ Atom l t d i (.ok (a, i + ks.length)) ∧ lamAt t i = false ∧ beginsL l (tokL t i) = true) := by
  have h3 : p.k ≠ 3 := fun e => by rw [(app_k hv).2 e] at h2; cases h2
  have h4 : p.k ≠ 4 := fun e => by rw [(lam_k hv).2 e] at h1; cases h1
  have hi : infP l p = none := by unfold infP; rw [if_neg h3]
  have fin : ∀ ks, (∀ r rs, Dl r → LX r rs → LX (showL l p ++ r) (ks ++ rs)) → (∃ k0 ks', ks = k0 :: ks' ∧ bK l k0 = true ∧ opK l k0 = none ∧ k0.1 ≠ 8) →
      (∀ (t : List Tok) (d i : Nat) (k : Key) (rest : List Key), KAt t i (ks ++ k :: rest) → k.1 ≠ 8 → ∃ a, samePre p a = true ∧ Atom l t d i (.ok (a, i + ks.length)) ∧ lamAt t i = false ∧ beginsL l (tokL t i) = true) →
      ∃ ks, RB l p ks ∧ (∀ (t : List Tok) (d i : Nat) (k : Key) (rest : List Key), KAt t i (ks ++ k :: rest) → k.1 ≠ 8 → ∃ a, samePre p a = true ∧ Atom l t d i (.ok (a, i + ks.length)) ∧ lamAt t i = false ∧ beginsL l (tokL t i) = true) := fun ks q1 q2 q3 => by
    have hH : HdP l p ks := fun t d i k rest hk h8 _ => by
      obtain ⟨a, a1, a2, a3, _⟩ := q3 t d i k rest hk h8
      exact ⟨a, a.pos, a1, fun r hr => ⟨a, _, a2, by rw [a3]; exact hr⟩⟩
    exact ⟨ks, ⟨q1, q2, ex_of_hd hH, fun _ _ => hH⟩, q3⟩
  rw [showL_word h1 h2] at fin
  rcases valid_word hv h3 h4 with ⟨k0, hn, n0, l0⟩ | ⟨k1, hn, hf, n0, l0⟩ | ⟨k2, hn, n0, l0⟩
  · have hw := wd_w hn
    have hs : ∀ a, samePre p (.mk 0 p.name 0 [] a) = true := fun a => by have := same_leaf (a := a) l0; rwa [k0, n0] at this
    cases hf : findL l p.name with
    | none =>
      have ew : wordP l p = p.name := by unfold wordP; rw [if_pos k0, hf]; rfl
      rw [ew] at fin
      refine fin [(kindW p.name, p.name, 0)] (fun r rs hr hx => lx_word hw hr hx) ⟨_, [], rfl, by rw [bK_w, hf]; rfl, by rw [opK_w, hf], by have := kindW_or p.name; show kindW p.name ≠ 8; omega⟩ ?_
      intro t d i k rest hk h8
      obtain ⟨q1, _, q2⟩ := KAt.cons (ks := k :: rest) hk
      obtain ⟨q3, _, _⟩ := q2.cons
      obtain ⟨e1, e2⟩ := key_kind q1
      have hb : beginsL l (tokL t i) = true := by rw [begins_key q1, bK_w, hf]; rfl
      have hn8 : (tokL t (i + 1)).kind ≠ 8 := by rw [(key_kind q3).1]; exact h8
      have hkk := kindW_or p.name
      simp only at e1 e2
      have ha := Atom.word (d := d) hb (by omega) (by omega) hn8
      rw [if_neg (by omega), e2] at ha
      exact ⟨_, hs _, ha, lam_no8 hn8, hb⟩
    | some o =>
      have ew : wordP l p = 40 :: p.name ++ [41] := by unfold wordP; rw [if_pos k0, hf]; rfl
      rw [ew] at fin
      refine fin [(5, [], 0), (kindW p.name, p.name, 0), (6, [], 0)] (fun r rs hr hx => ?_) ⟨_, _, rfl, by simp [bK], by simp [opK], by show (5 : Int) ≠ 8; decide⟩ ?_
      · have e : (40 :: p.name ++ [41]) ++ r = 40 :: (p.name ++ (41 :: r)) := by simp
        rw [e]
        exact lx_open (lx_word hw (dl_41 r) (lx_close hx))
      · intro t d i k rest hk h8
        obtain ⟨q1, _, q2⟩ := KAt.cons (ks := (kindW p.name, p.name, 0) :: (6, [], 0) :: k :: rest) hk
        obtain ⟨q3, _, q4⟩ := q2.cons
        obtain ⟨q5, _, _⟩ := q4.cons
        have hk5 : (tokL t i).kind = 5 := (key_kind q1).1
        have hk6 : (tokL t (i + 2)).kind = 6 := (key_kind q5).1
        have ha := Atom.opw (l := l) (d := d) hk5 (by rw [op_key q3, opK_w, hf]; rfl) hk6
        rw [(key_kind q3).2] at ha
        exact ⟨_, hs _, ha, lam_no1 (by omega) (by omega), by simp [beginsL, hk5]⟩
  · have ew : wordP l p = p.name := by unfold wordP; rw [if_neg (by omega), if_pos k1]
    rw [ew] at fin
    have hs : ∀ a, samePre p (.mk 1 p.name 0 [] a) = true := fun a => by have := same_leaf (a := a) l0; rwa [k1, n0] at this
    refine fin [(2, p.name, 0)] (fun r rs hr hx => lx_word (wd_var hn) hr hx) ⟨_, [], rfl, by simp [bK], by simp [opK], by show (2 : Int) ≠ 8; decide⟩ ?_
    intro t d i k rest hk h8
    obtain ⟨q1, _, q2⟩ := KAt.cons (ks := k :: rest) hk
    obtain ⟨q3, _, _⟩ := q2.cons
    obtain ⟨e1, e2⟩ := key_kind q1
    simp only at e1 e2
    have hb : beginsL l (tokL t i) = true := by rw [begins_key q1]; simp [bK]
    have hn8 : (tokL t (i + 1)).kind ≠ 8 := by rw [(key_kind q3).1]; exact h8
    have ha := Atom.word (d := d) hb (by omega) (by omega) hn8
    rw [if_pos e1, e2] at ha
    exact ⟨_, hs _, ha, lam_no8 hn8, hb⟩
  · have ew : wordP l p = Lib.itoa p.n := by
      unfold wordP; rw [if_neg (by omega), if_neg (by omega), if_pos k2, show max p.n 0 = p.n by omega]
    rw [ew] at fin
    have hs : ∀ a, samePre p (.mk 2 [] p.n [] a) = true := fun a => by have := same_leaf (a := a) l0; rwa [k2, hn] at this
    refine fin [(3, [], p.n)] (fun r rs hr hx => lx_word (wd_int n0 hO.n) hr hx) ⟨_, [], rfl, by simp [bK], by simp [opK], by show (3 : Int) ≠ 8; decide⟩ ?_
    intro t d i k rest hk h8
    obtain ⟨q1, _, q2⟩ := KAt.cons (ks := k :: rest) hk
    have e1 : (tokL t i).kind = 3 := (key_kind q1).1
    have e3 : (tokL t i).n = p.n := by have := congrArg (fun k : Key => k.2.2) q1; exact this
    have hb : beginsL l (tokL t i) = true := by rw [begins_key q1]; simp [bK]
    have ha := Atom.int (d := d) hb e1
    rw [e3] at ha
    exact ⟨_, hs _, ha, lam_no1 (by omega) (by omega), hb⟩
/-- Abstractions. -/
theorem back_lam {l : List OpT} (hl : OpsOk l) {p q : Pre} (hv : validPre l p = true) (h1 : p.k = 4) (h2 : p.l = [q]) {kq : List Key} (hq : RB l q kq) : ∃ ks, RB l p ks := by
  obtain ⟨hn, hf, n0, _⟩ := valid_lam hv h1
  have hlam := (lam_k hv).2 h1
  obtain ⟨kk, hkk, hw⟩ : ∃ kk : Int, (kk = 1 ∨ kk = 2) ∧ Wd p.name (kk, p.name, 0) := by
    rcases hn with hn | hn
    · exact ⟨1, .inl rfl, wd_name hn⟩
    · exact ⟨2, .inr rfl, wd_var hn⟩
  have hbk : bK l (kk, p.name, 0) = true := by
    rcases hkk with rfl | rfl
    · simp [bK, opK, hf]
    · simp [bK]
  have hok : opK l (kk, p.name, 0) = none := by
    rcases hkk with rfl | rfl
    · simp [opK, hf]
    · simp [opK]
  have hnp : nodesP p = 1 + nodesP q := by rw [nodesP_eq, h2, nodesPs, nodesPs]; omega
  refine ⟨(kk, p.name, 0) :: (8, [], 0) :: kq, ⟨fun r rs hr hx => ?_, ⟨_, _, rfl, hbk, hok, by rcases hkk with rfl | rfl <;> (simp only; decide)⟩, ?_, fun e _ => by rw [hlam] at e; cases e⟩⟩
  · rw [showL_lam h1 h2]
    have e : (p.name ++ [92, 32] ++ showL l q) ++ r = p.name ++ (92 :: 32 :: (showL l q ++ r)) := by simp
    rw [e]
    exact lx_word hw (dl_92 _) (lx_lam (hq.tx r rs hr hx))
  · intro t d i least k rest hk hd hb h8 hc _
    have hc := hc hlam
    obtain ⟨q1, _, q2⟩ := KAt.cons (ks := (8, [], 0) :: (kq ++ k :: rest)) hk
    obtain ⟨q3, _, q4⟩ := q2.cons
    obtain ⟨e1, e2⟩ := key_kind q1
    simp only at e1 e2
    have e3 : (tokL t (i + 1)).kind = 8 := (key_kind q3).1
    obtain ⟨m, m1, m2, m3⟩ := hq.ex t (d + 1) (i + 2) 0 k rest q4 (by omega) hb h8 (fun _ => hc) (fun o a b ho => by
      obtain ⟨_, _, c, _, _, _, _, hff⟩ := infP_some ho
      have := hl.prec o (find_mem hff).1
      exact ⟨by omega, fun o' e => by rw [hc] at e; cases e⟩)
    obtain ⟨q5, _, _⟩ := q4.app.cons
    have hx := m3 _ (Chain.stop (by rw [op_key q5]; exact hc))
    have hp := nodesP_eq q
    have ha := Atom.lamG (show d < 200 by omega) (by rw [begins_key q1]; exact hbk) (by omega) e3 hx
    have hla : lamAt t i = true := by simp [lamAt, e3]; omega
    rw [e2] at ha
    refine ⟨⟨.mk 4 p.name 0 [m.p] (tokL t i).pos, none⟩, ?_, fun b pos e => (by cases e), fun r hr => ?_⟩
    · rw [samePre_eq, h2, h1, n0]
      simp [Pre.k, Pre.name, Pre.n, Pre.l, zipAll, m1]
    · refine Expr.mk ha (Args.stop (.inl hla)) ?_
      rw [List.length_cons, List.length_cons, show i + (kq.length + 1 + 1) = i + 2 + kq.length by omega] at hr
      exact hr
/-- Applications. -/
theorem same_app {p f b f' b' : Pre} {pos : Int} (hk : p.k = 3) (hn : p.name = []) (h0 : p.n = 0) (hl : p.l = [f, b]) (h1 : samePre f f' = true) (h2 : samePre b b' = true) : samePre p (Pre.app f' b' pos) = true := by
  rw [samePre_eq, hl, hk, hn, h0]
  simp [Pre.app, Pre.k, Pre.name, Pre.n, Pre.l, zipAll, h1, h2]
theorem back_app {l : List OpT} (hl : OpsOk l) {p f b : Pre} (hv : validPre l p = true) (hi : infP l p = none) (h1 : p.k = 3) (h2 : p.l = [f, b]) {kf kb : List Key} (hf : RB l f kf) (hb : RB l b kb)
    (hw : lamP b = false → appP b = false → ∀ (t : List Tok) (d i : Nat) (k : Key) (rest : List Key), KAt t i (kb ++ k :: rest) → k.1 ≠ 8 → ∃ a, samePre b a = true ∧ Atom l t d i (.ok (a, i + kb.length)) ∧ lamAt t i = false ∧ beginsL l (tokL t i) = true) : ∃ ks, RB l p ks := by
  obtain ⟨hn, n0, _⟩ := valid_app hv h1
  have hnp : nodesP p = 1 + (nodesP f + nodesP b) := by rw [nodesP_eq, h2, nodesPs, nodesPs, nodesPs]; omega
  have hnf := nodesP_eq f
  have hnb := nodesP_eq b
  have hfirst : ∀ kx (br : Bool), (∃ k0 ks', kx = k0 :: ks' ∧ bK l k0 = true ∧ opK l k0 = none ∧ k0.1 ≠ 8) → ∃ k0 ks', brK kx br = k0 :: ks' ∧ bK l k0 = true ∧ opK l k0 = none ∧ k0.1 ≠ 8 := fun kx br h => by
    cases br
    · exact h
    · exact ⟨_, _, rfl, by simp [bK], by simp [opK], by show (5 : Int) ≠ 8; decide⟩
  obtain ⟨fb0, fbs, efb, _, _, ffb8⟩ := hfirst kb (lamP b || appP b) hb.fst
  have hH : HdP l p (brK kf ((infP l f).isSome || lamP f) ++ brK kb (lamP b || appP b)) := by
    intro t d i k rest hk h8 hd
    rw [List.append_assoc] at hk
    -- the argument
    have hk2 := hk.app
    obtain ⟨a, a1, a2, a3, a4⟩ : ∃ a, samePre b a = true ∧ Atom l t d (i + (brK kf ((infP l f).isSome || lamP f)).length) (.ok (a, i + (brK kf ((infP l f).isSome || lamP f)).length + (brK kb (lamP b || appP b)).length)) ∧ lamAt t (i + (brK kf ((infP l f).isSome || lamP f)).length) = false ∧ beginsL l (tokL t (i + (brK kf ((infP l f).isSome || lamP f)).length)) = true := by
      cases hbb : (lamP b || appP b)
      · rw [hbb] at hk2
        rw [Bool.or_eq_false_iff] at hbb
        exact hw hbb.1 hbb.2 t d _ k rest hk2 h8
      · rw [hbb] at hk2
        exact hb.bracket hl hk2 (by omega)
    -- the head
    rw [efb, List.cons_append] at hk
    obtain ⟨f', pos, f1, f2⟩ : ∃ (f' : Pre) (pos : Int), samePre f f' = true ∧ ∀ r, Args l t d (i + (brK kf ((infP l f).isSome || lamP f)).length) f' pos false r → ∃ a j, Atom l t d i (.ok (a, j)) ∧ Args l t d j a a.pos (lamAt t i) r := by
      cases hff : ((infP l f).isSome || lamP f)
      · rw [hff] at hk
        rw [Bool.or_eq_false_iff] at hff
        have hi2 : infP l f = none := Option.not_isSome_iff_eq_none.1 (by rw [hff.1]; decide)
        exact hf.hd hff.2 hi2 t d i _ _ hk ffb8 (by omega)
      · rw [hff] at hk
        obtain ⟨x, x1, x2, x3, _⟩ := hf.bracket hl (d := d) hk (by omega)
        exact ⟨x, x.pos, x1, fun r hr => ⟨x, _, x2, by rw [x3]; exact hr⟩⟩
    refine ⟨Pre.app f' a pos, pos, same_app h1 hn n0 h2 f1 a1, fun r hr => f2 r (Args.more a4 a2 ?_)⟩
    rw [a3]
    rw [List.length_append, ← Nat.add_assoc] at hr
    exact hr
  have hnl : lamP p = false := by simp [lamP, h1]
  refine ⟨_, ⟨fun r rs hr hx => ?_, ?_, ex_of_hd hH, fun _ _ => hH⟩⟩
  · rw [showL_app hi h1 h2, List.append_assoc, List.append_assoc, List.cons_append]
    exact lx_putP hf.tx (dl_32 _) (lx_blank (lx_putP hb.tx hr hx))
  · obtain ⟨k0, ks', e, h⟩ := hfirst kf ((infP l f).isSome || lamP f) hf.fst
    exact ⟨k0, ks' ++ brK kb (lamP b || appP b), by rw [e]; rfl, h⟩
end Go.Lamb
namespace Go.Lamb
open Go Go.RowKit

/-- To one side of an operator. -/
theorem back_side {l : List OpT} (hl : OpsOk l) {a : Pre} {ka : List Key} (ha : RB l a ka) (br : Bool) {t : List Tok} {d i : Nat} {least : Int} {k : Key} {rest : List Key} (hk : KAt t i (brK ka br ++ k :: rest)) (hd : d + 1 + nodesP a ≤ 200) (hb : bK l k = false) (h8 : k.1 ≠ 8)
    (hlm : br = false → lamP a = false) (hin : br = false → ∀ x y z, infP l a = some (x, y, z) → least ≤ x.prec ∧ ∀ o', opK l k = some o' → o'.prec < nextL x) :
    ∃ m : Made, samePre a m.p = true ∧ (∀ b pos, m.by_ = some (b, pos) → br = false ∧ ∃ x y, infP l a = some (b, x, y)) ∧ ∀ r, Chain l t least d (i + (brK ka br).length) m r → Expr l t least d i r := by
  cases br
  · obtain ⟨m, m1, m2, m3⟩ := ha.ex t d i least k rest hk (by omega) hb h8 (fun e => by rw [hlm rfl] at e; cases e) (hin rfl)
    exact ⟨m, m1, fun b pos e => ⟨rfl, m2 b pos e⟩, m3⟩
  · obtain ⟨x, x1, x2, x3, _⟩ := ha.bracket hl hk hd
    obtain ⟨q, _, _⟩ := hk.app.cons
    exact ⟨⟨x, none⟩, x1, fun b pos e => (by cases e), fun r hr => Expr.mk x2 (Args.stop (.inr (by rw [begins_key q]; exact hb))) hr⟩
theorem sideB_no {l : List OpT} {o : OpT} {fix : Int} {a : Pre} (h : sideB l o fix a = false) : lamP a = false ∧ ∀ x y z, infP l a = some (x, y, z) → besideL o x fix = true := by
  unfold sideB at h
  rw [Bool.or_eq_false_iff] at h
  refine ⟨h.1, fun x y z e => ?_⟩
  have h2 := h.2
  rw [e] at h2
  simpa using h2
theorem back_inf {l : List OpT} (hl : OpsOk l) {p a b : Pre} {o : OpT} (hv : validPre l p = true) (hi : infP l p = some (o, a, b)) {ka kb : List Key} (ha : RB l a ka) (hb : RB l b kb) : ∃ ks, RB l p ks := by
  obtain ⟨h1, f, c, h2, h3, h4, h5, h6⟩ := infP_some hi
  obtain ⟨hom, hon⟩ := find_mem h6
  obtain ⟨hn, n0, _⟩ := valid_app hv h1
  have hvf := valid_kid hv (show f ∈ p.l by rw [h2]; simp)
  obtain ⟨hfn, hf0, _⟩ := valid_app hvf h3
  have hvc := valid_kid hvf (show c ∈ f.l by rw [h4]; simp)
  have hc := (valid_word hvc (by omega) (by omega))
  have hcc : c.n = 0 ∧ c.l = [] := by
    rcases hc with ⟨_, _, e1, e2⟩ | ⟨e, _⟩ | ⟨e, _⟩
    · exact ⟨e1, e2⟩
    · omega
    · omega
  have hnp : nodesP p = 1 + (1 + (nodesP c + nodesP a) + nodesP b) := by
    rw [nodesP_eq, h2, nodesPs, nodesPs, nodesPs, nodesP_eq f, h4, nodesPs, nodesPs, nodesPs]; omega
  have hna := nodesP_eq a
  have hnb := nodesP_eq b
  have hnc := nodesP_eq c
  have hop := hl.prec o hom
  have hfo : findL l o.name = some o := by rw [hon]; exact h6
  have hok : opK l (kindW o.name, o.name, 0) = some o := by rw [opK_w, hfo]
  have hbo : bK l (kindW o.name, o.name, 0) = false := by rw [bK_w, hfo]; rfl
  have ho8 : (kindW o.name, o.name, (0 : Int)).1 ≠ 8 := by have := kindW_or o.name; show kindW o.name ≠ 8; omega
  have hw := wd_w (hl.name o hom)
  have hla : lamP p = false := by simp [lamP, h1]
  have hfirst : ∃ k0 ks', brK ka (sideB l o 1 a) = k0 :: ks' ∧ bK l k0 = true ∧ opK l k0 = none ∧ k0.1 ≠ 8 := by
    cases sideB l o 1 a
    · exact ha.fst
    · exact ⟨_, _, rfl, by simp [bK], by simp [opK], by show (5 : Int) ≠ 8; decide⟩
  refine ⟨brK ka (sideB l o 1 a) ++ (kindW o.name, o.name, 0) :: brK kb (sideB l o 2 b), ⟨fun r rs hr hx => ?_, ?_, ?_, fun _ e => by rw [hi] at e; cases e⟩⟩
  · rw [showL_inf hi]
    have e : (putP (showL l a) (sideB l o 1 a) ++ (32 :: o.name ++ [32]) ++ putP (showL l b) (sideB l o 2 b)) ++ r = putP (showL l a) (sideB l o 1 a) ++ 32 :: (o.name ++ (32 :: (putP (showL l b) (sideB l o 2 b) ++ r))) := by simp
    rw [e, List.append_assoc, List.cons_append]
    exact lx_putP ha.tx (dl_32 _) (lx_blank (lx_word hw (dl_32 _) (lx_blank (lx_putP hb.tx hr hx))))
  · obtain ⟨k0, ks', e, h⟩ := hfirst
    exact ⟨k0, _, by rw [e]; rfl, h⟩
  · intro t d i least k rest hk hd hbk h8 _ hin
    obtain ⟨hle, hst⟩ := hin o a b hi
    rw [List.append_assoc, List.cons_append] at hk
    obtain ⟨q1, _, q2⟩ := hk.app.cons
    obtain ⟨ma, a1, a2, a3⟩ := back_side hl ha (sideB l o 1 a) (least := least) hk (show d + 1 + nodesP a ≤ 200 by omega) hbo ho8 (fun e => (sideB_no e).1) (fun e x y z hx => by
      have hbe := (sideB_no e).2 x y z hx
      obtain ⟨_, _, cx, _, _, _, _, hxf⟩ := infP_some hx
      have hp := beside_1 hl hom (find_mem hxf).1 hbe
      refine ⟨by omega, fun o' ho' => ?_⟩
      rw [hok] at ho'
      injection ho' with ho'
      subst ho'
      exact hp.2)
    obtain ⟨mb, b1, b2, b3⟩ := back_side hl hb (sideB l o 2 b) (d := d + 1) (least := nextL o) q2 (by omega) hbk h8 (fun e => (sideB_no e).1) (fun e x y z hx => by
      have hbe := (sideB_no e).2 x y z hx
      obtain ⟨_, _, cx, _, _, _, _, hxf⟩ := infP_some hx
      have hp := beside_2 hl hom (find_mem hxf).1 hbe
      exact ⟨hp.1, fun o' ho' => by have := hst o' ho'; omega⟩)
    obtain ⟨q3, _, _⟩ := q2.app.cons
    have hB := b3 (.ok (mb, _)) (by
      cases ho' : opK l k with
      | none => exact Chain.stop (by rw [op_key q3]; exact ho')
      | some o' => exact Chain.less (by rw [op_key q3]; exact ho') (hst o' ho'))
    have hclash : clashL o ma = false := by
      unfold clashL
      cases hby : ma.by_ with
      | none => rfl
      | some x =>
        obtain ⟨y, pos⟩ := x
        obtain ⟨e1, x, z, e2⟩ := a2 y pos hby
        simp only [(sideB_no e1).2 _ _ _ e2]
        rfl
    refine ⟨⟨applyL o (tokL t (i + (brK ka (sideB l o 1 a)).length)).pos ma.p mb.p, some (o, (tokL t (i + (brK ka (sideB l o 1 a)).length)).pos)⟩, ?_, fun y pos e => ?_, fun r hr => ?_⟩
    · refine same_app h1 hn n0 h2 (same_app h3 hfn hf0 h4 ?_ a1) b1
      have := same_leaf (a := (tokL t (i + (brK ka (sideB l o 1 a)).length)).pos) hcc.2
      rwa [h5, hcc.1, ← hon] at this
    · injection e with e
      injection e with e _
      subst e
      exact ⟨a, b, hi⟩
    · refine a3 r (Chain.opG (by omega) (by rw [op_key q1]; exact hok) (by omega) hclash hB (fun y pos e => ?_) ?_)
      · obtain ⟨e1, x, z, e2⟩ := b2 y pos e
        exact (sideB_no e1).2 _ _ _ e2
      · rw [List.length_append, List.length_cons, show i + ((brK ka (sideB l o 1 a)).length + ((brK kb (sideB l o 2 b)).length + 1)) = i + (brK ka (sideB l o 1 a)).length + 1 + (brK kb (sideB l o 2 b)).length by omega] at hr
        exact hr
theorem back_tree {l : List OpT} (hl : OpsOk l) (p : Pre) : validPre l p = true → OkP p → ∃ ks, RB l p ks := by
  refine (Pre.ind (P := fun p => (validPre l p = true → OkP p → ∃ ks, RB l p ks) ∧ ∀ q ∈ p.l, validPre l q = true → OkP q → ∃ ks, RB l q ks) (fun p ih => ⟨fun hv hO => ?_, fun q hq => (ih q hq).1⟩) p).1
  cases hi : infP l p with
  | some x =>
    obtain ⟨o, a, b⟩ := x
    obtain ⟨_, f, c, h2, _, h4, _, _⟩ := infP_some hi
    have hf : f ∈ p.l := by rw [h2]; simp
    have hb : b ∈ p.l := by rw [h2]; simp
    have ha : a ∈ f.l := by rw [h4]; simp
    obtain ⟨ka, ra⟩ := (ih f hf).2 a ha (valid_kid (valid_kid hv hf) ha) ((hO.mem hf).mem ha)
    obtain ⟨kb, rb⟩ := (ih b hb).1 (valid_kid hv hb) (hO.mem hb)
    exact back_inf hl hv hi ra rb
  | none =>
    by_cases h1 : lamP p = true
    · have h4 := (lam_k hv).1 h1
      obtain ⟨_, _, _, hlen⟩ := valid_lam hv h4
      obtain ⟨q, hq⟩ := List.length_eq_one_iff.1 hlen
      have hqm : q ∈ p.l := by rw [hq]; simp
      obtain ⟨kq, rq⟩ := (ih q hqm).1 (valid_kid hv hqm) (hO.mem hqm)
      exact back_lam hl hv h4 hq rq
    · have h1 : lamP p = false := by simpa using h1
      by_cases h2 : appP p = true
      · have h3 := (app_k hv).1 h2
        obtain ⟨f, b, hq⟩ : ∃ f b, p.l = [f, b] := by
          have := (valid_app hv h3).2.2
          match p.l, this with
          | [f, b], _ => exact ⟨f, b, rfl⟩
        have hf : f ∈ p.l := by rw [hq]; simp
        have hb : b ∈ p.l := by rw [hq]; simp
        obtain ⟨kf, rf⟩ := (ih f hf).1 (valid_kid hv hf) (hO.mem hf)
        by_cases hbb : lamP b = false ∧ appP b = false
        · obtain ⟨kb, rb, rw⟩ := back_word hl (valid_kid hv hb) (hO.mem hb) hbb.1 hbb.2
          exact back_app hl hv hi h3 hq rf rb (fun _ _ => rw)
        · obtain ⟨kb, rb⟩ := (ih b hb).1 (valid_kid hv hb) (hO.mem hb)
          exact back_app hl hv hi h3 hq rf rb (fun e1 e2 => absurd ⟨e1, e2⟩ hbb)
      · have h2 : appP p = false := by simpa using h2
        obtain ⟨ks, r, _⟩ := back_word hl hv hO h1 h2
        exact ⟨ks, r⟩
/-- WHAT IS WRITTEN OF A TREE IS READ AS IT. -/
theorem tree_back {l : List OpT} (hl : OpsOk l) {p : Pre} (hv : validPre l p = true) (hO : OkP p) (hn : nodesP p ≤ 200) (hlen : (showL l p).length ≤ 65536) :
    (lexL (showL l p)).err = 0 ∧ 0 < (lexL (showL l p)).toks.length ∧ ∃ m : Made, samePre p m.p = true ∧ Expr l (lexL (showL l p)).toks 0 0 0 (.ok (m, (lexL (showL l p)).toks.length - 1)) := by
  obtain ⟨ks, R⟩ := back_tree hl p hv hO
  have h := R.tx [] [(0, [], 0)] dl_nil lx_nil
  rw [List.append_nil] at h
  have hL : (lexL (showL l p)).err = 0 ∧ (lexL (showL l p)).toks.map Tok.key = ks ++ [(0, [], 0)] := by
    unfold lexL
    rw [if_neg (by omega)]
    exact h _
  generalize (lexL (showL l p)).toks = t at hL
  refine ⟨hL.1, by have := congrArg List.length hL.2; simp at this; omega, ?_⟩
  obtain ⟨m, m1, _, m3⟩ := R.ex t 0 0 0 (0, [], 0) [] (KAt.of hL.2) (by omega) (bk0 l) (by show (0 : Int) ≠ 8; decide) (fun _ => opk0 l) (fun o a b ho => by
    obtain ⟨_, _, c, _, _, _, _, hf⟩ := infP_some ho
    have := hl.prec o (find_mem hf).1
    exact ⟨by omega, fun o' e => by rw [opk0] at e; cases e⟩)
  have hlt : t.length = ks.length + 1 := by
    have := congrArg List.length hL.2
    simpa using this
  obtain ⟨q, _, _⟩ := (KAt.of hL.2).app.cons
  have := m3 _ (Chain.stop (by rw [op_key q]; exact opk0 l))
  rw [Nat.zero_add] at this
  exact ⟨m, m1, by rw [hlt, Nat.add_sub_cancel]; exact this⟩
end Go.Lamb
namespace Go.Lamb
open Go Go.RowKit

inductive Typ where
  | mk (k : Int) (name : List UInt8) (n : Int) (l : List Typ)
  deriving Inhabited
def Typ.k : Typ → Int | .mk k _ _ _ => k
def Typ.name : Typ → List UInt8 | .mk _ s _ _ => s
def Typ.n : Typ → Int | .mk _ _ n _ => n
def Typ.l : Typ → List Typ | .mk _ _ _ l => l
theorem tk_mk (k : Int) (s : List UInt8) (n : Int) (l : List Typ) : (Typ.mk k s n l).k = k := rfl
theorem tname_mk (k : Int) (s : List UInt8) (n : Int) (l : List Typ) : (Typ.mk k s n l).name = s := rfl
theorem tn_mk (k : Int) (s : List UInt8) (n : Int) (l : List Typ) : (Typ.mk k s n l).n = n := rfl
theorem tl_mk (k : Int) (s : List UInt8) (n : Int) (l : List Typ) : (Typ.mk k s n l).l = l := rfl
mutual
def Typ.cs : Typ → List C
  | .mk k s n l => [.int .i64 k, .str s, .int .i64 n, .sl (Typ.rows l)]
def Typ.rows : List Typ → List (List C)
  | [] => []
  | p :: l => p.cs :: Typ.rows l
end
theorem Typ.rows_map (l : List Typ) : Typ.rows l = l.map Typ.cs := by
  induction l with
  | nil => rfl
  | cons p l ih => simp [Typ.rows, ih]
def Typ.v (p : Typ) : V := .agg [.c (.int .i64 p.k), .c (.str p.name), .c (.int .i64 p.n), .c (.sl (p.l.map Typ.cs))]
theorem Typ.cs_eq (p : Typ) : p.cs = [.int .i64 p.k, .str p.name, .int .i64 p.n, .sl (p.l.map Typ.cs)] := by
  cases p
  simp [Typ.cs, Typ.k, Typ.name, Typ.n, Typ.l, Typ.rows_map]
def tysC (l : List Typ) : C := .sl (l.map Typ.cs)
def Typ.none : Typ := .mk 0 [] 0 []
def Typ.con (s : List UInt8) : Typ := .mk 0 s 0 []
def Typ.var (n : Int) : Typ := .mk 1 [] n []
def Typ.arr (a b : Typ) : Typ := .mk 2 [] 0 [a, b]
def Typ.put (u a : Typ) : Typ := .mk u.k u.name u.n (u.l ++ [a])
theorem Typ.ind {P : Typ → Prop} (h : ∀ p, (∀ q ∈ p.l, P q) → P p) : ∀ p, P p
  | .mk k s n l => h _ fun q hq => Typ.ind h q
termination_by p => SizeOf.sizeOf p
decreasing_by
  have := List.sizeOf_lt_of_mem hq
  simp only [Typ.l] at this
  simp only [Typ.mk.sizeOf_spec]
  omega
mutual
/-- The same in all fields? -/
def sameTy : Typ → Typ → Bool
  | .mk k s n l, .mk k' s' n' l' => k == k' && s == s' && n == n' && sameTys l l'
def sameTys : List Typ → List Typ → Bool
  | [], [] => true
  | x :: l, y :: r => sameTy x y && sameTys l r
  | _, _ => false
end
mutual
/-- What is left of so many types. -/
def leftT : Typ → Int → Int
  | .mk _ _ _ l, n => leftTs l (n - 1)
def leftTs : List Typ → Int → Int
  | [], n => n
  | p :: l, n => if 0 ≤ n then leftTs l (leftT p n) else n
end
mutual
theorem leftT_le : ∀ (p : Typ) (n : Int), 0 ≤ n → -1 ≤ leftT p n ∧ leftT p n ≤ n - 1
  | .mk _ _ _ l, n, h => by rw [leftT]; exact leftTs_le l (n - 1) (by omega)
theorem leftTs_le : ∀ (l : List Typ) (n : Int), -1 ≤ n → -1 ≤ leftTs l n ∧ leftTs l n ≤ n
  | [], n, h => by rw [leftTs]; omega
  | p :: l, n, h => by
    rw [leftTs]
    split
    · rename_i h0
      have h1 := leftT_le p n h0
      have h2 := leftTs_le l (leftT p n) h1.1
      omega
    · omega
end
/-! ### how types are read -/
abbrev Str := List UInt8
/-- A variable's number, by its name; and the names then. -/
def vnum (vs : List Str) (s : Str) : Nat := (vs.findIdx? (· == s)).getD vs.length
def vadd (vs : List Str) (s : Str) : List Str := if (vs.findIdx? (· == s)).isSome then vs else vs ++ [s]
def tyBegins (x : Tok) : Bool := decide (x.kind = 1) || decide (x.kind = 2) || decide (x.kind = 5)
abbrev TyR := Except Bad (Typ × Nat × List Str)
mutual
def tyAtomF : Nat → List Tok → Nat → Nat → List Str → Option TyR
  | 0, _, _, _, _ => none
  | f + 1, t, depth, i, vs =>
    if (tokL t i).kind = 1 then some (.ok (.con (tokL t i).text, i + 1, vs))
    else if (tokL t i).kind = 2 then some (.ok (.var (vnum vs (tokL t i).text), i + 1, vadd vs (tokL t i).text))
    else if (tokL t i).kind = 5 then
      if 200 ≤ depth then some (.error ⟨31, (tokL t i).pos⟩)
      else match tyTypeF f t (depth + 1) (i + 1) vs with
        | none => none
        | some (.error b) => some (.error b)
        | some (.ok (u, j, ws)) => if (tokL t j).kind = 6 then some (.ok (u, j + 1, ws)) else some (.error ⟨50, (tokL t j).pos⟩)
    else some (.error ⟨50, (tokL t i).pos⟩)
/-- More atoms behind a name. -/
def tyArgsF : Nat → List Tok → Nat → Nat → List Str → Typ → Option TyR
  | 0, _, _, _, _, _ => none
  | f + 1, t, depth, i, vs, u =>
    if tyBegins (tokL t i) = false then some (.ok (u, i, vs))
    else match tyAtomF f t depth i vs with
      | none => none
      | some (.error b) => some (.error b)
      | some (.ok (a, j, ws)) => tyArgsF f t depth j ws (u.put a)
/-- An arrow, and what is behind it; or nothing. -/
def tyTailF : Nat → List Tok → Nat → Nat → List Str → Typ → Option TyR
  | 0, _, _, _, _, _ => none
  | f + 1, t, depth, i, vs, u =>
    if (tokL t i).kind = 4 ∧ (tokL t i).text = [45, 62] then
      if 200 ≤ depth then some (.error ⟨31, (tokL t i).pos⟩)
      else match tyTypeF f t (depth + 1) (i + 1) vs with
        | none => none
        | some (.error b) => some (.error b)
        | some (.ok (y, j, ws)) => some (.ok (.arr u y, j, ws))
    else some (.ok (u, i, vs))
def tyTypeF : Nat → List Tok → Nat → Nat → List Str → Option TyR
  | 0, _, _, _, _ => none
  | f + 1, t, depth, i, vs => match tyAtomF f t depth i vs with
    | none => none
    | some (.error b) => some (.error b)
    | some (.ok (u, j, ws)) => match (if (tokL t i).kind = 1 then tyArgsF f t depth j ws u else some (.ok (u, j, ws))) with
      | none => none
      | some (.error b) => some (.error b)
      | some (.ok (v, k, xs)) => tyTailF f t depth k xs v
end
theorem tyBegins_lt {t : List Tok} {i : Nat} (h : tyBegins (tokL t i) ≠ false) : i < t.length := by
  refine tokL_lt fun e => h ?_
  simp [tyBegins, e]
theorem vadd_len (vs : List Str) (s : Str) : (vadd vs s).length ≤ vs.length + 1 := by
  unfold vadd; split <;> simp
theorem ty_bounds : ∀ (f : Nat),
    (∀ t depth i vs u j ws, tyAtomF f t depth i vs = some (.ok (u, j, ws)) → i < j ∧ j ≤ t.length ∧ ws.length + i ≤ vs.length + j) ∧
    (∀ t depth i vs u v j ws, tyArgsF f t depth i vs u = some (.ok (v, j, ws)) → i ≤ t.length → i ≤ j ∧ j ≤ t.length ∧ ws.length + i ≤ vs.length + j) ∧
    (∀ t depth i vs u v j ws, tyTailF f t depth i vs u = some (.ok (v, j, ws)) → i ≤ t.length → i ≤ j ∧ j ≤ t.length ∧ ws.length + i ≤ vs.length + j) ∧
    (∀ t depth i vs u j ws, tyTypeF f t depth i vs = some (.ok (u, j, ws)) → i < j ∧ j ≤ t.length ∧ ws.length + i ≤ vs.length + j)
  | 0 => ⟨fun _ _ _ _ _ _ _ h => by simp [tyAtomF] at h, fun _ _ _ _ _ _ _ _ h => by simp [tyArgsF] at h, fun _ _ _ _ _ _ _ _ h => by simp [tyTailF] at h, fun _ _ _ _ _ _ _ h => by simp [tyTypeF] at h⟩
  | f + 1 => by
    obtain ⟨h1, h2, h3, h4⟩ := ty_bounds f
    refine ⟨fun t depth i vs u j ws h => ?_, fun t depth i vs u v j ws h hi => ?_, fun t depth i vs u v j ws h hi => ?_, fun t depth i vs u j ws h => ?_⟩
    · rw [tyAtomF] at h
      split at h
      · rename_i hk
        have := tokL_lt (t := t) (i := i) (by rw [hk]; decide)
        injection h with h; injection h with h; injection h with _ h; injection h with h h'
        subst h h'; omega
      · split at h
        · rename_i hk
          have := tokL_lt (t := t) (i := i) (by rw [hk]; decide)
          injection h with h; injection h with h; injection h with _ h; injection h with h h'
          subst h h'
          have := vadd_len vs (tokL t i).text
          omega
        · split at h
          · split at h
            · cases h
            · cases he : tyTypeF f t (depth + 1) (i + 1) vs with
              | none => rw [he] at h; cases h
              | some x =>
                rw [he] at h
                cases x with
                | error b => cases h
                | ok x =>
                  obtain ⟨u', k, xs⟩ := x
                  simp only at h
                  split at h
                  · rename_i hk
                    have := tokL_lt (t := t) (i := k) (by rw [hk]; decide)
                    have := h4 _ _ _ _ _ _ _ he
                    injection h with h; injection h with h; injection h with _ h; injection h with h h'
                    subst h h'; omega
                  · cases h
          · cases h
    · rw [tyArgsF] at h
      split at h
      · injection h with h; injection h with h; injection h with _ h; injection h with h h'
        subst h h'; omega
      · cases he : tyAtomF f t depth i vs with
        | none => rw [he] at h; cases h
        | some x =>
          rw [he] at h
          cases x with
          | error b => cases h
          | ok x =>
            obtain ⟨u', k, xs⟩ := x
            simp only at h
            have a1 := h1 _ _ _ _ _ _ _ he
            have a2 := h2 _ _ _ _ _ _ _ _ h a1.2.1
            omega
    · rw [tyTailF] at h
      split at h
      · split at h
        · cases h
        · cases he : tyTypeF f t (depth + 1) (i + 1) vs with
          | none => rw [he] at h; cases h
          | some x =>
            rw [he] at h
            cases x with
            | error b => cases h
            | ok x =>
              obtain ⟨u', k, xs⟩ := x
              simp only at h
              have := h4 _ _ _ _ _ _ _ he
              injection h with h; injection h with h; injection h with _ h; injection h with h h'
              subst h h'; omega
      · injection h with h; injection h with h; injection h with _ h; injection h with h h'
        subst h h'; omega
    · rw [tyTypeF] at h
      cases he : tyAtomF f t depth i vs with
      | none => rw [he] at h; cases h
      | some x =>
        rw [he] at h
        cases x with
        | error b => cases h
        | ok x =>
          obtain ⟨u', k, xs⟩ := x
          simp only at h
          have a1 := h1 _ _ _ _ _ _ _ he
          by_cases hk1 : (tokL t i).kind = 1
          · rw [if_pos hk1] at h
            cases h2e : tyArgsF f t depth k xs u' with
            | none => rw [h2e] at h; cases h
            | some y =>
              rw [h2e] at h
              cases y with
              | error b => cases h
              | ok y =>
                obtain ⟨v', m, ys⟩ := y
                simp only at h
                have a2 := h2 _ _ _ _ _ _ _ _ h2e a1.2.1
                have a3 := h3 _ _ _ _ _ _ _ _ h a2.2.1
                omega
          · rw [if_neg hk1] at h
            have a3 := h3 _ _ _ _ _ _ _ _ h a1.2.1
            omega
/-- With fuel enough there is an answer. -/
theorem ty_some : ∀ (f : Nat),
    (∀ t depth i vs, 4 * (t.length - i) + 1 ≤ f → ∃ r, tyAtomF f t depth i vs = some r) ∧
    (∀ t depth i vs u, 4 * (t.length - i) + 2 ≤ f → ∃ r, tyArgsF f t depth i vs u = some r) ∧
    (∀ t depth i vs u, 4 * (t.length - i) + 2 ≤ f → ∃ r, tyTailF f t depth i vs u = some r) ∧
    (∀ t depth i vs, 4 * (t.length - i) + 3 ≤ f → ∃ r, tyTypeF f t depth i vs = some r)
  | 0 => ⟨fun _ _ _ _ h => by omega, fun _ _ _ _ _ h => by omega, fun _ _ _ _ _ h => by omega, fun _ _ _ _ h => by omega⟩
  | f + 1 => by
    obtain ⟨h1, h2, h3, h4⟩ := ty_some f
    refine ⟨fun t depth i vs h => ?_, fun t depth i vs u h => ?_, fun t depth i vs u h => ?_, fun t depth i vs h => ?_⟩
    · rw [tyAtomF]
      split
      · exact ⟨_, rfl⟩
      · split
        · exact ⟨_, rfl⟩
        · split
          · rename_i hk
            have := tokL_lt (t := t) (i := i) (by rw [hk]; decide)
            split
            · exact ⟨_, rfl⟩
            · obtain ⟨r, hr⟩ := h4 t (depth + 1) (i + 1) vs (by omega)
              rw [hr]
              cases r with
              | error b => exact ⟨_, rfl⟩
              | ok x =>
                obtain ⟨u, j, ws⟩ := x
                simp only
                split <;> exact ⟨_, rfl⟩
          · exact ⟨_, rfl⟩
    · rw [tyArgsF]
      split
      · exact ⟨_, rfl⟩
      · rename_i hb
        have hlt := tyBegins_lt hb
        obtain ⟨r, hr⟩ := h1 t depth i vs (by omega)
        rw [hr]
        cases r with
        | error b => exact ⟨_, rfl⟩
        | ok x =>
          obtain ⟨u', j, ws⟩ := x
          have := (ty_bounds f).1 _ _ _ _ _ _ _ hr
          exact h2 t depth j ws _ (by omega)
    · rw [tyTailF]
      split
      · rename_i hk
        have := tokL_lt (t := t) (i := i) (by rw [hk.1]; decide)
        split
        · exact ⟨_, rfl⟩
        · obtain ⟨r, hr⟩ := h4 t (depth + 1) (i + 1) vs (by omega)
          rw [hr]
          cases r with
          | error b => exact ⟨_, rfl⟩
          | ok x => exact ⟨_, rfl⟩
      · exact ⟨_, rfl⟩
    · rw [tyTypeF]
      obtain ⟨r, hr⟩ := h1 t depth i vs (by omega)
      rw [hr]
      cases r with
      | error b => exact ⟨_, rfl⟩
      | ok x =>
        obtain ⟨u, j, ws⟩ := x
        have hb := (ty_bounds f).1 _ _ _ _ _ _ _ hr
        simp only
        by_cases hk1 : (tokL t i).kind = 1
        · rw [if_pos hk1]
          obtain ⟨r2, hr2⟩ := h2 t depth j ws u (by omega)
          rw [hr2]
          cases r2 with
          | error b => exact ⟨_, rfl⟩
          | ok y =>
            obtain ⟨v, k, xs⟩ := y
            have hb2 := (ty_bounds f).2.1 _ _ _ _ _ _ _ _ hr2 hb.2.1
            exact h3 t depth k xs v (by omega)
        · rw [if_neg hk1]
          exact h3 t depth j ws u (by omega)
/-- More fuel changes nothing. -/
theorem ty_more : ∀ (f : Nat),
    (∀ t depth i vs r, tyAtomF f t depth i vs = some r → tyAtomF (f + 1) t depth i vs = some r) ∧
    (∀ t depth i vs u r, tyArgsF f t depth i vs u = some r → tyArgsF (f + 1) t depth i vs u = some r) ∧
    (∀ t depth i vs u r, tyTailF f t depth i vs u = some r → tyTailF (f + 1) t depth i vs u = some r) ∧
    (∀ t depth i vs r, tyTypeF f t depth i vs = some r → tyTypeF (f + 1) t depth i vs = some r)
  | 0 => ⟨fun _ _ _ _ _ h => by simp [tyAtomF] at h, fun _ _ _ _ _ _ h => by simp [tyArgsF] at h, fun _ _ _ _ _ _ h => by simp [tyTailF] at h, fun _ _ _ _ _ h => by simp [tyTypeF] at h⟩
  | f + 1 => by
    obtain ⟨h1, h2, h3, h4⟩ := ty_more f
    refine ⟨fun t depth i vs r h => ?_, fun t depth i vs u r h => ?_, fun t depth i vs u r h => ?_, fun t depth i vs r h => ?_⟩
    · rw [tyAtomF] at h ⊢
      split
      · rename_i c; rw [if_pos c] at h; exact h
      · rename_i c; rw [if_neg c] at h
        split
        · rename_i c2; rw [if_pos c2] at h; exact h
        · rename_i c2; rw [if_neg c2] at h
          split
          · rename_i c3; rw [if_pos c3] at h
            split
            · rename_i c4; rw [if_pos c4] at h; exact h
            · rename_i c4; rw [if_neg c4] at h
              cases he : tyTypeF f t (depth + 1) (i + 1) vs with
              | none => rw [he] at h; cases h
              | some x => rw [he] at h; rw [h4 _ _ _ _ _ he]; exact h
          · rename_i c3; rw [if_neg c3] at h; exact h
    · rw [tyArgsF] at h ⊢
      split
      · rename_i c; rw [if_pos c] at h; exact h
      · rename_i c; rw [if_neg c] at h
        cases he : tyAtomF f t depth i vs with
        | none => rw [he] at h; cases h
        | some x =>
          rw [he] at h; rw [h1 _ _ _ _ _ he]
          cases x with
          | error b => exact h
          | ok x => exact h2 _ _ _ _ _ _ h
    · rw [tyTailF] at h ⊢
      split
      · rename_i c; rw [if_pos c] at h
        split
        · rename_i c4; rw [if_pos c4] at h; exact h
        · rename_i c4; rw [if_neg c4] at h
          cases he : tyTypeF f t (depth + 1) (i + 1) vs with
          | none => rw [he] at h; cases h
          | some x => rw [he] at h; rw [h4 _ _ _ _ _ he]; exact h
      · rename_i c; rw [if_neg c] at h; exact h
    · rw [tyTypeF] at h ⊢
      cases he : tyAtomF f t depth i vs with
      | none => rw [he] at h; cases h
      | some x =>
        rw [he] at h; rw [h1 _ _ _ _ _ he]
        cases x with
        | error b => exact h
        | ok x =>
          obtain ⟨u, j, ws⟩ := x
          simp only at h ⊢
          by_cases c : (tokL t i).kind = 1
          · rw [if_pos c] at h ⊢
            cases hg : tyArgsF f t depth j ws u with
            | none => rw [hg] at h; cases h
            | some y =>
              rw [hg] at h; rw [h2 _ _ _ _ _ _ hg]
              cases y with
              | error b => exact h
              | ok y => exact h3 _ _ _ _ _ _ h
          · rw [if_neg c] at h ⊢
            exact h3 _ _ _ _ _ _ h
theorem ty_le {f g : Nat} (h : f ≤ g) {t : List Tok} {depth i : Nat} {vs : List Str} {r : TyR} (hf : tyTypeF f t depth i vs = some r) : tyTypeF g t depth i vs = some r := by
  induction h with
  | refl => exact hf
  | step _ ih => exact (ty_more _).2.2.2 _ _ _ _ _ ih
/-- A type is read so. -/
def TyRead (t : List Tok) (i : Nat) (r : TyR) : Prop := ∃ f, tyTypeF f t 0 i [] = some r
theorem TyRead.some (t : List Tok) (i : Nat) : ∃ r, TyRead t i r := by
  obtain ⟨r, hr⟩ := (ty_some (4 * (t.length - i) + 3)).2.2.2 t 0 i [] (Nat.le_refl _)
  exact ⟨r, _, hr⟩
theorem TyRead.one {t : List Tok} {i : Nat} {r r' : TyR} (h : TyRead t i r) (k : TyRead t i r') : r = r' := by
  obtain ⟨f, hf⟩ := h
  obtain ⟨g, hg⟩ := k
  have a := ty_le (Nat.le_max_left f g) hf
  have b := ty_le (Nat.le_max_right f g) hg
  exact Option.some.inj (a.symm.trans b)
end Go.Lamb
namespace Go.Lamb
open Go Go.RowKit

def strsC (l : List Str) : C := .sl (l.map fun s => [C.str s])
structure Sent where
  k : Int
  names : List Str
  n : Int
  ty : Typ
  op : OpT
  body : Pre
  pos : Int
def Sent.none : Sent := ⟨0, [], 0, .none, .zero, .none, 0⟩
def Sent.v (s : Sent) : V := .agg [I s.k, .c (strsC s.names), I s.n, I s.ty.k, S s.ty.name, I s.ty.n, .c (tysC s.ty.l), S s.op.name, I s.op.prec, I s.op.fix, I s.body.k, S s.body.name, I s.body.n, .c (.sl (s.body.l.map Pre.cs)), I s.body.pos, I s.pos]
def Sent.cs (s : Sent) : List C := [.int .i64 s.k, strsC s.names, .int .i64 s.n, .int .i64 s.ty.k, .str s.ty.name, .int .i64 s.ty.n, tysC s.ty.l, .str s.op.name, .int .i64 s.op.prec, .int .i64 s.op.fix, .int .i64 s.body.k, .str s.body.name, .int .i64 s.body.n, .sl (s.body.l.map Pre.cs), .int .i64 s.body.pos, .int .i64 s.pos]
/-! ### what is read, without fuel -/
/-- What is wrong with an operator; 0: nothing. -/
def reservedL (s : Str) : Bool := s == [33] || s == [45, 62] || s == [107, 105, 110, 100] || s == [116, 121, 112, 101] || s == [105, 110, 102, 105, 120] || s == [105, 110, 102, 105, 120, 108] || s == [105, 110, 102, 105, 120, 114]
def wrongL (l : List OpT) (o : OpT) : Int :=
  if o.fix < 0 ∨ 2 < o.fix then 1
  else if (isNameB o.name = false ∧ isSymB o.name = false) ∨ reservedL o.name = true then 20
  else if o.prec < 1 ∨ 200 < o.prec then 21
  else if (findL l o.name).isSome = true then 22
  else if 64 ≤ l.length then 23
  else 0
abbrev SoR := Except Bad (Sent × Nat × List OpT)
end Go.Lamb
namespace Go.Lamb
open Go Go.RowKit

end Go.Lamb
namespace Go.Lamb
open Go Go.RowKit

mutual
def Pre.shift (K : Nat) : Pre → Pre
  | .mk k s n l a => .mk k s n (Pre.shifts K l) (a + K)
def Pre.shifts (K : Nat) : List Pre → List Pre
  | [] => []
  | p :: l => p.shift K :: Pre.shifts K l
end
def Made.shift (K : Nat) (m : Made) : Made := ⟨m.p.shift K, m.by_.map fun x => (x.1, x.2 + K)⟩
section
variable {t t' : List Tok} {K m : Nat}
def Sent.shift (K : Nat) (s : Sent) : Sent := ⟨s.k, s.names, s.n, s.ty, s.op, if s.k = 3 then s.body.shift K else s.body, s.pos + K⟩
end
end Go.Lamb
namespace Go.Lamb
open Go Go.RowKit

section
variable {t t' : List Tok}
end
end Go.Lamb
namespace Go.Lamb
open Go Go.RowKit

end Go.Lamb
namespace Go.Lamb
open Go Go.RowKit

/-- The token at whatever place. -/
def tokI (t : List Tok) (i : Int) : Tok := if 0 ≤ i then tokL t i.toNat else ⟨0, [], 0, lastPos t⟩
structure TyO where
  u : Typ
  j : Int
  ws : List Str
  e : Int
  p : Int
/-- A bracket behind it. -/
def closeO (t : List Tok) (o : TyO) : TyO := ⟨o.u, IntKind.i64.wrap (o.j + 1), o.ws, if o.e = 0 then (if (tokI t o.j).kind = 6 then 0 else 50) else o.e, if o.e = 0 then (if (tokI t o.j).kind = 6 then 0 else (tokI t o.j).pos) else o.p⟩
mutual
def tyAtomG : Nat → List Tok → Nat → Nat → List Str → Option TyO
  | 0, _, _, _, _ => none
  | f + 1, t, depth, i, vs =>
    if (tokL t i).kind = 1 then some ⟨.con (tokL t i).text, (i + 1 : Nat), vs, 0, 0⟩
    else if (tokL t i).kind = 2 then some ⟨.var (vnum vs (tokL t i).text), (i + 1 : Nat), vadd vs (tokL t i).text, 0, 0⟩
    else if (tokL t i).kind = 5 then
      match (if 200 ≤ depth then some ⟨.none, (i + 1 : Nat), vs, 31, (tokL t i).pos⟩ else tyTypeG f t (depth + 1) (i + 1) vs) with
      | none => none
      | some o => some (closeO t o)
    else some ⟨.none, (i : Nat), vs, 50, (tokL t i).pos⟩
def tyArgsG : Nat → List Tok → Nat → TyO → Option TyO
  | 0, _, _, _ => none
  | f + 1, t, depth, o =>
    if o.e = 0 ∧ tyBegins (tokI t o.j) = true then
      match tyAtomG f t depth o.j.toNat o.ws with
      | none => none
      | some a => tyArgsG f t depth ⟨o.u.put a.u, a.j, a.ws, a.e, a.p⟩
    else some o
def tyTailG : Nat → List Tok → Nat → TyO → Option TyO
  | 0, _, _, _ => none
  | f + 1, t, depth, o =>
    if o.e = 0 ∧ (tokI t o.j).kind = 4 ∧ (tokI t o.j).text = [45, 62] then
      match (if 200 ≤ depth then some ⟨.none, IntKind.i64.wrap (o.j + 1), o.ws, 31, (tokI t o.j).pos⟩ else tyTypeG f t (depth + 1) (o.j + 1).toNat o.ws) with
      | none => none
      | some y => some ⟨.arr o.u y.u, y.j, y.ws, y.e, y.p⟩
    else some o
def tyTypeG : Nat → List Tok → Nat → Nat → List Str → Option TyO
  | 0, _, _, _, _ => none
  | f + 1, t, depth, i, vs => match tyAtomG f t depth i vs with
    | none => none
    | some o => match (if (tokL t i).kind = 1 then tyArgsG f t depth o else some o) with
      | none => none
      | some o2 => tyTailG f t depth o2
end
end Go.Lamb
namespace Go.Lamb
open Go Go.RowKit

mutual
def validT : Typ → Bool
  | .mk k s n l => (if k = 0 then isNameB s && n == 0 else if k = 1 then s == [] && decide (0 ≤ n) && decide (n ≤ 4611686018427387904) && l.length == 0 else if k = 2 then s == [] && n == 0 && l.length == 2 else false) && validTs l
def validTs : List Typ → Bool
  | [] => true
  | x :: l => validT x && validTs l
end
/-- Things in front of an arrow, one by one. -/
def arrows (l : List Typ) (u : Typ) : Typ := l.foldr Typ.arr u
mutual
def depthT : Typ → Nat
  | .mk _ _ _ l => depthTs l + 1
def depthTs : List Typ → Nat
  | [] => 0
  | x :: l => max (depthT x) (depthTs l)
end
end Go.Lamb
namespace Go.Lamb
open Go Go.RowKit

mutual
def tyAtomQ : Nat → List Tok → Nat → Nat → List Str → Option TyO
  | 0, _, _, _, _ => none
  | f + 1, t, depth, i, vs =>
    if (tokL t i).kind = 1 then some ⟨.con (tokL t i).text, (i + 1 : Nat), vs, 0, 0⟩
    else if (tokL t i).kind = 2 then some ⟨.var (vnum vs (tokL t i).text), (i + 1 : Nat), vadd vs (tokL t i).text, 0, 0⟩
    else if (tokL t i).kind = 5 then
      if 200 ≤ depth then some ⟨.none, (i + 1 : Nat), vs, 31, (tokL t i).pos⟩
      else match tyTypeQ f t (depth + 1) (i + 1) vs with
        | none => none
        | some o => some (closeO t o)
    else some ⟨.none, (i : Nat), vs, 50, (tokL t i).pos⟩
def tyArgsQ : Nat → List Tok → Nat → TyO → Option TyO
  | 0, _, _, _ => none
  | f + 1, t, depth, o =>
    if o.e = 0 ∧ tyBegins (tokI t o.j) = true then
      match tyAtomQ f t depth o.j.toNat o.ws with
      | none => none
      | some a => tyArgsQ f t depth ⟨o.u.put a.u, a.j, a.ws, a.e, a.p⟩
    else some o
def tyTailQ : Nat → List Tok → Nat → TyO → Option TyO
  | 0, _, _, _ => none
  | f + 1, t, depth, o =>
    if o.e = 0 ∧ (tokI t o.j).kind = 4 ∧ (tokI t o.j).text = [45, 62] then
      if 200 ≤ depth then some ⟨.none, o.j, o.ws, 31, (tokI t o.j).pos⟩
      else match tyTypeQ f t (depth + 1) (o.j + 1).toNat o.ws with
        | none => none
        | some y => some ⟨.arr o.u y.u, y.j, y.ws, y.e, y.p⟩
    else some o
def tyTypeQ : Nat → List Tok → Nat → Nat → List Str → Option TyO
  | 0, _, _, _, _ => none
  | f + 1, t, depth, i, vs => match tyAtomQ f t depth i vs with
    | none => none
    | some o => match (if (tokL t i).kind = 1 then tyArgsQ f t depth o else some o) with
      | none => none
      | some o2 => tyTailQ f t depth o2
end
end Go.Lamb
namespace Go.Lamb
open Go Go.RowKit

section
variable {P : Program} {w0 w : World} {κ : K} {σ : H}
theorem CodeIs.wp {f : FuncId} {n : Nat} {fn : Func} {x : AC} {r : List ResV} (K : CodeIs P f n fn x r) {args : List V} {R : V → H → Prop} (ha : args.length = n) (hW : H.ok σ → (∀ x ∈ args, V.Sz x) → W P w0 σ.length (Fin r σ.length R) [.code x] ⟨argEnv args, σ⟩)
    {vs : List Value} (hrep : Rep w0 κ σ w) (hfit : Fits κ args vs) :
    (fn.body.getD .skip).wp P (bodyPost P fn (fun e w' => ∃ v d σ' κ', e = .returned v ∧ R d σ' ∧ κ.le κ' ∧ Rep w0 κ' σ' w' ∧ RV κ' d v)) { tmps := vs.toArray ++ Array.replicate (fn.ntmps - vs.toArray.size) undef, defers := [] } w := by
  have hn := K.hn
  have hR : Rel w0 κ fn.ntmps κ ⟨argEnv args, σ⟩ { tmps := vs.toArray ++ Array.replicate (fn.ntmps - vs.toArray.size) undef, defers := [] } w :=
    ⟨hrep, argEnv_ok hfit _, by simp [hfit.1]; omega, rfl, Lamb.K.le_refl κ⟩
  have hfin : ∀ s κ' a w, Rel w0 κ fn.ntmps κ' s a w → Fin r σ.length R s → a.defers = [] ∧ ∃ v, (results fn a.tmps).run P w = .ok v w ∧ ∃ v' d σ' κ'', Ending.returned v = .returned v' ∧ R d σ' ∧ κ.le κ'' ∧ Rep w0 κ'' σ' w ∧ RV κ'' d v' := by
    rintro s κ' a w hR' ⟨vs, d, σ', h1, h2, h3, h4, h5, h6, h7⟩
    obtain ⟨v, k1, k2⟩ := results_ok hR' K.hres h1
    have hcut := (hR'.rep.cut σ.length h4 h5).wkH h6
    exact ⟨hR'.defers, v, k1, v, d, σ', κ'.cut σ.length, rfl, h7, Lamb.K.cut_le hR'.le (by rw [hrep.n]; exact Nat.le_refl _), hcut, (k2.wk h2).cut h3⟩
  refine wp_mono (code_sound (n0 := σ.length) hrep.n K.hm (fn.body.getD .skip) x K.htr (hW hrep.ok hfit.sz) hR) ?_
  rintro e a w' ⟨s, κ', hR', hs⟩
  cases e with
  | normal =>
    obtain ⟨t, hl, hq⟩ := W.inv_done hs
    obtain ⟨κ2, hR2⟩ := hl w0 κ fn.ntmps κ' a w' hrep.n hR'
    exact hfin t κ2 a w' hR2 hq
  | ret => exact hfin s κ' a w' hR' hs
  | exit id => obtain ⟨k', hp, _⟩ := hs; cases hp
  | goto l => exact hs.elim
  | panic ch => exact hs.elim
  | outgrown => exact hs.elim
/-- A contract of a function that is called as another leaves. -/
def DCD (P : Program) (w0 : World) (f : FuncId) (args : List V) (σ : H) (R : V → H → Prop) : Prop :=
  ∀ κ w (vs : List Value) (u : FrameMode), Rep w0 κ σ w → Fits κ args vs → CallsD P f vs.toArray u w (fun e u' w' => u' = u ∧ ∃ v d σ' κ', e = .returned v ∧ R d σ' ∧ κ.le κ' ∧ Rep w0 κ' σ' w' ∧ RV κ' d v)
theorem CodeIs.goD {f : FuncId} {n : Nat} {fn : Func} {x : AC} {r : List ResV} (K : CodeIs P f n fn x r) {args : List V} {R : V → H → Prop} (ha : args.length = n) (hW : H.ok σ → (∀ x ∈ args, V.Sz x) → W P w0 σ.length (Fin r σ.length R) [.code x] ⟨argEnv args, σ⟩) : DCD P w0 f args σ R :=
  fun κ w vs u hrep hfit => callsD_of_wp K.hf K.hb (CodeIs.wp K ha hW hrep hfit)
theorem turnNil (h : Rep w0 κ σ w) {b j : Nat} (e size : Nat) {cs : List V} {tg : Option TypeId} {vs : Array Value} {T : TypeId} (hb : σ[b]? = some (.cells cs tg)) (hj : j < cs.length) (hk : w.heap[κ.pos b]? = some (.cells vs T (0, 0))) (hx : vs.getD j undef = .slice none 0 0) :
    ∃ κ', κ.le κ' ∧ Rep w0 κ' ((σ ++ [Blk.spare e size 0]).set b (.cells (cs.set j (.osl σ.length [])) tg)) w ∧ κ'.sv σ.length = .slice none 0 0 ∧ κ'.fr σ.length = some 0 := by
  obtain ⟨hlt, hbe⟩ := List.getElem?_eq_some_iff.1 hb
  have h1 := h.blk b hlt
  rw [hbe] at h1
  have hle : κ.le (κ.own (.slice none 0 0) size) := K.own_le
  have frn : (κ.own (.slice none 0 0) size).fr σ.length = some 0 := by show (if σ.length = κ.n then _ else _) = _; rw [if_pos h.n.symm]
  have svn : (κ.own (.slice none 0 0) size).sv σ.length = .slice none 0 0 := by show (if σ.length = κ.n then _ else _) = _; rw [if_pos h.n.symm]
  have hr2 := h.own e size none
  have hpos : (κ.own (.slice none 0 0) size).pos b = κ.pos b := (hle.cells b (by rw [h.n]; exact hlt) h1.fr).2
  refine ⟨κ.own (.slice none 0 0) size, hle, hr2.turn (b := b) (j := j) (cs := cs) (tg := tg) (y := .osl σ.length []) ((List.getElem?_append_left hlt).trans hb) rfl (fun vs' t' k1' hj' hv' => ?_), svn, frn⟩
  rw [hpos, hk] at k1'
  injection k1' with k1'
  injection k1' with e1 e2
  subst e1
  rw [hx]
  exact .osl (RC.nil _) (by show _ < κ.n + 1; rw [h.n]; exact Nat.lt_succ_self _) frn (Nat.le_refl _) (fun _ => svn.symm) (by simp)
end
end Go.Lamb
namespace Go.Lamb
open Go Go.RowKit
theorem freeze_other (w : World) (g n k : Nat) (h : k ≠ g) : (w.freeze ⟨g, 0, none⟩ n).heap[k]? = w.heap[k]? := by
  unfold World.freeze
  split
  · rfl
  · simp only [Array.getElem?_modify]
    rw [if_neg (Ne.symm h)]
theorem freeze_cell (w : World) (g n k o : Nat) : (w.freeze ⟨g, 0, none⟩ n).cell? ⟨k, o, none⟩ = w.cell? ⟨k, o, none⟩ := by
  by_cases h : k = g
  · subst h
    unfold World.freeze
    split
    · rfl
    · unfold World.cell?
      simp only [Array.getElem?_modify, if_true]
      cases w.heap[k]? with
      | none => rfl
      | some x => cases x <;> rfl
  · exact World.cell?_of_block (w := w) (a := ⟨k, o, none⟩) (freeze_other w g n k h)
/-- The bytes of a slice of one's own are frozen: its block is one's own no more. -/
theorem Rep.gone {w0 w : World} {κ : K} {σ : H} (h : Rep w0 κ σ w) {v g n : Nat} {e : TypeId} {size m : Nat} (hv : σ[v]? = some (.spare e size m)) (hg : heldBy (κ.sv v) = some g) (hown : w0.heap.size ≤ g) : Rep w0 κ (σ.set v .gone) (w.freeze ⟨g, 0, none⟩ n) := by
  obtain ⟨hlt, hv'⟩ := List.getElem?_eq_some_iff.1 hv
  refine ⟨by simpa using h.n, Lib.below_freeze h.ext (p := ⟨g, 0, none⟩) hown n, fun x o u hm => by rw [freeze_cell]; exact h.mem x o u hm, fun x hx => ?_, fun x y hx hy q hne => ?_⟩
  · have hx' : x < σ.length := by simpa using hx
    by_cases hxv : x = v
    · subst hxv
      rw [List.getElem_set_self]
      trivial
    · rw [List.getElem_set_ne (Ne.symm hxv)]
      refine Blk.is_of (h.blk x hx') fun q hq => freeze_other w g n q fun e => ?_
      subst e
      exact h.apart x v hx' hlt _ hxv hq (by rw [hv']; exact hg)
  · have hx' : x < σ.length := by simpa using hx
    have hy' : y < σ.length := by simpa using hy
    by_cases hxv : x = v
    · subst hxv
      rw [List.getElem_set_self]
      intro hq
      cases hq
    · by_cases hyv : y = v
      · subst hyv
        intro _
        rw [List.getElem_set_self]
        intro hq
        cases hq
      · rw [List.getElem_set_ne (Ne.symm hxv), List.getElem_set_ne (Ne.symm hyv)]
        exact h.apart x y hx' hy' q hne
end Go.Lamb
namespace Go.Lamb
open Go Go.RowKit

/-- A token that is right. -/
structure TokGood (x : Tok) : Prop where
  k1 : x.kind = 1 → isNameB x.text = true
  k2 : x.kind = 2 → isVarB x.text = true
  k4 : x.kind = 4 → isSymB x.text = true
  k3 : x.kind = 3 → 0 ≤ x.n ∧ x.n ≤ 9223372036854775807
theorem one_tok {u : List UInt8} (he : (oneL u).err = 0) : ((oneL u).kind = 1 → isNameB (oneL u).text = true) ∧ ((oneL u).kind = 2 → isVarB (oneL u).text = true) ∧ ((oneL u).kind = 4 → isSymB (oneL u).text = true) ∧ ((oneL u).kind = 3 → 0 ≤ (oneL u).n ∧ (oneL u).n ≤ 9223372036854775807) := by
  cases u with
  | nil => simp [oneL]
  | cons c u =>
    simp only [oneL] at he ⊢
    by_cases hm : markN c ≠ 0
    · rw [if_pos hm] at he ⊢
      have : markN c = 5 ∨ markN c = 6 ∨ markN c = 7 ∨ markN c = 8 := by
        unfold markN at hm ⊢
        split
        · simp
        · split
          · simp
          · split
            · simp
            · split
              · simp
              · rename_i h1 h2 h3 h4
                rw [if_neg h1, if_neg h2, if_neg h3, if_neg h4] at hm
                exact absurd rfl hm
      simp only
      refine ⟨fun e => ?_, fun e => ?_, fun e => ?_, fun e => ?_⟩ <;> omega
    · rw [if_neg hm] at he ⊢
      cases hd : digitB c
      · rw [hd] at he
        simp only [Bool.false_eq_true, if_false] at he ⊢
        have word : ∀ (p : UInt8 → Bool) (k : Int) (n : Nat), (wordR k n (c :: u)).err = 0 → wordR k n (c :: u) = ⟨k, (c :: u).take n, 0, n, 0⟩ ∧ n ≤ 32 := fun p k n h => by
          unfold wordR at h ⊢
          split at h
          · simp at h
          · rename_i h2
            rw [if_neg h2]
            exact ⟨rfl, by omega⟩
        cases hs : smallB c
        · rw [hs] at he
          simp only [Bool.false_eq_true, if_false] at he ⊢
          cases hg : greatB c
          · rw [hg] at he
            simp only [Bool.false_eq_true, if_false] at he ⊢
            cases hsg : signB c
            · rw [hsg] at he
              simp only [Bool.false_eq_true, if_false] at he ⊢
              cases hsi : singles.contains c
              · rw [hsi] at he
                simp only [Bool.false_eq_true, if_false] at he
                omega
              · rw [hsi] at he
                simp only [if_true] at he ⊢
                obtain ⟨e1, e2⟩ := word signB 4 1 he
                rw [e1]
                refine ⟨fun e => (by simp at e), fun e => (by simp at e), fun _ => ?_, fun e => (by simp at e)⟩
                simp [isSymB, fitsB, headB]
                exact .inr (by simpa using hsi)
            · rw [hsg] at he
              simp only [if_true] at he ⊢
              obtain ⟨e1, e2⟩ := word signB 4 _ he
              have hr := run_take signB (c :: u)
              have hp := run_pos (l := u) hsg
              have hle := runLen_le signB (c :: u)
              rw [e1]
              refine ⟨fun e => (by simp at e), fun e => (by simp at e), fun _ => ?_, fun e => (by simp at e)⟩
              unfold isSymB fitsB
              rw [hr, List.length_take]
              simp only [Bool.true_or, Bool.and_true, Bool.and_eq_true, decide_eq_true_eq]
              refine ⟨?_, by omega⟩
              intro e
              have := congrArg List.length e
              rw [List.length_take] at this
              simp at this hle
              omega
          · rw [hg] at he
            simp only [if_true] at he ⊢
            obtain ⟨e1, e2⟩ := word insideB 2 _ he
            have hin : insideB c = true := by simp [insideB, hg]
            have hr := run_take insideB (c :: u)
            have hp := run_pos (l := u) hin
            have hle := runLen_le insideB (c :: u)
            rw [e1]
            refine ⟨fun e => (by simp at e), fun _ => ?_, fun e => (by simp at e), fun e => (by simp at e)⟩
            unfold isVarB fitsB
            rw [hr, List.length_take]
            obtain ⟨n, hn⟩ : ∃ n, runLen insideB (c :: u) = n + 1 := ⟨_, (Nat.succ_pred_eq_of_pos hp).symm⟩
            rw [hn] at hle e2 ⊢
            simp only [List.take_succ_cons, headB, hg, Bool.and_true, Bool.and_eq_true, decide_eq_true_eq]
            exact ⟨by simp, by omega⟩
        · rw [hs] at he
          simp only [if_true] at he ⊢
          obtain ⟨e1, e2⟩ := word insideB 1 _ he
          have hin : insideB c = true := by simp [insideB, hs]
          have hr := run_take insideB (c :: u)
          have hp := run_pos (l := u) hin
          have hle := runLen_le insideB (c :: u)
          rw [e1]
          refine ⟨fun _ => ?_, fun e => (by simp at e), fun e => (by simp at e), fun e => (by simp at e)⟩
          unfold isNameB fitsB
          rw [hr, List.length_take]
          obtain ⟨n, hn⟩ : ∃ n, runLen insideB (c :: u) = n + 1 := ⟨_, (Nat.succ_pred_eq_of_pos hp).symm⟩
          rw [hn] at hle e2 ⊢
          simp only [List.take_succ_cons, headB, hs, Bool.and_true, Bool.and_eq_true, decide_eq_true_eq]
          exact ⟨by simp, by omega⟩
      · rw [hd] at he
        simp only [if_true] at he ⊢
        unfold numR at he ⊢
        split at he
        · rename_i h
          rw [if_pos h]
          refine ⟨fun e => (by simp at e), fun e => (by simp at e), fun e => (by simp at e), fun _ => ?_⟩
          simp only
          omega
        · simp at he
theorem lexF_ok (N : Nat) : ∀ (f : Nat) (l : List UInt8), ∀ x ∈ (lexF N f l).toks, TokGood x
  | 0, l, x, h => by cases h
  | f + 1, l, x, h => by
    simp only [lexF] at h
    split at h
    · cases h
    · rename_i he
      have he : (oneL l).err = 0 := by simpa using he
      have hone := one_tok he
      have hx : TokGood (tokAt N l) := ⟨hone.1, hone.2.1, hone.2.2.1, hone.2.2.2⟩
      split at h
      · simp only [List.mem_singleton] at h
        rw [h]; exact hx
      · unfold LexR.cons at h
        split at h
        · rcases List.mem_cons.1 h with rfl | h
          · exact hx
          · exact lexF_ok N f _ x h
        · cases h
theorem lexL_ok (s : List UInt8) : ∀ x ∈ (lexL s).toks, TokGood x := by
  unfold lexL
  split
  · intro x h; cases h
  · exact lexF_ok _ _ _
theorem tokL_ok {t : List Tok} (ht : ∀ x ∈ t, TokGood x) (i : Nat) : TokGood (tokL t i) := by
  unfold tokL
  cases h : t[i]? with
  | none => exact ⟨fun e => (by cases e), fun e => (by cases e), fun e => (by cases e), fun e => (by cases e)⟩
  | some x => exact ht x (List.mem_of_getElem? h)
theorem var_not {l : List OpT} (hl : OpsOk l) {s : List UInt8} (h : isVarB s = true) : findL l s = none := by
  cases e : findL l s with
  | none => rfl
  | some o =>
    obtain ⟨h1, rfl⟩ := find_mem e
    simp only [isVarB, Bool.and_eq_true, fitsB, decide_eq_true_eq] at h
    obtain ⟨⟨⟨h2, h3⟩, h4⟩, h5⟩ := h
    cases hs : o.name with
    | nil => exact absurd hs h2
    | cons c u =>
      rw [hs] at h4
      have h4 : greatB c = true := h4
      obtain ⟨_, _, _, _, q5⟩ := great_not h4
      rcases hl.name o h1 with hn | hn
      · simp only [isNameB, Bool.and_eq_true, fitsB, decide_eq_true_eq] at hn
        rw [hs] at hn
        have : smallB c = true := hn.1.2
        rw [this] at q5; cases q5
      · simp only [isSymB, Bool.and_eq_true, Bool.or_eq_true, fitsB, decide_eq_true_eq] at hn
        rw [hs] at hn
        rcases hn.2 with hn | hn
        · rw [List.all_cons, Bool.and_eq_true] at hn
          have := (sign_not hn.1).2.2.2.2.2
          rw [h4] at this; cases this
        · have := (single_not (c := c) hn.2).2.2.2.2.2.1
          rw [h4] at this; cases this
def VO (l : List OpT) (p : Pre) : Prop := validPre l p = true ∧ OkP p
theorem vo_leaf {l : List OpT} {k : Int} {s : List UInt8} {n a : Int} (h : nodeOk l k s n 0 = true) (hn : n ≤ 9223372036854775807) : VO l (.mk k s n [] a) := by
  refine ⟨?_, .mk hn (fun x hx => by cases hx)⟩
  rw [validPre_eq]
  simpa [Pre.k, Pre.name, Pre.n, Pre.l] using h
theorem vo_app {l : List OpT} {p q : Pre} {a : Int} (hp : VO l p) (hq : VO l q) : VO l (Pre.app p q a) := by
  refine ⟨?_, .mk (by omega) (fun x hx => ?_)⟩
  · rw [validPre_eq]
    simp [Pre.app, Pre.k, Pre.name, Pre.n, Pre.l, nodeOk, hp.1, hq.1]
  · simp only [List.mem_cons, List.not_mem_nil, or_false] at hx
    rcases hx with rfl | rfl
    · exact hp.2
    · exact hq.2
theorem vo_word {l : List OpT} {s : List UInt8} {a : Int} (h : isNameB s = true ∨ isSymB s = true) : VO l (.mk 0 s 0 [] a) := by
  refine vo_leaf ?_ (by omega)
  rcases h with h | h <;> simp [nodeOk, h]
theorem read_valid {l : List OpT} (hl : OpsOk l) {t : List Tok} (ht : ∀ x ∈ t, TokGood x) : ∀ f : Nat,
    (∀ d i p j, atomF f l t d i = some (.ok (p, j)) → VO l p) ∧ (∀ d i p pos last q j, VO l p → argsF f l t d i p pos last = some (.ok (q, j)) → VO l q) ∧
    (∀ least d i m j, exprF f l t least d i = some (.ok (m, j)) → VO l m.p) ∧ (∀ least d i m m' j, VO l m.p → chainF f l t least d i m = some (.ok (m', j)) → VO l m'.p)
  | 0 => ⟨fun _ _ _ _ h => by simp [atomF] at h, fun _ _ _ _ _ _ _ _ h => by simp [argsF] at h, fun _ _ _ _ _ h => by simp [exprF] at h, fun _ _ _ _ _ _ _ h => by simp [chainF] at h⟩
  | f + 1 => by
    obtain ⟨h1, h2, h3, h4⟩ := read_valid hl ht f
    refine ⟨fun d i p j h => ?_, fun d i p pos last q j hp h => ?_, fun least d i m j h => ?_, fun least d i m m' j hm h => ?_⟩
    · rw [atomF] at h
      simp only at h
      have hx := tokL_ok ht i
      have hy := tokL_ok ht (i + 1)
      split at h
      · cases h
      · rename_i hb
        have hb : beginsL l (tokL t i) = true := by simpa using hb
        split at h
        · split at h
          · rename_i hc
            injection h with h
            injection h with h
            injection h with h _
            subst h
            have ho := hc.1
            unfold opOf at ho
            split at ho
            · rename_i hk
              rcases hk with hk | hk
              · exact vo_word (.inl (hy.k1 hk))
              · exact vo_word (.inr (hy.k4 hk))
            · cases ho
          · split at h
            · cases h
            · split at h
              · cases h
              · cases h
              · rename_i m j' he
                split at h
                · injection h with h
                  injection h with h
                  injection h with h _
                  subst h
                  exact h3 _ _ _ _ _ he
                · cases h
        · rename_i h5
          split at h
          · rename_i hk3
            injection h with h
            injection h with h
            injection h with h _
            subst h
            have := hx.k3 hk3
            exact vo_leaf (by simp [nodeOk]; omega) this.2
          · rename_i h3'
            have hkind : (tokL t i).kind = 1 ∨ (tokL t i).kind = 4 ∨ (tokL t i).kind = 2 := by
              unfold beginsL at hb
              split at hb
              · rename_i hk; omega
              · simp only [decide_eq_true_eq] at hb; omega
            split at h
            · rename_i hc
              split at h
              · cases h
              · split at h
                · cases h
                · cases h
                · rename_i m j' he
                  injection h with h
                  injection h with h
                  injection h with h _
                  subst h
                  have hm := h3 _ _ _ _ _ he
                  have hname : (isNameB (tokL t i).text = true ∨ isVarB (tokL t i).text = true) ∧ findL l (tokL t i).text = none := by
                    rcases hkind with hk | hk | hk
                    · refine ⟨.inl (hx.k1 hk), ?_⟩
                      unfold beginsL at hb
                      rw [if_pos (.inl hk)] at hb
                      unfold opOf at hb
                      rw [if_pos (.inl hk)] at hb
                      exact Option.isNone_iff_eq_none.1 hb
                    · exact absurd hk hc.1
                    · exact ⟨.inr (hx.k2 hk), var_not hl (hx.k2 hk)⟩
                  refine ⟨?_, .mk (by omega) (fun x hx => by simp only [List.mem_singleton] at hx; subst hx; exact hm.2)⟩
                  rw [validPre_eq]
                  rcases hname.1 with hn | hn <;> simp [Pre.k, Pre.name, Pre.n, Pre.l, nodeOk, hn, hname.2, hm.1]
            · injection h with h
              injection h with h
              injection h with h _
              subst h
              rcases hkind with hk | hk | hk
              · rw [if_neg (by omega)]
                exact vo_word (.inl (hx.k1 hk))
              · rw [if_neg (by omega)]
                exact vo_word (.inr (hx.k4 hk))
              · rw [if_pos hk]
                exact vo_leaf (by simp [nodeOk, hx.k2 hk, var_not hl (hx.k2 hk)]) (by omega)
    · rw [argsF] at h
      split at h
      · injection h with h
        injection h with h
        injection h with h _
        subst h
        exact hp
      · split at h
        · cases h
        · cases h
        · rename_i x j' he
          exact h2 _ _ _ _ _ _ _ (vo_app hp (h1 _ _ _ _ he)) h
    · rw [exprF] at h
      split at h
      · cases h
      · cases h
      · rename_i p j' he
        split at h
        · cases h
        · cases h
        · rename_i q k hq
          exact h4 _ _ _ ⟨q, none⟩ _ _ (h2 _ _ _ _ _ _ _ (h1 _ _ _ _ he) hq) h
    · rw [chainF] at h
      split at h
      · injection h with h
        injection h with h
        injection h with h _
        subst h
        exact hm
      · rename_i o ho
        have hon : isNameB o.name = true ∨ isSymB o.name = true := by
          unfold opOf at ho
          split at ho
          · exact hl.name o (find_mem ho).1
          · cases ho
        have happ : ∀ (r : Made) (pos : Int), VO l r.p → VO l (applyL o pos m.p r.p) := fun r pos hr => vo_app (vo_app (vo_word hon) hm) hr
        split at h
        · injection h with h
          injection h with h
          injection h with h _
          subst h
          exact hm
        · split at h
          · cases h
          · split at h
            · cases h
            · split at h
              · cases h
              · cases h
              · rename_i r j' he
                have hr := h3 _ _ _ _ _ he
                split at h
                · split at h
                  · exact h4 _ _ _ ⟨applyL o (tokL t i).pos m.p r.p, _⟩ _ _ (happ r _ hr) h
                  · cases h
                · exact h4 _ _ _ ⟨applyL o (tokL t i).pos m.p r.p, _⟩ _ _ (happ r _ hr) h
theorem Expr.valid {l : List OpT} (hl : OpsOk l) {s : List UInt8} {least : Int} {d i j : Nat} {m : Made} (h : Expr l (lexL s).toks least d i (.ok (m, j))) : validPre l m.p = true ∧ OkP m.p := by
  obtain ⟨f, h⟩ := h
  exact (read_valid hl (lexL_ok s) f).2.2.1 _ _ _ _ _ h
theorem fits_len {s : List UInt8} (h : isNameB s = true ∨ isVarB s = true ∨ isSymB s = true) : s.length ≤ 32 := by
  rcases h with h | h | h
  · simp only [isNameB, Bool.and_eq_true, fitsB, decide_eq_true_eq] at h; exact h.1.1.2
  · simp only [isVarB, Bool.and_eq_true, fitsB, decide_eq_true_eq] at h; exact h.1.1.2
  · simp only [isSymB, Bool.and_eq_true, fitsB, decide_eq_true_eq] at h; exact h.1.2
theorem valid_short {l : List OpT} (p : Pre) : validPre l p = true → longP p = false := by
  induction p using Pre.ind with
  | h p ih =>
    intro hv
    have hn : p.name.length ≤ 100 := by
      by_cases h3 : p.k = 3
      · rw [(valid_app hv h3).1]; simp
      · by_cases h4 : p.k = 4
        · have := fits_len (s := p.name) (by rcases (valid_lam hv h4).1 with h | h; exact .inl h; exact .inr (.inl h))
          omega
        · rcases valid_word hv h3 h4 with ⟨_, h, _⟩ | ⟨_, h, _⟩ | ⟨_, h, _⟩
          · have := fits_len (s := p.name) (by rcases h with h | h; exact .inl h; exact .inr (.inr h))
            omega
          · have := fits_len (s := p.name) (.inr (.inl h))
            omega
          · rw [h]; simp
    rw [longP_eq, Bool.or_eq_false_iff, decide_eq_false_iff_not]
    refine ⟨by omega, List.any_eq_false.2 fun q hq => ?_⟩
    rw [ih q hq (valid_kid hv hq)]
    decide
end Go.Lamb

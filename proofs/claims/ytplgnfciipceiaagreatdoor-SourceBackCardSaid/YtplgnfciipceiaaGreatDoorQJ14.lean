/-
  Plain: a sentence's text, what it is lexed as, and what is read of it.
  Plain: what is written of a sentence that was read is read as it.
  Plain: what is written of sentences that were read is read as them.
  Plain: what is read of a sentence alone.
  Plain: what is read further on.
  Plain: what is read of a text, and of more behind it.
  Plain: the document's examples of sentences, reckoned.
  Plain: how types are read, with what is left where something is wrong.
  Plain: how types are read in the document's words, with what is left where something is wrong.
  Plain: contracts of functions that are called as they leave (deferred); a struct with a slice that is nil, laid in a world.
  Plain: bytes that are frozen where a builder kept them.
-/
import Derived.Test.YtplgnfciipceiaaGreatDoorQJ13
import Derived.Test.YtplgnfciipceiaaGreatDoorQLexNl
import Derived.Test.YtplgnfciipceiaaGreatDoorQJ11
import Derived.Test.YtplgnfciipceiaaGreatDoorQJ10
import Derived.Defers
import Derived.Lib.UnsafeStr
set_option linter.unusedSimpArgs false
set_option linter.unusedVariables false
set_option maxHeartbeats 8000000
set_option maxRecDepth 20000
namespace Go.Lamb
open Go Go.RowKit

/-! ### texts -/
def namesW : List Str → Str
  | [] => []
  | [s] => s
  | s :: x :: r => s ++ [32, 44, 32] ++ namesW (x :: r)
theorem namesW_snoc (s : Str) : ∀ l : List Str, namesW (l ++ [s]) = (if l = [] then [] else namesW l ++ [32, 44, 32]) ++ s
  | [] => rfl
  | [x] => by simp [namesW]
  | x :: y :: r => by
    have := namesW_snoc s (y :: r)
    rw [List.cons_append, List.cons_append, namesW, namesW, ← List.cons_append, this]
    simp
def repsW : Nat → Str
  | 0 => []
  | n + 1 => [32, 45, 62, 32, 116, 121, 112, 101] ++ repsW n
theorem repsW_succ : ∀ n, repsW (n + 1) = repsW n ++ [32, 45, 62, 32, 116, 121, 112, 101]
  | 0 => rfl
  | n + 1 => by
    show [32, 45, 62, 32, 116, 121, 112, 101] ++ repsW (n + 1) = ([32, 45, 62, 32, 116, 121, 112, 101] ++ repsW n) ++ [32, 45, 62, 32, 116, 121, 112, 101]
    rw [repsW_succ n, List.append_assoc]
def fixW (fix : Int) : Str := if fix = 1 then [105, 110, 102, 105, 120, 108] else if fix = 2 then [105, 110, 102, 105, 120, 114] else [105, 110, 102, 105, 120]
def writtenS (l : List OpT) (x : Sent) : Str :=
  if x.k = 0 then [107, 105, 110, 100, 32] ++ namesW x.names ++ [32, 116, 121, 112, 101] ++ repsW x.n.toNat ++ [46]
  else if x.k = 1 then [116, 121, 112, 101, 32] ++ namesW x.names ++ [32] ++ textT x.ty ++ [46]
  else if x.k = 2 then fixW x.op.fix ++ [32] ++ namesW x.names ++ [32] ++ Lib.itoa (max x.op.prec 0) ++ [46]
  else showL l x.body ++ [32, 46]

/-! ### their tokens -/
theorem lx_nl {u : Str} {ks : List Key} (h : LX u ks) : LX (10 :: u) ks := fun N => by
  have : skipL false (10 :: u) = skipL false u := by simp [skipL, blanks]
  rw [this]; exact h N
theorem lx_dot {u : Str} {ks : List Key} (h : LX u ks) : LX (46 :: u) ((7, [], 0) :: ks) := lx_one (w := [46]) rfl rfl (by decide) h
def nameK (s : Str) : Key := (kindW s, s, 0)
def namesK : List Str → List Key
  | [] => []
  | [s] => [nameK s]
  | s :: x :: r => nameK s :: (4, [44], 0) :: namesK (x :: r)
def okName (s : Str) : Prop := isNameB s = true ∨ isSymB s = true
theorem lx_names {r : Str} {rs : List Key} (hr : Dl r) (h : LX r rs) : ∀ ns : List Str, ns ≠ [] → (∀ s ∈ ns, okName s) → LX (namesW ns ++ r) (namesK ns ++ rs)
  | [s], _, hn => lx_word (wd_w (hn s (by simp))) hr h
  | s :: x :: l, _, hn => by
    have ih := lx_names hr h (x :: l) (by simp) (fun y hy => hn y (List.mem_cons_of_mem _ hy))
    have e : namesW (s :: x :: l) ++ r = s ++ (32 :: ([44] ++ (32 :: (namesW (x :: l) ++ r)))) := by simp [namesW]
    rw [e]
    have hcomma : Wd [44] (4, [44], 0) := wd_sym (by decide)
    exact lx_word (wd_w (hn s (by simp))) (dl_32 _) (lx_blank (lx_word hcomma (dl_32 _) (lx_blank ih)))
def repsK : Nat → List Key
  | 0 => []
  | n + 1 => (4, [45, 62], 0) :: (1, [116, 121, 112, 101], 0) :: repsK n
theorem wd_type : Wd [116, 121, 112, 101] (1, [116, 121, 112, 101], 0) := wd_name (by decide)
theorem lx_reps {r : Str} {rs : List Key} (hr : Dl r) (h : LX r rs) : ∀ n, LX (repsW n ++ r) (repsK n ++ rs) ∧ Dl (repsW n ++ r)
  | 0 => ⟨h, hr⟩
  | n + 1 => by
    obtain ⟨i1, i2⟩ := lx_reps hr h n
    have e : repsW (n + 1) ++ r = 32 :: ([45, 62] ++ (32 :: ([116, 121, 112, 101] ++ (repsW n ++ r)))) := by simp [repsW]
    rw [e]
    exact ⟨lx_blank (lx_word (wd_sym (by decide)) (dl_32 _) (lx_blank (lx_word wd_type i2 i1))), dl_32 _⟩
theorem dlm_46 (r : Str) : Dlm (46 :: r) := fun c l h => by injection h with h _; subst h; rfl

/-! ### how they are read -/
theorem okName_here {s : Str} {flag : Bool} {x : Tok} (h : x.key = nameK s) (hs : isNameB s = true ∨ (flag = true ∧ isSymB s = true)) : nameHere flag x = true ∧ x.text = s := by
  obtain ⟨e1, e2⟩ := key_kind h
  refine ⟨?_, e2⟩
  unfold nameHere
  rw [e1]
  show (kindW s == 1 || (flag && kindW s == 4)) = true
  unfold kindW
  rcases hs with hs | ⟨hf, _⟩
  · simp [hs]
  · rw [hf]; cases isNameB s <;> simp
theorem names_read {t : List Tok} {flag : Bool} : ∀ (ns : List Str) (i : Nat) (k : Key) (rest : List Key), ns ≠ [] → (∀ s ∈ ns, isNameB s = true ∨ (flag = true ∧ isSymB s = true)) → KAt t i (namesK ns ++ k :: rest) → ¬ (k.1 = 4 ∧ k.2.1 = [44]) →
    ∃ new : List Tok, new.map (·.text) = ns ∧ ∀ acc, namesS t flag i acc = .ok (acc ++ new, i + (namesK ns).length)
  | [s], i, k, rest, _, hn, hk, hc => by
    obtain ⟨q1, _, q2⟩ := KAt.cons (ks := k :: rest) hk
    obtain ⟨q3, _, _⟩ := q2.cons
    obtain ⟨h1, h2⟩ := okName_here q1 (hn s (by simp))
    refine ⟨[tokL t i], by simp [h2], fun acc => ?_⟩
    have hno : commaHere (tokL t (i + 1)) = false := by
      obtain ⟨e1, e2⟩ := key_kind q3
      cases hcc : commaHere (tokL t (i + 1))
      · rfl
      · simp only [commaHere, Bool.and_eq_true, beq_iff_eq] at hcc
        exact absurd ⟨e1 ▸ hcc.1, e2 ▸ hcc.2⟩ hc
    rw [namesS_eq, if_pos h1, hno, if_neg (by decide)]
    rfl
  | s :: x :: r, i, k, rest, _, hn, hk, hc => by
    obtain ⟨q1, _, q2⟩ := KAt.cons (ks := (4, [44], 0) :: (namesK (x :: r) ++ k :: rest)) hk
    obtain ⟨q3, _, q4⟩ := q2.cons
    obtain ⟨h1, h2⟩ := okName_here q1 (hn s (by simp))
    obtain ⟨e1, e2⟩ := key_kind q3
    have hyes : commaHere (tokL t (i + 1)) = true := by simp only [commaHere, e1, e2]; rfl
    obtain ⟨new, n1, n2⟩ := names_read (x :: r) (i + 2) k rest (by simp) (fun y hy => hn y (List.mem_cons_of_mem _ hy)) q4 hc
    refine ⟨tokL t i :: new, by rw [List.map_cons, n1, h2], fun acc => ?_⟩
    rw [namesS_eq, if_pos h1, hyes, if_pos rfl, n2]
    simp only [namesK, List.length_cons, List.append_assoc, List.singleton_append, Except.ok.injEq, Prod.mk.injEq, true_and]
    omega
theorem kinds_read {t : List Tok} : ∀ (n m i : Nat) (k : Key) (rest : List Key), KAt t i ((1, [116, 121, 112, 101], 0) :: repsK n ++ k :: rest) → ¬ (k.1 = 4 ∧ k.2.1 = [45, 62]) → kindS t i m = .ok (m + n, i + 1 + 2 * n)
  | 0, m, i, k, rest, hk, hc => by
    obtain ⟨q1, _, q2⟩ := KAt.cons (ks := k :: rest) hk
    obtain ⟨q3, _, _⟩ := q2.cons
    obtain ⟨e1, e2⟩ := key_kind q1
    have h1 : typeHere (tokL t i) = true := by simp only [typeHere, e1, e2]; rfl
    have hno : arrowHere (tokL t (i + 1)) = false := by
      obtain ⟨e1, e2⟩ := key_kind q3
      cases hcc : arrowHere (tokL t (i + 1))
      · rfl
      · simp only [arrowHere, Bool.and_eq_true, beq_iff_eq] at hcc
        exact absurd ⟨e1 ▸ hcc.1, e2 ▸ hcc.2⟩ hc
    rw [kindS_eq, if_pos h1, hno, if_neg (by decide)]
    rfl
  | n + 1, m, i, k, rest, hk, hc => by
    obtain ⟨q1, _, q2⟩ := KAt.cons (ks := (4, [45, 62], 0) :: ((1, [116, 121, 112, 101], 0) :: repsK n ++ k :: rest)) hk
    obtain ⟨q3, _, q4⟩ := q2.cons
    obtain ⟨e1, e2⟩ := key_kind q1
    obtain ⟨e3, e4⟩ := key_kind q3
    have h1 : typeHere (tokL t i) = true := by simp only [typeHere, e1, e2]; rfl
    have hyes : arrowHere (tokL t (i + 1)) = true := by simp only [arrowHere, e3, e4]; rfl
    rw [kindS_eq, if_pos h1, hyes, if_pos rfl, kinds_read n (m + 1) (i + 2) k rest q4 hc]
    simp only [Except.ok.injEq, Prod.mk.injEq]
    omega

/-! ### what was read -/
theorem names_info {t : List Tok} (ht : ∀ x ∈ t, TokGood x) {s : Bool} : ∀ (n i : Nat) (acc ns : List Tok) (j : Nat), t.length - i ≤ n → namesS t s i acc = .ok (ns, j) →
    ∃ new : List Tok, ns = acc ++ new ∧ new ≠ [] ∧ (∀ x ∈ new, isNameB x.text = true ∨ (s = true ∧ isSymB x.text = true)) ∧ i + 2 * new.length = j + 1
  | n, i, acc, ns, j, hn, h => by
    induction n using Nat.strongRecOn generalizing i acc with
    | ind n ih =>
      rw [namesS_eq] at h
      split at h
      · rename_i h1
        have hi : i < t.length := tokL_lt fun e => by rw [nameHere, e] at h1; simp at h1
        have hx := tokL_ok ht i
        have hgood : isNameB (tokL t i).text = true ∨ (s = true ∧ isSymB (tokL t i).text = true) := by
          simp only [nameHere, Bool.or_eq_true, Bool.and_eq_true, beq_iff_eq] at h1
          rcases h1 with h1 | ⟨h1, h2⟩
          · exact .inl (hx.k1 h1)
          · exact .inr ⟨h1, hx.k4 h2⟩
        split at h
        · rename_i h2
          have hi2 : i + 1 < t.length := tokL_lt fun e => by rw [commaHere, e] at h2; simp at h2
          obtain ⟨new, n1, n2, n3, n4⟩ := ih (t.length - (i + 2)) (by omega) (i + 2) _ (Nat.le_refl _) h
          refine ⟨tokL t i :: new, by rw [n1]; simp, by simp, fun x hx => ?_, by rw [List.length_cons]; omega⟩
          rcases List.mem_cons.1 hx with rfl | hx
          · exact hgood
          · exact n3 x hx
        · injection h with h; injection h with e1 e2
          subst e1 e2
          exact ⟨[tokL t i], rfl, by simp, fun x hx => by simp only [List.mem_singleton] at hx; subst hx; exact hgood, by simp⟩
      · cases h
theorem kinds_info {t : List Tok} : ∀ (n i m r j : Nat), t.length - i ≤ n → kindS t i m = .ok (r, j) → m ≤ r ∧ j = i + 1 + 2 * (r - m)
  | n, i, m, r, j, hn, h => by
    induction n using Nat.strongRecOn generalizing i m with
    | ind n ih =>
      rw [kindS_eq] at h
      split at h
      · rename_i h1
        have hi : i < t.length := tokL_lt fun e => by rw [typeHere, e] at h1; simp at h1
        split at h
        · rename_i h2
          have hi2 : i + 1 < t.length := tokL_lt fun e => by rw [arrowHere, e] at h2; simp at h2
          obtain ⟨a1, a2⟩ := ih (t.length - (i + 2)) (by omega) (i + 2) (m + 1) (Nat.le_refl _) h
          omega
        · injection h with h; injection h with e1 e2
          omega
      · cases h
theorem decl_names {prec fix : Int} : ∀ (ns ns' : List Tok) (l l' : List OpT), ns.map (·.text) = ns'.map (·.text) → declL prec fix l ns = .ok l' → declL prec fix l ns' = .ok l'
  | [], [], l, l', _, h => h
  | x :: ns, y :: ns', l, l', he, h => by
    rw [List.map_cons, List.map_cons] at he
    injection he with e1 e2
    rw [declL] at h ⊢
    rw [← e1]
    split at h
    · rename_i hw
      rw [if_pos hw]
      exact decl_names ns ns' _ l' e2 h
    · cases h
theorem decl_info {prec fix : Int} : ∀ (ns : List Tok) (l l' : List OpT), OpsOk l → declL prec fix l ns = .ok l' → OpsOk l' ∧ l' = l ++ ns.map (fun x => ⟨x.text, prec, fix⟩) ∧ (ns ≠ [] → 1 ≤ prec ∧ prec ≤ 200)
  | [], l, l', hl, h => by
    rw [declL] at h
    injection h with h
    subst h
    exact ⟨hl, by simp, fun e => absurd rfl e⟩
  | x :: ns, l, l', hl, h => by
    rw [declL] at h
    split at h
    · rename_i hw
      unfold wrongL at hw
      split at hw
      · omega
      · split at hw
        · omega
        · rename_i h1
          split at hw
          · omega
          · rename_i h2
            simp only [not_or, not_and, Bool.not_eq_false] at h1
            simp only [not_or] at h2
            have hnm : isNameB x.text = true ∨ isSymB x.text = true := by
              cases hn : isNameB x.text
              · exact .inr (h1.1 hn)
              · exact .inl rfl
            obtain ⟨d1, d2, _⟩ := decl_info ns (l ++ [⟨x.text, prec, fix⟩]) l' ⟨fun o ho => by
              rcases List.mem_append.1 ho with ho | ho
              · exact hl.name o ho
              · simp only [List.mem_singleton] at ho; subst ho; exact hnm, fun o ho => by
              rcases List.mem_append.1 ho with ho | ho
              · exact hl.prec o ho
              · simp only [List.mem_singleton] at ho; subst ho; simp only; omega⟩ h
            exact ⟨d1, by rw [d2]; simp, fun _ => by omega⟩
    · cases h
theorem namesK_len : ∀ ns : List Str, ns ≠ [] → (namesK ns).length + 1 = 2 * ns.length
  | [s], _ => rfl
  | s :: x :: r, _ => by
    have := namesK_len (x :: r) (by simp)
    simp only [namesK, List.length_cons] at this ⊢
    omega
theorem namesW_len : ∀ ns : List Str, (∀ s ∈ ns, s.length ≤ 32) → (namesW ns).length ≤ 35 * ns.length
  | [], _ => by simp [namesW]
  | [s], h => by have := h s (by simp); simp only [namesW, List.length_cons, List.length_nil]; omega
  | s :: x :: r, h => by
    have := namesW_len (x :: r) (fun y hy => h y (List.mem_cons_of_mem _ hy))
    have := h s (by simp)
    simp only [namesW, List.length_append, List.length_cons, List.length_nil] at *
    omega
theorem repsW_len : ∀ n, (repsW n).length = 8 * n
  | 0 => rfl
  | n + 1 => by rw [repsW, List.length_append, repsW_len n]; simp; omega
theorem repsK_len : ∀ n, (repsK n).length = 2 * n
  | 0 => rfl
  | n + 1 => by rw [repsK, List.length_cons, List.length_cons, repsK_len n]; omega
end Go.Lamb
namespace Go.Lamb
open Go Go.RowKit

structure AlikeS (a b : Sent) : Prop where
  k : b.k = a.k
  names : b.names = a.names
  n : b.n = a.n
  op : b.op = a.op
  ty : b.ty = a.ty
  body : samePre a.body b.body = true
structure SB (l : List OpT) (x : Sent) (l' : List OpT) (ks : List Key) : Prop where
  tx : ∀ r rs, LX r rs → LX (writtenS l x ++ r) (ks ++ rs)
  fst : ∃ k0 ks', ks = k0 :: ks' ∧ k0.1 ≠ 0
  rd : ∀ (t : List Tok) (i : Nat) (rest : List Key), KAt t i (ks ++ rest) → ∃ x', sentS t l i = .ok (x', i + ks.length, l') ∧ AlikeS x x'
structure SF (x : Sent) : Prop where
  k : x.k = 0 ∨ x.k = 1 ∨ x.k = 2 ∨ x.k = 3
  n : 0 ≤ x.n ∧ x.n ≤ 1000
  ty : x.k = 1 → validT x.ty = true
  prec : x.k = 2 → 1 ≤ x.op.prec ∧ x.op.prec ≤ 200
  body : OkP x.body
def declK (k : Key) : Prop := k.1 = 1 ∧ (k.2.1 = [107, 105, 110, 100] ∨ k.2.1 = [116, 121, 112, 101] ∨ k.2.1 = [105, 110, 102, 105, 120] ∨ k.2.1 = [105, 110, 102, 105, 120, 108] ∨ k.2.1 = [105, 110, 102, 105, 120, 114])
def afterS (l : List OpT) (x : Sent) : List OpT := if x.k = 2 then l ++ x.names.map (fun s => ⟨s, x.op.prec, x.op.fix⟩) else l
theorem okp_none : OkP Pre.none := .mk (by decide) (fun x hx => by cases hx)
theorem same_none : samePre Pre.none Pre.none = true := by rw [samePre_eq]; rfl
theorem texts_name {s : Bool} {ns : List Tok} (h : ∀ x ∈ ns, isNameB x.text = true ∨ (s = true ∧ isSymB x.text = true)) : ∀ w ∈ ns.map (·.text), isNameB w = true ∨ (s = true ∧ isSymB w = true) := fun w hw => by
  obtain ⟨x, hx, rfl⟩ := List.mem_map.1 hw
  exact h x hx
theorem ok_of {s : Bool} {ws : List Str} (h : ∀ w ∈ ws, isNameB w = true ∨ (s = true ∧ isSymB w = true)) : (∀ w ∈ ws, okName w) ∧ ∀ w ∈ ws, w.length ≤ 32 :=
  ⟨fun w hw => by rcases h w hw with h | h; exact .inl h; exact .inr h.2, fun w hw => fits_len (by rcases h w hw with h | h; exact .inl h; exact .inr (.inr h.2))⟩
theorem endS_is {t : List Tok} {s s' : Sent} {i j : Nat} {l l' : List OpT} (h : endS t s i l = .ok (s', j, l')) : s' = s ∧ j = i + 1 ∧ l = l' := by
  unfold endS at h
  split at h
  · injection h with h; injection h with h1 h; injection h with h2 h3
    exact ⟨h1.symm, h2.symm, h3⟩
  · cases h
theorem endS_go {t : List Tok} {s : Sent} {i : Nat} {l : List OpT} (h : (tokL t i).kind = 7) : endS t s i l = .ok (s, i + 1, l) := by unfold endS; rw [if_pos h]
section
variable {T : List Tok} {l l' : List OpT} {i j : Nat} {pos : Int} {x : Sent}
theorem kind_back (ht : ∀ x ∈ T, TokGood x) (hl : OpsOk l) (hT : T.length ≤ 1000) (h : kindSent T (i + 1) pos l = .ok (x, j, l')) : ∃ ks, SB l x l' ks ∧ SF x ∧ OpsOk l' ∧ l' = afterS l x ∧ (writtenS l x).length + 1 + 45 * i ≤ 45 * j := by
  unfold kindSent at h
  split at h
  · cases h
  · rename_i ns j1 hns
    obtain ⟨new, n1, n2, n3, n4⟩ := names_info ht _ _ _ _ _ (Nat.le_refl _) hns
    rw [List.nil_append] at n1
    subst n1
    split at h
    · cases h
    · rename_i n j2 hk
      obtain ⟨_, k2⟩ := kinds_info _ _ _ _ _ (Nat.le_refl _) hk
      have hfar := kindS_far _ _ _ _ _ (Nat.le_refl _) hk
      obtain ⟨rfl, rfl, rfl⟩ := endS_is h
      have hw := texts_name n3
      obtain ⟨w1, w2⟩ := ok_of hw
      have hne : ns.map (·.text) ≠ [] := by simpa using n2
      have hlenN := namesW_len _ w2
      have hlenK := namesK_len _ hne
      rw [List.length_map] at hlenN hlenK
      have hpos : 0 < ns.length := List.length_pos_iff.2 n2
      have hwr : writtenS l ⟨0, ns.map (·.text), n, .none, .zero, .none, pos⟩ = [107, 105, 110, 100, 32] ++ namesW (ns.map (·.text)) ++ [32, 116, 121, 112, 101] ++ repsW n ++ [46] := by
        unfold writtenS
        rw [if_pos rfl, Int.toNat_natCast]
      refine ⟨(1, [107, 105, 110, 100], 0) :: (namesK (ns.map (·.text)) ++ (1, [116, 121, 112, 101], 0) :: (repsK n ++ [(7, [], 0)])), ⟨fun r rs hx => ?_, ⟨_, _, rfl, by show (1 : Int) ≠ 0; decide⟩, fun t i' rest hk' => ?_⟩, ⟨.inl rfl, ?_, fun e => (by cases e), fun e => (by cases e), okp_none⟩, hl, ?_, ?_⟩
      · rw [hwr]
        have e : ([107, 105, 110, 100, 32] ++ namesW (ns.map (·.text)) ++ [32, 116, 121, 112, 101] ++ repsW n ++ [46]) ++ r = [107, 105, 110, 100] ++ (32 :: (namesW (ns.map (·.text)) ++ (32 :: ([116, 121, 112, 101] ++ (repsW n ++ (46 :: r)))))) := by simp
        rw [e]
        obtain ⟨r1, r2⟩ := lx_reps (dl_46 r) (lx_dot hx) n
        have := lx_word (wd_name (w := [107, 105, 110, 100]) (by decide)) (dl_32 _) (lx_blank (lx_names (dl_32 _) (lx_blank (lx_word wd_type r2 r1)) _ hne w1))
        simpa using this
      · simp only [List.cons_append, List.append_assoc, List.nil_append] at hk'
        obtain ⟨q1, _, q2⟩ := hk'.cons
        obtain ⟨new', m1, m2⟩ := names_read _ (i' + 1) (1, [116, 121, 112, 101], 0) _ hne hw q2 (fun e => by have := e.1; revert this; decide)
        have q3 := q2.app
        have hkr := kinds_read n 0 _ _ _ q3 (fun e => by have := e.1; revert this; decide)
        have q4 := (KAt.cons q3).2.2.app
        have q5 := (key_kind (KAt.cons q4).1).1
        obtain ⟨e1, e2⟩ := key_kind q1
        refine ⟨⟨0, new'.map (·.text), n, .none, .zero, .none, (tokL t i').pos⟩, ?_, ⟨rfl, m1, rfl, rfl, rfl, same_none⟩⟩
        unfold sentS
        simp only
        rw [if_pos ⟨e1, e2⟩]
        unfold kindSent
        rw [m2, List.nil_append]
        simp only
        rw [hkr]
        simp only
        rw [repsK_len] at q5
        have q6 : (tokL t (i' + 1 + (namesK (ns.map (·.text))).length + 1 + 2 * n)).kind = 7 := q5
        rw [endS_go q6]
        simp only [Nat.zero_add, List.length_cons, List.length_append, List.length_nil, repsK_len, Except.ok.injEq, Prod.mk.injEq, true_and, and_true]
        omega
      · exact ⟨by simp only; omega, by simp only; omega⟩
      · rfl
      · rw [hwr]
        simp only [List.length_append, List.length_cons, List.length_nil, repsW_len]
        omega
theorem type_back (ht : ∀ x ∈ T, TokGood x) (hl : OpsOk l) (hT : T.length ≤ 1000) (h : typeSent T (i + 1) pos l = .ok (x, j, l')) : ∃ ks, SB l x l' ks ∧ SF x ∧ OpsOk l' ∧ l' = afterS l x ∧ (writtenS l x).length + 1 + 45 * i ≤ 45 * j := by
  unfold typeSent at h
  split at h
  · cases h
  · rename_i ns j1 hns
    obtain ⟨new, n1, n2, n3, n4⟩ := names_info ht _ _ _ _ _ (Nat.le_refl _) hns
    rw [List.nil_append] at n1
    subst n1
    split at h
    · cases h
    · rename_i u j2 ws hty
      have hfar := tyT_far hty
      have hread := tyT_is T j1
      rw [hty] at hread
      obtain ⟨g1, g2, g3, g4⟩ := TyRead.good ht hread (by omega)
      obtain ⟨rfl, rfl, rfl⟩ := endS_is h
      have hw := texts_name n3
      obtain ⟨w1, w2⟩ := ok_of hw
      have hne : ns.map (·.text) ≠ [] := by simpa using n2
      have hlenN := namesW_len _ w2
      have hlenK := namesK_len _ hne
      have hlenT := text_leaf u g1
      rw [List.length_map] at hlenN hlenK
      have hpos : 0 < ns.length := List.length_pos_iff.2 n2
      have hwr : writtenS l ⟨1, ns.map (·.text), 0, u, .zero, .none, pos⟩ = [116, 121, 112, 101, 32] ++ namesW (ns.map (·.text)) ++ [32] ++ textT u ++ [46] := by
        unfold writtenS
        rw [if_neg (by simp), if_pos rfl]
      -- the first token of a type
      have hfirst : ∃ k0 kt, keysT u = k0 :: kt ∧ ¬ (k0.1 = 4 ∧ k0.2.1 = [44]) := by
        clear hread hty h g2 g3 g4 hlenT hwr
        induction u using Typ.ind with
        | h u ih =>
          by_cases hk : u.k = 1
          · exact ⟨_, [], keys_var hk, fun e => by have := e.1; revert this; simp⟩
          · cases hA : arrowT u
            · exact ⟨_, _, keys_con hk hA, fun e => by have := e.1; revert this; simp⟩
            · obtain ⟨a, b, hab⟩ := arrow_parts hA
              rw [keys_arr hA hab]
              cases arrowT a
              · obtain ⟨k0, kt, e, hno⟩ := ih a (by rw [hab]; simp) (valid_mem g1 (by rw [hab]; simp))
                exact ⟨k0, _, by show keysT a ++ _ = _; rw [e]; rfl, hno⟩
              · exact ⟨(5, [], 0), _, rfl, fun e => by have := e.1; revert this; decide⟩
      obtain ⟨k0, kt, ekt, hno⟩ := hfirst
      refine ⟨(1, [116, 121, 112, 101], 0) :: (namesK (ns.map (·.text)) ++ (keysT u ++ [(7, [], 0)])), ⟨fun r rs hx => ?_, ⟨_, _, rfl, by show (1 : Int) ≠ 0; decide⟩, fun t i' rest hk' => ?_⟩, ⟨.inr (.inl rfl), ⟨by simp, by simp⟩, fun _ => g1, fun e => (by cases e), okp_none⟩, hl, rfl, ?_⟩
      · rw [hwr]
        have e : ([116, 121, 112, 101, 32] ++ namesW (ns.map (·.text)) ++ [32] ++ textT u ++ [46]) ++ r = [116, 121, 112, 101] ++ (32 :: (namesW (ns.map (·.text)) ++ (32 :: (textT u ++ (46 :: r))))) := by simp
        rw [e]
        have := lx_word wd_type (dl_32 _) (lx_blank (lx_names (dl_32 _) (lx_blank (lx_type u g1 _ _ (dlm_46 r) (lx_dot hx))) _ hne w1))
        simpa using this
      · simp only [List.cons_append, List.append_assoc, List.nil_append] at hk'
        obtain ⟨q1, _, q2⟩ := hk'.cons
        obtain ⟨e1, e2⟩ := key_kind q1
        have q2' := q2
        rw [ekt, List.cons_append] at q2'
        obtain ⟨new', m1, m2⟩ := names_read _ (i' + 1) k0 _ hne hw q2' hno
        have q3 := q2.app
        have hB := (back_all u g1).typ t 0 _ [] (7, [], 0) rest (fun m hm => by cases hm) q3 (by omega) ⟨by decide, by decide, by decide⟩ (fun e => by have := e.1; revert this; decide)
        have hnorm : (subS normG [] u).1 = u := g2
        rw [hnorm] at hB
        have htyT : tyT t (i' + 1 + (namesK (ns.map (·.text))).length) = .ok (u, i' + 1 + (namesK (ns.map (·.text))).length + (keysT u).length, (subS normG [] u).2.map varL) := by
          obtain ⟨f, hf⟩ := hB
          exact tyT_eq ⟨f, hf⟩
        have q5 := (key_kind (KAt.cons q3.app).1).1
        refine ⟨⟨1, new'.map (·.text), 0, u, .zero, .none, (tokL t i').pos⟩, ?_, ⟨rfl, m1, rfl, rfl, rfl, same_none⟩⟩
        unfold sentS
        simp only
        rw [if_neg (fun h => by rw [e2] at h; exact absurd h.2 (by decide)), if_pos ⟨e1, e2⟩]
        unfold typeSent
        rw [m2, List.nil_append]
        simp only
        rw [htyT]
        simp only
        have q6 : (tokL t (i' + 1 + (namesK (ns.map (·.text))).length + (keysT u).length)).kind = 7 := q5
        rw [endS_go q6]
        simp only [List.length_cons, List.length_append, List.length_nil, Except.ok.injEq, Prod.mk.injEq, true_and, and_true]
        omega
      · rw [hwr]
        simp only [List.length_append, List.length_cons, List.length_nil]
        omega
theorem fixW_is {fix : Int} (h : fix = 0 ∨ fix = 1 ∨ fix = 2) : isNameB (fixW fix) = true ∧ (fixW fix).length ≤ 6 := by
  rcases h with rfl | rfl | rfl <;> decide
theorem op_back {fix : Int} (hfix : fix = 0 ∨ fix = 1 ∨ fix = 2) (ht : ∀ x ∈ T, TokGood x) (hl : OpsOk l) (hT : T.length ≤ 1000) (h : opSent T (i + 1) pos fix l = .ok (x, j, l')) : ∃ ks, SB l x l' ks ∧ SF x ∧ OpsOk l' ∧ l' = afterS l x ∧ (writtenS l x).length + 1 + 45 * i ≤ 45 * j := by
  unfold opSent at h
  split at h
  · cases h
  · rename_i ns j1 hns
    obtain ⟨new, n1, n2, n3, n4⟩ := names_info ht _ _ _ _ _ (Nat.le_refl _) hns
    rw [List.nil_append] at n1
    subst n1
    split at h
    · rename_i hk3
      split at h
      · split at h
        · cases h
        · rename_i l2 hd
          injection h with h; injection h with h1 h; injection h with h2 h3
          subst h1 h2 h3
          obtain ⟨d1, d2, d3⟩ := decl_info ns l l2 hl hd
          have hprec := d3 n2
          generalize (tokL T j1).n = prec at *
          have hw := texts_name n3
          obtain ⟨w1, w2⟩ := ok_of hw
          have hne : ns.map (·.text) ≠ [] := by simpa using n2
          have hlenN := namesW_len _ w2
          have hlenK := namesK_len _ hne
          rw [List.length_map] at hlenN hlenK
          have hpos : 0 < ns.length := List.length_pos_iff.2 n2
          obtain ⟨hfn, hfl⟩ := fixW_is hfix
          have hmax : max prec 0 = prec := by omega
          have hit := Lib.itoa_length_le prec (by omega) (by omega)
          have hwr : writtenS l ⟨2, ns.map (·.text), 0, .none, ⟨[], prec, fix⟩, .none, pos⟩ = fixW fix ++ [32] ++ namesW (ns.map (·.text)) ++ [32] ++ Lib.itoa prec ++ [46] := by
            unfold writtenS
            rw [if_neg (by simp), if_neg (by simp), if_pos rfl]
            simp only [hmax]
          refine ⟨(1, fixW fix, 0) :: (namesK (ns.map (·.text)) ++ (3, [], prec) :: [(7, [], 0)]), ⟨fun r rs hx => ?_, ⟨_, _, rfl, by show (1 : Int) ≠ 0; decide⟩, fun t i' rest hk' => ?_⟩, ⟨.inr (.inr (.inl rfl)), ⟨by simp, by simp⟩, fun e => (by cases e), fun _ => hprec, okp_none⟩, d1, ?_, ?_⟩
          · rw [hwr]
            have e : (fixW fix ++ [32] ++ namesW (ns.map (·.text)) ++ [32] ++ Lib.itoa prec ++ [46]) ++ r = fixW fix ++ (32 :: (namesW (ns.map (·.text)) ++ (32 :: (Lib.itoa prec ++ (46 :: r))))) := by simp
            rw [e]
            have := lx_word (wd_name hfn) (dl_32 _) (lx_blank (lx_names (dl_32 _) (lx_blank (lx_word (wd_int (n := prec) (by omega) (by omega)) (dl_46 r) (lx_dot hx))) _ hne w1))
            simpa using this
          · simp only [List.cons_append, List.append_assoc, List.nil_append] at hk'
            obtain ⟨q1, _, q2⟩ := hk'.cons
            obtain ⟨e1, e2⟩ := key_kind q1
            simp only at e1 e2
            obtain ⟨new', m1, m2⟩ := names_read _ (i' + 1) (3, [], prec) _ hne hw q2 (fun e => by have := e.1; revert this; simp)
            obtain ⟨q3, _, q4⟩ := q2.app.cons
            have q5 := (key_kind q3).1
            have q6 : (tokL t (i' + 1 + (namesK (ns.map (·.text))).length)).n = prec := congrArg (fun k : Key => k.2.2) q3
            have q7 := (key_kind q4.cons.1).1
            have hd2 := decl_names ns new' l l2 m1.symm hd
            have hop : opSent t (i' + 1) (tokL t i').pos fix l = .ok (⟨2, new'.map (·.text), 0, .none, ⟨[], prec, fix⟩, .none, (tokL t i').pos⟩, i' + 1 + (namesK (ns.map (·.text))).length + 2, l2) := by
              unfold opSent
              rw [m2, List.nil_append]
              simp only
              rw [if_pos q5, if_pos q7, q6, hd2]
            refine ⟨⟨2, new'.map (·.text), 0, .none, ⟨[], prec, fix⟩, .none, (tokL t i').pos⟩, ?_, ⟨rfl, m1, rfl, rfl, rfl, same_none⟩⟩
            have hlen : i' + ((1, fixW fix, (0 : Int)) :: (namesK (ns.map (·.text)) ++ (3, [], prec) :: [(7, [], 0)])).length = i' + 1 + (namesK (ns.map (·.text))).length + 2 := by
              simp only [List.length_cons, List.length_append, List.length_nil]
              omega
            rw [hlen, ← hop]
            unfold sentS
            simp only
            rw [e2]
            rcases hfix with rfl | rfl | rfl
            · rw [if_neg (fun h => absurd h.2 (by decide)), if_neg (fun h => absurd h.2 (by decide)), if_pos ⟨e1, rfl⟩]
            · rw [if_neg (fun h => absurd h.2 (by decide)), if_neg (fun h => absurd h.2 (by decide)), if_neg (fun h => absurd h.2 (by decide)), if_pos ⟨e1, rfl⟩]
            · rw [if_neg (fun h => absurd h.2 (by decide)), if_neg (fun h => absurd h.2 (by decide)), if_neg (fun h => absurd h.2 (by decide)), if_neg (fun h => absurd h.2 (by decide)), if_pos ⟨e1, rfl⟩]
          · unfold afterS
            rw [if_pos rfl, d2]
            simp
          · rw [hwr]
            simp only [List.length_append, List.length_cons, List.length_nil]
            omega
      · cases h
    · cases h
theorem clause_back (ht : ∀ x ∈ T, TokGood x) (hl : OpsOk l) (hT : T.length ≤ 1000) {s : List UInt8} (hs : T = (lexL s).toks) (h : clauseSent T i pos l = .ok (x, j, l')) (hd : nodesP x.body ≤ 150) (hw : ∀ k ks, LX (writtenS l x) (k :: ks) → ¬ declK k) :
    ∃ ks, SB l x l' ks ∧ SF x ∧ OpsOk l' ∧ l' = afterS l x ∧ (writtenS l x).length + 1 + 45 * i ≤ 45 * j := by
  unfold clauseSent at h
  split at h
  · cases h
  · rename_i m j1 hx
    have hE := exprT_is l T i
    rw [hx] at hE
    have hleaf := Expr.leaf hE
    obtain ⟨rfl, rfl, rfl⟩ := endS_is h
    subst hs
    obtain ⟨hv, hO⟩ := Expr.valid hl hE
    obtain ⟨kt, R⟩ := back_tree hl m.p hv hO
    have hlen := show_leaf (l := l) m.p hv hO
    have hwr : writtenS l ⟨3, [], 0, .none, .zero, m.p, pos⟩ = showL l m.p ++ [32, 46] := by
      unfold writtenS
      rw [if_neg (by simp), if_neg (by simp), if_neg (by simp)]
    obtain ⟨k0, kr, ek, hb, _, _⟩ := R.fst
    have hk0 : k0.1 ≠ 0 := fun e => by
      unfold bK at hb
      rw [e] at hb
      simp at hb
    have htx : ∀ r rs, LX r rs → LX (writtenS l ⟨3, [], 0, .none, .zero, m.p, pos⟩ ++ r) ((kt ++ [(7, [], 0)]) ++ rs) := fun r rs hx => by
      rw [hwr, List.append_assoc, List.append_assoc]
      exact R.tx _ _ (dl_32 _) (lx_blank (lx_dot hx))
    have hnd : ¬ declK k0 := hw k0 (kr ++ (7, [], 0) :: [(0, [], 0)]) (by
      have := htx [] _ lx_nil
      rw [List.append_nil, ek] at this
      simpa using this)
    refine ⟨kt ++ [(7, [], 0)], ⟨htx, ⟨k0, kr ++ [(7, [], 0)], by rw [ek]; rfl, hk0⟩, fun t i' rest hk' => ?_⟩, ⟨.inr (.inr (.inr rfl)), ⟨by simp, by simp⟩, fun e => (by cases e), fun e => (by cases e), hO⟩, hl, rfl, ?_⟩
    · rw [List.append_assoc, List.cons_append, List.nil_append] at hk'
      obtain ⟨m', s1, s2, s3⟩ := R.ex t 0 i' 0 (7, [], 0) rest hk' (by simp only at hd; omega) (by simp [bK]) (by show (7 : Int) ≠ 8; decide) (fun _ => by simp [opK]) (fun o a b ho => by
        obtain ⟨_, _, c, _, _, _, _, hf⟩ := infP_some ho
        have := hl.prec o (find_mem hf).1
        exact ⟨by omega, fun o' e => by simp [opK] at e⟩)
      obtain ⟨q, _, _⟩ := hk'.app.cons
      have hE' := exprT_eq (s3 _ (Chain.stop (by rw [op_key q]; simp [opK])))
      have q7 := (key_kind q).1
      refine ⟨⟨3, [], 0, .none, .zero, m'.p, (tokL t i').pos⟩, ?_, ⟨rfl, rfl, rfl, rfl, rfl, s1⟩⟩
      have hcl : clauseSent t i' (tokL t i').pos l = .ok (⟨3, [], 0, .none, .zero, m'.p, (tokL t i').pos⟩, i' + (kt ++ [(7, [], 0)]).length, l) := by
        unfold clauseSent
        rw [hE']
        simp only
        rw [endS_go q7, List.length_append, List.length_singleton, Nat.add_assoc]
      rw [← hcl]
      rw [ek, List.cons_append] at hk'
      obtain ⟨e1, e2⟩ := key_kind hk'.cons.1
      unfold sentS
      simp only
      rw [e1, e2]
      unfold declK at hnd
      rw [if_neg (fun h => hnd ⟨h.1, .inl h.2⟩), if_neg (fun h => hnd ⟨h.1, .inr (.inl h.2)⟩), if_neg (fun h => hnd ⟨h.1, .inr (.inr (.inl h.2))⟩), if_neg (fun h => hnd ⟨h.1, .inr (.inr (.inr (.inl h.2)))⟩), if_neg (fun h => hnd ⟨h.1, .inr (.inr (.inr (.inr h.2)))⟩)]
    · rw [hwr]
      simp only [List.length_append, List.length_cons, List.length_nil]
      omega
end
end Go.Lamb
namespace Go.Lamb
open Go Go.RowKit

def textS : List OpT → List Sent → Str
  | _, [] => []
  | l, x :: r => writtenS l x ++ 10 :: textS (afterS l x) r
def lastS : List OpT → List Sent → List OpT
  | l, [] => l
  | l, x :: r => lastS (afterS l x) r
theorem lastS_snoc (x : Sent) : ∀ (xs : List Sent) (l : List OpT), lastS l (xs ++ [x]) = afterS (lastS l xs) x
  | [], l => rfl
  | y :: r, l => lastS_snoc x r (afterS l y)
theorem textS_snoc (x : Sent) : ∀ (xs : List Sent) (l : List OpT), textS l (xs ++ [x]) = textS l xs ++ (writtenS (lastS l xs) x ++ [10])
  | [], l => rfl
  | y :: r, l => by
    rw [List.cons_append, textS, textS, textS_snoc x r (afterS l y), lastS]
    simp
def declB (w : Str) : Bool := match (lexL w).toks with
  | [] => false
  | x :: _ => x.kind == 1 && (x.text == [107, 105, 110, 100] || x.text == [116, 121, 112, 101] || x.text == [105, 110, 102, 105, 120] || x.text == [105, 110, 102, 105, 120, 108] || x.text == [105, 110, 102, 105, 120, 114])
theorem declB_no {w : Str} (h : declB w = false) (hl : w.length ≤ 65536) {k : Key} {ks : List Key} (hx : LX w (k :: ks)) : ¬ declK k := by
  have h2 : (lexL w).toks.map Tok.key = k :: ks := by
    unfold lexL
    rw [if_neg (by omega)]
    exact (hx _).2
  intro hd
  unfold declB at h
  cases ht : (lexL w).toks with
  | nil => rw [ht] at h2; cases h2
  | cons x r =>
    rw [ht] at h2 h
    injection h2 with h2 _
    subst h2
    obtain ⟨d1, d2⟩ := hd
    have d1 : x.kind = 1 := d1
    simp only at h
    rw [d1] at h
    rcases d2 with e | e | e | e | e <;> (have e : x.text = _ := e; rw [e] at h; revert h; decide)
theorem decl_steps {prec fix : Int} : ∀ (ns : List Tok) (l l' : List OpT), declL prec fix l ns = .ok l' → ∀ m (hm : m < (ns.map (·.text)).length), wrongL (l ++ ((ns.map (·.text)).take m).map (fun s => (⟨s, prec, fix⟩ : OpT))) ⟨(ns.map (·.text))[m], prec, fix⟩ = 0
  | [], l, l', _, m, hm => by simp at hm
  | x :: ns, l, l', h, m, hm => by
    rw [declL] at h
    split at h
    · rename_i hw
      cases m with
      | zero => simpa using hw
      | succ m =>
        have := decl_steps ns _ l' h m (by simpa using hm)
        simpa using this
    · cases h
structure SG (l : List OpT) (x : Sent) : Prop where
  sf : SF x
  ops : OpsOk l
  len : (writtenS l x).length ≤ 45000
  names : ∀ s ∈ x.names, s.length ≤ 32
  count : x.names.length ≤ 1000
  decl : x.k = 2 → ∀ m (hm : m < x.names.length), wrongL (l ++ (x.names.take m).map (fun s => (⟨s, x.op.prec, x.op.fix⟩ : OpT))) ⟨x.names[m], x.op.prec, x.op.fix⟩ = 0
section
variable {T : List Tok} {l l' : List OpT} {i j : Nat} {pos : Int} {x : Sent}
theorem names_short {s : Bool} (ht : ∀ x ∈ T, TokGood x) {ns : List Tok} {k : Nat} (h : namesS T s i [] = .ok (ns, k)) (hT : T.length ≤ 1000) : (∀ w ∈ ns.map (·.text), w.length ≤ 32) ∧ (ns.map (·.text)).length ≤ 1000 := by
  obtain ⟨new, n1, n2, n3, n4⟩ := names_info ht _ _ _ _ _ (Nat.le_refl _) h
  rw [List.nil_append] at n1
  subst n1
  have := namesS_far _ _ _ _ _ (Nat.le_refl _) h
  exact ⟨(ok_of (texts_name n3)).2, by rw [List.length_map]; omega⟩
theorem sent_back {s : List UInt8} (hs : T = (lexL s).toks) (hl : OpsOk l) (hT : T.length ≤ 1000) (h : sentS T l i = .ok (x, j, l')) :
    (SG l x ∧ OpsOk l' ∧ l' = afterS l x ∧ (writtenS l x).length + 1 + 45 * i ≤ 45 * j) ∧ (nodesP x.body ≤ 150 → (x.k = 3 → declB (writtenS l x) = false) → ∃ ks, SB l x l' ks) := by
  have ht : ∀ x ∈ T, TokGood x := by subst hs; exact lexL_ok s
  have hfar := sentS_far h
  unfold sentS at h
  simp only at h
  have hop : ∀ fix, (fix = 0 ∨ fix = 1 ∨ fix = 2) → opSent T (i + 1) (tokL T i).pos fix l = .ok (x, j, l') → (SG l x ∧ OpsOk l' ∧ l' = afterS l x ∧ (writtenS l x).length + 1 + 45 * i ≤ 45 * j) ∧ (nodesP x.body ≤ 150 → (x.k = 3 → declB (writtenS l x) = false) → ∃ ks, SB l x l' ks) := fun fix hfix h => by
    obtain ⟨ks, q1, q2, q3, q4, q5⟩ := op_back hfix ht hl hT h
    refine ⟨⟨⟨q2, hl, by omega, ?_, ?_, ?_⟩, q3, q4, q5⟩, fun _ _ => ⟨ks, q1⟩⟩
    all_goals
      unfold opSent at h
      split at h
      · cases h
      · rename_i ns k hn
        have hsh := names_short ht hn hT
        split at h
        · split at h
          · split at h
            · cases h
            · rename_i l2 hd
              injection h with h; injection h with h1 h
              subst h1
              first | exact hsh.1 | exact hsh.2 | exact fun _ m hm => decl_steps ns l l2 hd m hm
          · cases h
        · cases h
  split at h
  · obtain ⟨ks, q1, q2, q3, q4, q5⟩ := kind_back ht hl hT h
    have hk0 : x.k = 0 := by
      unfold kindSent at h
      split at h
      · cases h
      · split at h
        · cases h
        · obtain ⟨rfl, _, _⟩ := endS_is h; rfl
    refine ⟨⟨⟨q2, hl, by omega, ?_, ?_, fun e => by omega⟩, q3, q4, q5⟩, fun _ _ => ⟨ks, q1⟩⟩
    all_goals
      unfold kindSent at h
      split at h
      · cases h
      · rename_i ns k hn
        have hsh := names_short ht hn hT
        split at h
        · cases h
        · obtain ⟨rfl, _, _⟩ := endS_is h
          first | exact hsh.1 | exact hsh.2
  · split at h
    · obtain ⟨ks, q1, q2, q3, q4, q5⟩ := type_back ht hl hT h
      have hk0 : x.k = 1 := by
        unfold typeSent at h
        split at h
        · cases h
        · split at h
          · cases h
          · obtain ⟨rfl, _, _⟩ := endS_is h; rfl
      refine ⟨⟨⟨q2, hl, by omega, ?_, ?_, fun e => by omega⟩, q3, q4, q5⟩, fun _ _ => ⟨ks, q1⟩⟩
      all_goals
        unfold typeSent at h
        split at h
        · cases h
        · rename_i ns k hn
          have hsh := names_short ht hn hT
          split at h
          · cases h
          · obtain ⟨rfl, _, _⟩ := endS_is h
            first | exact hsh.1 | exact hsh.2
    · split at h
      · exact hop 0 (.inl rfl) h
      · split at h
        · exact hop 1 (.inr (.inl rfl)) h
        · split at h
          · exact hop 2 (.inr (.inr rfl)) h
          · have hfacts : SF x ∧ l' = l ∧ x.k = 3 ∧ x.names = [] ∧ (writtenS l x).length + 1 + 45 * i ≤ 45 * j := by
              have h' := h
              unfold clauseSent at h'
              split at h'
              · cases h'
              · rename_i m j1 hx
                have hE := exprT_is l T i
                rw [hx] at hE
                have hleaf := Expr.leaf hE
                obtain ⟨rfl, rfl, rfl⟩ := endS_is h'
                subst hs
                obtain ⟨hv, hO⟩ := Expr.valid hl hE
                have hlen := show_leaf (l := l) m.p hv hO
                have hwr : writtenS l ⟨3, [], 0, .none, .zero, m.p, (tokL (lexL s).toks i).pos⟩ = showL l m.p ++ [32, 46] := by
                  unfold writtenS
                  rw [if_neg (by simp), if_neg (by simp), if_neg (by simp)]
                refine ⟨⟨.inr (.inr (.inr rfl)), ⟨by simp, by simp⟩, fun e => (by cases e), fun e => (by cases e), hO⟩, rfl, rfl, rfl, ?_⟩
                rw [hwr]
                simp only [List.length_append, List.length_cons, List.length_nil]
                omega
            obtain ⟨f1, f2, f3, f4, f5⟩ := hfacts
            refine ⟨⟨⟨f1, hl, by omega, fun w hw => (by rw [f4] at hw; cases hw), by rw [f4]; simp, fun e => by omega⟩, by rw [f2]; exact hl, by rw [f2]; unfold afterS; rw [if_neg (by omega)], f5⟩, fun hd hw => ?_⟩
            obtain ⟨ks, q1, _⟩ := clause_back ht hl hT hs h hd (fun k ks hx => declB_no (hw f3) (by omega) hx)
            exact ⟨ks, q1⟩
def guardS : List OpT → List Sent → Prop
  | _, [] => True
  | l, x :: r => nodesP x.body ≤ 150 ∧ (x.k = 3 → declB (writtenS l x) = false) ∧ guardS (afterS l x) r
def allSG : List OpT → List Sent → Prop
  | _, [] => True
  | l, x :: r => SG l x ∧ allSG (afterS l x) r
def alikeL : List Sent → List Sent → Prop
  | [], [] => True
  | x :: r, y :: s => AlikeS x y ∧ alikeL r s
  | _, _ => False
theorem all_back {s : List UInt8} (hs : T = (lexL s).toks) (hT : T.length ≤ 1000) : ∀ (n i : Nat) (l : List OpT) (acc ss : List Sent) (lf : List OpT), T.length - i ≤ n → i ≤ T.length → OpsOk l → allS T l i acc = .ok (ss, lf) →
    ∃ xs, ss = acc ++ xs ∧ allSG l xs ∧ lf = lastS l xs ∧ (textS l xs).length + 45 * i ≤ 45 * T.length ∧ (guardS l xs → ∃ ks, LX (textS l xs) (ks ++ [(0, [], 0)]) ∧ ∀ (t : List Tok) (i' : Nat) (acc' : List Sent), KAt t i' (ks ++ [(0, [], 0)]) → ∃ xs', allS t l i' acc' = .ok (acc' ++ xs', lf) ∧ alikeL xs xs')
  | n, i, l, acc, ss, lf, hn, hi, hl, h => by
    induction n using Nat.strongRecOn generalizing i l acc with
    | ind n ih =>
      rw [allS_eq] at h
      split at h
      · injection h with h
        injection h with h1 h2
        subst h1 h2
        refine ⟨[], by simp, trivial, rfl, by simp [textS]; omega, fun _ => ⟨[], lx_nil, fun t i' acc' hk => ⟨[], ?_, trivial⟩⟩⟩
        have h0 := (key_kind (KAt.cons (ks := []) hk).1).1
        rw [allS_eq, if_pos h0, List.append_nil]
      · split at h
        · cases h
        · rename_i x j l' hx
          have hfar := sentS_far hx
          obtain ⟨⟨g1, g2, g3, g4⟩, g5⟩ := sent_back hs hl hT hx
          obtain ⟨xs, a1, a2, a3, a4, a5⟩ := ih (T.length - j) (by omega) j l' (acc ++ [x]) (Nat.le_refl _) hfar.2 g2 h
          refine ⟨x :: xs, by rw [a1]; simp, ⟨g1, by rw [← g3]; exact a2⟩, by rw [a3, g3]; rfl, ?_, fun hg => ?_⟩
          · rw [textS, ← g3, List.length_append, List.length_cons]
            omega
          · obtain ⟨w1, w2, w3⟩ := hg
            rw [← g3] at w3
            obtain ⟨kx, S⟩ := g5 w1 w2
            obtain ⟨ks, b1, b2⟩ := a5 w3
            refine ⟨kx ++ ks, ?_, fun t i' acc' hk => ?_⟩
            · rw [textS, ← g3, List.append_assoc]
              exact S.tx _ _ (lx_nl b1)
            · rw [List.append_assoc] at hk
              obtain ⟨x', c1, c2⟩ := S.rd t i' _ hk
              obtain ⟨xs', d1, d2⟩ := b2 t (i' + kx.length) (acc' ++ [x']) hk.app
              obtain ⟨k0, kr, e0, e1⟩ := S.fst
              have h0 : (tokL t i').kind ≠ 0 := by
                rw [e0, List.cons_append] at hk
                rw [(key_kind hk.cons.1).1]
                exact e1
              refine ⟨x' :: xs', ?_, c2, d2⟩
              rw [allS_eq, if_neg h0, c1]
              simp only
              rw [d1, List.append_assoc]
              rfl
end
end Go.Lamb
namespace Go.Lamb
open Go Go.RowKit

end Go.Lamb
namespace Go.Lamb
open Go Go.RowKit

mutual
def Pre.shift (K : Nat) : Pre → Pre
  | .mk k s n l a => .mk k s n (Pre.shifts K l) (a + K)
def Pre.shifts (K : Nat) : List Pre → List Pre
  | [] => []
  | p :: l => p.shift K :: Pre.shifts K l
end
def Made.shift (K : Nat) (m : Made) : Made := ⟨m.p.shift K, m.by_.map fun x => (x.1, x.2 + K)⟩
section
variable {t t' : List Tok} {K m : Nat}
def Sent.shift (K : Nat) (s : Sent) : Sent := ⟨s.k, s.names, s.n, s.ty, s.op, if s.k = 3 then s.body.shift K else s.body, s.pos + K⟩
end
end Go.Lamb
namespace Go.Lamb
open Go Go.RowKit

section
variable {t t' : List Tok}
end
end Go.Lamb
namespace Go.Lamb
open Go Go.RowKit

def typeSentC (f : Nat) (t : List Tok) (i : Nat) (pos : Int) (l : List OpT) : Option SoR := match namesS t true i [] with
  | .error b => some (.error b)
  | .ok (ns, j) => match tyTypeF f t 0 j [] with
    | none => none
    | some (.error b) => some (.error b)
    | some (.ok (u, k, _)) => some (endS t ⟨1, ns.map (·.text), 0, u, .zero, .none, pos⟩ k l)
def clauseSentC (f : Nat) (t : List Tok) (i : Nat) (pos : Int) (l : List OpT) : Option SoR := match exprF f l t 0 0 i with
  | none => none
  | some (.error b) => some (.error b)
  | some (.ok (m, k)) => some (endS t ⟨3, [], 0, .none, .zero, m.p, pos⟩ k l)
def sentC (f : Nat) (t : List Tok) (l : List OpT) (i : Nat) : Option SoR :=
  if (tokL t i).kind = 1 ∧ (tokL t i).text = [107, 105, 110, 100] then some (kindSent t (i + 1) (tokL t i).pos l)
  else if (tokL t i).kind = 1 ∧ (tokL t i).text = [116, 121, 112, 101] then typeSentC f t (i + 1) (tokL t i).pos l
  else if (tokL t i).kind = 1 ∧ (tokL t i).text = [105, 110, 102, 105, 120] then some (opSent t (i + 1) (tokL t i).pos 0 l)
  else if (tokL t i).kind = 1 ∧ (tokL t i).text = [105, 110, 102, 105, 120, 108] then some (opSent t (i + 1) (tokL t i).pos 1 l)
  else if (tokL t i).kind = 1 ∧ (tokL t i).text = [105, 110, 102, 105, 120, 114] then some (opSent t (i + 1) (tokL t i).pos 2 l)
  else clauseSentC f t i (tokL t i).pos l
theorem typeSentC_is {f : Nat} {t : List Tok} {i : Nat} {pos : Int} {l : List OpT} {r : SoR} (h : typeSentC f t i pos l = some r) : typeSent t i pos l = r := by
  unfold typeSentC at h
  unfold typeSent
  cases hn : namesS t true i [] with
  | error b => rw [hn] at h; injection h
  | ok x =>
    obtain ⟨ns, j⟩ := x
    rw [hn] at h
    simp only at h ⊢
    cases ht : tyTypeF f t 0 j [] with
    | none => rw [ht] at h; cases h
    | some y =>
      rw [ht] at h
      rw [tyT_eq ⟨f, ht⟩]
      cases y with
      | error b => injection h
      | ok y =>
        obtain ⟨u, k, ws⟩ := y
        injection h
theorem clauseSentC_is {f : Nat} {t : List Tok} {i : Nat} {pos : Int} {l : List OpT} {r : SoR} (h : clauseSentC f t i pos l = some r) : clauseSent t i pos l = r := by
  unfold clauseSentC at h
  unfold clauseSent
  cases ht : exprF f l t 0 0 i with
  | none => rw [ht] at h; cases h
  | some y =>
    rw [ht] at h
    rw [exprT_eq ⟨f, ht⟩]
    cases y with
    | error b => injection h
    | ok y =>
      obtain ⟨m, k⟩ := y
      injection h
theorem sentC_is {f : Nat} {t : List Tok} {l : List OpT} {i : Nat} {r : SoR} (h : sentC f t l i = some r) : sentS t l i = r := by
  unfold sentC at h
  unfold sentS
  simp only
  by_cases c1 : (tokL t i).kind = 1 ∧ (tokL t i).text = [107, 105, 110, 100]
  · rw [if_pos c1] at h ⊢; injection h
  rw [if_neg c1] at h ⊢
  by_cases c2 : (tokL t i).kind = 1 ∧ (tokL t i).text = [116, 121, 112, 101]
  · rw [if_pos c2] at h ⊢; exact typeSentC_is h
  rw [if_neg c2] at h ⊢
  by_cases c3 : (tokL t i).kind = 1 ∧ (tokL t i).text = [105, 110, 102, 105, 120]
  · rw [if_pos c3] at h ⊢; injection h
  rw [if_neg c3] at h ⊢
  by_cases c4 : (tokL t i).kind = 1 ∧ (tokL t i).text = [105, 110, 102, 105, 120, 108]
  · rw [if_pos c4] at h ⊢; injection h
  rw [if_neg c4] at h ⊢
  by_cases c5 : (tokL t i).kind = 1 ∧ (tokL t i).text = [105, 110, 102, 105, 120, 114]
  · rw [if_pos c5] at h ⊢; injection h
  rw [if_neg c5] at h ⊢
  exact clauseSentC_is h
def allC (f : Nat) (t : List Tok) : Nat → List OpT → Nat → List Sent → Option (Except Bad (List Sent × List OpT))
  | 0, _, _, _ => none
  | g + 1, l, i, acc =>
    if (tokL t i).kind = 0 then some (.ok (acc, l))
    else match sentC f t l i with
      | none => none
      | some (.error b) => some (.error b)
      | some (.ok (s, j, l')) => allC f t g l' j (acc ++ [s])
theorem allC_is {f : Nat} {t : List Tok} : ∀ {g : Nat} {l : List OpT} {i : Nat} {acc : List Sent} {r : Except Bad (List Sent × List OpT)}, allC f t g l i acc = some r → allS t l i acc = r
  | 0, _, _, _, _, h => by simp [allC] at h
  | g + 1, l, i, acc, r, h => by
    rw [allC] at h
    rw [allS_eq]
    by_cases c : (tokL t i).kind = 0
    · rw [if_pos c] at h ⊢; injection h
    · rw [if_neg c] at h ⊢
      cases hs : sentC f t l i with
      | none => rw [hs] at h; cases h
      | some y =>
        rw [hs] at h
        rw [sentC_is hs]
        cases y with
        | error b => injection h
        | ok y =>
          obtain ⟨s, j, l'⟩ := y
          exact allC_is h
end Go.Lamb
namespace Go.Lamb
open Go Go.RowKit

def tokI (t : List Tok) (i : Int) : Tok := if 0 ≤ i then tokL t i.toNat else ⟨0, [], 0, lastPos t⟩
theorem tokI_nat (t : List Tok) (i : Nat) : tokI t (i : Int) = tokL t i := by rw [tokI, if_pos (by omega), Int.toNat_natCast]
structure TyO where
  u : Typ
  j : Int
  ws : List Str
  e : Int
  p : Int
def closeO (t : List Tok) (o : TyO) : TyO := ⟨o.u, IntKind.i64.wrap (o.j + 1), o.ws, if o.e = 0 then (if (tokI t o.j).kind = 6 then 0 else 50) else o.e, if o.e = 0 then (if (tokI t o.j).kind = 6 then 0 else (tokI t o.j).pos) else o.p⟩
mutual
def tyAtomG : Nat → List Tok → Nat → Nat → List Str → Option TyO
  | 0, _, _, _, _ => none
  | f + 1, t, depth, i, vs =>
    if (tokL t i).kind = 1 then some ⟨.con (tokL t i).text, (i + 1 : Nat), vs, 0, 0⟩
    else if (tokL t i).kind = 2 then some ⟨.var (vnum vs (tokL t i).text), (i + 1 : Nat), vadd vs (tokL t i).text, 0, 0⟩
    else if (tokL t i).kind = 5 then
      match (if 200 ≤ depth then some ⟨.none, (i + 1 : Nat), vs, 31, (tokL t i).pos⟩ else tyTypeG f t (depth + 1) (i + 1) vs) with
      | none => none
      | some o => some (closeO t o)
    else some ⟨.none, (i : Nat), vs, 50, (tokL t i).pos⟩
def tyArgsG : Nat → List Tok → Nat → TyO → Option TyO
  | 0, _, _, _ => none
  | f + 1, t, depth, o =>
    if o.e = 0 ∧ tyBegins (tokI t o.j) = true then
      match tyAtomG f t depth o.j.toNat o.ws with
      | none => none
      | some a => tyArgsG f t depth ⟨o.u.put a.u, a.j, a.ws, a.e, a.p⟩
    else some o
def tyTailG : Nat → List Tok → Nat → TyO → Option TyO
  | 0, _, _, _ => none
  | f + 1, t, depth, o =>
    if o.e = 0 ∧ (tokI t o.j).kind = 4 ∧ (tokI t o.j).text = [45, 62] then
      match (if 200 ≤ depth then some ⟨.none, IntKind.i64.wrap (o.j + 1), o.ws, 31, (tokI t o.j).pos⟩ else tyTypeG f t (depth + 1) (o.j + 1).toNat o.ws) with
      | none => none
      | some y => some ⟨.arr o.u y.u, y.j, y.ws, y.e, y.p⟩
    else some o
def tyTypeG : Nat → List Tok → Nat → Nat → List Str → Option TyO
  | 0, _, _, _, _ => none
  | f + 1, t, depth, i, vs => match tyAtomG f t depth i vs with
    | none => none
    | some o => match (if (tokL t i).kind = 1 then tyArgsG f t depth o else some o) with
      | none => none
      | some o2 => tyTailG f t depth o2
end
def TOut (r : TyR) (o : TyO) : Prop := match r with
  | .ok (u, j, ws) => o = ⟨u, (j : Nat), ws, 0, 0⟩
  | .error x => o.e = x.e ∧ o.p = x.pos ∧ (x.e == 0) = false
theorem args_stop {f : Nat} {t : List Tok} {depth : Nat} {o : TyO} (h : o.e ≠ 0) : tyArgsG (f + 1) t depth o = some o := by rw [tyArgsG, if_neg (fun c => h c.1)]
theorem tail_stop {f : Nat} {t : List Tok} {depth : Nat} {o : TyO} (h : o.e ≠ 0) : tyTailG (f + 1) t depth o = some o := by rw [tyTailG, if_neg (fun c => h c.1)]
theorem close_ok {t : List Tok} {u : Typ} {j : Nat} {ws : List Str} (hj : j ≤ 2000000) : closeO t ⟨u, (j : Nat), ws, 0, 0⟩ = if (tokL t j).kind = 6 then ⟨u, (j + 1 : Nat), ws, 0, 0⟩ else ⟨u, (j + 1 : Nat), ws, 50, (tokL t j).pos⟩ := by
  unfold closeO
  simp only [if_true, tokI_nat]
  have : IntKind.i64.wrap ((j : Int) + 1) = ((j + 1 : Nat) : Int) := by rw [wrap_in] <;> omega
  rw [this]
  by_cases h : (tokL t j).kind = 6
  · simp only [if_pos h]
  · simp only [if_neg h]
theorem close_bad {t : List Tok} {o : TyO} (h : o.e ≠ 0) : closeO t o = ⟨o.u, IntKind.i64.wrap (o.j + 1), o.ws, o.e, o.p⟩ := by
  unfold closeO
  simp only [if_neg h]
theorem ty_out : ∀ (f : Nat), (∀ t depth i vs r, t.length ≤ 1000000 → tyAtomF f t depth i vs = some r → ∃ o, tyAtomG f t depth i vs = some o ∧ TOut r o) ∧
    (∀ t depth i vs u r, t.length ≤ 1000000 → tyArgsF f t depth i vs u = some r → ∃ o, tyArgsG f t depth ⟨u, (i : Nat), vs, 0, 0⟩ = some o ∧ TOut r o) ∧
    (∀ t depth i vs u r, t.length ≤ 1000000 → i ≤ t.length → tyTailF f t depth i vs u = some r → ∃ o, tyTailG f t depth ⟨u, (i : Nat), vs, 0, 0⟩ = some o ∧ TOut r o) ∧
    (∀ t depth i vs r, t.length ≤ 1000000 → tyTypeF f t depth i vs = some r → ∃ o, tyTypeG f t depth i vs = some o ∧ TOut r o)
  | 0 => ⟨fun _ _ _ _ _ _ h => by simp [tyAtomF] at h, fun _ _ _ _ _ _ _ h => by simp [tyArgsF] at h, fun _ _ _ _ _ _ _ _ h => by simp [tyTailF] at h, fun _ _ _ _ _ _ h => by simp [tyTypeF] at h⟩
  | f + 1 => by
    obtain ⟨h1, h2, h3, h4⟩ := ty_out f
    have hpos : ∀ {t depth i vs r}, tyAtomF f t depth i vs = some r → 0 < f := fun h => by
      cases f with
      | zero => simp [tyAtomF] at h
      | succ f => omega
    refine ⟨fun t depth i vs r ht h => ?_, fun t depth i vs u r ht h => ?_, fun t depth i vs u r ht hi h => ?_, fun t depth i vs r ht h => ?_⟩
    · rw [tyAtomF] at h
      rw [tyAtomG]
      by_cases c1 : (tokL t i).kind = 1
      · rw [if_pos c1] at h ⊢
        injection h with h; subst h
        exact ⟨_, rfl, rfl⟩
      rw [if_neg c1] at h ⊢
      by_cases c2 : (tokL t i).kind = 2
      · rw [if_pos c2] at h ⊢
        injection h with h; subst h
        exact ⟨_, rfl, rfl⟩
      rw [if_neg c2] at h ⊢
      by_cases c3 : (tokL t i).kind = 5
      · rw [if_pos c3] at h ⊢
        by_cases c4 : 200 ≤ depth
        · rw [if_pos c4] at h ⊢
          injection h with h; subst h
          refine ⟨_, rfl, ?_⟩
          rw [close_bad (by show (31 : Int) ≠ 0; decide)]
          exact ⟨rfl, rfl, rfl⟩
        · rw [if_neg c4] at h ⊢
          cases he : tyTypeF f t (depth + 1) (i + 1) vs with
          | none => rw [he] at h; cases h
          | some y =>
            rw [he] at h
            obtain ⟨o, ho, hO⟩ := h4 _ _ _ _ _ ht he
            rw [ho]
            cases y with
            | error b =>
              injection h with h; subst h
              obtain ⟨q1, q2, q3⟩ := hO
              have hne : o.e ≠ 0 := by rw [q1]; simpa using q3
              refine ⟨_, rfl, ?_⟩
              rw [close_bad hne]
              exact ⟨q1, q2, q3⟩
            | ok y =>
              obtain ⟨u, j, ws⟩ := y
              have hb := (ty_bounds f).2.2.2 _ _ _ _ _ _ _ he
              have hO' : o = ⟨u, (j : Nat), ws, 0, 0⟩ := hO
              subst hO'
              refine ⟨_, rfl, ?_⟩
              rw [close_ok (by omega)]
              simp only at h
              by_cases c6 : (tokL t j).kind = 6
              · rw [if_pos c6] at h ⊢
                injection h with h; subst h
                rfl
              · rw [if_neg c6] at h ⊢
                injection h with h; subst h
                exact ⟨rfl, rfl, rfl⟩
      · rw [if_neg c3] at h ⊢
        injection h with h; subst h
        exact ⟨_, rfl, rfl, rfl, rfl⟩
    · rw [tyArgsF] at h
      rw [tyArgsG]
      simp only [tokI_nat, true_and, Int.toNat_natCast]
      by_cases c1 : tyBegins (tokL t i) = false
      · rw [if_pos c1] at h
        rw [if_neg (by rw [c1]; decide)]
        injection h with h; subst h
        exact ⟨_, rfl, rfl⟩
      · rw [if_neg c1] at h
        rw [if_pos (by simpa using c1)]
        cases he : tyAtomF f t depth i vs with
        | none => rw [he] at h; cases h
        | some y =>
          rw [he] at h
          have hf := hpos he
          obtain ⟨o, ho, hO⟩ := h1 _ _ _ _ _ ht he
          rw [ho]
          cases y with
          | error b =>
            injection h with h; subst h
            obtain ⟨q1, q2, q3⟩ := hO
            have hne : o.e ≠ 0 := by rw [q1]; simpa using q3
            obtain ⟨f', rfl⟩ : ∃ f', f = f' + 1 := ⟨f - 1, by omega⟩
            exact ⟨_, args_stop hne, q1, q2, q3⟩
          | ok y =>
            obtain ⟨a, j, ws⟩ := y
            have hO' : o = ⟨a, (j : Nat), ws, 0, 0⟩ := hO
            subst hO'
            exact h2 _ _ _ _ _ _ ht h
    · rw [tyTailF] at h
      rw [tyTailG]
      simp only [tokI_nat, true_and]
      by_cases c1 : (tokL t i).kind = 4 ∧ (tokL t i).text = [45, 62]
      · rw [if_pos c1] at h
        rw [if_pos c1]
        by_cases c4 : 200 ≤ depth
        · rw [if_pos c4] at h ⊢
          injection h with h; subst h
          exact ⟨_, rfl, rfl, rfl, rfl⟩
        · rw [if_neg c4] at h ⊢
          have e : ((i : Int) + 1).toNat = i + 1 := by omega
          rw [e]
          cases he : tyTypeF f t (depth + 1) (i + 1) vs with
          | none => rw [he] at h; cases h
          | some y =>
            rw [he] at h
            obtain ⟨o, ho, hO⟩ := h4 _ _ _ _ _ ht he
            rw [ho]
            cases y with
            | error b =>
              injection h with h; subst h
              exact ⟨_, rfl, hO⟩
            | ok y =>
              obtain ⟨a, j, ws⟩ := y
              have hO' : o = ⟨a, (j : Nat), ws, 0, 0⟩ := hO
              subst hO'
              injection h with h; subst h
              exact ⟨_, rfl, rfl⟩
      · rw [if_neg c1] at h
        rw [if_neg c1]
        injection h with h; subst h
        exact ⟨_, rfl, rfl⟩
    · rw [tyTypeF] at h
      rw [tyTypeG]
      cases he : tyAtomF f t depth i vs with
      | none => rw [he] at h; cases h
      | some y =>
        rw [he] at h
        have hf := hpos he
        obtain ⟨f', hf'⟩ : ∃ f', f = f' + 1 := ⟨f - 1, by omega⟩
        obtain ⟨o, ho, hO⟩ := h1 _ _ _ _ _ ht he
        rw [ho]
        simp only
        cases y with
        | error b =>
          injection h with h; subst h
          obtain ⟨q1, q2, q3⟩ := hO
          have hne : o.e ≠ 0 := by rw [q1]; simpa using q3
          refine ⟨o, ?_, q1, q2, q3⟩
          subst hf'
          by_cases c1 : (tokL t i).kind = 1
          · rw [if_pos c1, args_stop hne]
            exact tail_stop hne
          · rw [if_neg c1]
            exact tail_stop hne
        | ok y =>
          obtain ⟨a, j, ws⟩ := y
          have b1 := (ty_bounds f).1 _ _ _ _ _ _ _ he
          have hO' : o = ⟨a, (j : Nat), ws, 0, 0⟩ := hO
          subst hO'
          simp only at h
          by_cases c1 : (tokL t i).kind = 1
          · rw [if_pos c1] at h ⊢
            cases hg : tyArgsF f t depth j ws a with
            | none => rw [hg] at h; cases h
            | some z =>
              rw [hg] at h
              obtain ⟨o2, ho2, hO2⟩ := h2 _ _ _ _ _ _ ht hg
              rw [ho2]
              cases z with
              | error b =>
                injection h with h; subst h
                obtain ⟨q1, q2, q3⟩ := hO2
                have hne : o2.e ≠ 0 := by rw [q1]; simpa using q3
                subst hf'
                exact ⟨o2, tail_stop hne, q1, q2, q3⟩
              | ok z =>
                obtain ⟨a2, j2, ws2⟩ := z
                have b2 := (ty_bounds f).2.1 _ _ _ _ _ _ _ _ hg b1.2.1
                have hO' : o2 = ⟨a2, (j2 : Nat), ws2, 0, 0⟩ := hO2
                subst hO'
                exact h3 _ _ _ _ _ _ ht b2.2.1 h
          · rw [if_neg c1] at h ⊢
            exact h3 _ _ _ _ _ _ ht b1.2.1 h
end Go.Lamb
namespace Go.Lamb
open Go Go.RowKit

mutual
def tyAtomQ : Nat → List Tok → Nat → Nat → List Str → Option TyO
  | 0, _, _, _, _ => none
  | f + 1, t, depth, i, vs =>
    if (tokL t i).kind = 1 then some ⟨.con (tokL t i).text, (i + 1 : Nat), vs, 0, 0⟩
    else if (tokL t i).kind = 2 then some ⟨.var (vnum vs (tokL t i).text), (i + 1 : Nat), vadd vs (tokL t i).text, 0, 0⟩
    else if (tokL t i).kind = 5 then
      if 200 ≤ depth then some ⟨.none, (i + 1 : Nat), vs, 31, (tokL t i).pos⟩
      else match tyTypeQ f t (depth + 1) (i + 1) vs with
        | none => none
        | some o => some (closeO t o)
    else some ⟨.none, (i : Nat), vs, 50, (tokL t i).pos⟩
def tyArgsQ : Nat → List Tok → Nat → TyO → Option TyO
  | 0, _, _, _ => none
  | f + 1, t, depth, o =>
    if o.e = 0 ∧ tyBegins (tokI t o.j) = true then
      match tyAtomQ f t depth o.j.toNat o.ws with
      | none => none
      | some a => tyArgsQ f t depth ⟨o.u.put a.u, a.j, a.ws, a.e, a.p⟩
    else some o
def tyTailQ : Nat → List Tok → Nat → TyO → Option TyO
  | 0, _, _, _ => none
  | f + 1, t, depth, o =>
    if o.e = 0 ∧ (tokI t o.j).kind = 4 ∧ (tokI t o.j).text = [45, 62] then
      if 200 ≤ depth then some ⟨.none, o.j, o.ws, 31, (tokI t o.j).pos⟩
      else match tyTypeQ f t (depth + 1) (o.j + 1).toNat o.ws with
        | none => none
        | some y => some ⟨.arr o.u y.u, y.j, y.ws, y.e, y.p⟩
    else some o
def tyTypeQ : Nat → List Tok → Nat → Nat → List Str → Option TyO
  | 0, _, _, _, _ => none
  | f + 1, t, depth, i, vs => match tyAtomQ f t depth i vs with
    | none => none
    | some o => match (if (tokL t i).kind = 1 then tyArgsQ f t depth o else some o) with
      | none => none
      | some o2 => tyTailQ f t depth o2
end
end Go.Lamb
namespace Go.Lamb
open Go Go.RowKit

section
variable {P : Program} {w0 w : World} {κ : K} {σ : H}
theorem CodeIs.wp {f : FuncId} {n : Nat} {fn : Func} {x : AC} {r : List ResV} (K : CodeIs P f n fn x r) {args : List V} {R : V → H → Prop} (ha : args.length = n) (hW : H.ok σ → (∀ x ∈ args, V.Sz x) → W P w0 σ.length (Fin r σ.length R) [.code x] ⟨argEnv args, σ⟩)
    {vs : List Value} (hrep : Rep w0 κ σ w) (hfit : Fits κ args vs) :
    (fn.body.getD .skip).wp P (bodyPost P fn (fun e w' => ∃ v d σ' κ', e = .returned v ∧ R d σ' ∧ κ.le κ' ∧ Rep w0 κ' σ' w' ∧ RV κ' d v)) { tmps := vs.toArray ++ Array.replicate (fn.ntmps - vs.toArray.size) undef, defers := [] } w := by
  have hn := K.hn
  have hR : Rel w0 κ fn.ntmps κ ⟨argEnv args, σ⟩ { tmps := vs.toArray ++ Array.replicate (fn.ntmps - vs.toArray.size) undef, defers := [] } w :=
    ⟨hrep, argEnv_ok hfit _, by simp [hfit.1]; omega, rfl, Lamb.K.le_refl κ⟩
  have hfin : ∀ s κ' a w, Rel w0 κ fn.ntmps κ' s a w → Fin r σ.length R s → a.defers = [] ∧ ∃ v, (results fn a.tmps).run P w = .ok v w ∧ ∃ v' d σ' κ'', Ending.returned v = .returned v' ∧ R d σ' ∧ κ.le κ'' ∧ Rep w0 κ'' σ' w ∧ RV κ'' d v' := by
    rintro s κ' a w hR' ⟨vs, d, σ', h1, h2, h3, h4, h5, h6, h7⟩
    obtain ⟨v, k1, k2⟩ := results_ok hR' K.hres h1
    have hcut := (hR'.rep.cut σ.length h4 h5).wkH h6
    exact ⟨hR'.defers, v, k1, v, d, σ', κ'.cut σ.length, rfl, h7, Lamb.K.cut_le hR'.le (by rw [hrep.n]; exact Nat.le_refl _), hcut, (k2.wk h2).cut h3⟩
  refine wp_mono (code_sound (n0 := σ.length) hrep.n K.hm (fn.body.getD .skip) x K.htr (hW hrep.ok hfit.sz) hR) ?_
  rintro e a w' ⟨s, κ', hR', hs⟩
  cases e with
  | normal =>
    obtain ⟨t, hl, hq⟩ := W.inv_done hs
    obtain ⟨κ2, hR2⟩ := hl w0 κ fn.ntmps κ' a w' hrep.n hR'
    exact hfin t κ2 a w' hR2 hq
  | ret => exact hfin s κ' a w' hR' hs
  | exit id => obtain ⟨k', hp, _⟩ := hs; cases hp
  | goto l => exact hs.elim
  | panic ch => exact hs.elim
  | outgrown => exact hs.elim
def DCD (P : Program) (w0 : World) (f : FuncId) (args : List V) (σ : H) (R : V → H → Prop) : Prop :=
  ∀ κ w (vs : List Value) (u : FrameMode), Rep w0 κ σ w → Fits κ args vs → CallsD P f vs.toArray u w (fun e u' w' => u' = u ∧ ∃ v d σ' κ', e = .returned v ∧ R d σ' ∧ κ.le κ' ∧ Rep w0 κ' σ' w' ∧ RV κ' d v)
theorem CodeIs.goD {f : FuncId} {n : Nat} {fn : Func} {x : AC} {r : List ResV} (K : CodeIs P f n fn x r) {args : List V} {R : V → H → Prop} (ha : args.length = n) (hW : H.ok σ → (∀ x ∈ args, V.Sz x) → W P w0 σ.length (Fin r σ.length R) [.code x] ⟨argEnv args, σ⟩) : DCD P w0 f args σ R :=
  fun κ w vs u hrep hfit => callsD_of_wp K.hf K.hb (CodeIs.wp K ha hW hrep hfit)
theorem turnNil (h : Rep w0 κ σ w) {b j : Nat} (e size : Nat) {cs : List V} {tg : Option TypeId} {vs : Array Value} {T : TypeId} (hb : σ[b]? = some (.cells cs tg)) (hj : j < cs.length) (hk : w.heap[κ.pos b]? = some (.cells vs T (0, 0))) (hx : vs.getD j undef = .slice none 0 0) :
    ∃ κ', κ.le κ' ∧ Rep w0 κ' ((σ ++ [Blk.spare e size 0]).set b (.cells (cs.set j (.osl σ.length [])) tg)) w ∧ κ'.sv σ.length = .slice none 0 0 ∧ κ'.fr σ.length = some 0 := by
  obtain ⟨hlt, hbe⟩ := List.getElem?_eq_some_iff.1 hb
  have h1 := h.blk b hlt
  rw [hbe] at h1
  have hle : κ.le (κ.own (.slice none 0 0) size) := K.own_le
  have frn : (κ.own (.slice none 0 0) size).fr σ.length = some 0 := by show (if σ.length = κ.n then _ else _) = _; rw [if_pos h.n.symm]
  have svn : (κ.own (.slice none 0 0) size).sv σ.length = .slice none 0 0 := by show (if σ.length = κ.n then _ else _) = _; rw [if_pos h.n.symm]
  have hr2 := h.own e size none
  have hpos : (κ.own (.slice none 0 0) size).pos b = κ.pos b := (hle.cells b (by rw [h.n]; exact hlt) h1.fr).2
  refine ⟨κ.own (.slice none 0 0) size, hle, hr2.turn (b := b) (j := j) (cs := cs) (tg := tg) (y := .osl σ.length []) ((List.getElem?_append_left hlt).trans hb) rfl (fun vs' t' k1' hj' hv' => ?_), svn, frn⟩
  rw [hpos, hk] at k1'
  injection k1' with k1'
  injection k1' with e1 e2
  subst e1
  rw [hx]
  exact .osl (RC.nil _) (by show _ < κ.n + 1; rw [h.n]; exact Nat.lt_succ_self _) frn (Nat.le_refl _) (fun _ => svn.symm) (by simp)
end
end Go.Lamb
namespace Go.Lamb
open Go Go.RowKit
theorem freeze_other (w : World) (g n k : Nat) (h : k ≠ g) : (w.freeze ⟨g, 0, none⟩ n).heap[k]? = w.heap[k]? := by
  unfold World.freeze
  split
  · rfl
  · simp only [Array.getElem?_modify]
    rw [if_neg (Ne.symm h)]
theorem freeze_cell (w : World) (g n k o : Nat) : (w.freeze ⟨g, 0, none⟩ n).cell? ⟨k, o, none⟩ = w.cell? ⟨k, o, none⟩ := by
  by_cases h : k = g
  · subst h
    unfold World.freeze
    split
    · rfl
    · unfold World.cell?
      simp only [Array.getElem?_modify, if_true]
      cases w.heap[k]? with
      | none => rfl
      | some x => cases x <;> rfl
  · exact World.cell?_of_block (w := w) (a := ⟨k, o, none⟩) (freeze_other w g n k h)
theorem Rep.gone {w0 w : World} {κ : K} {σ : H} (h : Rep w0 κ σ w) {v g n : Nat} {e : TypeId} {size m : Nat} (hv : σ[v]? = some (.spare e size m)) (hg : heldBy (κ.sv v) = some g) (hown : w0.heap.size ≤ g) : Rep w0 κ (σ.set v .gone) (w.freeze ⟨g, 0, none⟩ n) := by
  obtain ⟨hlt, hv'⟩ := List.getElem?_eq_some_iff.1 hv
  refine ⟨by simpa using h.n, Lib.below_freeze h.ext (p := ⟨g, 0, none⟩) hown n, fun x o u hm => by rw [freeze_cell]; exact h.mem x o u hm, fun x hx => ?_, fun x y hx hy q hne => ?_⟩
  · have hx' : x < σ.length := by simpa using hx
    by_cases hxv : x = v
    · subst hxv
      rw [List.getElem_set_self]
      trivial
    · rw [List.getElem_set_ne (Ne.symm hxv)]
      refine Blk.is_of (h.blk x hx') fun q hq => freeze_other w g n q fun e => ?_
      subst e
      exact h.apart x v hx' hlt _ hxv hq (by rw [hv']; exact hg)
  · have hx' : x < σ.length := by simpa using hx
    have hy' : y < σ.length := by simpa using hy
    by_cases hxv : x = v
    · subst hxv
      rw [List.getElem_set_self]
      intro hq
      cases hq
    · by_cases hyv : y = v
      · subst hyv
        intro _
        rw [List.getElem_set_self]
        intro hq
        cases hq
      · rw [List.getElem_set_ne (Ne.symm hxv), List.getElem_set_ne (Ne.symm hyv)]
        exact h.apart x y hx' hy' q hne
end Go.Lamb

/-
  Plain: slices as lists of cells, in a world.
-/
import Derived.Test.YtplgnfciipceiaaGreatDoorQLexSpec
import Derived.Laws.OwnMore
import Derived.Laws.AppendOwn
set_option linter.unusedSimpArgs false
set_option linter.unusedVariables false
set_option maxHeartbeats 8000000
set_option maxRecDepth 20000
namespace Go.Lamb
open Go Go.RowKit

def Sl (w : World) (B size : Nat) (v : Value) (n : Nat) (xs : List Value) : Prop :=
  xs.length = n * size ∧ ∃ A c, v = .slice A n c ∧ n ≤ c ∧ c ≤ maxLen ∧
    (0 < n → ∃ b o, A = some ⟨b, o, none⟩ ∧ b < B ∧ ∀ j u, xs[j]? = some u → w.cell? ⟨b, o + j, none⟩ = some u)

section
variable {w w' : World} {B B' size n : Nat} {v : Value} {xs : List Value}
theorem Sl.nil (w : World) (B size : Nat) : Sl w B size (.slice none 0 0) 0 [] := ⟨by simp, none, 0, rfl, Nat.le_refl _, by unfold maxLen; omega, fun h => absurd h (by omega)⟩
theorem Sl.keep (h : Sl w B size v n xs) (hk : ∀ b o, b < B → w'.cell? ⟨b, o, none⟩ = w.cell? ⟨b, o, none⟩) : Sl w' B size v n xs := by
  obtain ⟨hl, A, c, hv, h1, h2, h3⟩ := h
  refine ⟨hl, A, c, hv, h1, h2, fun hn => ?_⟩
  obtain ⟨b, o, hA, hb, hc⟩ := h3 hn
  exact ⟨b, o, hA, hb, fun j u hu => (hk b _ hb).trans (hc j u hu)⟩
theorem Sl.below (h : Sl w B size v n xs) (hb : Below B w w') : Sl w' B size v n xs := h.keep fun b o hlt => hb.cell (p := ⟨b, o, none⟩) hlt
theorem Sl.more (h : Sl w B size v n xs) (hB : B ≤ B') : Sl w B' size v n xs := by
  obtain ⟨hl, A, c, hv, h1, h2, h3⟩ := h
  refine ⟨hl, A, c, hv, h1, h2, fun hn => ?_⟩
  obtain ⟨b, o, hA, hb, hc⟩ := h3 hn
  exact ⟨b, o, hA, by omega, hc⟩
theorem Sl.ext (h : Sl w w.heap.size size v n xs) (hb : Below w.heap.size w w') : Sl w' w'.heap.size size v n xs := (h.below hb).more hb.size
theorem own_ext {base : Nat} {e : TypeId} (h : w.ownsRow base e size v n xs) (hb : Below w.heap.size w w') : w'.ownsRow base e size v n xs := by
  refine ⟨h.1, ?_⟩
  rcases h.2 with hn | ⟨g, cap, cur, hv, hg, hh, rest⟩
  · exact .inl hn
  · exact .inr ⟨g, cap, cur, hv, hg, by rw [hb.block g (Array.getElem?_eq_some_iff.1 hh).1]; exact hh, rest⟩
theorem own_ne {base : Nat} {e : TypeId} (h : w.ownsRow base e size v n xs) {b : Nat} (hb : w.heap.size ≤ b) : v.ownBlock ≠ some b := by
  intro hv
  have := (h.lt b hv).2
  omega
theorem grown_cell {W w3 : World} {row : Option Nat} {b : Nat} (hg : W.grownBy w3 row) (hb : b < W.heap.size) (hne : row ≠ some b) : ∀ o, w3.cell? ⟨b, o, none⟩ = W.cell? ⟨b, o, none⟩ :=
  fun o => World.cell?_of_block (a := ⟨b, o, none⟩) (hg.block b hb (Ne.symm hne))
theorem fresh_cells (X : World) (cs : List Value) (t : TypeId) (b : Nat) (hb : b = X.heap.size) : ∀ j u, cs[j]? = some u → (X.alloc (.cells cs.toArray t)).cell? ((⟨b, 0, none⟩ : Addr).add j) = some u := by
  subst hb
  intro j u hu
  have hadd : (⟨X.heap.size, 0, none⟩ : Addr).add j = ⟨X.heap.size, j, none⟩ := by unfold Addr.add; split <;> simp_all
  rw [hadd, cell_of_row _ X.heap.size j _ t (0, 0) (heap_alloc_new X _)]
  simpa using hu
theorem Sl.form (h : Sl w B size v n xs) : ∃ A c, v = .slice A n c ∧ n ≤ c ∧ c ≤ maxLen := by
  obtain ⟨_, A, c, hv, h1, h2, _⟩ := h
  exact ⟨A, c, hv, h1, h2⟩
theorem Sl.pos {A : Option Addr} {c : Nat} (h : Sl w B size (.slice A n c) n xs) (hn : 0 < n) :
    ∃ b o, A = some ⟨b, o, none⟩ ∧ b < B ∧ ∀ j u, xs[j]? = some u → w.cell? ⟨b, o + j, none⟩ = some u := by
  obtain ⟨_, A', c', hv, _, _, h3⟩ := h
  injection hv with hA _ hc
  subst hA
  exact h3 hn
end

theorem flat_get {α β : Type} (f : α → List β) (size : Nat) (hf : ∀ x, (f x).length = size) : ∀ (l : List α) (k i : Nat) (hk : k < l.length), i < size →
    (l.flatMap f)[k * size + i]? = (f l[k])[i]?
  | x :: l, 0, i, _, hi => by
    simp only [List.flatMap_cons, Nat.zero_mul, Nat.zero_add, List.getElem_cons_zero]
    rw [List.getElem?_append_left (by rw [hf]; exact hi)]
  | x :: l, k + 1, i, hk, hi => by
    simp only [List.flatMap_cons, List.getElem_cons_succ]
    rw [List.getElem?_append_right (by rw [hf, Nat.add_mul]; omega), hf, show (k + 1) * size + i - size = k * size + i from by rw [Nat.add_mul]; omega]
    exact flat_get f size hf l k i (by simpa using hk) hi
end Go.Lamb

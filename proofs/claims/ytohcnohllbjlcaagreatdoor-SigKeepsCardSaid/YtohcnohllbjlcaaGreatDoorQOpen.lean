/-
  Plain: arguments of the types that the statements name.
-/
import Derived.Test.YtohcnohllbjlcaaGreatDoorQOpenC
import Derived.Test.YtohcnohllbjlcaaGreatDoorChecked
import Derived.Test.YtohcnohllbjlcaaGreatDoorQJ13
import Derived.Test.YtohcnohllbjlcaaGreatDoorQLexRow
set_option linter.unusedSimpArgs false
set_option linter.unusedVariables false
set_option maxHeartbeats 8000000
set_option maxRecDepth 20000
namespace Go.Proofs.YtohcnohllbjlcaaGreatDoor
open Go.ChangeShapes Go.WideShapes Go.ChangeAt Go.RowKit Go.Lamb

theorem cty_int {t : TypeId} {k : IntKind} (hu : Tryz.prog.underlying t = some (.int k)) {zs : List C} (h : CTy Tryz.prog t zs) : ∃ n, zs = [.int k n] := by
  cases h with
  | int ht n hw => rw [hu] at ht; injection ht with ht; injection ht with ht; subst ht; exact ⟨n, rfl⟩
  | bool ht | str ht | sl ht | struct ht => rw [hu] at ht; injection ht with ht; cases ht
theorem cty_str {t : TypeId} (hu : Tryz.prog.underlying t = some .string) {zs : List C} (h : CTy Tryz.prog t zs) : ∃ l, zs = [.str l] := by
  cases h with
  | str ht l => exact ⟨l, rfl⟩
  | int ht | bool ht | sl ht | struct ht => rw [hu] at ht; injection ht with ht; cases ht
theorem cty_sl {t e : TypeId} (hu : Tryz.prog.underlying t = some (.slice e)) {zs : List C} (h : CTy Tryz.prog t zs) : ∃ rows, zs = [.sl rows] ∧ ∀ r ∈ rows, CTy Tryz.prog e r := by
  cases h with
  | sl ht rows h => rw [hu] at ht; injection ht with ht; injection ht with ht; subst ht; exact ⟨rows, rfl, h⟩
  | int ht | bool ht | str ht | struct ht => rw [hu] at ht; injection ht with ht; cases ht
theorem cty_struct {t : TypeId} {fs : Array Field} (hu : Tryz.prog.underlying t = some (.struct fs)) {zs : List C} (h : CTy Tryz.prog t zs) : zs.length = Tryz.prog.cellsOf t ∧ ∀ f ∈ fs.toList, CTy Tryz.prog f.type ((zs.drop f.offset).take (Tryz.prog.cellsOf f.type)) := by
  cases h with
  | struct ht zs hl h => rw [hu] at ht; injection ht with ht; injection ht with ht; subst ht; exact ⟨hl, h⟩
  | int ht | bool ht | str ht | sl ht => rw [hu] at ht; injection ht with ht; cases ht
theorem rows_of {α : Type} {f : α → List C} : ∀ {rows : List (List C)}, (∀ r ∈ rows, ∃ x, r = f x) → ∃ l : List α, rows = l.map f
  | [], _ => ⟨[], rfl⟩
  | r :: rows, h => by
    obtain ⟨x, rfl⟩ := h r (List.mem_cons_self ..)
    obtain ⟨l, rfl⟩ := rows_of (fun r hr => h r (List.mem_cons_of_mem _ hr))
    exact ⟨x :: l, rfl⟩
theorem take_drop1 {zs : List C} {i : Nat} {x : C} (h : (zs.drop i).take 1 = [x]) : zs[i]? = some x := by
  have := congrArg (fun l => l[0]?) h
  simpa [List.getElem?_take, List.getElem?_drop] using this
theorem cells_int : Tryz.prog.cellsOf 3 = 1 := by kernel_rfl
theorem cells_str : Tryz.prog.cellsOf 9 = 1 := by kernel_rfl
theorem cells_fix : Tryz.prog.cellsOf 33 = 1 := by kernel_rfl
theorem cells_pk : Tryz.prog.cellsOf 36 = 1 := by kernel_rfl
theorem cells_pres : Tryz.prog.cellsOf 37 = 1 := by kernel_rfl
theorem cells_op : Tryz.prog.cellsOf 35 = 3 := by kernel_rfl
theorem cells_pre : Tryz.prog.cellsOf 39 = 5 := by kernel_rfl
theorem list3 {zs : List C} {a b c : C} (hl : zs.length = 3) (h0 : zs[0]? = some a) (h1 : zs[1]? = some b) (h2 : zs[2]? = some c) : zs = [a, b, c] := by
  match zs, hl with
  | [x, y, z], _ => simp at h0 h1 h2; subst h0 h1 h2; rfl
theorem list4 {zs : List C} {a b c d : C} (hl : zs.length = 4) (h0 : zs[0]? = some a) (h1 : zs[1]? = some b) (h2 : zs[2]? = some c) (h3 : zs[3]? = some d) : zs = [a, b, c, d] := by
  match zs, hl with
  | [x, y, z, u], _ => simp at h0 h1 h2 h3; subst h0 h1 h2 h3; rfl
theorem list5 {zs : List C} {a b c d e : C} (hl : zs.length = 5) (h0 : zs[0]? = some a) (h1 : zs[1]? = some b) (h2 : zs[2]? = some c) (h3 : zs[3]? = some d) (h4 : zs[4]? = some e) : zs = [a, b, c, d, e] := by
  match zs, hl with
  | [x, y, z, u, v], _ => simp at h0 h1 h2 h3 h4; subst h0 h1 h2 h3 h4; rfl
theorem cty_pre' {t : TypeId} {zs : List C} (h : CTy Tryz.prog t zs) : (t = 39 → ∃ p : Pre, zs = p.cs) ∧ (t = 37 → ∃ l : List Pre, zs = [.sl (l.map Pre.cs)]) := by
  induction h with
  | sl ht rows h ih =>
    refine ⟨fun e => ?_, fun e => ?_⟩
    · subst e; rw [Tryz.underlying39] at ht; injection ht with ht; cases ht
    · subst e; rw [Tryz.underlying37] at ht; injection ht with ht; injection ht with ht; subst ht
      obtain ⟨l, rfl⟩ := rows_of (f := Pre.cs) (fun r hr => (ih r hr).1 rfl)
      exact ⟨l, rfl⟩
  | struct ht zs hl h ih =>
    refine ⟨fun e => ?_, fun e => ?_⟩
    · subst e; rw [Tryz.underlying39] at ht; injection ht with ht; injection ht with ht; subst ht
      simp only [List.forall_mem_cons, cells_str, cells_int, cells_pk, cells_pres, List.not_mem_nil, false_implies, implies_true, and_true] at h ih
      obtain ⟨h0, h1, h2, _, h4⟩ := h
      obtain ⟨_, _, _, h3, _⟩ := ih
      obtain ⟨a, h0⟩ := cty_int Tryz.underlying36 h0
      obtain ⟨b, h1⟩ := cty_str Tryz.underlying9 h1
      obtain ⟨c, h2⟩ := cty_int Tryz.underlying3 h2
      obtain ⟨d, h3⟩ := h3.2 trivial
      obtain ⟨f, h4⟩ := cty_int Tryz.underlying3 h4
      refine ⟨.mk a b c d f, ?_⟩
      rw [Pre.cs_eq]
      exact list5 (by rw [hl, cells_pre]) (take_drop1 h0) (take_drop1 h1) (take_drop1 h2) (take_drop1 h3) (take_drop1 h4)
    · subst e; rw [Tryz.underlying37] at ht; injection ht with ht; cases ht
  | bool ht | int ht | str ht =>
    refine ⟨fun e => ?_, fun e => ?_⟩
    · subst e; rw [Tryz.underlying39] at ht; injection ht with ht; cases ht
    · subst e; rw [Tryz.underlying37] at ht; injection ht with ht; cases ht
section
variable {H : Type} {enc : TypeId × Value → H} {w : World} {base : Nat} {spare : Nat → Bool} {held : Bool} {v : Value} {d : DataW H} {ps : List MemPlace} {r : Reach} {b0 : Nat}
end
end Go.Proofs.YtohcnohllbjlcaaGreatDoor

/-
  Plain: arguments of the types that the statements name.
-/
import Derived.Test.YtohcnohllbjlcaaDoorQOpenC
import Derived.Test.YtohcnohllbjlcaaDoorChecked
import Derived.Test.YtohcnohllbjlcaaDoorQAid
import Derived.Test.YtohcnohllbjlcaaDoorQLexRow
set_option linter.unusedSimpArgs false
set_option linter.unusedVariables false
set_option maxHeartbeats 8000000
set_option maxRecDepth 20000
namespace Go.Proofs.YtohcnohllbjlcaaDoor
open Go.ChangeShapes Go.WideShapes Go.ChangeAt Go.RowKit Go.Lamb

theorem cty_int {t : TypeId} {k : IntKind} (hu : Tryd.prog.underlying t = some (.int k)) {zs : List C} (h : CTy Tryd.prog t zs) : ∃ n, zs = [.int k n] := by
  cases h with
  | int ht n hw => rw [hu] at ht; injection ht with ht; injection ht with ht; subst ht; exact ⟨n, rfl⟩
  | bool ht | str ht | sl ht | struct ht => rw [hu] at ht; injection ht with ht; cases ht
theorem cty_str {t : TypeId} (hu : Tryd.prog.underlying t = some .string) {zs : List C} (h : CTy Tryd.prog t zs) : ∃ l, zs = [.str l] := by
  cases h with
  | str ht l => exact ⟨l, rfl⟩
  | int ht | bool ht | sl ht | struct ht => rw [hu] at ht; injection ht with ht; cases ht
theorem cty_struct {t : TypeId} {fs : Array Field} (hu : Tryd.prog.underlying t = some (.struct fs)) {zs : List C} (h : CTy Tryd.prog t zs) : zs.length = Tryd.prog.cellsOf t ∧ ∀ f ∈ fs.toList, CTy Tryd.prog f.type ((zs.drop f.offset).take (Tryd.prog.cellsOf f.type)) := by
  cases h with
  | struct ht zs hl h => rw [hu] at ht; injection ht with ht; injection ht with ht; subst ht; exact ⟨hl, h⟩
  | int ht | bool ht | str ht | sl ht => rw [hu] at ht; injection ht with ht; cases ht
theorem rows_of {α : Type} {f : α → List C} : ∀ {rows : List (List C)}, (∀ r ∈ rows, ∃ x, r = f x) → ∃ l : List α, rows = l.map f
  | [], _ => ⟨[], rfl⟩
  | r :: rows, h => by
    obtain ⟨x, rfl⟩ := h r (List.mem_cons_self ..)
    obtain ⟨l, rfl⟩ := rows_of (fun r hr => h r (List.mem_cons_of_mem _ hr))
    exact ⟨x :: l, rfl⟩
theorem take_drop1 {zs : List C} {i : Nat} {x : C} (h : (zs.drop i).take 1 = [x]) : zs[i]? = some x := by
  have := congrArg (fun l => l[0]?) h
  simpa [List.getElem?_take, List.getElem?_drop] using this
theorem cells_int : Tryd.prog.cellsOf 3 = 1 := by kernel_rfl
theorem cells_str : Tryd.prog.cellsOf 9 = 1 := by kernel_rfl
theorem cells_tk : Tryd.prog.cellsOf 22 = 1 := by kernel_rfl
theorem cells_tok : Tryd.prog.cellsOf 24 = 4 := by kernel_rfl
theorem list4 {zs : List C} {a b c d : C} (hl : zs.length = 4) (h0 : zs[0]? = some a) (h1 : zs[1]? = some b) (h2 : zs[2]? = some c) (h3 : zs[3]? = some d) : zs = [a, b, c, d] := by
  match zs, hl with
  | [x, y, z, u], _ => simp at h0 h1 h2 h3; subst h0 h1 h2 h3; rfl
section
variable {H : Type} {enc : TypeId × Value → H} {w : World} {base : Nat} {spare : Nat → Bool} {held : Bool} {v : Value} {d : DataW H} {ps : List MemPlace} {r : Reach} {b0 : Nat}
end
end Go.Proofs.YtohcnohllbjlcaaDoor

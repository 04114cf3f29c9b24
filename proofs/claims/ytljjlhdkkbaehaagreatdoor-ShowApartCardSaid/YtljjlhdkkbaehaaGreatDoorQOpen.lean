/-
  Plain: arguments of the types that the statements name.
-/
import Derived.Test.YtljjlhdkkbaehaaGreatDoorQOpenC
import Derived.Test.YtljjlhdkkbaehaaGreatDoorChecked
import Derived.Test.YtljjlhdkkbaehaaGreatDoorQJ15
import Derived.Test.YtljjlhdkkbaehaaGreatDoorQLexRow
set_option linter.unusedSimpArgs false
set_option linter.unusedVariables false
set_option maxHeartbeats 8000000
set_option maxRecDepth 20000
namespace Go.Proofs.YtljjlhdkkbaehaaGreatDoor
open Go.ChangeShapes Go.WideShapes Go.ChangeAt Go.RowKit Go.Lamb

def plainTys : List TypeId := [3, 9, 4, 48, 22, 46, 26, 24, 23, 72, 34, 70]
theorem plainTys_ok : ∀ t, (plainTys.contains t) = true → plainB Tryz.prog (fun t => plainTys.contains t) t = true := by
  have h : (plainTys.all fun t => plainB Tryz.prog (fun t => plainTys.contains t) t) = true := by kernel_rfl
  intro t ht
  exact List.all_eq_true.1 h t (by simpa using ht)
theorem cty_int {t : TypeId} {k : IntKind} (hu : Tryz.prog.underlying t = some (.int k)) {zs : List C} (h : CTy Tryz.prog t zs) : ∃ n, zs = [.int k n] := by
  cases h with
  | int ht n hw => rw [hu] at ht; injection ht with ht; injection ht with ht; subst ht; exact ⟨n, rfl⟩
  | bool ht | str ht | sl ht | struct ht => rw [hu] at ht; injection ht with ht; cases ht
theorem cty_str {t : TypeId} (hu : Tryz.prog.underlying t = some .string) {zs : List C} (h : CTy Tryz.prog t zs) : ∃ l, zs = [.str l] := by
  cases h with
  | str ht l => exact ⟨l, rfl⟩
  | int ht | bool ht | sl ht | struct ht => rw [hu] at ht; injection ht with ht; cases ht
theorem cty_sl {t e : TypeId} (hu : Tryz.prog.underlying t = some (.slice e)) {zs : List C} (h : CTy Tryz.prog t zs) : ∃ rows, zs = [.sl rows] ∧ ∀ r ∈ rows, CTy Tryz.prog e r := by
  cases h with
  | sl ht rows h => rw [hu] at ht; injection ht with ht; injection ht with ht; subst ht; exact ⟨rows, rfl, h⟩
  | int ht | bool ht | str ht | struct ht => rw [hu] at ht; injection ht with ht; cases ht
theorem cty_struct {t : TypeId} {fs : Array Field} (hu : Tryz.prog.underlying t = some (.struct fs)) {zs : List C} (h : CTy Tryz.prog t zs) : zs.length = Tryz.prog.cellsOf t ∧ ∀ f ∈ fs.toList, CTy Tryz.prog f.type ((zs.drop f.offset).take (Tryz.prog.cellsOf f.type)) := by
  cases h with
  | struct ht zs hl h => rw [hu] at ht; injection ht with ht; injection ht with ht; subst ht; exact ⟨hl, h⟩
  | int ht | bool ht | str ht | sl ht => rw [hu] at ht; injection ht with ht; cases ht
theorem rows_of {α : Type} {f : α → List C} : ∀ {rows : List (List C)}, (∀ r ∈ rows, ∃ x, r = f x) → ∃ l : List α, rows = l.map f
  | [], _ => ⟨[], rfl⟩
  | r :: rows, h => by
    obtain ⟨x, rfl⟩ := h r (List.mem_cons_self ..)
    obtain ⟨l, rfl⟩ := rows_of (fun r hr => h r (List.mem_cons_of_mem _ hr))
    exact ⟨x :: l, rfl⟩
theorem take_drop1 {zs : List C} {i : Nat} {x : C} (h : (zs.drop i).take 1 = [x]) : zs[i]? = some x := by
  have := congrArg (fun l => l[0]?) h
  simpa [List.getElem?_take, List.getElem?_drop] using this
theorem cells_int : Tryz.prog.cellsOf 3 = 1 := by kernel_rfl
theorem cells_str : Tryz.prog.cellsOf 9 = 1 := by kernel_rfl
theorem cells_fix : Tryz.prog.cellsOf 46 = 1 := by kernel_rfl
theorem cells_pk : Tryz.prog.cellsOf 23 = 1 := by kernel_rfl
theorem cells_pres : Tryz.prog.cellsOf 24 = 1 := by kernel_rfl
theorem cells_op : Tryz.prog.cellsOf 48 = 3 := by kernel_rfl
theorem cells_pre : Tryz.prog.cellsOf 26 = 5 := by kernel_rfl
theorem list3 {zs : List C} {a b c : C} (hl : zs.length = 3) (h0 : zs[0]? = some a) (h1 : zs[1]? = some b) (h2 : zs[2]? = some c) : zs = [a, b, c] := by
  match zs, hl with
  | [x, y, z], _ => simp at h0 h1 h2; subst h0 h1 h2; rfl
theorem list5 {zs : List C} {a b c d e : C} (hl : zs.length = 5) (h0 : zs[0]? = some a) (h1 : zs[1]? = some b) (h2 : zs[2]? = some c) (h3 : zs[3]? = some d) (h4 : zs[4]? = some e) : zs = [a, b, c, d, e] := by
  match zs, hl with
  | [x, y, z, u, v], _ => simp at h0 h1 h2 h3 h4; subst h0 h1 h2 h3 h4; rfl
theorem cty_op {zs : List C} (h : CTy Tryz.prog 48 zs) : ∃ o : OpT, zs = o.cs := by
  obtain ⟨hl, hf⟩ := cty_struct Tryz.underlying48 h
  simp only [List.forall_mem_cons, cells_str, cells_int, cells_fix, List.not_mem_nil, false_implies, implies_true, and_true] at hf
  obtain ⟨h0, h1, h2⟩ := hf
  obtain ⟨a, h0⟩ := cty_str Tryz.underlying9 h0
  obtain ⟨b, h1⟩ := cty_int Tryz.underlying3 h1
  obtain ⟨c, h2⟩ := cty_int Tryz.underlying46 h2
  exact ⟨⟨a, b, c⟩, list3 (by rw [hl, cells_op]) (take_drop1 h0) (take_drop1 h1) (take_drop1 h2)⟩
theorem cty_ops {zs : List C} (h : CTy Tryz.prog 22 zs) : ∃ l : List OpT, zs = [opsC l] := by
  obtain ⟨rows, rfl, hr'⟩ := cty_sl Tryz.underlying22 h
  obtain ⟨l, rfl⟩ := rows_of (f := OpT.cs) (fun r hr => cty_op (hr' r hr))
  exact ⟨l, rfl⟩
section
variable {H : Type} {enc : TypeId × Value → H} {w : World} {base : Nat} {spare : Nat → Bool} {held : Bool} {v : Value} {d : DataW H} {ps : List MemPlace} {r : Reach} {b0 : Nat}
theorem sl_cells {t e : TypeId} (hu : Tryz.prog.underlying t = some (.slice e)) (hval : Value.okWide Tryz.prog w r b0 t v) : v.cells.toList = [v] := by
  obtain ⟨a, l, c, rfl⟩ := okWide_slice hu hval
  rfl
theorem open_ops (hval : Value.okWide Tryz.prog w r b0 22 v) (h : DataW.Trod enc Tryz.prog w base spare held 22 v d ps) : ∃ l : List OpT, RV (K.start w) (.c (opsC l)) v := by
  obtain ⟨z, h1, h2⟩ := open_C1 plainTys_ok (by decide) (sl_cells Tryz.underlying22 hval) h
  obtain ⟨l, hl⟩ := cty_ops h1
  injection hl with hl
  subst hl
  exact ⟨l, h2⟩
end
end Go.Proofs.YtljjlhdkkbaehaaGreatDoor

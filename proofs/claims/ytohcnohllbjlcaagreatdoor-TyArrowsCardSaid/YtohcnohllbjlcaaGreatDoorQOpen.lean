/-
  Plain: arguments of the types that the statements name.
-/
import Derived.Test.YtohcnohllbjlcaaGreatDoorQOpenC
import Derived.Test.YtohcnohllbjlcaaGreatDoorChecked
import Derived.Test.YtohcnohllbjlcaaGreatDoorQJ9
import Derived.Test.YtohcnohllbjlcaaGreatDoorQLexRow
set_option linter.unusedSimpArgs false
set_option linter.unusedVariables false
set_option maxHeartbeats 8000000
set_option maxRecDepth 20000
namespace Go.Proofs.YtohcnohllbjlcaaGreatDoor
open Go.ChangeShapes Go.WideShapes Go.ChangeAt Go.RowKit Go.Lamb

def plainTys : List TypeId := [3, 9, 4, 35, 24, 33, 39, 37, 36, 60, 57, 58]
theorem plainTys_ok : ∀ t, (plainTys.contains t) = true → plainB Tryz.prog (fun t => plainTys.contains t) t = true := by
  have h : (plainTys.all fun t => plainB Tryz.prog (fun t => plainTys.contains t) t) = true := by kernel_rfl
  intro t ht
  exact List.all_eq_true.1 h t (by simpa using ht)
theorem cty_int {t : TypeId} {k : IntKind} (hu : Tryz.prog.underlying t = some (.int k)) {zs : List C} (h : CTy Tryz.prog t zs) : ∃ n, zs = [.int k n] := by
  cases h with
  | int ht n hw => rw [hu] at ht; injection ht with ht; injection ht with ht; subst ht; exact ⟨n, rfl⟩
  | bool ht | str ht | sl ht | struct ht => rw [hu] at ht; injection ht with ht; cases ht
theorem cty_str {t : TypeId} (hu : Tryz.prog.underlying t = some .string) {zs : List C} (h : CTy Tryz.prog t zs) : ∃ l, zs = [.str l] := by
  cases h with
  | str ht l => exact ⟨l, rfl⟩
  | int ht | bool ht | sl ht | struct ht => rw [hu] at ht; injection ht with ht; cases ht
theorem cty_sl {t e : TypeId} (hu : Tryz.prog.underlying t = some (.slice e)) {zs : List C} (h : CTy Tryz.prog t zs) : ∃ rows, zs = [.sl rows] ∧ ∀ r ∈ rows, CTy Tryz.prog e r := by
  cases h with
  | sl ht rows h => rw [hu] at ht; injection ht with ht; injection ht with ht; subst ht; exact ⟨rows, rfl, h⟩
  | int ht | bool ht | str ht | struct ht => rw [hu] at ht; injection ht with ht; cases ht
theorem cty_struct {t : TypeId} {fs : Array Field} (hu : Tryz.prog.underlying t = some (.struct fs)) {zs : List C} (h : CTy Tryz.prog t zs) : zs.length = Tryz.prog.cellsOf t ∧ ∀ f ∈ fs.toList, CTy Tryz.prog f.type ((zs.drop f.offset).take (Tryz.prog.cellsOf f.type)) := by
  cases h with
  | struct ht zs hl h => rw [hu] at ht; injection ht with ht; injection ht with ht; subst ht; exact ⟨hl, h⟩
  | int ht | bool ht | str ht | sl ht => rw [hu] at ht; injection ht with ht; cases ht
theorem rows_of {α : Type} {f : α → List C} : ∀ {rows : List (List C)}, (∀ r ∈ rows, ∃ x, r = f x) → ∃ l : List α, rows = l.map f
  | [], _ => ⟨[], rfl⟩
  | r :: rows, h => by
    obtain ⟨x, rfl⟩ := h r (List.mem_cons_self ..)
    obtain ⟨l, rfl⟩ := rows_of (fun r hr => h r (List.mem_cons_of_mem _ hr))
    exact ⟨x :: l, rfl⟩
theorem take_drop1 {zs : List C} {i : Nat} {x : C} (h : (zs.drop i).take 1 = [x]) : zs[i]? = some x := by
  have := congrArg (fun l => l[0]?) h
  simpa [List.getElem?_take, List.getElem?_drop] using this
theorem cells_int : Tryz.prog.cellsOf 3 = 1 := by kernel_rfl
theorem cells_str : Tryz.prog.cellsOf 9 = 1 := by kernel_rfl
theorem cells_tk : Tryz.prog.cellsOf 58 = 1 := by kernel_rfl
theorem cells_tok : Tryz.prog.cellsOf 60 = 4 := by kernel_rfl
theorem list4 {zs : List C} {a b c d : C} (hl : zs.length = 4) (h0 : zs[0]? = some a) (h1 : zs[1]? = some b) (h2 : zs[2]? = some c) (h3 : zs[3]? = some d) : zs = [a, b, c, d] := by
  match zs, hl with
  | [x, y, z, u], _ => simp at h0 h1 h2 h3; subst h0 h1 h2 h3; rfl
theorem cty_tok {zs : List C} (h : CTy Tryz.prog 60 zs) : ∃ o : Lamb.Tok, zs = o.cs := by
  obtain ⟨hl, hf⟩ := cty_struct Tryz.underlying60 h
  simp only [List.forall_mem_cons, cells_str, cells_int, cells_tk, List.not_mem_nil, false_implies, implies_true, and_true] at hf
  obtain ⟨h0, h1, h2, h3⟩ := hf
  obtain ⟨a, h0⟩ := cty_int Tryz.underlying58 h0
  obtain ⟨b, h1⟩ := cty_str Tryz.underlying9 h1
  obtain ⟨c, h2⟩ := cty_int Tryz.underlying3 h2
  obtain ⟨d, h3⟩ := cty_int Tryz.underlying3 h3
  exact ⟨⟨a, b, c, d⟩, list4 (by rw [hl, cells_tok]) (take_drop1 h0) (take_drop1 h1) (take_drop1 h2) (take_drop1 h3)⟩
theorem cty_toks {zs : List C} (h : CTy Tryz.prog 57 zs) : ∃ l : List Lamb.Tok, zs = [toksC l] := by
  obtain ⟨rows, rfl, hr'⟩ := cty_sl Tryz.underlying57 h
  obtain ⟨l, rfl⟩ := rows_of (f := Lamb.Tok.cs) (fun r hr => cty_tok (hr' r hr))
  exact ⟨l, rfl⟩
section
variable {H : Type} {enc : TypeId × Value → H} {w : World} {base : Nat} {spare : Nat → Bool} {held : Bool} {v : Value} {d : DataW H} {ps : List MemPlace} {r : Reach} {b0 : Nat}
theorem sl_cells {t e : TypeId} (hu : Tryz.prog.underlying t = some (.slice e)) (hval : Value.okWide Tryz.prog w r b0 t v) : v.cells.toList = [v] := by
  obtain ⟨a, l, c, rfl⟩ := okWide_slice hu hval
  rfl
theorem open_toks (hval : Value.okWide Tryz.prog w r b0 57 v) (h : DataW.Trod enc Tryz.prog w base spare held 57 v d ps) : ∃ l : List Lamb.Tok, RV (K.start w) (.c (toksC l)) v := by
  obtain ⟨z, h1, h2⟩ := open_C1 plainTys_ok (by decide) (sl_cells Tryz.underlying57 hval) h
  obtain ⟨l, hl⟩ := cty_toks h1
  injection hl with hl
  subst hl
  exact ⟨l, h2⟩
theorem open_intX (hval : Value.okWide Tryz.prog w r b0 3 v) (h : DataW.Trod enc Tryz.prog w base spare held 3 v d ps) : ∃ n, v = .int .i64 n ∧ d = .lit (.int .i64 n) ∧ ps = [] ∧ (Lit.int .i64 n).wf = true := open_int Tryz.underlying3 hval h
end
end Go.Proofs.YtohcnohllbjlcaaGreatDoor

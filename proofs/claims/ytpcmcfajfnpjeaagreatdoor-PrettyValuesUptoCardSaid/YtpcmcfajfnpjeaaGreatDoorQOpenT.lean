/-
  Plain: arguments that are types.
-/
import Derived.Test.YtpcmcfajfnpjeaaGreatDoorQOpen
import Derived.Test.YtpcmcfajfnpjeaaGreatDoorQJ14
set_option linter.unusedSimpArgs false
set_option linter.unusedVariables false
set_option maxHeartbeats 8000000
set_option maxRecDepth 20000
namespace Go.Proofs.YtpcmcfajfnpjeaaGreatDoor
open Go.ChangeShapes Go.WideShapes Go.ChangeAt Go.RowKit Go.Lamb

theorem cty_intR {t : TypeId} (hu : Tryz.prog.underlying t = some (.int .i64)) {zs : List C} (h : CTy Tryz.prog t zs) : ∃ n, zs = [.int .i64 n] ∧ inI n := by
  cases h with
  | int ht n hw =>
    rw [hu] at ht; injection ht with ht; injection ht with ht; subst ht
    refine ⟨n, rfl, ?_⟩
    simp only [Lit.wf, Bool.and_eq_true, decide_eq_true_eq] at hw
    unfold inI
    have h1 : IntKind.i64.min = -9223372036854775808 := by decide
    have h2 : IntKind.i64.max = 9223372036854775807 := by decide
    rw [h1, h2] at hw
    exact hw
  | bool ht | str ht | sl ht | struct ht => rw [hu] at ht; injection ht with ht; cases ht
theorem cells_tyk : Tryz.prog.cellsOf 45 = 1 := by kernel_rfl
theorem cells_tys : Tryz.prog.cellsOf 46 = 1 := by kernel_rfl
theorem cells_ty : Tryz.prog.cellsOf 48 = 4 := by kernel_rfl
theorem rows_ofP {α : Type} {f : α → List C} {q : α → Prop} : ∀ {rows : List (List C)}, (∀ r ∈ rows, ∃ x, r = f x ∧ q x) → ∃ l : List α, rows = l.map f ∧ ∀ x ∈ l, q x
  | [], _ => ⟨[], rfl, fun _ h => by cases h⟩
  | r :: rows, h => by
    obtain ⟨x, rfl, hx⟩ := h r (List.mem_cons_self ..)
    obtain ⟨l, rfl, hl⟩ := rows_ofP (fun r hr => h r (List.mem_cons_of_mem _ hr))
    refine ⟨x :: l, rfl, fun y hy => ?_⟩
    rcases List.mem_cons.1 hy with rfl | hy
    · exact hx
    · exact hl y hy
theorem cty_ty' {t : TypeId} {zs : List C} (h : CTy Tryz.prog t zs) : (t = 48 → ∃ p : Typ, zs = p.cs ∧ OkT p) ∧ (t = 46 → ∃ l : List Typ, zs = [tysC l] ∧ ∀ x ∈ l, OkT x) := by
  induction h with
  | sl ht rows h ih =>
    refine ⟨fun e => ?_, fun e => ?_⟩
    · subst e; rw [Tryz.underlying48] at ht; injection ht with ht; cases ht
    · subst e; rw [Tryz.underlying46] at ht; injection ht with ht; injection ht with ht; subst ht
      obtain ⟨l, rfl, hl⟩ := rows_ofP (f := Typ.cs) (q := OkT) (fun r hr => (ih r hr).1 rfl)
      exact ⟨l, rfl, hl⟩
  | struct ht zs hl h ih =>
    refine ⟨fun e => ?_, fun e => ?_⟩
    · subst e; rw [Tryz.underlying48] at ht; injection ht with ht; injection ht with ht; subst ht
      simp only [List.forall_mem_cons, cells_str, cells_int, cells_tyk, cells_tys, List.not_mem_nil, false_implies, implies_true, and_true] at h ih
      obtain ⟨h0, h1, h2, _⟩ := h
      obtain ⟨_, _, _, h3⟩ := ih
      obtain ⟨a, h0, ha⟩ := cty_intR Tryz.underlying45 h0
      obtain ⟨b, h1⟩ := cty_str Tryz.underlying9 h1
      obtain ⟨c, h2, hc⟩ := cty_intR Tryz.underlying3 h2
      obtain ⟨d, h3, hd⟩ := h3.2 trivial
      refine ⟨.mk a b c d, ?_, .mk ha hc hd⟩
      rw [Typ.cs_eq]
      exact list4 (by rw [hl, cells_ty]) (take_drop1 h0) (take_drop1 h1) (take_drop1 h2) (take_drop1 h3)
    · subst e; rw [Tryz.underlying46] at ht; injection ht with ht; cases ht
  | bool ht | int ht | str ht =>
    refine ⟨fun e => ?_, fun e => ?_⟩
    · subst e; rw [Tryz.underlying48] at ht; injection ht with ht; cases ht
    · subst e; rw [Tryz.underlying46] at ht; injection ht with ht; cases ht
section
variable {H : Type} {enc : TypeId × Value → H} {w : World} {base : Nat} {spare : Nat → Bool} {held : Bool} {v : Value} {d : DataW H} {ps : List MemPlace} {r : Reach} {b0 : Nat}
end
end Go.Proofs.YtpcmcfajfnpjeaaGreatDoor

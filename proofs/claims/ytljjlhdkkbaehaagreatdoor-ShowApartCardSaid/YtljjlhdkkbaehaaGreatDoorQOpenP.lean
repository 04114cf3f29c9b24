/-
  Plain: arguments that are trees, with what is known of their numbers.
-/
import Derived.Test.YtljjlhdkkbaehaaGreatDoorQOpen
import Derived.Test.YtljjlhdkkbaehaaGreatDoorQJ15
set_option linter.unusedSimpArgs false
set_option linter.unusedVariables false
set_option maxHeartbeats 8000000
set_option maxRecDepth 20000
namespace Go.Proofs.YtljjlhdkkbaehaaGreatDoor
open Go.ChangeShapes Go.WideShapes Go.ChangeAt Go.RowKit Go.Lamb
theorem cty_intP {t : TypeId} (hu : Tryz.prog.underlying t = some (.int .i64)) {zs : List C} (h : CTy Tryz.prog t zs) : ∃ n, zs = [.int .i64 n] ∧ n ≤ 9223372036854775807 := by
  cases h with
  | int ht n hw =>
    rw [hu] at ht; injection ht with ht; injection ht with ht; subst ht
    refine ⟨n, rfl, ?_⟩
    simp only [Lit.wf, Bool.and_eq_true, decide_eq_true_eq] at hw
    have h2 : IntKind.i64.max = 9223372036854775807 := by decide
    rw [h2] at hw
    exact hw.2
  | bool ht | str ht | sl ht | struct ht => rw [hu] at ht; injection ht with ht; cases ht
theorem rows_ofO {α : Type} {f : α → List C} {q : α → Prop} : ∀ {rows : List (List C)}, (∀ r ∈ rows, ∃ x, r = f x ∧ q x) → ∃ l : List α, rows = l.map f ∧ ∀ x ∈ l, q x
  | [], _ => ⟨[], rfl, fun _ h => by cases h⟩
  | r :: rows, h => by
    obtain ⟨x, rfl, hx⟩ := h r (List.mem_cons_self ..)
    obtain ⟨l, rfl, hl⟩ := rows_ofO (fun r hr => h r (List.mem_cons_of_mem _ hr))
    refine ⟨x :: l, rfl, fun y hy => ?_⟩
    rcases List.mem_cons.1 hy with rfl | hy
    · exact hx
    · exact hl y hy
theorem cty_preO {t : TypeId} {zs : List C} (h : CTy Tryz.prog t zs) : (t = 26 → ∃ p : Pre, zs = p.cs ∧ OkP p) ∧ (t = 24 → ∃ l : List Pre, zs = [.sl (l.map Pre.cs)] ∧ ∀ x ∈ l, OkP x) := by
  induction h with
  | sl ht rows h ih =>
    refine ⟨fun e => ?_, fun e => ?_⟩
    · subst e; rw [Tryz.underlying26] at ht; injection ht with ht; cases ht
    · subst e; rw [Tryz.underlying24] at ht; injection ht with ht; injection ht with ht; subst ht
      obtain ⟨l, rfl, hl⟩ := rows_ofO (f := Pre.cs) (q := OkP) (fun r hr => (ih r hr).1 rfl)
      exact ⟨l, rfl, hl⟩
  | struct ht zs hl h ih =>
    refine ⟨fun e => ?_, fun e => ?_⟩
    · subst e; rw [Tryz.underlying26] at ht; injection ht with ht; injection ht with ht; subst ht
      simp only [List.forall_mem_cons, cells_str, cells_int, cells_pk, cells_pres, List.not_mem_nil, false_implies, implies_true, and_true] at h ih
      obtain ⟨h0, h1, h2, _, h4⟩ := h
      obtain ⟨_, _, _, h3, _⟩ := ih
      obtain ⟨a, h0⟩ := cty_int Tryz.underlying23 h0
      obtain ⟨b, h1⟩ := cty_str Tryz.underlying9 h1
      obtain ⟨c, h2, hc⟩ := cty_intP Tryz.underlying3 h2
      obtain ⟨d, h3, hd⟩ := h3.2 trivial
      obtain ⟨f, h4⟩ := cty_int Tryz.underlying3 h4
      refine ⟨.mk a b c d f, ?_, .mk hc hd⟩
      rw [Pre.cs_eq]
      exact list5 (by rw [hl, cells_pre]) (take_drop1 h0) (take_drop1 h1) (take_drop1 h2) (take_drop1 h3) (take_drop1 h4)
    · subst e; rw [Tryz.underlying24] at ht; injection ht with ht; cases ht
  | bool ht | int ht | str ht =>
    refine ⟨fun e => ?_, fun e => ?_⟩
    · subst e; rw [Tryz.underlying26] at ht; injection ht with ht; cases ht
    · subst e; rw [Tryz.underlying24] at ht; injection ht with ht; cases ht
section
variable {H : Type} {enc : TypeId × Value → H} {w : World} {base : Nat} {spare : Nat → Bool} {held : Bool} {v : Value} {d : DataW H} {ps : List MemPlace} {r : Reach} {b0 : Nat}
theorem open_preO (hval : Value.okWide Tryz.prog w r b0 26 v) (h : DataW.Trod enc Tryz.prog w base spare held 26 v d ps) : ∃ p : Pre, RV (K.start w) p.v v ∧ OkP p := by
  obtain ⟨xs, rfl, _⟩ := okWide_struct Tryz.underlying26 hval
  obtain ⟨zs, h1, h2⟩ := open_Cn plainTys_ok (by decide) h
  obtain ⟨p, rfl, ho⟩ := (cty_preO h1).1 rfl
  refine ⟨p, ?_, ho⟩
  rw [Pre.cs_eq] at h2
  exact h2
end
end Go.Proofs.YtljjlhdkkbaehaaGreatDoor

/-
  Plain: an argument that is a token.
-/
import Derived.Test.YtohcnohllbjlcaaDoorQOpen
set_option linter.unusedSimpArgs false
set_option linter.unusedVariables false
set_option maxHeartbeats 8000000
set_option maxRecDepth 20000
namespace Go.Proofs.YtohcnohllbjlcaaDoor
open Go.ChangeShapes Go.WideShapes Go.ChangeAt Go.RowKit Go.Lamb

def plainTysK : List TypeId := [3, 9, 24, 22]
theorem plainTysK_ok : ∀ t, (plainTysK.contains t) = true → plainB Tryd.prog (fun t => plainTysK.contains t) t = true := by
  have h : (plainTysK.all fun t => plainB Tryd.prog (fun t => plainTysK.contains t) t) = true := by kernel_rfl
  intro t ht
  exact List.all_eq_true.1 h t (by simpa using ht)
theorem cty_intK {t : TypeId} (hu : Tryd.prog.underlying t = some (.int .i64)) {zs : List C} (h : CTy Tryd.prog t zs) : ∃ n, zs = [.int .i64 n] ∧ n ≤ 9223372036854775807 := by
  cases h with
  | int ht n hw =>
    rw [hu] at ht; injection ht with ht; injection ht with ht; subst ht
    refine ⟨n, rfl, ?_⟩
    simp only [Lit.wf, Bool.and_eq_true, decide_eq_true_eq] at hw
    have h2 : IntKind.i64.max = 9223372036854775807 := by decide
    rw [h2] at hw
    exact hw.2
  | bool ht | str ht | sl ht | struct ht => rw [hu] at ht; injection ht with ht; cases ht
theorem cty_tokK {zs : List C} (h : CTy Tryd.prog 24 zs) : ∃ o : Lamb.Tok, zs = o.cs ∧ o.n ≤ 9223372036854775807 := by
  obtain ⟨hl, hf⟩ := cty_struct Tryd.underlying24 h
  simp only [List.forall_mem_cons, cells_str, cells_int, cells_tk, List.not_mem_nil, false_implies, implies_true, and_true] at hf
  obtain ⟨h0, h1, h2, h3⟩ := hf
  obtain ⟨a, h0⟩ := cty_int Tryd.underlying22 h0
  obtain ⟨b, h1⟩ := cty_str Tryd.underlying9 h1
  obtain ⟨c, h2, hc⟩ := cty_intK Tryd.underlying3 h2
  obtain ⟨d, h3⟩ := cty_int Tryd.underlying3 h3
  exact ⟨⟨a, b, c, d⟩, list4 (by rw [hl, cells_tok]) (take_drop1 h0) (take_drop1 h1) (take_drop1 h2) (take_drop1 h3), hc⟩
section
variable {H : Type} {enc : TypeId × Value → H} {w : World} {base : Nat} {spare : Nat → Bool} {held : Bool} {v : Value} {d : DataW H} {ps : List MemPlace} {r : Reach} {b0 : Nat}
theorem open_tok (hval : Value.okWide Tryd.prog w r b0 24 v) (h : DataW.Trod enc Tryd.prog w base spare held 24 v d ps) : ∃ p : Lamb.Tok, RV (K.start w) p.v v ∧ p.n ≤ 9223372036854775807 := by
  obtain ⟨xs, rfl, _⟩ := okWide_struct Tryd.underlying24 hval
  obtain ⟨zs, h1, h2⟩ := open_Cn plainTysK_ok (by decide) h
  obtain ⟨p, rfl, hq⟩ := cty_tokK h1
  exact ⟨p, h2, hq⟩
end
end Go.Proofs.YtohcnohllbjlcaaDoor

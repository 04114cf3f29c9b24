/-
  Plain: arguments that are terms, or rows of texts.
-/
import Derived.Test.YtpcmcfajfnpjeaaGreatDoorQOpenS
set_option linter.unusedSimpArgs false
set_option linter.unusedVariables false
set_option maxHeartbeats 8000000
set_option maxRecDepth 20000
namespace Go.Proofs.YtpcmcfajfnpjeaaGreatDoor
open Go.ChangeShapes Go.WideShapes Go.ChangeAt Go.RowKit Go.Lamb

def plainTysM : List TypeId := [3, 9, 31, 30, 28, 27]
theorem plainTysM_ok : ∀ t, (plainTysM.contains t) = true → plainB Tryz.prog (fun t => plainTysM.contains t) t = true := by
  have h : (plainTysM.all fun t => plainB Tryz.prog (fun t => plainTysM.contains t) t) = true := by kernel_rfl
  intro t ht
  exact List.all_eq_true.1 h t (by simpa using ht)
section
variable {H : Type} {enc : TypeId × Value → H} {w : World} {base : Nat} {spare : Nat → Bool} {held : Bool} {v : Value} {d : DataW H} {ps : List MemPlace} {r : Reach} {b0 : Nat}
theorem open_strs (hval : Value.okWide Tryz.prog w r b0 31 v) (h : DataW.Trod enc Tryz.prog w base spare held 31 v d ps) : ∃ l : List Str, RV (K.start w) (.c (strsC l)) v := by
  obtain ⟨z, h1, h2⟩ := open_C1 plainTysM_ok (by decide) (sl_cells Tryz.underlying31 hval) h
  obtain ⟨l, hl⟩ := cty_strs h1
  injection hl with hl
  subst hl
  exact ⟨l, h2⟩
end
end Go.Proofs.YtpcmcfajfnpjeaaGreatDoor

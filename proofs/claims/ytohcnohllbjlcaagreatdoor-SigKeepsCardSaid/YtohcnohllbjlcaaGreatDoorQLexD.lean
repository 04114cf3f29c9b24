/-
  What every call may lean on of the package-level variables; and the walk of lex.skip.
-/
import Derived.Test.YtohcnohllbjlcaaGreatDoorQLexC
import Derived.Test.YtohcnohllbjlcaaGreatDoorQLexSkip
import Derived.WalkSmall
set_option linter.unusedSimpArgs false
set_option linter.unusedVariables false
set_option maxHeartbeats 8000000
set_option maxRecDepth 20000
namespace Go.Proofs.YtohcnohllbjlcaaGreatDoor
open Go.RowKit Go.Lamb

/-- The package-level variables that are read hold what the program's text lays. -/
structure Glob (w : World) : Prop where
  maxlen : ∃ m, w.cell? ⟨0, 0, none⟩ = some (.int .i64 m)
  pow10 : Lib.TabIs Tryz.prog w "internal/strconv.uint64pow10" .u64 Lib.pow10Tab
  errSyntax : ∃ tp p, w.var? Tryz.prog "strconv.ErrSyntax" = some #[.iface tp p]
  errRange : ∃ tp p, w.var? Tryz.prog "strconv.ErrRange" = some #[.iface tp p]
theorem named_pow10 : Tryz.prog.globalNamed "internal/strconv.uint64pow10" = some 3 := by kernel_rfl
theorem named_errSyntax : Tryz.prog.globalNamed "strconv.ErrSyntax" = some 1 := by kernel_rfl
theorem named_errRange : Tryz.prog.globalNamed "strconv.ErrRange" = some 2 := by kernel_rfl
theorem var_lt {P : Program} {w : World} {n : String} {g : Nat} {cs : Array Value} (hg : P.globalNamed n = some g) (h : w.var? P n = some cs) : g < w.heap.size := by
  unfold World.var? at h
  rw [hg] at h
  simp only [Option.bind_some] at h
  rcases Nat.lt_or_ge g w.heap.size with hlt | hge
  · exact hlt
  · rw [Array.getElem?_eq_none hge] at h
    cases h
theorem Glob.ext {w w' : World} (h : Glob w) (hb : Below w.heap.size w w') : Glob w' := by
  obtain ⟨⟨m, h2⟩, h3, ⟨t4, p4, h4⟩, ⟨t5, p5, h5⟩⟩ := h
  exact ⟨⟨m, (hb.cell (p := ⟨_, 0, none⟩) (World.block_lt_of_cell? w _ h2)).trans h2⟩,
    var?_below hb named_pow10 (var_lt named_pow10 h3) h3, ⟨t4, p4, var?_below hb named_errSyntax (var_lt named_errSyntax h4) h4⟩, ⟨t5, p5, var?_below hb named_errRange (var_lt named_errRange h5) h5⟩⟩

end Go.Proofs.YtohcnohllbjlcaaGreatDoor

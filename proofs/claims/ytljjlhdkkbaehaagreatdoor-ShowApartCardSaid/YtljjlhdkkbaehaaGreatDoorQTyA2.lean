/-
  Walks over worlds: what takes some things (ty.Arrow).
-/
import Derived.Test.YtljjlhdkkbaehaaGreatDoorQTyA1
import Derived.Test.YtljjlhdkkbaehaaGreatDoorQJ15
set_option linter.unusedSimpArgs false
set_option linter.unusedVariables false
set_option maxHeartbeats 8000000
set_option maxRecDepth 20000
namespace Go.Proofs.YtljjlhdkkbaehaaGreatDoor
open Go.RowKit Go.Shelf Go.Lamb
attribute [local go_sem] Oper.semAt_some

/-- Four values that are a type. -/
def TyCells (m : Mem) (u : Typ) (c0 c1 c2 c3 : Value) : Prop := RC m (.int .i64 u.k) c0 ∧ RC m (.str u.name) c1 ∧ RC m (.int .i64 u.n) c2 ∧ RC m (tysC u.l) c3
theorem TyCells.mono {m m' : Mem} (h : m.le m') {u : Typ} {a b c d : Value} (r : TyCells m u a b c d) : TyCells m' u a b c d := ⟨r.1.mono h, r.2.1.mono h, r.2.2.1.mono h, r.2.2.2.mono h⟩
section
variable {W : World} {B : Nat} {a b c d : Value}
end
end Go.Proofs.YtljjlhdkkbaehaaGreatDoor

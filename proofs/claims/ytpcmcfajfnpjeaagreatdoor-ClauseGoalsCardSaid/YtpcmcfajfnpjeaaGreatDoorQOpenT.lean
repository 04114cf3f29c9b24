/- . -/
import Derived.Test.YtpcmcfajfnpjeaaGreatDoorQOpen
import Derived.Test.YtpcmcfajfnpjeaaGreatDoorQJ15
set_option linter.unusedSimpArgs false
set_option linter.unusedVariables false
set_option maxHeartbeats 8000000
set_option maxRecDepth 20000
namespace Go.Proofs.YtpcmcfajfnpjeaaGreatDoor
open Go.ChangeShapes Go.WideShapes Go.ChangeAt Go.RowKit Go.Lamb

theorem cty_intR {t:TypeId} (hu:Tryz.prog.underlying t = some (.int .i64)) {zs:List C} (h:CTy Tryz.prog t zs):∃ n,zs = [.int .i64 n] ∧ inI n:=by
 cases h with
 | int ht n hw=>
   rw [hu] at ht;injection ht with ht;injection ht with ht;subst ht
   refine ⟨n,rfl,?_⟩;simp only [Lit.wf,Bool.and_eq_true,decide_eq_true_eq] at hw;unfold inI
   have h1:IntKind.i64.min = -9223372036854775808:=by decide
   have h2:IntKind.i64.max = 9223372036854775807:=by decide
   rw [h1,h2] at hw;exact hw
 | bool ht | str ht | sl ht | struct ht=>rw [hu] at ht;injection ht with ht;cases ht
theorem rows_ofP {α:Type} {f:α → List C} {q:α → Prop}:∀ {rows:List (List C)},(∀ r ∈ rows,∃ x,r = f x ∧ q x) → ∃ l:List α,rows = l.map f ∧ ∀ x ∈ l,q x
 | [],_=>⟨[],rfl,fun _ h=>by cases h⟩
 | r :: rows,h=>by
   obtain ⟨x,rfl,hx⟩:=h r (List.mem_cons_self ..);obtain ⟨l,rfl,hl⟩:=rows_ofP (fun r hr=>h r (List.mem_cons_of_mem _ hr))
   refine ⟨x :: l,rfl,fun y hy=>?_⟩
   rcases List.mem_cons.1 hy with rfl | hy
   ·exact hx
   ·exact hl y hy
section
variable {H:Type} {enc:TypeId × Value → H} {w:World} {base:Nat} {spare:Nat → Bool} {held:Bool} {v:Value} {d:DataW H} {ps:List MemPlace} {r:Reach} {b0:Nat}
end
end Go.Proofs.YtpcmcfajfnpjeaaGreatDoor

/- . -/
import Derived.Test.YtpcmcfajfnpjeaaGreatDoorQOpenC
import Derived.Test.YtpcmcfajfnpjeaaGreatDoorChecked
import Derived.Test.YtpcmcfajfnpjeaaGreatDoorQJ15
import Derived.Test.YtpcmcfajfnpjeaaGreatDoorQLexRow
set_option linter.unusedSimpArgs false
set_option linter.unusedVariables false
set_option maxHeartbeats 8000000
set_option maxRecDepth 20000
namespace Go.Proofs.YtpcmcfajfnpjeaaGreatDoor
open Go.ChangeShapes Go.WideShapes Go.ChangeAt Go.RowKit Go.Lamb

theorem cty_str {t:TypeId} (hu:Tryz.prog.underlying t = some .string) {zs:List C} (h:CTy Tryz.prog t zs):∃ l,zs = [.str l]:=by
 cases h with
 | str ht l=>exact ⟨l,rfl⟩
 | int ht | bool ht | sl ht | struct ht=>rw [hu] at ht;injection ht with ht;cases ht
theorem take_drop1 {zs:List C} {i:Nat} {x:C} (h:(zs.drop i).take 1 = [x]):zs[i]? = some x:=by
 have:=congrArg (fun l=>l[0]?) h
 simpa [List.getElem?_take,List.getElem?_drop] using this
theorem cells_int:Tryz.prog.cellsOf 3 = 1:=by kernel_rfl
theorem cells_str:Tryz.prog.cellsOf 9 = 1:=by kernel_rfl
theorem list4 {zs:List C} {a b c d:C} (hl:zs.length = 4) (h0:zs[0]? = some a) (h1:zs[1]? = some b) (h2:zs[2]? = some c) (h3:zs[3]? = some d):zs = [a,b,c,d]:=by
 match zs,hl with
 | [x,y,z,u],_=>simp at h0 h1 h2 h3;subst h0 h1 h2 h3;rfl
section
variable {H:Type} {enc:TypeId × Value → H} {w:World} {base:Nat} {spare:Nat → Bool} {held:Bool} {v:Value} {d:DataW H} {ps:List MemPlace} {r:Reach} {b0:Nat}
theorem open_intX (hval:Value.okWide Tryz.prog w r b0 3 v) (h:DataW.Trod enc Tryz.prog w base spare held 3 v d ps):∃ n,v = .int .i64 n ∧ d = .lit (.int .i64 n) ∧ ps = [] ∧ (Lit.int .i64 n).wf = true:=open_int Tryz.underlying3 hval h
end
end Go.Proofs.YtpcmcfajfnpjeaaGreatDoor

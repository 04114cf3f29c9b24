/- . -/
import Derived.Test.YtpcmcfajfnpjeaaGreatDoorQOpenT
import Derived.Test.YtpcmcfajfnpjeaaGreatDoorQJ14
set_option linter.unusedSimpArgs false
set_option linter.unusedVariables false
set_option maxHeartbeats 8000000
set_option maxRecDepth 20000
namespace Go.Proofs.YtpcmcfajfnpjeaaGreatDoor
open Go.ChangeShapes Go.WideShapes Go.ChangeAt Go.RowKit Go.Lamb

theorem take_drops {zs xs:List C} {i n:Nat} (h:(zs.drop i).take n = xs) (j:Nat) (hj:j < n):zs[i + j]? = xs[j]?:=by
 have:=congrArg (fun l=>l[j]?) h
 simpa [List.getElem?_take,List.getElem?_drop,hj] using this
theorem list_of (m:Nat) {zs ys:List C} (hl:zs.length = m) (hy:ys.length = m) (h:∀ i,i < m → zs[i]? = ys[i]?):zs = ys:=by
 apply List.ext_getElem?
 intro i
 by_cases hi:i < m
 ·exact h i hi
 ·rw [List.getElem?_eq_none (by omega),List.getElem?_eq_none (by omega)]
section
variable {H:Type} {enc:TypeId × Value → H} {w:World} {base:Nat} {spare:Nat → Bool} {held:Bool} {v:Value} {d:DataW H} {ps:List MemPlace} {r:Reach} {b0:Nat}
end
end Go.Proofs.YtpcmcfajfnpjeaaGreatDoor

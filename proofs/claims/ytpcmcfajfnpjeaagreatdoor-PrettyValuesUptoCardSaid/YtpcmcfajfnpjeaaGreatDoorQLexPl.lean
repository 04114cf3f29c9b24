/-
  Plain: where tokens stand.
-/
import Derived.Test.YtpcmcfajfnpjeaaGreatDoorQLexL
set_option linter.unusedSimpArgs false
set_option linter.unusedVariables false
set_option maxHeartbeats 8000000
set_option maxRecDepth 20000
namespace Go.Lamb
open Go Go.RowKit

def Tok.w (t : Tok) : List UInt8 := textL t.kind t.text t.n
def Tok.to (t : Tok) : Nat := if t.kind = 3 then t.pos.toNat + 1 else t.pos.toNat + t.w.length
structure TokOk (s : List UInt8) (to : Nat) (t : Tok) (last : Bool) : Prop where
  pos : ((t.pos.toNat : Nat) : Int) = t.pos
  ge : to ≤ t.pos.toNat
  le : t.pos.toNat ≤ s.length
  iff : t.kind = 0 ↔ last = true
  fin : last = true → t.pos.toNat = s.length
  wle : t.kind ≠ 3 → t.pos.toNat + t.w.length ≤ s.length
  weq : t.kind ≠ 3 → (s.drop t.pos.toNat).take t.w.length = t.w
  nb : 0 ≤ t.n ∧ t.n ≤ 9223372036854775807
def Good (s : List UInt8) : Nat → List Tok → Prop
  | _, [] => True
  | to, t :: l => TokOk s to t l.isEmpty ∧ Good s t.to l
end Go.Lamb

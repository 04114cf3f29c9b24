/-
  Plain: decimal numbers; one token.
-/
import Derived.Test.YtohcnohllbjlcaaGreatDoorQLexSkip
import Derived.Lib.AtoiAll
set_option linter.unusedSimpArgs false
set_option linter.unusedVariables false
set_option maxHeartbeats 8000000
set_option maxRecDepth 20000
namespace Go.Lamb
open Go Go.RowKit

/-- What digits spell, behind what was spelled. -/
def decFrom (acc : Nat) (l : List UInt8) : Nat := l.foldl (fun n c => n * 10 + (c.toNat - 48)) acc
def decVal (l : List UInt8) : Nat := decFrom 0 l
/-- One token, at the head of what is no blank: its kind, text, number, how many bytes it has; what is wrong. -/
structure OneR where
  kind : Int
  text : List UInt8
  n : Int
  len : Nat
  err : Int
def wordR (kind : Int) (n : Nat) (l : List UInt8) : OneR := if 32 < n then ⟨0, [], 0, 0, 12⟩ else ⟨kind, l.take n, 0, n, 0⟩
def numR (l : List UInt8) : OneR :=
  if decVal (l.take (runLen digitB l)) < 9223372036854775808 then ⟨3, [], ((decVal (l.take (runLen digitB l)) : Nat) : Int), runLen digitB l, 0⟩ else ⟨0, [], 0, 0, 11⟩
def oneL : List UInt8 → OneR
  | [] => ⟨0, [], 0, 0, 0⟩
  | c :: l =>
    if markN c ≠ 0 then ⟨markN c, [], 0, 1, 0⟩
    else if digitB c then numR (c :: l)
    else if smallB c then wordR 1 (runLen insideB (c :: l)) (c :: l)
    else if greatB c then wordR 2 (runLen insideB (c :: l)) (c :: l)
    else if signB c then wordR 4 (runLen signB (c :: l)) (c :: l)
    else if singles.contains c then wordR 4 1 (c :: l)
    else ⟨0, [], 0, 0, 10⟩
end Go.Lamb

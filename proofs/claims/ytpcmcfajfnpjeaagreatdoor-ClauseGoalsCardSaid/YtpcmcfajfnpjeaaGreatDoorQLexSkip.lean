/- . -/
import Derived.Test.YtpcmcfajfnpjeaaGreatDoorQLexSpec
import Derived.Lib.IndexBytes
import Derived.Lib.IndexMore
import Derived.Lib.SlTrimSet
set_option linter.unusedSimpArgs false
set_option linter.unusedVariables false
set_option maxHeartbeats 8000000
set_option maxRecDepth 20000
namespace Go.Lamb
open Go Go.RowKit

def blanks:List UInt8:=[32,9,10,13]
def skipL:Bool → List UInt8 → List UInt8
 | _,[]=>[]
 | false,c :: l=>if blanks.contains c then skipL false l else if c == 37 then skipL true l else c :: l
 | true,c :: l=>if c == 10 then skipL false l else skipL true l

theorem skipL_trim (l:List UInt8):skipL false (Lib.trimLeftS l blanks) = skipL false l:=by
 unfold Lib.trimLeftS
 induction l with
 | nil=>rfl
 | cons c l ih=>
   rw [List.dropWhile_cons];split
   ·rename_i h
    rw [ih];simp only [skipL];rw [if_pos (by simpa using h)]
   ·rfl
theorem trim_head (l:List UInt8):∀ c r,Lib.trimLeftS l blanks = c :: r → blanks.contains c = false:=by
 unfold Lib.trimLeftS
 induction l with
 | nil=>intro c r h;simp at h
 | cons d l ih=>
   intro c r h;rw [List.dropWhile_cons] at h;split at h
   ·exact ih c r h
   ·rename_i hd
    injection h with h1 h2
    subst h1
    simpa using hd
theorem trim_le (l:List UInt8):(Lib.trimLeftS l blanks).length ≤ l.length:=by
 unfold Lib.trimLeftS
 exact (List.dropWhile_sublist _).length_le
theorem cut_nl (c:UInt8) (r:List UInt8):(Lib.cut (c :: r) [10]).2.1 = if c == 10 then r else (Lib.cut r [10]).2.1:=by
 unfold Lib.cut
 rw [Lib.index_one,Lib.index_one]
 have hge:=Lib.indexByte_ge r 10
 by_cases h:(c == 10) = true
 ·simp [Lib.indexByte,h]
 ·simp only [Lib.indexByte,h]
  by_cases h1:Lib.indexByte r 10 = -1
  ·simp [h1]
  ·have e1:(Lib.indexByte r 10 == -1) = false:=by simpa using h1
   have h0:0 ≤ Lib.indexByte r 10:=by omega
   have h2:0 ≤ Lib.indexByte r 10 + 1:=by omega
   simp only [e1,Bool.false_eq_true,if_false,h0,h2,if_true];rw [show (Lib.indexByte r 10 + 1).toNat + [(10:UInt8)].length = ((Lib.indexByte r 10).toNat + [(10:UInt8)].length) + 1 from by simp;omega]
   simp
theorem skipL_cut (l:List UInt8):skipL true l = skipL false (Lib.cut l [10]).2.1:=by
 induction l with
 | nil=>rfl
 | cons c l ih=>
   rw [cut_nl];simp only [skipL];split
   ·rfl
   ·exact ih
theorem cut_lt (l:List UInt8) (h:l ≠ []):(Lib.cut l [10]).2.1.length < l.length:=by
 unfold Lib.cut
 have:0 < l.length:=List.length_pos_iff.2 h
 split
 ·simp;omega
 ·simpa using this
theorem skip_remark {l r:List UInt8} (h:Lib.trimLeftS l blanks = 37 :: r):skipL false l = skipL false (Lib.cut (37 :: r) [10]).2.1 ∧ (Lib.cut (37 :: r) [10]).2.1.length < l.length:=by
 constructor
 ·rw [← skipL_trim,h]
  have:skipL false (37 :: r) = skipL true r:=rfl
  rw [this,cut_nl,skipL_cut]
  rfl
 ·have h1:=cut_lt (37 :: r) (by simp)
  have h2:=trim_le l
  rw [h] at h2;omega
theorem skip_done {l:List UInt8} (h:Lib.hasPrefix (Lib.trimLeftS l blanks) [37] = false):skipL false l = Lib.trimLeftS l blanks:=by
 rw [← skipL_trim]
 cases ht:Lib.trimLeftS l blanks with
 | nil=>rfl
 | cons c r=>
   have hb:=trim_head l c r ht
   rw [ht] at h;simp only [skipL];rw [if_neg (by simp only [hb];decide),if_neg]
   intro hc
   have:c = 37:=by simpa using hc
   subst this;simp [Lib.hasPrefix] at h
theorem remark_of {l:List UInt8} (h:Lib.hasPrefix (Lib.trimLeftS l blanks) [37] = true):∃ r,Lib.trimLeftS l blanks = 37 :: r:=by
 cases ht:Lib.trimLeftS l blanks with
 | nil=>rw [ht] at h;simp [Lib.hasPrefix] at h
 | cons c r=>
   rw [ht] at h;simp [Lib.hasPrefix] at h;subst h;exact ⟨r,rfl⟩
theorem skipL_le:∀ (b:Bool) (l:List UInt8),(skipL b l).length ≤ l.length
 | _,[]=>by simp [skipL]
 | false,c :: l=>by
   simp only [skipL]
   have h1:=skipL_le false l
   have h2:=skipL_le true l
   split
   ·simp;omega
   ·split
    ·simp;omega
    ·simp
 | true,c :: l=>by
   simp only [skipL]
   have h1:=skipL_le false l
   have h2:=skipL_le true l
   split <;> simp <;> omega
end Go.Lamb

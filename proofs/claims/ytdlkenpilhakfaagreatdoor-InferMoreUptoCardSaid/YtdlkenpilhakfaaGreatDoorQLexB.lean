/- . -/
import Derived.Test.YtdlkenpilhakfaaGreatDoorQLexA
import Derived.Test.YtdlkenpilhakfaaGreatDoorQShelf
import Derived.Shelf.Strings.SlTrimAscii
import Derived.Lib.IndexAny
set_option linter.unusedSimpArgs false
set_option linter.unusedVariables false
set_option maxHeartbeats 8000000
set_option maxRecDepth 20000
open Go.ByteArray renaming toList_eq->Ol
open Go.Lib renaming hid->b9
open Go.Proofs.Tryz
namespace Go.Proofs.YtdlkenpilhakfaaGreatDoor
open Go.RowKit Go.Lamb
set_option maxRecDepth 100000 in
theorem EI(s:ByteArray)(p:UInt8->Bool)(w:World)(hs:s.size<=maxLen)(K:Nat)(hK:∀(args:Array Value) (w:World),(callFunc K args).run prog w= .ok (.enter K args) w)
  (hp:∀(c:UInt8) w,Calls prog K #[.int .u8 c.toNat] w (eL (.bool (p c)) w)):
  Calls prog 115 #[.string s,.func (.func K) #[] #[]] w (eL (.int .i64 (cn p s.data.toList)) w):=by
 unfold maxLen at hs;have HP:=b9 hp;clear hp
 go_enter func115,ntmps115
 go_wp2_with fail
 go_loop [5,8] (fun _ j=>∃k:Nat,k<=s.size/\j= .int .i64 k/\Hid (cn p s.data.toList=k+cn p (s.data.toList.drop k))) (fun _ i=>s.size-(intOf i).toNat)
 case atStart=>exact⟨0,Nat.zero_le _,rfl,by show _=_;simp⟩
 case round=>
  obtain⟨k,hk,rfl,HR⟩:=hrel;by_cases hlt:k<s.size
  ·have HD:=b9 (Nj s k hlt);cases hc:p s[k]
   ·go_wp2_with (refine(HP.out _ _).mono ?_;rintro e w' ⟨rfl,rfl⟩)
    go_ret
    refine EJ ?_;rw[HR.out,HD.out];simp[cn,hc]
   ·go_wp2_with (refine(HP.out _ _).mono ?_;rintro e w' ⟨rfl,rfl⟩)
    go_round
    case rel=>exact⟨k+1,by omega,by go_num,by show _=_;rw[HR.out,HD.out];simp[cn,hc];omega⟩
    case measure=>simp[intOf];omega
  ·have HD:=b9 (Yx s k (by omega))
   go_wp2_with fail
   go_ret
   refine EJ ?_;rw[HR.out,HD.out];simp[cn];omega
theorem vJ(s:ByteArray)(w:World)(hs:s.size<=maxLen):Calls prog 113 #[.string s] w (eL (.bool (mL s.data.toList)) w):=by
 unfold maxLen at hs
 go_enter func113,ntmps113
 go_wp2
 all_goals go_ret
 all_goals (refine lC ?_;rw[Bool.eq_iff_iff])
 all_goals simp[mL,Ol]
 ·rename_i h;rw[Ol]at h;simp at h;simp[h]
 ·omega
theorem lD(c:UInt8)(w:World):Calls prog 165 #[.int .u8 c.toNat] w (eL (.int .i64 (ek c)) w):=by
 go_enter func165,ntmps165
 go_wp2
 all_goals go_ret
 all_goals (refine EJ ?_)
 all_goals simp[ek, *]
theorem vK(c:UInt8)(w:World):Calls prog 147 #[.int .u8 c.toNat] w (eL (.bool (gL c)) w):=by
 go_enter func147,ntmps147
 go_wp2_with (go_at_call 169;refine(Tryz.strings_IndexByte _ _ _).mono ?_;rintro e w' ⟨rfl,rfl⟩)
 all_goals go_ret
 all_goals (refine lC ?_)
 exact(Lib.contains_iff_indexByte Nk c).symm
theorem Yy:∀(args:Array Value) (w:World),(callFunc 116 args).run prog w= .ok (.enter 116 args) w:=enters_of func116 (by kernel_rfl) rfl
theorem Yz:∀(args:Array Value) (w:World),(callFunc 147 args).run prog w= .ok (.enter 147 args) w:=enters_of func147 (by kernel_rfl) rfl
theorem YA:∀(args:Array Value) (w:World),(callFunc 166 args).run prog w= .ok (.enter 166 args) w:=enters_of func166 (by kernel_rfl) rfl
theorem Nl(s:ByteArray)(w:World)(hs:s.size<=maxLen):Calls prog 115 #[.string s,.func (.func 116) #[] #[]] w (eL (.int .i64 (cn e7 s.data.toList)) w):=EI s e7 w hs _ Yy Yw
theorem Nn(s:ByteArray)(w:World)(hs:s.size<=maxLen):Calls prog 115 #[.string s,.func (.func 147) #[] #[]] w (eL (.int .i64 (cn gL s.data.toList)) w):=EI s gL w hs _ Yz vK
theorem YB(s:ByteArray)(w:World)(hs:s.size<=maxLen):Calls prog 115 #[.string s,.func (.func 166) #[] #[]] w (eL (.int .i64 (cn cT s.data.toList)) w):=EI s cT w hs _ YA kI
end Go.Proofs.YtdlkenpilhakfaaGreatDoor

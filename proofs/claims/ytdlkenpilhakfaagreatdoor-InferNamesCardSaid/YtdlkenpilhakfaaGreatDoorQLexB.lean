/- . -/
import Derived.Test.YtdlkenpilhakfaaGreatDoorQLexA
import Derived.Test.YtdlkenpilhakfaaGreatDoorQShelf
import Derived.Shelf.Strings.SlTrimAscii
import Derived.Lib.IndexAny
set_option linter.unusedSimpArgs false
set_option linter.unusedVariables false
set_option maxHeartbeats 8000000
set_option maxRecDepth 20000
open Go.ByteArray renaming toList_eq->N3
open Go.Lib renaming hid->b9
open Go.Proofs.Tryz
namespace Go.Proofs.YtdlkenpilhakfaaGreatDoor
open Go.RowKit Go.Lamb
set_option maxRecDepth 100000 in
theorem Em(s:ByteArray)(p:UInt8->Bool)(w:World)(hs:s.size<=maxLen)(K:Nat)(hK:∀(args:Array Value) (w:World),(callFunc K args).run prog w= .ok (.enter K args) w)
  (hp:∀(c:UInt8) w,Calls prog K #[.int .u8 c.toNat] w (eP (.bool (p c)) w)):
  Calls prog 115 #[.string s,.func (.func K) #[] #[]] w (eP (.int .i64 (cm p s.data.toList)) w):=by
 unfold maxLen at hs;have HP:=b9 hp;clear hp
 go_enter func115,ntmps115
 go_wp2_with fail
 go_loop [5,8] (fun _ j=>∃k:Nat,k<=s.size/\j= .int .i64 k/\Hid (cm p s.data.toList=k+cm p (s.data.toList.drop k))) (fun _ i=>s.size-(intOf i).toNat)
 case atStart=>exact⟨0,Nat.zero_le _,rfl,by show _=_;simp⟩
 case round=>
  obtain⟨k,hk,rfl,HR⟩:=hrel;by_cases hlt:k<s.size
  ·have HD:=b9 (M1 s k hlt);cases hc:p s[k]
   ·go_wp2_with (refine(HP.out _ _).mono ?_;rintro e w' ⟨rfl,rfl⟩)
    go_ret
    refine En ?_;rw[HR.out,HD.out];simp[cm,hc]
   ·go_wp2_with (refine(HP.out _ _).mono ?_;rintro e w' ⟨rfl,rfl⟩)
    go_round
    case rel=>exact⟨k+1,by omega,by go_num,by show _=_;rw[HR.out,HD.out];simp[cm,hc];omega⟩
    case measure=>simp[intOf];omega
  ·have HD:=b9 (Yi s k (by omega))
   go_wp2_with fail
   go_ret
   refine En ?_;rw[HR.out,HD.out];simp[cm];omega
theorem vF(s:ByteArray)(w:World)(hs:s.size<=maxLen):Calls prog 113 #[.string s] w (eP (.bool (mz s.data.toList)) w):=by
 unfold maxLen at hs
 go_enter func113,ntmps113
 go_wp2
 all_goals go_ret
 all_goals (refine lx ?_;rw[Bool.eq_iff_iff])
 all_goals simp[mz,N3]
 ·rename_i h;rw[N3]at h;simp at h;simp[h]
 ·omega
theorem ly(c:UInt8)(w:World):Calls prog 165 #[.int .u8 c.toNat] w (eP (.int .i64 (ek c)) w):=by
 go_enter func165,ntmps165
 go_wp2
 all_goals go_ret
 all_goals (refine En ?_)
 all_goals simp[ek, *]
theorem vG(c:UInt8)(w:World):Calls prog 147 #[.int .u8 c.toNat] w (eP (.bool (gK c)) w):=by
 go_enter func147,ntmps147
 go_wp2_with (go_at_call 169;refine(Tryz.strings_IndexByte _ _ _).mono ?_;rintro e w' ⟨rfl,rfl⟩)
 all_goals go_ret
 all_goals (refine lx ?_)
 exact(Lib.contains_iff_indexByte M2 c).symm
theorem Yj:∀(args:Array Value) (w:World),(callFunc 116 args).run prog w= .ok (.enter 116 args) w:=enters_of func116 (by kernel_rfl) rfl
theorem Yk:∀(args:Array Value) (w:World),(callFunc 147 args).run prog w= .ok (.enter 147 args) w:=enters_of func147 (by kernel_rfl) rfl
theorem Yl:∀(args:Array Value) (w:World),(callFunc 166 args).run prog w= .ok (.enter 166 args) w:=enters_of func166 (by kernel_rfl) rfl
theorem M3(s:ByteArray)(w:World)(hs:s.size<=maxLen):Calls prog 115 #[.string s,.func (.func 116) #[] #[]] w (eP (.int .i64 (cm fb s.data.toList)) w):=Em s fb w hs _ Yj Yh
theorem M4(s:ByteArray)(w:World)(hs:s.size<=maxLen):Calls prog 115 #[.string s,.func (.func 147) #[] #[]] w (eP (.int .i64 (cm gK s.data.toList)) w):=Em s gK w hs _ Yk vG
theorem Ym(s:ByteArray)(w:World)(hs:s.size<=maxLen):Calls prog 115 #[.string s,.func (.func 166) #[] #[]] w (eP (.int .i64 (cm cT s.data.toList)) w):=Em s cT w hs _ Yl kz
end Go.Proofs.YtdlkenpilhakfaaGreatDoor

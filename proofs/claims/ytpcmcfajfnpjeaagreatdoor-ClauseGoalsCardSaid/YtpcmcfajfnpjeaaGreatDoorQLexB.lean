/- . -/
import Derived.Test.YtpcmcfajfnpjeaaGreatDoorQLexA
import Derived.Test.YtpcmcfajfnpjeaaGreatDoorQShelf
import Derived.Shelf.Strings.SlTrimAscii
import Derived.Lib.IndexAny
set_option linter.unusedSimpArgs false
set_option linter.unusedVariables false
set_option maxHeartbeats 8000000
set_option maxRecDepth 20000
namespace Go.Proofs.YtpcmcfajfnpjeaaGreatDoor
open Go.RowKit Go.Lamb

set_option maxRecDepth 100000 in
theorem lex_run (s:ByteArray) (p:UInt8 → Bool) (w:World) (hs:s.size ≤ maxLen) (K:Nat) (hK:∀ (args:Array Value) (w:World),(callFunc K args).run Tryz.prog w = .ok (.enter K args) w)
  (hp:∀ (c:UInt8) w,Calls Tryz.prog K #[.int .u8 c.toNat] w (Ret (.bool (p c)) w)) :
  Calls Tryz.prog 165 #[.string s,.func (.func K) #[] #[]] w (Ret (.int .i64 (runLen p s.data.toList)) w):=by
 unfold maxLen at hs
 have HP:=Lib.hid hp;clear hp
 go_enter Tryz.func165,Tryz.ntmps165
 go_wp2_with fail
 go_loop [5,8] (fun _ j=>∃ k:Nat,k ≤ s.size ∧ j = .int .i64 k ∧ Hid (runLen p s.data.toList = k + runLen p (s.data.toList.drop k))) (fun _ i=>s.size - (intOf i).toNat)
 case atStart=>exact ⟨0,Nat.zero_le _,rfl,by show _ = _;simp⟩
 case round=>
  obtain ⟨k,hk,rfl,HR⟩:=hrel
  by_cases hlt:k < s.size
  ·have HD:=Lib.hid (drop_bytes s k hlt)
   cases hc:p s[k]
   ·go_wp2_with (refine (HP.out _ _).mono ?_;rintro e w' ⟨rfl,rfl⟩)
    go_ret
    refine ret_int ?_;rw [HR.out,HD.out]
    simp [runLen,hc]
   ·go_wp2_with (refine (HP.out _ _).mono ?_;rintro e w' ⟨rfl,rfl⟩)
    go_round
    case rel=>exact ⟨k + 1,by omega,by go_num,by show _ = _;rw [HR.out,HD.out];simp [runLen,hc];omega⟩
    case measure=>simp [intOf];omega
  ·have HD:=Lib.hid (drop_end s k (by omega))
   go_wp2_with fail
   go_ret
   refine ret_int ?_;rw [HR.out,HD.out]
   simp [runLen];omega

theorem lex_fits (s:ByteArray) (w:World) (hs:s.size ≤ maxLen):Calls Tryz.prog 163 #[.string s] w (Ret (.bool (fitsB s.data.toList)) w):=by
 unfold maxLen at hs
 go_enter Tryz.func163,Tryz.ntmps163
 go_wp2
 all_goals go_ret
 all_goals (refine ret_bool ?_;rw [Bool.eq_iff_iff])
 all_goals simp [fitsB,ByteArray.toList_eq]
 ·rename_i h
  rw [ByteArray.toList_eq] at h;simp at h;simp [h]
 ·omega

theorem lex_mark (c:UInt8) (w:World):Calls Tryz.prog 307 #[.int .u8 c.toNat] w (Ret (.int .i64 (markN c)) w):=by
 go_enter Tryz.func307,Tryz.ntmps307
 go_wp2
 all_goals go_ret
 all_goals (refine ret_int ?_)
 all_goals simp [markN, *]
theorem lex_sign (c:UInt8) (w:World):Calls Tryz.prog 167 #[.int .u8 c.toNat] w (Ret (.bool (signB c)) w):=by
 go_enter Tryz.func167,Tryz.ntmps167
 go_wp2_with (go_at_call 247;refine (Tryz.strings_IndexByte _ _ _).mono ?_;rintro e w' ⟨rfl,rfl⟩)
 all_goals go_ret
 all_goals (refine ret_bool ?_)
 exact (Lib.contains_iff_indexByte signs c).symm

theorem enters_inside:∀ (args:Array Value) (w:World),(callFunc 166 args).run Tryz.prog w = .ok (.enter 166 args) w:=enters_of Tryz.func166 (by kernel_rfl) rfl
theorem enters_sign:∀ (args:Array Value) (w:World),(callFunc 167 args).run Tryz.prog w = .ok (.enter 167 args) w:=enters_of Tryz.func167 (by kernel_rfl) rfl
theorem enters_digit:∀ (args:Array Value) (w:World),(callFunc 246 args).run Tryz.prog w = .ok (.enter 246 args) w:=enters_of Tryz.func246 (by kernel_rfl) rfl
theorem run_inside (s:ByteArray) (w:World) (hs:s.size ≤ maxLen):Calls Tryz.prog 165 #[.string s,.func (.func 166) #[] #[]] w (Ret (.int .i64 (runLen insideB s.data.toList)) w):=lex_run s insideB w hs _ enters_inside lex_inside
theorem run_sign (s:ByteArray) (w:World) (hs:s.size ≤ maxLen):Calls Tryz.prog 165 #[.string s,.func (.func 167) #[] #[]] w (Ret (.int .i64 (runLen signB s.data.toList)) w):=lex_run s signB w hs _ enters_sign lex_sign
theorem run_digit (s:ByteArray) (w:World) (hs:s.size ≤ maxLen):Calls Tryz.prog 165 #[.string s,.func (.func 246) #[] #[]] w (Ret (.int .i64 (runLen digitB s.data.toList)) w):=lex_run s digitB w hs _ enters_digit lex_digit
end Go.Proofs.YtpcmcfajfnpjeaaGreatDoor

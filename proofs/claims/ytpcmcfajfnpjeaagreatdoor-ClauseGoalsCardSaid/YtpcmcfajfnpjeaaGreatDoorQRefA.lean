/- . -/
import Derived.Test.YtpcmcfajfnpjeaaGreatDoorQLexA
set_option linter.unusedSimpArgs false
set_option linter.unusedVariables false
set_option maxHeartbeats 8000000
set_option maxRecDepth 20000
namespace Go.Proofs.YtpcmcfajfnpjeaaGreatDoor
open Go.RowKit Go.Lamb

theorem ref_small (c:UInt8) (w:World):Calls Tryz.prog 148 #[.int .u8 c.toNat] w (Ret (.bool (smallB c)) w):=by
 go_enter Tryz.func148,Tryz.ntmps148
 go_wp2
 all_goals go_ret
 all_goals (refine ret_bool ?_;rw [Bool.eq_iff_iff];simp [smallB];omega)
theorem ref_digit (c:UInt8) (w:World):Calls Tryz.prog 232 #[.int .u8 c.toNat] w (Ret (.bool (digitB c)) w):=by
 go_enter Tryz.func232,Tryz.ntmps232
 go_wp2
 all_goals go_ret
 all_goals (refine ret_bool ?_;rw [Bool.eq_iff_iff];simp [digitB];omega)
theorem ref_in (c:UInt8) (w:World):Calls Tryz.prog 149 #[.int .u8 c.toNat] w (Ret (.bool (insideB c)) w):=by
 go_enter Tryz.func149,Tryz.ntmps149
 go_wp2_with (first
  | (go_at_call 148;refine (ref_small c _).mono ?_;rintro e w' ⟨rfl,rfl⟩)
  | (go_at_call 232;refine (ref_digit c _).mono ?_;rintro e w' ⟨rfl,rfl⟩))
 all_goals go_ret
 all_goals (refine ret_bool ?_;rw [Bool.eq_iff_iff];simp [insideB,greatB, *])
 all_goals omega
theorem signs_get (i:Nat) (h:i < signs.length) (c:UInt8) (hn:c ∉ signs.take i) (hc:signs[i] ≠ c):c ∉ signs.take (i + 1):=by
 rw [List.take_succ_eq_append_getElem h]
 simp only [List.mem_append,List.mem_singleton,not_or]
 exact ⟨hn,fun e=>hc e.symm⟩
theorem ref_sign (c:UInt8) (w:World):Calls Tryz.prog 150 #[.int .u8 c.toNat] w (Ret (.bool (signB c)) w):=by
 go_enter Tryz.func150,Tryz.ntmps150
 go_wp2_with fail
 go_loop [3] (fun v=>∃ k:Nat,k ≤ 16 ∧ v = .int .i64 k ∧ Hid (c ∉ signs.take k)) (fun v=>16 - (intOf v).toNat)
 case atStart=>exact ⟨0,by omega,rfl,by show ¬ _;simp⟩
 case round=>
  obtain ⟨k,hk,rfl,HN⟩:=hrel
  by_cases hlt:k < 16
  ·have hl:k < signs.length:=hlt
   go_wp2_with fail
   ·rename_i h _
    have e:signs[k] = c:=UInt8.toNat_inj.1 (Int.ofNat.inj (beq_iff_eq.1 h))
    go_ret
    exact ret_bool (List.contains_iff_mem.2 (e ▸ List.getElem_mem hl)).symm
   ·rename_i h
    have e:signs[k] ≠ c:=fun e=>(beq_eq_false_iff_ne.1 h) (congrArg (fun d:UInt8=>(d.toNat:Int)) e)
    go_round
    case rel=>exact ⟨k + 1,by omega,by go_num,signs_get k hl c HN.out e⟩
    case measure=>simp [intOf];omega
  ·obtain rfl:k = 16:=by omega
   go_wp2_with fail
   go_ret
   refine ret_bool ?_
   have h:=HN.out
   rw [show signs.take 16 = signs from rfl] at h
   unfold signB;rw [Bool.eq_false_iff.2 (fun e=>h (List.contains_iff_mem.1 e))]
end Go.Proofs.YtpcmcfajfnpjeaaGreatDoor

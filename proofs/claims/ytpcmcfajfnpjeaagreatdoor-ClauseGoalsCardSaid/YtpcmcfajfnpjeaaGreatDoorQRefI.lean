/-
  Walks: symbols of the reference's lex.
-/
import Derived.Test.YtpcmcfajfnpjeaaGreatDoorQRefH
set_option linter.unusedSimpArgs false
set_option linter.unusedVariables false
set_option maxHeartbeats 8000000
set_option maxRecDepth 20000
namespace Go.Proofs.YtpcmcfajfnpjeaaGreatDoor
open Go.RowKit Go.Lamb

set_option maxHeartbeats 2000000 in
theorem ref_IsSym (l : List UInt8) (w : World) (hl : l.length ≤ 140737488355328) : Calls Tryz.prog 60 #[.string (bs l)] w (Ret (.bool (isSymB l)) w) := by
  by_cases h1 : l = [44] ∨ l = [59] ∨ l = [33]
  · rcases h1 with rfl | rfl | rfl
    all_goals
      go_enter Tryz.func60, Tryz.ntmps60
      go_wp2_with fail
      go_ret
      exact ret_bool (by decide)
  · have n1 : ¬ l = [44] := fun e => h1 (.inl e)
    have n2 : ¬ l = [59] := fun e => h1 (.inr (.inl e))
    have n3 : ¬ l = [33] := fun e => h1 (.inr (.inr e))
    have m1 : (l == [44]) = false := by simpa using n1
    have m2 : (l == [59]) = false := by simpa using n2
    have m3 : (l == [33]) = false := by simpa using n3
    have hone : (decide (l.length = 1) && headB singles.contains l) = false := by
      rw [Bool.eq_false_iff];intro e;rw [Bool.and_eq_true] at e;obtain ⟨c, rfl⟩ := List.length_eq_one_iff.1 (of_decide_eq_true e.1)
      have := e.2
      simp [headB, singles] at this;apply h1;rcases this with rfl | rfl | rfl <;> simp
    have HO := Lib.hid hone
    clear h1 hone
    go_enter Tryz.func60, Tryz.ntmps60
    go_wp2_with fail
    go_loop [3] (fun v => ∃ k : Nat, k ≤ l.length ∧ v = .int .i64 k ∧ Hid ((l.take k).all signB = true)) (fun v => l.length - (intOf v).toNat)
    case atStart => exact ⟨0, Nat.zero_le _, rfl, by show _ = _; simp⟩
    case round =>
      obtain ⟨k, hk, rfl, HA⟩ := hrel
      by_cases hlt : k < l.length
      · cases hc : signB l[k]
        · have HN := Lib.hid (all_no hlt hc)
          go_wp2_with (first
        | (go_at_call 150; refine (ref_sign _ _).mono ?_; rintro e w' ⟨rfl, rfl⟩))
          go_ret
          exact ret_bool (by simp only [isSymB, HN.out, HO.out, Bool.or_self, Bool.and_false])
        · have HN := Lib.hid (all_more hlt HA.out hc)
          go_wp2_with (first
        | (go_at_call 150; refine (ref_sign _ _).mono ?_; rintro e w' ⟨rfl, rfl⟩))
          go_round
          case rel => exact ⟨k + 1, hlt, by go_num, HN⟩
          case measure => simp [intOf]; omega
      · have ha := HA.out
        rw [List.take_of_length_le (by omega)] at ha
        have HN := Lib.hid ha
        clear ha
        go_wp2_with fail
        all_goals go_ret
        all_goals refine ret_bool ?_
        all_goals rw [Bool.eq_iff_iff]
        all_goals simp [isSymB, HN.out, fitsB]
        all_goals have hnil : l = [] ↔ l.length = 0 := List.length_eq_zero_iff.symm
        all_goals rw [hnil]
        all_goals omega
end Go.Proofs.YtpcmcfajfnpjeaaGreatDoor

/-
  Walks: names and variables of the reference's lex.
-/
import Derived.Test.YtpcmcfajfnpjeaaGreatDoorQRefA
set_option linter.unusedSimpArgs false
set_option linter.unusedVariables false
set_option maxHeartbeats 8000000
set_option maxRecDepth 20000
namespace Go.Proofs.YtpcmcfajfnpjeaaGreatDoor
open Go.RowKit Go.Lamb

theorem all_no {p : UInt8 → Bool} {l : List UInt8} {k : Nat} (h : k < l.length) (hc : p l[k] = false) : l.all p = false := by
  rw [List.all_eq_false];exact ⟨l[k], List.getElem_mem h, by simp [hc]⟩
theorem all_more {p : UInt8 → Bool} {l : List UInt8} {k : Nat} (h : k < l.length) (ha : (l.take k).all p = true) (hc : p l[k] = true) : (l.take (k + 1)).all p = true := by
  rw [List.take_succ_eq_append_getElem h, List.all_append, ha];simp [hc]
set_option maxHeartbeats 2000000 in
theorem ref_IsName (l : List UInt8) (w : World) (hl : l.length ≤ 140737488355328) : Calls Tryz.prog 59 #[.string (bs l)] w (Ret (.bool (isNameB l)) w) := by
  cases l with
  | nil =>
    go_enter Tryz.func59, Tryz.ntmps59
    go_wp2_with fail
    go_ret
    exact ret_bool rfl
  | cons c r =>
    have hl2 : r.length + 1 ≤ 140737488355328 := hl
    by_cases h32 : 32 < r.length + 1
    · go_enter Tryz.func59, Tryz.ntmps59
      go_wp2_with fail
      go_ret
      refine ret_bool ?_
      have : fitsB (c :: r) = false := by simp [fitsB] at h32 ⊢; omega
      simp [isNameB, this]
    · have hf : fitsB (c :: r) = true := by simp [fitsB] at h32 ⊢; omega
      cases hm : smallB c
      · go_enter Tryz.func59, Tryz.ntmps59
        go_wp2_with (first
        | (go_at_call 148; refine (ref_small _ _).mono ?_; rintro e w' ⟨rfl, rfl⟩))
        go_ret
        exact ret_bool (by simp [isNameB, headB, hm])
      · have HF := Lib.hid hf
        clear hf
        go_enter Tryz.func59, Tryz.ntmps59
        go_wp2_with (first
        | (go_at_call 148; refine (ref_small _ _).mono ?_; rintro e w' ⟨rfl, rfl⟩))
        go_loop [3] (fun v => ∃ k : Nat, k ≤ (c :: r).length ∧ v = .int .i64 k ∧ Hid (((c :: r).take k).all insideB = true)) (fun v => (c :: r).length - (intOf v).toNat)
        case atStart => exact ⟨0, Nat.zero_le _, rfl, by show _ = _; simp⟩
        case round =>
          obtain ⟨k, hk, rfl, HA⟩ := hrel
          by_cases hlt : k < (c :: r).length
          · have hlt2 : k < r.length + 1 := hlt
            cases hc : insideB ((c :: r)[k])
            · have HN := Lib.hid (all_no hlt hc)
              go_wp2_with (first
        | (go_at_call 149; refine (ref_in _ _).mono ?_; rintro e w' ⟨rfl, rfl⟩))
              go_ret
              exact ret_bool (by simp only [isNameB, HN.out, Bool.and_false])
            · have HN := Lib.hid (all_more hlt HA.out hc)
              go_wp2_with (first
        | (go_at_call 149; refine (ref_in _ _).mono ?_; rintro e w' ⟨rfl, rfl⟩))
              go_round
              case rel => exact ⟨k + 1, hlt, by go_num, HN⟩
              case measure => simp [intOf]; omega
          · have hge : r.length + 1 ≤ k := Nat.le_of_not_lt hlt
            have ha := HA.out
            rw [List.take_of_length_le (by omega)] at ha
            have HN := Lib.hid ha
            clear ha
            go_wp2_with fail
            go_ret
            exact ret_bool (by simp only [isNameB, HN.out, HF.out, headB, hm, Bool.and_self])
end Go.Proofs.YtpcmcfajfnpjeaaGreatDoor

/-
  Walks: blanks and remarks in the reference's lex.
-/
import Derived.Test.YtlogjjnimlnpkaaGreatDoorQRefA
import Derived.Test.YtlogjjnimlnpkaaGreatDoorQLexL
set_option linter.unusedSimpArgs false
set_option linter.unusedVariables false
set_option maxHeartbeats 8000000
set_option maxRecDepth 20000
namespace Go.Lamb
open Go Go.RowKit
def skipM (b : Bool) (l : List UInt8) : Nat := l.length - (skipL b l).length
theorem skipM_nil (b : Bool) : skipM b [] = 0 := by simp [skipM]
theorem skipM_blank {c : UInt8} {l : List UInt8} (h : blanks.contains c = true) : skipM false (c :: l) = skipM false l + 1 := by
  have := skipL_le false l
  simp only [skipM, skipL, h, if_true, List.length_cons]
  omega
theorem skipM_mark {c : UInt8} {l : List UInt8} (h : blanks.contains c = false) (h2 : c = 37) : skipM false (c :: l) = skipM true (c :: l) := by
  subst h2
  simp [skipM, skipL, blanks]
theorem skipM_in {c : UInt8} {l : List UInt8} (h : c ≠ 10) : skipM true (c :: l) = skipM true l + 1 := by
  have := skipL_le true l
  simp only [skipM, skipL, beq_iff_eq, h, if_false, List.length_cons]
  omega
theorem skipM_out {c : UInt8} {l : List UInt8} (h : c = 10) : skipM true (c :: l) = skipM false (c :: l) := by
  subst h
  simp [skipM, skipL, blanks]
theorem skipM_none {c : UInt8} {l : List UInt8} (h : blanks.contains c = false) (h2 : c ≠ 37) : skipM false (c :: l) = 0 := by
  simp only [skipM, skipL, h, Bool.false_eq_true, if_false, beq_iff_eq, h2]
  omega
theorem skipM_false (l : List UInt8) : skipM false l = skipN l := rfl
end Go.Lamb
namespace Go.Proofs.YtlogjjnimlnpkaaGreatDoor
open Go.RowKit Go.Lamb

def RSkipAt (s : List UInt8) (i : Nat) (v : Value) : Prop := ∃ k : Nat, i ≤ k ∧ k ≤ s.length ∧ v = .int .i64 k ∧ i + skipM false (s.drop i) = k + skipM false (s.drop k)
def RRemAt (s : List UInt8) (i k0 : Nat) (v : Value) : Prop := ∃ k : Nat, k0 ≤ k ∧ k ≤ s.length ∧ v = .int .i64 k ∧ i + skipM false (s.drop i) = k + skipM true (s.drop k)
theorem byte_eq {c : UInt8} {n : Nat} (h : ((c.toNat : Int) == n) = true) (hn : n < 256) : c = UInt8.ofNat n := by
  apply UInt8.toNat_inj.1
  rw [UInt8.toNat_ofNat']
  have := beq_iff_eq.1 h
  omega
set_option maxHeartbeats 2000000 in
theorem ref_skip (s : List UInt8) (i : Nat) (w : World) (hi : i ≤ s.length) (hs : s.length ≤ 140737488355328) :
    Calls Tryz.prog 166 #[.string (bs s), .int .i64 i] w (Ret (.int .i64 (i + skipN (s.drop i) : Nat)) w) := by
  go_enter Tryz.func166, Tryz.ntmps166
  go_wp2_with fail
  go_loop [1] (fun v => RSkipAt s i v) (fun v => s.length - (intOf v).toNat)
  case atStart => exact ⟨i, Nat.le_refl _, hi, rfl, rfl⟩
  case round =>
    obtain ⟨k, hik, hk, rfl, hr⟩ := hrel
    have HR := Lib.hid hr
    clear hr
    by_cases hlt : k < s.length
    · have HD := Lib.hid (List.drop_eq_getElem_cons hlt)
      by_cases hbl : blanks.contains s[k] = true
      · have hbl2 : (s[k].toNat : Int) = 32 ∨ (s[k].toNat : Int) = 9 ∨ (s[k].toNat : Int) = 10 ∨ (s[k].toNat : Int) = 13 := by
          simp [blanks] at hbl
          rcases hbl with h | h | h | h <;> rw [h] <;> decide
        have HB := Lib.hid hbl
        clear hbl
        have hrel : RSkipAt s i (.int .i64 ((k : Int) + 1)) := ⟨k + 1, by omega, hlt, by go_num, by rw [HR.out, HD.out, skipM_blank HB.out]; omega⟩
        have HREL := Lib.hid hrel
        clear hrel
        rcases hbl2 with hb | hb | hb | hb
        all_goals go_wp2_with fail
        all_goals go_round
        all_goals first
          | exact HREL.out
          | (simp [intOf]; omega)
      · have hnb : blanks.contains s[k] = false := by simpa using hbl
        have n32 : ¬ (s[k].toNat : Int) = 32 := fun h => hbl (by rw [show s[k] = 32 from byte_eq (n := 32) (by simpa using h) (by decide)]; decide)
        have n9 : ¬ (s[k].toNat : Int) = 9 := fun h => hbl (by rw [show s[k] = 9 from byte_eq (n := 9) (by simpa using h) (by decide)]; decide)
        have n10 : ¬ (s[k].toNat : Int) = 10 := fun h => hbl (by rw [show s[k] = 10 from byte_eq (n := 10) (by simpa using h) (by decide)]; decide)
        have n13 : ¬ (s[k].toNat : Int) = 13 := fun h => hbl (by rw [show s[k] = 13 from byte_eq (n := 13) (by simpa using h) (by decide)]; decide)
        have HNB := Lib.hid hnb
        have f32 : ((s[k].toNat : Int) == 32) = false := by simpa using n32
        have f9 : ((s[k].toNat : Int) == 9) = false := by simpa using n9
        have f10 : ((s[k].toNat : Int) == 10) = false := by simpa using n10
        have f13 : ((s[k].toNat : Int) == 13) = false := by simpa using n13
        clear hbl hnb
        by_cases h37 : s[k] = 37
        · have y37 : (s[k].toNat : Int) = 37 := by rw [h37]; decide
          have H37 := Lib.hid h37
          have z37 : ((s[k].toNat : Int) != 37) = false := by simpa using y37
          clear h37
          go_wp2_with fail
          go_loop [1] (fun v => RRemAt s i k v) (fun v => s.length - (intOf v).toNat)
          case atStart => exact ⟨k, Nat.le_refl _, hk, rfl, by rw [HR.out, HD.out, skipM_mark HNB.out H37.out]⟩
          case round =>
            obtain ⟨m, hkm, hm, rfl, hr2⟩ := hrel
            have HR2 := Lib.hid hr2
            clear hr2
            by_cases hlt2 : m < s.length
            · have HD2 := Lib.hid (List.drop_eq_getElem_cons hlt2)
              by_cases h10 : s[m] = 10
              · have y10 : (s[m].toNat : Int) = 10 := by rw [h10]; decide
                have hne : m ≠ k := by
                  rintro rfl
                  exact n10 y10
                have H10 := Lib.hid h10
                clear h10
                go_wp2_with fail
                go_round
                case rel => exact ⟨m, by omega, hm, rfl, by rw [HR2.out, HD2.out, skipM_out H10.out]⟩
                case measure => simp [intOf]; omega
              · have y10 : ¬ (s[m].toNat : Int) = 10 := fun h => h10 (byte_eq (n := 10) (by simpa using h) (by decide))
                have H10 := Lib.hid h10
                clear h10
                go_wp2_with fail
                go_round
                case rel => exact ⟨m + 1, by omega, hlt2, by go_num, by rw [HR2.out, HD2.out, skipM_in H10.out]; omega⟩
                case measure => simp [intOf]; omega
            · go_wp2_with fail
              go_round
              case rel => exact ⟨m, by omega, hm, rfl, by rw [HR2.out, List.drop_of_length_le (show s.length ≤ m by omega), skipM_nil, skipM_nil]⟩
              case measure => simp [intOf]; omega
        · have y37 : ¬ (s[k].toNat : Int) = 37 := fun h => h37 (byte_eq (n := 37) (by simpa using h) (by decide))
          have H37 := Lib.hid h37
          have z37 : ((s[k].toNat : Int) != 37) = true := by simpa using y37
          clear h37
          go_wp2_with fail
          go_ret
          refine ret_int ?_
          have h := HR.out
          rw [HD.out, skipM_none HNB.out H37.out, skipM_false] at h
          omega
    · go_wp2_with fail
      go_ret
      refine ret_int ?_
      have h := HR.out
      rw [List.drop_of_length_le (show s.length ≤ k by omega), skipM_nil, skipM_false] at h
      omega
end Go.Proofs.YtlogjjnimlnpkaaGreatDoor

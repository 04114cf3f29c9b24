/-
  Walks: words and numbers in the reference's lex.
-/
import Derived.Test.YtlogjjnimlnpkaaGreatDoorQRefB
import Derived.Handy
set_option linter.unusedSimpArgs false
set_option linter.unusedVariables false
set_option maxHeartbeats 8000000
set_option maxRecDepth 20000
namespace Go.Proofs.YtlogjjnimlnpkaaGreatDoor
open Go.RowKit Go.Lamb

def RRunAt (p : UInt8 → Bool) (s : List UInt8) (i : Nat) (v : Value) : Prop := ∃ k : Nat, i ≤ k ∧ k ≤ s.length ∧ v = .int .i64 k ∧ i + runLen p (s.drop i) = k + runLen p (s.drop k)
set_option maxHeartbeats 2000000 in
theorem ref_word0 (s : List UInt8) (i : Nat) (w : World) (hi : i ≤ s.length) (hs : s.length ≤ 140737488355328) :
    Calls Tryz.prog 206 #[.string (bs s), .int .i64 i, .int .i64 0] w (Ret (.int .i64 (i + runLen insideB (s.drop i) : Nat)) w) := by
  go_enter Tryz.func206, Tryz.ntmps206
  go_wp2_with fail
  go_loop [1] (fun v => RRunAt insideB s i v) (fun v => s.length - (intOf v).toNat)
  case atStart => exact ⟨i, Nat.le_refl _, hi, rfl, rfl⟩
  case round =>
    obtain ⟨k, hik, hk, rfl, hr⟩ := hrel
    have HR := Lib.hid hr
    clear hr
    by_cases hlt : k < s.length
    · have HD := Lib.hid (List.drop_eq_getElem_cons hlt)
      cases hc : insideB s[k]
      · go_wp2_with (first
        | (go_at_call 182; refine (ref_in _ _).mono ?_; rintro e w' ⟨rfl, rfl⟩))
        go_ret
        refine ret_int ?_
        have h := HR.out
        rw [HD.out] at h
        simp only [runLen, hc, Bool.false_eq_true, if_false] at h
        omega
      · go_wp2_with (first
        | (go_at_call 182; refine (ref_in _ _).mono ?_; rintro e w' ⟨rfl, rfl⟩))
        go_round
        case rel => exact ⟨k + 1, by omega, hlt, by go_num, by rw [HR.out, HD.out]; simp only [runLen, hc, if_true]; omega⟩
        case measure => simp [intOf]; omega
    · go_wp2_with fail
      go_ret
      refine ret_int ?_
      have h := HR.out
      rw [List.drop_of_length_le (show s.length ≤ k by omega)] at h
      simp only [runLen] at h
      omega
set_option maxHeartbeats 2000000 in
theorem ref_word1 (s : List UInt8) (i : Nat) (w : World) (hi : i ≤ s.length) (hs : s.length ≤ 140737488355328) :
    Calls Tryz.prog 206 #[.string (bs s), .int .i64 i, .int .i64 1] w (Ret (.int .i64 (i + runLen digitB (s.drop i) : Nat)) w) := by
  go_enter Tryz.func206, Tryz.ntmps206
  go_wp2_with fail
  go_loop [1] (fun v => RRunAt digitB s i v) (fun v => s.length - (intOf v).toNat)
  case atStart => exact ⟨i, Nat.le_refl _, hi, rfl, rfl⟩
  case round =>
    obtain ⟨k, hik, hk, rfl, hr⟩ := hrel
    have HR := Lib.hid hr
    clear hr
    by_cases hlt : k < s.length
    · have HD := Lib.hid (List.drop_eq_getElem_cons hlt)
      cases hc : digitB s[k]
      · go_wp2_with (first
        | (go_at_call 205; refine (ref_digit _ _).mono ?_; rintro e w' ⟨rfl, rfl⟩))
        go_ret
        refine ret_int ?_
        have h := HR.out
        rw [HD.out] at h
        simp only [runLen, hc, Bool.false_eq_true, if_false] at h
        omega
      · go_wp2_with (first
        | (go_at_call 205; refine (ref_digit _ _).mono ?_; rintro e w' ⟨rfl, rfl⟩))
        go_round
        case rel => exact ⟨k + 1, by omega, hlt, by go_num, by rw [HR.out, HD.out]; simp only [runLen, hc, if_true]; omega⟩
        case measure => simp [intOf]; omega
    · go_wp2_with fail
      go_ret
      refine ret_int ?_
      have h := HR.out
      rw [List.drop_of_length_le (show s.length ≤ k by omega)] at h
      simp only [runLen] at h
      omega
set_option maxHeartbeats 2000000 in
theorem ref_word2 (s : List UInt8) (i : Nat) (w : World) (hi : i ≤ s.length) (hs : s.length ≤ 140737488355328) :
    Calls Tryz.prog 206 #[.string (bs s), .int .i64 i, .int .i64 2] w (Ret (.int .i64 (i + runLen signB (s.drop i) : Nat)) w) := by
  go_enter Tryz.func206, Tryz.ntmps206
  go_wp2_with fail
  go_loop [1] (fun v => RRunAt signB s i v) (fun v => s.length - (intOf v).toNat)
  case atStart => exact ⟨i, Nat.le_refl _, hi, rfl, rfl⟩
  case round =>
    obtain ⟨k, hik, hk, rfl, hr⟩ := hrel
    have HR := Lib.hid hr
    clear hr
    by_cases hlt : k < s.length
    · have HD := Lib.hid (List.drop_eq_getElem_cons hlt)
      cases hc : signB s[k]
      · go_wp2_with (first
        | (go_at_call 183; refine (ref_sign _ _).mono ?_; rintro e w' ⟨rfl, rfl⟩))
        go_ret
        refine ret_int ?_
        have h := HR.out
        rw [HD.out] at h
        simp only [runLen, hc, Bool.false_eq_true, if_false] at h
        omega
      · go_wp2_with (first
        | (go_at_call 183; refine (ref_sign _ _).mono ?_; rintro e w' ⟨rfl, rfl⟩))
        go_round
        case rel => exact ⟨k + 1, by omega, hlt, by go_num, by rw [HR.out, HD.out]; simp only [runLen, hc, if_true]; omega⟩
        case measure => simp [intOf]; omega
    · go_wp2_with fail
      go_ret
      refine ret_int ?_
      have h := HR.out
      rw [List.drop_of_length_le (show s.length ≤ k by omega)] at h
      simp only [runLen] at h
      omega
def numV (l : List UInt8) : Value := if decVal l < 9223372036854775808 then .tuple #[.int .i64 (decVal l : Nat), .bool true] else .tuple #[.int .i64 0, .bool false]
theorem numV_ok {l : List UInt8} (h : decVal l < 9223372036854775808) : numV l = .tuple #[.int .i64 (decVal l : Nat), .bool true] := if_pos h
theorem numV_no {l : List UInt8} (h : ¬ decVal l < 9223372036854775808) : numV l = .tuple #[.int .i64 0, .bool false] := if_neg h
def RNumAt (l : List UInt8) (v4 v5 : Value) : Prop := ∃ (k n : Nat), k ≤ l.length ∧ n < 9223372036854775808 ∧ v5 = .int .i64 k ∧ v4 = .int .i64 n ∧ decVal l = decFrom n (l.drop k)
set_option maxHeartbeats 2000000 in
theorem ref_number (l : List UInt8) (w : World) (hd : l.all digitB = true) (hs : l.length ≤ 140737488355328) :
    Calls Tryz.prog 207 #[.string (bs l)] w (Ret (numV l) w) := by
  have HD := Lib.hid hd
  clear hd
  go_enter Tryz.func207, Tryz.ntmps207
  go_wp2_with fail
  go_loop [4, 5] (fun v4 v5 => RNumAt l v4 v5) (fun _ v5 => l.length - (intOf v5).toNat)
  case atStart => exact ⟨0, 0, Nat.zero_le _, by decide, rfl, rfl, rfl⟩
  case round =>
    obtain ⟨k, n, hk, hn, rfl, rfl, hr⟩ := hrel
    have HR := Lib.hid hr
    clear hr
    by_cases hlt : k < l.length
    · have HC := Lib.hid (List.drop_eq_getElem_cons hlt)
      have hdk := digitB_iff.1 (List.all_eq_true.1 HD.out l[k] (List.getElem_mem hlt))
      have d1 : (48 : Int) ≤ l[k].toNat := by omega
      have d2 : (l[k].toNat : Int) ≤ 57 := by omega
      go_wp2_with fail
      · rename_i h
        have hno : ¬ decVal l < 9223372036854775808 := by
          rw [HR.out, HC.out, decFrom_cons]
          have := decFrom_ge (l.drop (k + 1)) (n * 10 + (l[k].toNat - 48))
          omega
        rw [numV_no hno]
        go_returns
        exact ⟨rfl, rfl⟩
      · rename_i h
        go_round
        case rel => exact ⟨k + 1, n * 10 + (l[k].toNat - 48), hlt, by omega, by go_num, by congr 1; omega, by rw [HR.out, HC.out, decFrom_cons]⟩
        case measure => simp [intOf]; omega
    · have hr := HR.out
      rw [List.drop_of_length_le (show l.length ≤ k by omega), decFrom_nil] at hr
      have hv := numV_ok (l := l) (by omega)
      rw [hr] at hv
      have HV := Lib.hid hv
      clear hv hr
      go_wp2_with fail
      go_returns
      refine ⟨?_, rfl⟩
      rw [HV.out]
      rfl
end Go.Proofs.YtlogjjnimlnpkaaGreatDoor

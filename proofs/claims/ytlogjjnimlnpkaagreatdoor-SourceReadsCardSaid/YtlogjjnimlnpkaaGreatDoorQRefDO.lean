/-
  Walks: one token of the reference's lex.
-/
import Derived.Test.YtlogjjnimlnpkaaGreatDoorQRefC
import Derived.Test.YtlogjjnimlnpkaaGreatDoorQLxF
set_option linter.unusedSimpArgs false
set_option linter.unusedVariables false
set_option maxHeartbeats 8000000
set_option maxRecDepth 20000
namespace Go.Proofs.YtlogjjnimlnpkaaGreatDoor
open Go.RowKit Go.Lamb

theorem cls_one {c : UInt8} (h : digitB c = true ∨ smallB c = true ∨ greatB c = true ∨ signB c = true) (n : Nat) (hn : n ∈ [40, 41, 46, 92, 44, 59, 33]) : ¬ (c.toNat : Int) = n := by
  intro e
  have e : ((c.toNat : Int) == n) = true := beq_iff_eq.2 e
  simp only [List.mem_cons, List.mem_nil_iff, or_false] at hn
  rcases hn with rfl | rfl | rfl | rfl | rfl | rfl | rfl
  all_goals
    have := byte_eq e (by decide)
    subst this
    revert h
    decide
theorem cls_bytes {c : UInt8} (h : digitB c = true ∨ smallB c = true ∨ greatB c = true ∨ signB c = true) :
    ((c.toNat : Int) == 40) = false ∧ ((c.toNat : Int) == 41) = false ∧ ((c.toNat : Int) == 46) = false ∧ ((c.toNat : Int) == 92) = false ∧ ((c.toNat : Int) == 44) = false ∧ ((c.toNat : Int) == 59) = false ∧ ((c.toNat : Int) == 33) = false ∧ ¬ (c.toNat : Int) = 44 ∧ ¬ (c.toNat : Int) = 59 ∧ ¬ (c.toNat : Int) = 33 := by
  refine ⟨beq_eq_false_iff_ne.2 (cls_one h 40 (by decide)), beq_eq_false_iff_ne.2 (cls_one h 41 (by decide)), beq_eq_false_iff_ne.2 (cls_one h 46 (by decide)), beq_eq_false_iff_ne.2 (cls_one h 92 (by decide)), beq_eq_false_iff_ne.2 (cls_one h 44 (by decide)), beq_eq_false_iff_ne.2 (cls_one h 59 (by decide)), beq_eq_false_iff_ne.2 (cls_one h 33 (by decide)), cls_one h 44 (by decide), cls_one h 59 (by decide), cls_one h 33 (by decide)⟩
/-- What the reference's One hands back. -/
def ROneAt (r : OneR) (k : Nat) (v : Value) : Prop :=
  ∃ kind text n next, v = .tuple #[.agg #[.int .i64 kind, .string (bs text), .int .i64 n, .int .i64 k], .int .i64 next, .int .i64 r.err] ∧
    (r.err = 0 → kind = r.kind ∧ text = r.text ∧ n = r.n ∧ next = k + r.len)
set_option maxHeartbeats 2000000 in
theorem ref_one_end (s : List UInt8) (w : World) :
    Calls Tryz.prog 167 #[.string (bs s), .int .i64 s.length] w (RetO w (fun _ v => ROneAt (oneL (s.drop s.length)) s.length v)) := by
  have HD := Lib.hid (List.drop_length (l := s))
  go_enter Tryz.func167, Tryz.ntmps167
  go_wp2_with fail
  go_returns
  refine ⟨_, rfl, ?_, by go_grown⟩
  rw [HD.out]
  exact ⟨_, [], _, _, rfl, fun _ => ⟨rfl, rfl, rfl, by simp [oneL]⟩⟩
set_option maxHeartbeats 4000000 in
theorem ref_one_digit (s r : List UInt8) (c : UInt8) (k : Nat) (w : World) (hs : s.length ≤ 140737488355328) (hk : k < s.length) (hd : s.drop k = c :: r) (hc : s[k] = c) (hm : markN c = 0) (h1 : digitB c = true) :
    Calls Tryz.prog 167 #[.string (bs s), .int .i64 k] w (RetO w (fun _ v => ROneAt (oneL (s.drop k)) k v)) := by
  obtain ⟨b1, b2, b3, b4, b5, b6, b7, n5, n6, n7⟩ := cls_bytes (.inl h1)
  have HO := Lib.hid (show oneL (s.drop k) = numR (s.drop k) by rw [hd]; simp [oneL, hm, h1])
  have hle := runLen_le digitB (s.drop k)
  rw [List.length_drop] at hle
  have HT := Lib.hid (run_take digitB (s.drop k))
  clear hd hm
  by_cases hv : decVal ((s.drop k).take (runLen digitB (s.drop k))) < 9223372036854775808
  · have HV := Lib.hid hv
    have HN := Lib.hid (numV_ok hv)
    clear hv
    go_enter Tryz.func167, Tryz.ntmps167
    go_wp2_with (first
        | (go_at_call 205; refine (ref_digit _ _).mono ?_; rintro e w' ⟨rfl, rfl⟩)
        | (go_at_call 206; refine (ref_word1 _ _ _ (by omega) hs).mono ?_; rintro e w' ⟨rfl, rfl⟩)
        | (go_at_call 207; refine (ref_number _ _ HT.out (by simp; omega)).mono ?_; rintro e w1 ⟨rfl, rfl⟩; rw [HN.out]; skip))
    go_returns
    refine ⟨_, rfl, ?_, by go_grown⟩
    rw [HO.out, numR, if_pos HV.out]
    exact ⟨_, [], _, _, rfl, fun _ => ⟨rfl, rfl, rfl, rfl⟩⟩
  · have HV := Lib.hid hv
    have HN := Lib.hid (numV_no hv)
    clear hv
    go_enter Tryz.func167, Tryz.ntmps167
    go_wp2_with (first
        | (go_at_call 205; refine (ref_digit _ _).mono ?_; rintro e w' ⟨rfl, rfl⟩)
        | (go_at_call 206; refine (ref_word1 _ _ _ (by omega) hs).mono ?_; rintro e w' ⟨rfl, rfl⟩)
        | (go_at_call 207; refine (ref_number _ _ HT.out (by simp; omega)).mono ?_; rintro e w1 ⟨rfl, rfl⟩; rw [HN.out]; skip))
    go_returns
    refine ⟨_, rfl, ?_, by go_grown⟩
    rw [HO.out, numR, if_neg HV.out]
    exact ⟨_, [], _, _, rfl, fun h => by simp at h⟩
theorem sign_cls {c : UInt8} (h : signB c = true) : digitB c = false ∧ smallB c = false ∧ greatB c = false := by
  simp [signB, signs] at h
  rcases h with rfl | rfl | rfl | rfl | rfl | rfl | rfl | rfl | rfl | rfl | rfl | rfl | rfl | rfl | rfl | rfl <;> decide
theorem small_cls {c : UInt8} (h : smallB c = true) : digitB c = false ∧ greatB c = false ∧ signB c = false := by
  refine ⟨?_, ?_, ?_⟩
  · simp [smallB, digitB] at h ⊢; omega
  · simp [smallB, greatB] at h ⊢; omega
  · rw [Bool.eq_false_iff]
    intro e
    rw [(sign_cls e).2.1] at h
    cases h
theorem great_cls {c : UInt8} (h : greatB c = true) : digitB c = false ∧ smallB c = false ∧ signB c = false := by
  refine ⟨?_, ?_, ?_⟩
  · simp [greatB, digitB] at h ⊢; omega
  · simp [smallB, greatB] at h ⊢; omega
  · rw [Bool.eq_false_iff]
    intro e
    rw [(sign_cls e).2.2] at h
    cases h
set_option maxHeartbeats 4000000 in
theorem ref_one_small (s r : List UInt8) (c : UInt8) (k : Nat) (w : World) (hs : s.length ≤ 140737488355328) (hk : k < s.length) (hd : s.drop k = c :: r) (hc : s[k] = c) (hm : markN c = 0) (h1 : smallB c = true) :
    Calls Tryz.prog 167 #[.string (bs s), .int .i64 k] w (RetO w (fun _ v => ROneAt (oneL (s.drop k)) k v)) := by
  obtain ⟨b1, b2, b3, b4, b5, b6, b7, n5, n6, n7⟩ := cls_bytes (.inr (.inl h1))
  obtain ⟨c1, c2, c3⟩ := small_cls h1
  have HO := Lib.hid (show oneL (s.drop k) = wordR 1 (runLen insideB (s.drop k)) (s.drop k) by rw [hd]; simp [oneL, hm, c1, h1])
  have hle := runLen_le insideB (s.drop k)
  have hle2 := runLen_le signB (s.drop k)
  rw [List.length_drop] at hle hle2
  clear hd hm
  by_cases hv : 32 < runLen insideB (s.drop k)
  · go_enter Tryz.func167, Tryz.ntmps167
    go_wp2_with (first
        | (go_at_call 205; refine (ref_digit _ _).mono ?_; rintro e w' ⟨rfl, rfl⟩)
        | (go_at_call 181; refine (ref_small _ _).mono ?_; rintro e w' ⟨rfl, rfl⟩)
        | (go_at_call 208; refine (ref_great _ _).mono ?_; rintro e w' ⟨rfl, rfl⟩)
        | (go_at_call 183; refine (ref_sign _ _).mono ?_; rintro e w' ⟨rfl, rfl⟩)
        | (go_at_call 206; (first | refine (ref_word0 _ _ _ (by omega) hs).mono ?_ | refine (ref_word2 _ _ _ (by omega) hs).mono ?_); rintro e w' ⟨rfl, rfl⟩))
    go_returns
    refine ⟨_, rfl, ?_, by go_grown⟩
    rw [HO.out, wordR, if_pos hv]
    exact ⟨_, [], _, _, rfl, fun h => by simp at h⟩
  · go_enter Tryz.func167, Tryz.ntmps167
    go_wp2_with (first
        | (go_at_call 205; refine (ref_digit _ _).mono ?_; rintro e w' ⟨rfl, rfl⟩)
        | (go_at_call 181; refine (ref_small _ _).mono ?_; rintro e w' ⟨rfl, rfl⟩)
        | (go_at_call 208; refine (ref_great _ _).mono ?_; rintro e w' ⟨rfl, rfl⟩)
        | (go_at_call 183; refine (ref_sign _ _).mono ?_; rintro e w' ⟨rfl, rfl⟩)
        | (go_at_call 206; (first | refine (ref_word0 _ _ _ (by omega) hs).mono ?_ | refine (ref_word2 _ _ _ (by omega) hs).mono ?_); rintro e w' ⟨rfl, rfl⟩))
    go_returns
    refine ⟨_, rfl, ?_, by go_grown⟩
    rw [HO.out, wordR, if_neg hv]
    exact ⟨_, _, _, _, rfl, fun _ => ⟨rfl, rfl, rfl, rfl⟩⟩
set_option maxHeartbeats 4000000 in
theorem ref_one_great (s r : List UInt8) (c : UInt8) (k : Nat) (w : World) (hs : s.length ≤ 140737488355328) (hk : k < s.length) (hd : s.drop k = c :: r) (hc : s[k] = c) (hm : markN c = 0) (h1 : greatB c = true) :
    Calls Tryz.prog 167 #[.string (bs s), .int .i64 k] w (RetO w (fun _ v => ROneAt (oneL (s.drop k)) k v)) := by
  obtain ⟨b1, b2, b3, b4, b5, b6, b7, n5, n6, n7⟩ := cls_bytes (.inr (.inr (.inl h1)))
  obtain ⟨c1, c2, c3⟩ := great_cls h1
  have HO := Lib.hid (show oneL (s.drop k) = wordR 2 (runLen insideB (s.drop k)) (s.drop k) by rw [hd]; simp [oneL, hm, c1, c2, h1])
  have hle := runLen_le insideB (s.drop k)
  have hle2 := runLen_le signB (s.drop k)
  rw [List.length_drop] at hle hle2
  clear hd hm
  by_cases hv : 32 < runLen insideB (s.drop k)
  · go_enter Tryz.func167, Tryz.ntmps167
    go_wp2_with (first
        | (go_at_call 205; refine (ref_digit _ _).mono ?_; rintro e w' ⟨rfl, rfl⟩)
        | (go_at_call 181; refine (ref_small _ _).mono ?_; rintro e w' ⟨rfl, rfl⟩)
        | (go_at_call 208; refine (ref_great _ _).mono ?_; rintro e w' ⟨rfl, rfl⟩)
        | (go_at_call 183; refine (ref_sign _ _).mono ?_; rintro e w' ⟨rfl, rfl⟩)
        | (go_at_call 206; (first | refine (ref_word0 _ _ _ (by omega) hs).mono ?_ | refine (ref_word2 _ _ _ (by omega) hs).mono ?_); rintro e w' ⟨rfl, rfl⟩))
    go_returns
    refine ⟨_, rfl, ?_, by go_grown⟩
    rw [HO.out, wordR, if_pos hv]
    exact ⟨_, [], _, _, rfl, fun h => by simp at h⟩
  · go_enter Tryz.func167, Tryz.ntmps167
    go_wp2_with (first
        | (go_at_call 205; refine (ref_digit _ _).mono ?_; rintro e w' ⟨rfl, rfl⟩)
        | (go_at_call 181; refine (ref_small _ _).mono ?_; rintro e w' ⟨rfl, rfl⟩)
        | (go_at_call 208; refine (ref_great _ _).mono ?_; rintro e w' ⟨rfl, rfl⟩)
        | (go_at_call 183; refine (ref_sign _ _).mono ?_; rintro e w' ⟨rfl, rfl⟩)
        | (go_at_call 206; (first | refine (ref_word0 _ _ _ (by omega) hs).mono ?_ | refine (ref_word2 _ _ _ (by omega) hs).mono ?_); rintro e w' ⟨rfl, rfl⟩))
    go_returns
    refine ⟨_, rfl, ?_, by go_grown⟩
    rw [HO.out, wordR, if_neg hv]
    exact ⟨_, _, _, _, rfl, fun _ => ⟨rfl, rfl, rfl, rfl⟩⟩
end Go.Proofs.YtlogjjnimlnpkaaGreatDoor

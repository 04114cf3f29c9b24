/-
  Walks: one token of the reference's lex, the rest of the cases.
-/
import Derived.Test.YtlogjjnimlnpkaaGreatDoorQRefDO
set_option linter.unusedSimpArgs false
set_option linter.unusedVariables false
set_option maxHeartbeats 8000000
set_option maxRecDepth 20000
namespace Go.Proofs.YtlogjjnimlnpkaaGreatDoor
open Go.RowKit Go.Lamb

set_option maxHeartbeats 4000000 in
theorem ref_one_sign (s r : List UInt8) (c : UInt8) (k : Nat) (w : World) (hs : s.length ≤ 140737488355328) (hk : k < s.length) (hd : s.drop k = c :: r) (hc : s[k] = c) (hm : markN c = 0) (h1 : signB c = true) :
    Calls Tryz.prog 167 #[.string (bs s), .int .i64 k] w (RetO w (fun _ v => ROneAt (oneL (s.drop k)) k v)) := by
  obtain ⟨b1, b2, b3, b4, b5, b6, b7, n5, n6, n7⟩ := cls_bytes (.inr (.inr (.inr h1)))
  obtain ⟨c1, c2, c3⟩ := sign_cls h1
  have HO := Lib.hid (show oneL (s.drop k) = wordR 4 (runLen signB (s.drop k)) (s.drop k) by rw [hd]; simp [oneL, hm, c1, c2, c3, h1])
  have hle := runLen_le insideB (s.drop k)
  have hle2 := runLen_le signB (s.drop k)
  rw [List.length_drop] at hle hle2
  clear hd hm
  by_cases hv : 32 < runLen signB (s.drop k)
  · go_enter Tryz.func167, Tryz.ntmps167
    go_wp2_with (first
        | (go_at_call 205; refine (ref_digit _ _).mono ?_; rintro e w' ⟨rfl, rfl⟩)
        | (go_at_call 181; refine (ref_small _ _).mono ?_; rintro e w' ⟨rfl, rfl⟩)
        | (go_at_call 208; refine (ref_great _ _).mono ?_; rintro e w' ⟨rfl, rfl⟩)
        | (go_at_call 183; refine (ref_sign _ _).mono ?_; rintro e w' ⟨rfl, rfl⟩))
    refine (ref_word0 s k _ (by omega) hs).mono ?_
    rintro e w' ⟨rfl, rfl⟩
    go_wp2_with (first
        | (go_at_call 205; refine (ref_digit _ _).mono ?_; rintro e w' ⟨rfl, rfl⟩)
        | (go_at_call 181; refine (ref_small _ _).mono ?_; rintro e w' ⟨rfl, rfl⟩)
        | (go_at_call 208; refine (ref_great _ _).mono ?_; rintro e w' ⟨rfl, rfl⟩)
        | (go_at_call 183; refine (ref_sign _ _).mono ?_; rintro e w' ⟨rfl, rfl⟩))
    refine (ref_word2 s k _ (by omega) hs).mono ?_
    rintro e w' ⟨rfl, rfl⟩
    go_wp2_with fail
    go_returns
    refine ⟨_, rfl, ?_, by go_grown⟩
    rw [HO.out, wordR, if_pos hv]
    exact ⟨_, [], _, _, rfl, fun h => by simp at h⟩
  · go_enter Tryz.func167, Tryz.ntmps167
    go_wp2_with (first
        | (go_at_call 205; refine (ref_digit _ _).mono ?_; rintro e w' ⟨rfl, rfl⟩)
        | (go_at_call 181; refine (ref_small _ _).mono ?_; rintro e w' ⟨rfl, rfl⟩)
        | (go_at_call 208; refine (ref_great _ _).mono ?_; rintro e w' ⟨rfl, rfl⟩)
        | (go_at_call 183; refine (ref_sign _ _).mono ?_; rintro e w' ⟨rfl, rfl⟩))
    refine (ref_word0 s k _ (by omega) hs).mono ?_
    rintro e w' ⟨rfl, rfl⟩
    go_wp2_with (first
        | (go_at_call 205; refine (ref_digit _ _).mono ?_; rintro e w' ⟨rfl, rfl⟩)
        | (go_at_call 181; refine (ref_small _ _).mono ?_; rintro e w' ⟨rfl, rfl⟩)
        | (go_at_call 208; refine (ref_great _ _).mono ?_; rintro e w' ⟨rfl, rfl⟩)
        | (go_at_call 183; refine (ref_sign _ _).mono ?_; rintro e w' ⟨rfl, rfl⟩))
    refine (ref_word2 s k _ (by omega) hs).mono ?_
    rintro e w' ⟨rfl, rfl⟩
    go_wp2_with fail
    go_returns
    refine ⟨_, rfl, ?_, by go_grown⟩
    rw [HO.out, wordR, if_neg hv]
    exact ⟨_, _, _, _, rfl, fun _ => ⟨rfl, rfl, rfl, rfl⟩⟩
set_option maxHeartbeats 2000000 in
theorem ref_one_open (s r : List UInt8) (k : Nat) (w : World) (hs : s.length ≤ 140737488355328) (hk : k < s.length) (hd : s.drop k = 40 :: r) (hc : s[k] = 40) :
    Calls Tryz.prog 167 #[.string (bs s), .int .i64 k] w (RetO w (fun _ v => ROneAt (oneL (s.drop k)) k v)) := by
  have hc2 : (s[k].toNat : Int) = 40 := by rw [hc]; decide
  have HO := Lib.hid (show oneL (s.drop k) = ⟨5, [], 0, 1, 0⟩ by rw [hd]; rfl)
  clear hd hc
  go_enter Tryz.func167, Tryz.ntmps167
  go_wp2_with fail
  go_returns
  refine ⟨_, rfl, ?_, by go_grown⟩
  rw [HO.out]
  exact ⟨_, [], _, _, rfl, fun _ => ⟨rfl, rfl, rfl, rfl⟩⟩
set_option maxHeartbeats 2000000 in
theorem ref_one_shut (s r : List UInt8) (k : Nat) (w : World) (hs : s.length ≤ 140737488355328) (hk : k < s.length) (hd : s.drop k = 41 :: r) (hc : s[k] = 41) :
    Calls Tryz.prog 167 #[.string (bs s), .int .i64 k] w (RetO w (fun _ v => ROneAt (oneL (s.drop k)) k v)) := by
  have hc2 : (s[k].toNat : Int) = 41 := by rw [hc]; decide
  have HO := Lib.hid (show oneL (s.drop k) = ⟨6, [], 0, 1, 0⟩ by rw [hd]; rfl)
  clear hd hc
  go_enter Tryz.func167, Tryz.ntmps167
  go_wp2_with fail
  go_returns
  refine ⟨_, rfl, ?_, by go_grown⟩
  rw [HO.out]
  exact ⟨_, [], _, _, rfl, fun _ => ⟨rfl, rfl, rfl, rfl⟩⟩
set_option maxHeartbeats 2000000 in
theorem ref_one_dot (s r : List UInt8) (k : Nat) (w : World) (hs : s.length ≤ 140737488355328) (hk : k < s.length) (hd : s.drop k = 46 :: r) (hc : s[k] = 46) :
    Calls Tryz.prog 167 #[.string (bs s), .int .i64 k] w (RetO w (fun _ v => ROneAt (oneL (s.drop k)) k v)) := by
  have hc2 : (s[k].toNat : Int) = 46 := by rw [hc]; decide
  have HO := Lib.hid (show oneL (s.drop k) = ⟨7, [], 0, 1, 0⟩ by rw [hd]; rfl)
  clear hd hc
  go_enter Tryz.func167, Tryz.ntmps167
  go_wp2_with fail
  go_returns
  refine ⟨_, rfl, ?_, by go_grown⟩
  rw [HO.out]
  exact ⟨_, [], _, _, rfl, fun _ => ⟨rfl, rfl, rfl, rfl⟩⟩
set_option maxHeartbeats 2000000 in
theorem ref_one_back (s r : List UInt8) (k : Nat) (w : World) (hs : s.length ≤ 140737488355328) (hk : k < s.length) (hd : s.drop k = 92 :: r) (hc : s[k] = 92) :
    Calls Tryz.prog 167 #[.string (bs s), .int .i64 k] w (RetO w (fun _ v => ROneAt (oneL (s.drop k)) k v)) := by
  have hc2 : (s[k].toNat : Int) = 92 := by rw [hc]; decide
  have HO := Lib.hid (show oneL (s.drop k) = ⟨8, [], 0, 1, 0⟩ by rw [hd]; rfl)
  clear hd hc
  go_enter Tryz.func167, Tryz.ntmps167
  go_wp2_with fail
  go_returns
  refine ⟨_, rfl, ?_, by go_grown⟩
  rw [HO.out]
  exact ⟨_, [], _, _, rfl, fun _ => ⟨rfl, rfl, rfl, rfl⟩⟩
set_option maxHeartbeats 2000000 in
theorem ref_one_comma (s r : List UInt8) (k : Nat) (w : World) (hs : s.length ≤ 140737488355328) (hk : k < s.length) (hd : s.drop k = 44 :: r) (hc : s[k] = 44) :
    Calls Tryz.prog 167 #[.string (bs s), .int .i64 k] w (RetO w (fun _ v => ROneAt (oneL (s.drop k)) k v)) := by
  have hc2 : (s[k].toNat : Int) = 44 := by rw [hc]; decide
  have HO := Lib.hid (show oneL (s.drop k) = ⟨4, (s.drop k).take 1, 0, 1, 0⟩ by rw [hd]; rfl)
  clear hd hc
  go_enter Tryz.func167, Tryz.ntmps167
  go_wp2_with fail
  go_returns
  refine ⟨_, rfl, ?_, by go_grown⟩
  rw [HO.out]
  exact ⟨_, _, _, _, rfl, fun _ => ⟨rfl, rfl, rfl, rfl⟩⟩
set_option maxHeartbeats 2000000 in
theorem ref_one_semi (s r : List UInt8) (k : Nat) (w : World) (hs : s.length ≤ 140737488355328) (hk : k < s.length) (hd : s.drop k = 59 :: r) (hc : s[k] = 59) :
    Calls Tryz.prog 167 #[.string (bs s), .int .i64 k] w (RetO w (fun _ v => ROneAt (oneL (s.drop k)) k v)) := by
  have hc2 : (s[k].toNat : Int) = 59 := by rw [hc]; decide
  have HO := Lib.hid (show oneL (s.drop k) = ⟨4, (s.drop k).take 1, 0, 1, 0⟩ by rw [hd]; rfl)
  clear hd hc
  go_enter Tryz.func167, Tryz.ntmps167
  go_wp2_with fail
  go_returns
  refine ⟨_, rfl, ?_, by go_grown⟩
  rw [HO.out]
  exact ⟨_, _, _, _, rfl, fun _ => ⟨rfl, rfl, rfl, rfl⟩⟩
set_option maxHeartbeats 2000000 in
theorem ref_one_cut (s r : List UInt8) (k : Nat) (w : World) (hs : s.length ≤ 140737488355328) (hk : k < s.length) (hd : s.drop k = 33 :: r) (hc : s[k] = 33) :
    Calls Tryz.prog 167 #[.string (bs s), .int .i64 k] w (RetO w (fun _ v => ROneAt (oneL (s.drop k)) k v)) := by
  have hc2 : (s[k].toNat : Int) = 33 := by rw [hc]; decide
  have HO := Lib.hid (show oneL (s.drop k) = ⟨4, (s.drop k).take 1, 0, 1, 0⟩ by rw [hd]; rfl)
  clear hd hc
  go_enter Tryz.func167, Tryz.ntmps167
  go_wp2_with fail
  go_returns
  refine ⟨_, rfl, ?_, by go_grown⟩
  rw [HO.out]
  exact ⟨_, _, _, _, rfl, fun _ => ⟨rfl, rfl, rfl, rfl⟩⟩
set_option maxHeartbeats 2000000 in
theorem ref_one_bad (s r : List UInt8) (c : UInt8) (k : Nat) (w : World) (hs : s.length ≤ 140737488355328) (hk : k < s.length) (hd : s.drop k = c :: r) (hc : s[k] = c) (hm : markN c = 0)
    (h1 : digitB c = false) (h2 : smallB c = false) (h3 : greatB c = false) (h4 : signB c = false) (h5 : singles.contains c = false) :
    Calls Tryz.prog 167 #[.string (bs s), .int .i64 k] w (RetO w (fun _ v => ROneAt (oneL (s.drop k)) k v)) := by
  have HO := Lib.hid (show oneL (s.drop k) = ⟨0, [], 0, 0, 10⟩ by rw [hd]; simp only [oneL, hm, h1, h2, h3, h4, h5, ne_eq, not_true, if_false, Bool.false_eq_true])
  have n1 : ¬ (c.toNat : Int) = 40 := fun e => by rw [byte_eq (n := 40) (beq_iff_eq.2 e) (by decide)] at hm; revert hm; decide
  have n2 : ¬ (c.toNat : Int) = 41 := fun e => by rw [byte_eq (n := 41) (beq_iff_eq.2 e) (by decide)] at hm; revert hm; decide
  have n3 : ¬ (c.toNat : Int) = 46 := fun e => by rw [byte_eq (n := 46) (beq_iff_eq.2 e) (by decide)] at hm; revert hm; decide
  have n4 : ¬ (c.toNat : Int) = 92 := fun e => by rw [byte_eq (n := 92) (beq_iff_eq.2 e) (by decide)] at hm; revert hm; decide
  have n5 : ¬ (c.toNat : Int) = 44 := fun e => by rw [byte_eq (n := 44) (beq_iff_eq.2 e) (by decide)] at h5; revert h5; decide
  have n6 : ¬ (c.toNat : Int) = 59 := fun e => by rw [byte_eq (n := 59) (beq_iff_eq.2 e) (by decide)] at h5; revert h5; decide
  have n7 : ¬ (c.toNat : Int) = 33 := fun e => by rw [byte_eq (n := 33) (beq_iff_eq.2 e) (by decide)] at h5; revert h5; decide
  have b1 := beq_eq_false_iff_ne.2 n1
  have b2 := beq_eq_false_iff_ne.2 n2
  have b3 := beq_eq_false_iff_ne.2 n3
  have b4 := beq_eq_false_iff_ne.2 n4
  have b5 := beq_eq_false_iff_ne.2 n5
  have b6 := beq_eq_false_iff_ne.2 n6
  have b7 := beq_eq_false_iff_ne.2 n7
  clear hd hm h5
  go_enter Tryz.func167, Tryz.ntmps167
  go_wp2_with (first
        | (go_at_call 205; refine (ref_digit _ _).mono ?_; rintro e w' ⟨rfl, rfl⟩)
        | (go_at_call 181; refine (ref_small _ _).mono ?_; rintro e w' ⟨rfl, rfl⟩)
        | (go_at_call 208; refine (ref_great _ _).mono ?_; rintro e w' ⟨rfl, rfl⟩)
        | (go_at_call 183; refine (ref_sign _ _).mono ?_; rintro e w' ⟨rfl, rfl⟩))
  go_returns
  refine ⟨_, rfl, ?_, by go_grown⟩
  rw [HO.out]
  exact ⟨_, [], _, _, rfl, fun h => by simp at h⟩
theorem ref_one (s : List UInt8) (k : Nat) (w : World) (hs : s.length ≤ 140737488355328) (hk : k ≤ s.length) :
    Calls Tryz.prog 167 #[.string (bs s), .int .i64 k] w (RetO w (fun _ v => ROneAt (oneL (s.drop k)) k v)) := by
  by_cases hlt : k < s.length
  · obtain ⟨c, hc⟩ : ∃ c, s[k] = c := ⟨_, rfl⟩
    have hd := List.drop_eq_getElem_cons hlt
    rw [hc] at hd
    cases h5 : singles.contains c
    · by_cases hm : markN c = 0
      · cases h1 : digitB c
        · cases h2 : smallB c
          · cases h3 : greatB c
            · cases h4 : signB c
              · exact ref_one_bad s _ c k w hs hlt hd hc hm h1 h2 h3 h4 h5
              · exact ref_one_sign s _ c k w hs hlt hd hc hm h4
            · exact ref_one_great s _ c k w hs hlt hd hc hm h3
          · exact ref_one_small s _ c k w hs hlt hd hc hm h2
        · exact ref_one_digit s _ c k w hs hlt hd hc hm h1
      · have h := hm
        unfold markN at h
        by_cases e1 : ((c.toNat : Int) == 40) = true
        · obtain rfl := byte_eq (n := 40) e1 (by decide)
          exact ref_one_open s _ k w hs hlt hd hc
        · by_cases e2 : ((c.toNat : Int) == 41) = true
          · obtain rfl := byte_eq (n := 41) e2 (by decide)
            exact ref_one_shut s _ k w hs hlt hd hc
          · by_cases e3 : ((c.toNat : Int) == 46) = true
            · obtain rfl := byte_eq (n := 46) e3 (by decide)
              exact ref_one_dot s _ k w hs hlt hd hc
            · by_cases e4 : ((c.toNat : Int) == 92) = true
              · obtain rfl := byte_eq (n := 92) e4 (by decide)
                exact ref_one_back s _ k w hs hlt hd hc
              · rw [if_neg e1, if_neg e2, if_neg e3, if_neg e4] at h
                exact absurd rfl h
    · have h : c = 44 ∨ c = 59 ∨ c = 33 := by simpa [singles] using h5
      rcases h with rfl | rfl | rfl
      · exact ref_one_comma s _ k w hs hlt hd hc
      · exact ref_one_semi s _ k w hs hlt hd hc
      · exact ref_one_cut s _ k w hs hlt hd hc
  · obtain rfl : k = s.length := by omega
    exact ref_one_end s w
end Go.Proofs.YtlogjjnimlnpkaaGreatDoor

/-
  Walks: the examples of the statements of lex.
-/
import Derived.Test.YtohcnohllbjlcaaDoorQLexF
import Derived.Test.YtohcnohllbjlcaaDoorQLxG
import Derived.Deep.RegionHeld3
import Derived.Laws.StructEq
set_option linter.unusedSimpArgs false
set_option linter.unusedVariables false
set_option maxHeartbeats 8000000
set_option maxRecDepth 20000
namespace Go.Proofs.YtohcnohllbjlcaaDoor
open Go.RowKit Go.Lamb

theorem lexL_1 : lexL [112, 32, 88, 32, 58, 45, 32, 113, 46, 32, 37, 32, 120] = ⟨[⟨1, [112], 0, 0⟩, ⟨2, [88], 0, 2⟩, ⟨4, [58, 45], 0, 4⟩, ⟨1, [113], 0, 7⟩, ⟨7, [], 0, 8⟩, ⟨0, [], 0, 13⟩], 0, 0⟩ := by decide +kernel
theorem lexL_2 : lexL [123] = ⟨[], 10, 0⟩ := by decide +kernel
theorem works_1 (w : World) (hG : Glob w) : Calls Tryd.prog 13 #[.string ⟨#[112, 32, 88, 32, 58, 45, 32, 113, 46, 32, 37, 32, 120]⟩] w (RetR w fun w' v => ∃ b o c, v = .tuple #[.slice (some ⟨b, o, none⟩) 6 c, .int .i64 0, .int .i64 0] ∧ 6 ≤ c ∧ c ≤ maxLen ∧ b < w'.heap.size ∧
    (w'.cell? ⟨b, o, none⟩ = some (.int .i64 1) ∧ w'.cell? ⟨b, o + 1, none⟩ = some (.string ⟨#[112]⟩) ∧ w'.cell? ⟨b, o + 2, none⟩ = some (.int .i64 0) ∧ w'.cell? ⟨b, o + 3, none⟩ = some (.int .i64 0)) ∧
    (w'.cell? ⟨b, o + 4, none⟩ = some (.int .i64 2) ∧ w'.cell? ⟨b, o + 5, none⟩ = some (.string ⟨#[88]⟩) ∧ w'.cell? ⟨b, o + 6, none⟩ = some (.int .i64 0) ∧ w'.cell? ⟨b, o + 7, none⟩ = some (.int .i64 2)) ∧
    (w'.cell? ⟨b, o + 8, none⟩ = some (.int .i64 4) ∧ w'.cell? ⟨b, o + 9, none⟩ = some (.string ⟨#[58, 45]⟩) ∧ w'.cell? ⟨b, o + 10, none⟩ = some (.int .i64 0) ∧ w'.cell? ⟨b, o + 11, none⟩ = some (.int .i64 4)) ∧
    (w'.cell? ⟨b, o + 20, none⟩ = some (.int .i64 0) ∧ w'.cell? ⟨b, o + 21, none⟩ = some (.string ⟨#[]⟩) ∧ w'.cell? ⟨b, o + 22, none⟩ = some (.int .i64 0) ∧ w'.cell? ⟨b, o + 23, none⟩ = some (.int .i64 13))) := by
  refine (lex_Lex [112, 32, 88, 32, 58, 45, 32, 113, 46, 32, 37, 32, 120] w (by simp) hG).mono ?_
  rintro e w' ⟨v, rfl, ⟨t, rfl, ht⟩, hb⟩
  rw [lexL_1] at ht ⊢
  obtain ⟨A, c, rfl, h1, h2⟩ := ht.form
  obtain ⟨b, o, rfl, hlt, hc⟩ := ht.pos (by decide)
  exact ⟨_, rfl, ⟨b, o, c, rfl, h1, h2, hlt, ⟨hc 0 _ rfl, hc 1 _ rfl, hc 2 _ rfl, hc 3 _ rfl⟩, ⟨hc 4 _ rfl, hc 5 _ rfl, hc 6 _ rfl, hc 7 _ rfl⟩, ⟨hc 8 _ rfl, hc 9 _ rfl, hc 10 _ rfl, hc 11 _ rfl⟩, ⟨hc 20 _ rfl, hc 21 _ rfl, hc 22 _ rfl, hc 23 _ rfl⟩⟩, hb⟩
theorem works_2 (w : World) (hG : Glob w) : Calls Tryd.prog 13 #[.string ⟨#[123]⟩] w (RetR w fun _ v => ∃ t, v = .tuple #[t, .int .i64 10, .int .i64 0]) := by
  refine (lex_Lex [123] w (by simp) hG).mono ?_
  rintro e w' ⟨v, rfl, ⟨t, rfl, ht⟩, hb⟩
  rw [lexL_2]
  exact ⟨_, rfl, ⟨t, rfl⟩, hb⟩
theorem works_3 (w : World) : Calls Tryd.prog 5 #[.string ⟨#[120, 39]⟩] w (Ret (.bool true) w) := lex_IsName ⟨#[120, 39]⟩ w (by simp only [maxLen]; decide)
theorem works_4 (w : World) : Calls Tryd.prog 7 #[.string ⟨#[95]⟩] w (Ret (.bool true) w) := lex_IsVar ⟨#[95]⟩ w (by simp only [maxLen]; decide)
theorem works_5 (w : World) : Calls Tryd.prog 9 #[.string ⟨#[61, 62]⟩] w (Ret (.bool true) w) := lex_IsSym ⟨#[61, 62]⟩ w (by simp only [maxLen]; decide)
theorem works_6 (w : World) (hG : Glob w) : Calls Tryd.prog 11 #[.agg #[.int .i64 3, .string ⟨#[]⟩, .int .i64 70, .int .i64 0]] w (RetB (.string ⟨#[55, 48]⟩) w) := by
  have h1 : Lib.decDigits 70 = [55, 48] := by
    rw [Lib.decDigits, dif_neg (by omega), Lib.decDigits, dif_pos (by omega)]
    rfl
  have h : textL 3 [] 70 = [55, 48] := by
    show Lib.itoa 70 = _
    unfold Lib.itoa
    rw [if_neg (by omega)]
    exact h1
  have := lex_Text 3 [] 70 0 w (by omega) hG
  rw [h] at this
  exact this

set_option maxHeartbeats 4000000 in
set_option maxRecDepth 100000 in
theorem works_c (w : World) (hG : Glob w) : Calls Tryd.prog 4 #[] w (RetB (.bool true) w) := by
  have HG := Lib.hid hG
  clear hG
  go_enter Tryd.func4, Tryd.ntmps4
  go_wp2_with fail
  refine (works_1 _ HG.out).mono ?_
  rintro e w1 ⟨v, rfl, ⟨b, o, c, rfl, h6, hm, hlt, ⟨c0, c1, c2, c3⟩, ⟨c4, c5, c6, c7⟩, ⟨c8, c9, c10, c11⟩, ⟨c20, c21, c22, c23⟩⟩, hb1⟩
  have HB1 := Lib.hid hb1
  have HG1 := Lib.hid (HG.out.ext hb1)
  clear hb1
  unfold maxLen at hm
  go_wp2_with fail
  refine (works_2 _ HG1.out).mono ?_
  rintro e w2 ⟨v, rfl, ⟨t2, rfl⟩, hb2⟩
  obtain ⟨hc2, hf2⟩ := bcell hb2
  have HB2 := Lib.hid hb2
  have HG2 := Lib.hid (HG1.out.ext hb2)
  clear hb2
  go_wp2_with (first
        | (go_at_call 5; refine (works_3 _).mono ?_; rintro e w' ⟨rfl, rfl⟩)
        | (go_at_call 7; refine (works_4 _).mono ?_; rintro e w' ⟨rfl, rfl⟩)
        | (go_at_call 9; refine (works_5 _).mono ?_; rintro e w' ⟨rfl, rfl⟩)
        | (go_at_call 11; refine (works_6 _ HG2.out).mono ?_; rintro e w3 ⟨rfl, hb3⟩; have HB3 := Lib.hid hb3; clear hb3))
  go_ret
  refine ⟨rfl, after HB1.out (after HB2.out HB3.out)⟩
end Go.Proofs.YtohcnohllbjlcaaDoor

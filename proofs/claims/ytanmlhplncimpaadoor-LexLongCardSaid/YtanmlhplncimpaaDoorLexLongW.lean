/-
  Walk: LexLong.
-/
import Derived.Test.YtanmlhplncimpaaDoorLexW
namespace Go.Proofs.YtanmlhplncimpaaDoor
open Go.RowKit Go.Lamb

def LongAt (n : Int) (w : World) (v : Value) (wr : World) : Prop :=
  ∃ l : List UInt8, v = .string (bs l) ∧ 1 ≤ l.length ∧ (l.length : Int) ≤ 65536 + min n 100 ∧ Below w.heap.size w wr
set_option maxHeartbeats 4000000 in
set_option maxRecDepth 100000 in
theorem long_walk (s : List UInt8) (n : Int) (w : World) (hn : n ≤ 9223372036854775807) (hn' : -9223372036854775808 ≤ n) (hs : s.length ≤ 140737488355328) (hG : Glob w) :
    Calls Tryd.prog 5 #[.string (bs s), .int .i64 n] w (RetB (.bool true) w) := by
  have HG := Lib.hid hG
  clear hG
  by_cases h : s.length < 1 ∨ 64 < s.length ∨ n < 1
  · go_enter Tryd.func5, Tryd.ntmps5
    go_wp2_with (first
        | (go_at_call 9; refine (works_c _ HG.out).mono ?_; rintro e w1 ⟨rfl, hb1⟩; have HB1 := Lib.hid hb1; clear hb1))
    all_goals go_ret
    all_goals exact ⟨rfl, HB1.out⟩
  · have g1 : 1 ≤ s.length := by omega
    have g2 : s.length ≤ 64 := by omega
    have g3 : 1 ≤ n := by omega
    clear h
    go_enter Tryd.func5, Tryd.ntmps5
    go_wp2_with (first
        | (go_at_call 9; refine (works_c _ HG.out).mono ?_; rintro e w1 ⟨rfl, hb1⟩; have HB1 := Lib.hid hb1; clear hb1))
    go_loopw [6] (fun v wr => LongAt n w v wr) (fun v _ => match v with | .string x => (65536 + min n 100).toNat - x.size | _ => 0)
    case atStart => exact ⟨s, rfl, g1, by omega, HB1.out⟩
    case round =>
      obtain ⟨l, rfl, k1, k2, hb⟩ := hrel
      have HB := Lib.hid hb
      have HGr := Lib.hid (HG.out.ext hb)
      clear hb
      by_cases hlt : (l.length : Int) < 65536 + min n 100
      · have m1 : 0 ≤ min (l.length : Int) (65536 + min n 100 - l.length) := by omega
        have m2 : min (l.length : Int) (65536 + min n 100 - l.length) ≤ l.length := by omega
        have m3 : min n 100 ≤ 100 := by omega
        have m4 : 1 ≤ min n 100 := by omega
        go_wp2_with fail
        go_roundw
        case rel => exact ⟨_, rfl, by simp; omega, by simp; omega, HB.out⟩
        case measure => simp only [bs_size]; simp; omega
      · have m3 : min n 100 ≤ 100 := by omega
        have m4 : 1 ≤ min n 100 := by omega
        have HL := Lib.hid (show lexL l = ⟨[], 13, 0⟩ by unfold lexL; rw [if_pos (by omega)])
        have e13 := lexL_no13 (show ((l.drop 0).take (65536 - 0)).length ≤ 65536 by rw [List.length_take]; omega)
        simp only [List.drop_zero, Nat.sub_zero] at e13
        have e14 : ((lexL (l.take 65536)).err != 13) = true := by simpa using e13
        have e15 : ((lexL (l.take 65536)).err == 13) = false := by simpa using e13
        clear e13
        go_wp2_with fail
        refine (lex_Lex l _ (by omega) HGr.out).mono ?_
        rintro e w2 ⟨v, rfl, ⟨t, rfl, ht⟩, hb2⟩
        rw [HL.out] at ht ⊢
        obtain ⟨A, c, rfl, _, _⟩ := ht.form
        have HB2 := Lib.hid hb2
        have HG2 := Lib.hid (HGr.out.ext hb2)
        clear hb2 ht
        go_wp2_with fail
        refine (lex_Lex (l.take 65536) _ (by rw [List.length_take]; omega) HG2.out).mono ?_
        rintro e w3 ⟨v, rfl, ⟨t3, rfl, ht3⟩, hb3⟩
        have HB3 := Lib.hid hb3
        clear hb3 ht3
        go_wp2_with fail
        go_ret
        exact ⟨rfl, HB.out.trans ((after HB2.out HB3.out).mono HB.out.size)⟩
end Go.Proofs.YtanmlhplncimpaaDoor

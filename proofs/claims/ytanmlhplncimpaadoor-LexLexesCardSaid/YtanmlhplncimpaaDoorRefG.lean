/-
  Walks: two rows of tokens alike; LexLexes.
-/
import Derived.Test.YtanmlhplncimpaaDoorRefF
import Derived.Test.YtanmlhplncimpaaDoorLexGlueW
namespace Go.Proofs.YtanmlhplncimpaaDoor
open Go.RowKit Go.Lamb

set_option maxHeartbeats 4000000 in
set_option maxRecDepth 100000 in
theorem ref_Same (l : List Tok) (v0 v1 : Value) (w : World) (h0 : Toks w w.heap.size v0 l) (h1 : Toks w w.heap.size v1 l) :
    Calls Tryd.prog 12 #[v0, v1] w (RetB (.bool true) w) := by
  by_cases hn : l = []
  · subst hn
    obtain ⟨A, c, rfl, _, _⟩ := h0.form
    obtain ⟨A1, c1, rfl, _, _⟩ := h1.form
    clear h0 h1
    go_enter Tryd.func12, Tryd.ntmps12
    go_wp2_with fail
    go_loopw [5] (fun v wr => v = .int .i64 0 ∧ wr = w) (fun _ _ => 0)
    case atStart => exact ⟨rfl, rfl⟩
    case round =>
      obtain ⟨rfl, rfl⟩ := hrel
      go_wp2_with fail
      go_ret
      exact ⟨rfl, Below.refl _ _⟩
  · obtain ⟨b0, o0, c0, rfl, k1, k2, k3⟩ := h0.open hn
    obtain ⟨b1, o1, c1, rfl, j1, j2, j3⟩ := h1.open hn
    have H0 := Lib.hid h0
    have H1 := Lib.hid h1
    have hlen : l.length ≤ 9223372036854775807 := Nat.le_trans k1 (Nat.le_trans k2 (by decide))
    clear h0 h1 hn
    go_enter Tryd.func12, Tryd.ntmps12
    go_wp2_with fail
    go_loopw [5] (fun v wr => GlueAt l.length w v wr) (fun v _ => l.length - (intOf v).toNat)
    case atStart => exact ⟨0, Nat.zero_le _, rfl, Below.refl _ _⟩
    case round =>
      obtain ⟨i, hi, rfl, hb⟩ := hrel
      have HB := Lib.hid hb
      by_cases hlt : i < l.length
      · obtain ⟨p0, p1, p2, p3⟩ := Toks.cells (H0.out.below hb) i hlt
        obtain ⟨q0, q1, q2, q3⟩ := Toks.cells (H1.out.below hb) i hlt
        generalize l[i] = t at p0 p1 p2 p3 q0 q1 q2 q3
        obtain ⟨kind, text, n, pos⟩ := t
        simp only at p0 p1 p2 p3 q0 q1 q2 q3
        clear hb
        go_wp2_with fail
        go_quiet (fail)
        go_wp2_with fail
        go_roundw
        case rel => exact ⟨i + 1, hlt, by go_num, after HB.out (below_drewN (Below.refl _ _))⟩
        case measure => simp [intOf]; omega
      · clear hb
        go_wp2_with fail
        go_ret
        exact ⟨rfl, HB.out⟩
set_option maxHeartbeats 4000000 in
set_option maxRecDepth 100000 in
theorem lexes_walk (s : List UInt8) (w : World) (hG : Glob w) :
    Calls Tryd.prog 3 #[.string (bs s)] w (RetB (.bool true) w) := by
  have HG := Lib.hid hG
  clear hG
  by_cases hbig : 2048 < s.length
  · go_enter Tryd.func3, Tryd.ntmps3
    go_wp2_with (first
        | (go_at_call 9; refine (works_c _ HG.out).mono ?_; rintro e w1 ⟨rfl, hb1⟩; have HB1 := Lib.hid hb1; clear hb1))
    all_goals go_ret
    all_goals exact ⟨rfl, HB1.out⟩
  · have hls : s.length ≤ 2048 := by omega
    clear hbig
    go_enter Tryd.func3, Tryd.ntmps3
    go_wp2_with fail
    refine (works_c _ HG.out).mono ?_
    rintro e w1 ⟨rfl, hb1⟩
    have HB1 := Lib.hid hb1
    have HG1 := Lib.hid (HG.out.ext hb1)
    clear hb1
    go_wp2_with fail
    refine (lex_Lex s _ (by omega) HG1.out).mono ?_
    rintro e w2 ⟨vA, rfl, ⟨tA, rfl, htA⟩, hb2⟩
    have HB2 := Lib.hid (HB1.out.trans (hb2.mono HB1.out.size))
    have HTA := Lib.hid htA
    clear htA hb2
    go_wp2_with fail
    refine (ref_Lex s _ (by omega)).mono ?_
    rintro e w3 ⟨vB, rfl, ⟨tB, rfl, htB⟩, hb3⟩
    have HB3 := Lib.hid (HB2.out.trans (hb3.mono HB2.out.size))
    have HTA3 := Lib.hid (HTA.out.ext hb3)
    have HTB := Lib.hid htB
    clear htB hb3
    go_wp2_with fail
    refine (ref_Same (lexL s).toks tA tB _ HTA3.out HTB.out).mono ?_
    rintro e w4 ⟨rfl, hb4⟩
    have HB4 := Lib.hid (HB3.out.trans (hb4.mono HB3.out.size))
    clear hb4
    go_wp2_with fail
    go_ret
    exact ⟨rfl, HB4.out⟩
end Go.Proofs.YtanmlhplncimpaaDoor

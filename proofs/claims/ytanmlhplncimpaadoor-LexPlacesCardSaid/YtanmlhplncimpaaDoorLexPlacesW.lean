/-
  Walk: LexPlaces.
-/
import Derived.Test.YtanmlhplncimpaaDoorLexW
import Derived.Test.YtanmlhplncimpaaDoorLexPl
namespace Go.Proofs.YtanmlhplncimpaaDoor
open Go.RowKit Go.Lamb

def PlacesAt (l : List Tok) (w : World) (v7 v8 : Value) (wr : World) : Prop :=
  ∃ i : Nat, i ≤ l.length ∧ v8 = .int .i64 i ∧ v7 = .int .i64 (toAt l i) ∧ Below w.heap.size w wr
set_option maxHeartbeats 4000000 in
set_option maxRecDepth 100000 in
theorem places_walk (s : List UInt8) (w : World) (hs : s.length ≤ 140737488355328) (hG : Glob w) :
    Calls Tryd.prog 7 #[.string (bs s)] w (RetB (.bool true) w) := by
  have HG := Lib.hid hG
  clear hG
  by_cases hbig : 2048 < s.length
  · go_enter Tryd.func7, Tryd.ntmps7
    go_wp2_with (first
        | (go_at_call 9; refine (works_c _ HG.out).mono ?_; rintro e w1 ⟨rfl, hb1⟩; have HB1 := Lib.hid hb1; clear hb1))
    go_ret
    exact ⟨rfl, HB1.out⟩
  by_cases he : (lexL s).err = 0
  · have h1 : ((lexL s).err == 0) = true := by simpa using he
    have h2 : ((lexL s).err != 0) = false := by simpa using he
    obtain ⟨good, ne, p0⟩ := good_lexL (by omega) he
    have HN := Lib.hid ne
    have hp1 : ((lexL s).pos : Int) = 0 := by omega
    have HGo := Lib.hid good
    have hlen : 0 < (lexL s).toks.length := List.length_pos_iff.2 ne
    clear he good ne p0
    go_enter Tryd.func7, Tryd.ntmps7
    go_wp2_with fail
    refine (works_c _ HG.out).mono ?_
    rintro e w1 ⟨rfl, hb1⟩
    have HB1 := Lib.hid hb1
    have HG1 := Lib.hid (HG.out.ext hb1)
    clear hb1
    go_wp2_with fail
    refine (lex_Lex s _ (by omega) HG1.out).mono ?_
    rintro e w2 ⟨v, rfl, ⟨t, rfl, ht⟩, hb2⟩
    obtain ⟨b, o, c, rfl, hc1, hc2, hlt⟩ := ht.open HN.out
    have HT := Lib.hid ht
    have hlen2 : (lexL s).toks.length ≤ 9223372036854775807 := Nat.le_trans hc1 (Nat.le_trans hc2 (by decide))
    have HB2 := Lib.hid (after HB1.out hb2)
    clear hb2 ht
    go_wp2_with fail
    go_loopw [7, 8] (fun v7 v8 wr => PlacesAt (lexL s).toks w2 v7 v8 wr) (fun _ v8 _ => (lexL s).toks.length - (intOf v8).toNat)
    case atStart => exact ⟨0, Nat.zero_le _, rfl, rfl, Below.refl _ _⟩
    case round =>
      obtain ⟨i, hi, rfl, rfl, hb⟩ := hrel
      have HB := Lib.hid hb
      by_cases hlti : i < (lexL s).toks.length
      · obtain ⟨q0, q1, q2, q3⟩ := Toks.cells (HT.out.below hb) i hlti
        have ok := toAt_ok hlti HGo.out
        generalize hto : toAt (lexL s).toks i = to at ok ⊢
        have hto1 := toAt_get hlti
        generalize (lexL s).toks[i] = t at ok q0 q1 q2 q3 hto1
        obtain ⟨kind, text, n, pos⟩ := t
        obtain ⟨k1, k2, k3, k4, k5, k6, k7, k8⟩ := ok
        simp only [Tok.w] at k1 k2 k3 k4 k5 k6 k7 k8 q0 q1 q2 q3
        generalize hp : pos.toNat = p at k1 k2 k3 k5 k6 k7
        subst k1
        have HGr := Lib.hid ((HG.out.ext HB2.out).ext hb)
        have k0 : (p : Int) ≤ s.length := by omega
        have k9 : (to : Int) ≤ p := by omega
        have hn : n ≤ 9223372036854775807 := k8.2
        have HTx := Lib.hid (fun (w' : World) (hG' : Glob w') => lex_Text kind text n p w' hn hG')
        simp only [Tok.to, Tok.w, Int.toNat_natCast] at hto1
        generalize textL kind text n = W at HTx k6 k7 hto1
        clear hb k2 k3 k8 hp
        by_cases hl : i + 1 = (lexL s).toks.length
        · have l1 : ((i : Int) == (lexL s).toks.length - 1) = true := by simp; omega
          have hk := k4.2 (by simpa using hl)
          have hps := k5 (by simpa using hl)
          subst hk
          subst hps
          have K6 := k6 (by decide)
          have K7 := k7 (by decide)
          have HT1 := Lib.hid hto1
          have hW : W = [] := List.eq_nil_of_length_eq_zero (by omega)
          subst hW
          clear k4 k5 k7 k6 hto1 K6 K7
          go_wp2_with fail
          refine (HTx.out _ (HGr.out.ext (Below.alloc (Below.refl _ _) (Nat.le_refl _) _))).mono ?_
          rintro e w3 ⟨rfl, hb3⟩
          obtain ⟨hc3, hf3⟩ := bcell hb3
          have HB3 := Lib.hid (HB.out.trans ((after (Below.alloc (Below.refl _ _) (Nat.le_refl _) _) hb3).mono HB.out.size))
          clear hb3
          go_wp2_with fail
          go_roundw
          case rel => exact ⟨i + 1, hlti, by go_num, by rw [HT1.out]; simp, HB3.out⟩
          case measure => simp [intOf]; omega
        · have l1 : ((i : Int) == (lexL s).toks.length - 1) = false := by simp; omega
          have hk0 : ¬ kind = 0 := fun e => by have := k4.1 e; simp at this; omega
          have hkb : (kind == 0) = false := by simpa using hk0
          clear k4 k5
          by_cases hk3 : kind = 3
          · subst hk3
            have HT1 := Lib.hid hto1
            clear k6 k7 hto1 hkb hk0
            go_wp2_with fail
            refine (HTx.out _ (HGr.out.ext (Below.alloc (Below.refl _ _) (Nat.le_refl _) _))).mono ?_
            rintro e w3 ⟨rfl, hb3⟩
            obtain ⟨hc3, hf3⟩ := bcell hb3
            have HB3 := Lib.hid (HB.out.trans ((after (Below.alloc (Below.refl _ _) (Nat.le_refl _) _) hb3).mono HB.out.size))
            clear hb3
            go_wp2_with fail
            go_roundw
            case rel => exact ⟨i + 1, hlti, by go_num, by rw [HT1.out]; simp, HB3.out⟩
            case measure => simp [intOf]; omega
          · have hkc : (kind == 3) = false := by simpa using hk3
            have hkd : (kind != 3) = true := by simpa using hk3
            have K6 := k6 hk3
            have K7 := k7 hk3
            rw [if_neg hk3] at hto1
            have HT1 := Lib.hid hto1
            clear k6 k7 hto1 hk0
            go_wp2_with fail
            refine (HTx.out _ (HGr.out.ext (Below.alloc (Below.refl _ _) (Nat.le_refl _) _))).mono ?_
            rintro e w3 ⟨rfl, hb3⟩
            obtain ⟨hc3, hf3⟩ := bcell hb3
            have HB3 := Lib.hid (HB.out.trans ((after (Below.alloc (Below.refl _ _) (Nat.le_refl _) _) hb3).mono HB.out.size))
            clear hb3
            go_wp2_with fail
            go_roundw
            case rel => exact ⟨i + 1, hlti, by go_num, by rw [HT1.out]; simp, HB3.out⟩
            case measure => simp [intOf]; omega
      · have hie : i = (lexL s).toks.length := by omega
        subst hie
        obtain ⟨q0, q1, q2, q3⟩ := Toks.cells (HT.out.below hb) ((lexL s).toks.length - 1) (by omega)
        have ok := toAt_ok (i := (lexL s).toks.length - 1) (by omega) HGo.out
        have k1 := ok.pos
        rw [ok.fin (by simp; omega)] at k1
        rw [← k1] at q3
        have hz : ((lexL s).toks.length : Int) - 1 = (((lexL s).toks.length - 1 : Nat) : Int) := by omega
        clear hb q0 q1 q2 ok k1
        go_wp2_with fail
        go_ret
        exact ⟨rfl, HB2.out.trans (HB.out.mono HB2.out.size)⟩
  · have h1 : ((lexL s).err == 0) = false := by simpa using he
    have h2 : ((lexL s).err != 0) = true := by simpa using he
    obtain ⟨ht0, hp0⟩ := bad_lexL (by omega) he
    have HT0 := Lib.hid ht0
    clear he ht0
    go_enter Tryd.func7, Tryd.ntmps7
    go_wp2_with fail
    refine (works_c _ HG.out).mono ?_
    rintro e w1 ⟨rfl, hb1⟩
    have HB1 := Lib.hid hb1
    have HG1 := Lib.hid (HG.out.ext hb1)
    clear hb1
    go_wp2_with fail
    refine (lex_Lex s _ (by omega) HG1.out).mono ?_
    rintro e w2 ⟨v, rfl, ⟨t, rfl, ht⟩, hb2⟩
    unfold Toks at ht
    rw [HT0.out] at ht
    obtain ⟨A, c, rfl, _, _⟩ := ht.form
    have HB2 := Lib.hid (after HB1.out hb2)
    clear hb2 ht
    go_wp2_with fail
    go_ret
    exact ⟨rfl, HB2.out⟩
end Go.Proofs.YtanmlhplncimpaaDoor

/-
  Walk: LexBack.
-/
import Derived.Test.YtanmlhplncimpaaDoorLexGlueW
import Derived.Test.YtanmlhplncimpaaDoorLexBk
namespace Go.Proofs.YtanmlhplncimpaaDoor
open Go.RowKit Go.Lamb

def WriteAt (l : List Tok) (w : World) (v7 v8 : Value) (wr : World) : Prop :=
  ∃ i : Nat, i ≤ l.length ∧ v7 = .string (bs (flatW (l.take i))) ∧ v8 = .int .i64 i ∧ Below w.heap.size w wr
theorem flatW_more {l : List Tok} {i : Nat} (h : i < l.length) : flatW (l.take (i + 1)) = flatW (l.take i) ++ l[i].w ++ [32] := by
  unfold flatW
  rw [List.take_succ_eq_append_getElem h, List.flatMap_append, List.flatMap_cons, List.flatMap_nil, List.append_nil, List.append_assoc]
theorem flatW_take (l : List Tok) (i : Nat) : (flatW (l.take i)).length ≤ (flatW l).length := by
  have h := congrArg (fun l => (flatW l).length) (List.take_append_drop i l)
  unfold flatW at h ⊢
  rw [List.flatMap_append, List.length_append] at h
  omega
theorem blank_behind (a : List UInt8) : bs a ++ (⟨#[32]⟩ : ByteArray) = bs (a ++ [32]) := by
  show bs a ++ bs [32] = _
  rw [bs_append]
set_option maxHeartbeats 4000000 in
set_option maxRecDepth 100000 in
theorem back_walk (s : List UInt8) (w : World) (hG : Glob w) :
    Calls Tryd.prog 6 #[.string (bs s)] w (RetB (.bool true) w) := by
  have HG := Lib.hid hG
  clear hG
  by_cases hbig : 2048 < s.length
  · go_enter Tryd.func6, Tryd.ntmps6
    go_wp2_with (first
        | (go_at_call 9; refine (works_c _ HG.out).mono ?_; rintro e w1 ⟨rfl, hb1⟩; have HB1 := Lib.hid hb1; clear hb1))
    all_goals go_ret
    all_goals exact ⟨rfl, HB1.out⟩
  · have hls : s.length ≤ 2048 := by omega
    clear hbig
    by_cases heA : (lexL s).err = 0
    · have a1 : ((lexL s).err == 0) = true := by simpa using heA
      have a2 : ((lexL s).err != 0) = false := by simpa using heA
      obtain ⟨gA, nA, _⟩ := good_lexL (by omega) heA
      obtain ⟨x1, x2, x3⟩ := back_lexL hls heA
      have hx3 : (lexL (flatW (lexL s).toks)).toks.length = (lexL s).toks.length := by have := congrArg List.length x3; simpa using this
      have hlA : 0 < (lexL s).toks.length := List.length_pos_iff.2 nA
      have hcA := lexL_count s
      have hlA2 : (lexL s).toks.length ≤ 2049 := by omega
      have hnB : (lexL (flatW (lexL s).toks)).toks ≠ [] := List.length_pos_iff.1 (by omega)
      have GA := Lib.hid gA
      have NA := Lib.hid nA
      have NB := Lib.hid hnB
      have X2 := Lib.hid x2
      have X3 := Lib.hid x3
      clear heA gA nA x2 x3 hcA hnB
      go_enter Tryd.func6, Tryd.ntmps6
      go_wp2_with fail
      refine (works_c _ HG.out).mono ?_
      rintro e w1 ⟨rfl, hb1⟩
      have HB1 := Lib.hid hb1
      have HG1 := Lib.hid (HG.out.ext hb1)
      clear hb1
      go_wp2_with fail
      refine (lex_Lex s _ (by omega) HG1.out).mono ?_
      rintro e w2 ⟨vA, rfl, ⟨tA, rfl, htA⟩, hb2⟩
      have HB2 := Lib.hid (HB1.out.trans (hb2.mono HB1.out.size))
      have HG2 := Lib.hid (HG1.out.ext hb2)
      obtain ⟨bA, oA, cA, rfl, hA1, hA2, hA3⟩ := htA.open NA.out
      have HTA := Lib.hid htA
      clear htA hb2
      go_wp2_with fail
      go_loopw [7, 8] (fun v7 v8 wr => WriteAt (lexL s).toks w2 v7 v8 wr) (fun _ v8 _ => (lexL s).toks.length - (intOf v8).toNat)
      case atStart => exact ⟨0, Nat.zero_le _, rfl, rfl, Below.refl _ _⟩
      case round =>
        obtain ⟨i, hi, rfl, rfl, hb⟩ := hrel
        have HBr := Lib.hid hb
        have HGr := Lib.hid (HG2.out.ext hb)
        have hf1 := flatW_take (lexL s).toks i
        have hf2 : (flatW ((lexL s).toks.take i)).length ≤ 4097 := by omega
        clear hf1
        by_cases hlt : i < (lexL s).toks.length
        · have hmore := flatW_more hlt
          have hf3 := flatW_take (lexL s).toks (i + 1)
          have ok := toAt_ok hlt GA.out
          obtain ⟨p0, p1, p2, p3⟩ := Toks.cells (HTA.out.below hb) i hlt
          have hn := ok.nb.2
          have hw : (lexL s).toks[i].w.length ≤ 4097 := by
            rw [hmore, List.length_append, List.length_append] at hf3
            omega
          clear ok hf3 hb
          generalize (lexL s).toks[i] = t at hmore p0 p1 p2 p3 hn hw
          obtain ⟨kind, text, n, pos⟩ := t
          simp only [Tok.w] at hmore p0 p1 p2 p3 hn hw
          have HM := Lib.hid hmore
          clear hmore
          go_wp2_with fail
          refine (lex_Text kind text n pos _ hn HGr.out).mono ?_
          rintro e w3 ⟨rfl, hb3⟩
          have HB3 := Lib.hid (after HBr.out hb3)
          clear hb3
          go_wp2_with fail
          go_roundw
          case rel => exact ⟨i + 1, hlt, by rw [HM.out, blank_behind], by go_num, HB3.out⟩
          case measure => simp [intOf]; omega
        · have hie : i = (lexL s).toks.length := by omega
          subst hie
          rw [List.take_length] at hf2
          have htl : (lexL s).toks.take (lexL s).toks.length = (lexL s).toks := List.take_length
          rw [htl]
          clear hb htl
          go_wp2_with fail
          refine (lex_Lex (flatW (lexL s).toks) _ (by omega) HGr.out).mono ?_
          rintro e w4 ⟨vB, rfl, ⟨tB, rfl, htB⟩, hb4⟩
          rw [X2.out]
          have HB4 := Lib.hid (HB2.out.trans ((after HBr.out hb4).mono HB2.out.size))
          obtain ⟨bB, oB, cB, rfl, hB1, hB2, hB3⟩ := htB.open NB.out
          have hsz2 := HBr.out.size
          have hsz4 := hb4.size
          have HTA4 := Lib.hid (HTA.out.below (after HBr.out hb4))
          have HTB := Lib.hid htB
          clear htB hb4
          go_wp2_with fail
          go_loopw [12] (fun v12 wr => GlueAt (lexL s).toks.length w4 v12 wr) (fun v12 _ => (lexL s).toks.length - (intOf v12).toNat)
          case atStart => exact ⟨0, Nat.zero_le _, rfl, Below.refl _ _⟩
          case round =>
            obtain ⟨j, hj, rfl, hb⟩ := hrel
            have HBq := Lib.hid hb
            by_cases hlt2 : j < (lexL s).toks.length
            · obtain ⟨t, ht⟩ : ∃ t, (lexL s).toks[j]? = some t := ⟨_, List.getElem?_eq_getElem hlt2⟩
              obtain ⟨u, hu⟩ : ∃ u, (lexL (flatW (lexL s).toks)).toks[j]? = some u := ⟨_, List.getElem?_eq_getElem (by omega)⟩
              have hk : u.key = t.key := by
                have := congrArg (fun l => l[j]?) X3.out
                simpa [ht, hu] using this
              obtain ⟨p0, p1, p2, p3⟩ := Toks.cellsAt (HTA4.out.below (hb.mono (by omega))) rfl ht
              obtain ⟨q0, q1, q2, q3⟩ := Toks.cellsAt (HTB.out.below hb) rfl hu
              simp only [Tok.key, Prod.mk.injEq] at hk
              obtain ⟨k1, k2, k3⟩ := hk
              rw [k1] at q0
              rw [k2] at q1
              rw [k3] at q2
              obtain ⟨kind, text, n, pos⟩ := t
              simp only at p0 p1 p2 p3 q0 q1 q2
              clear hb ht hu k1 k2 k3 q3
              go_wp2_with fail
              go_quiet (fail)
              go_wp2_with fail
              go_roundw
              case rel => exact ⟨j + 1, hlt2, by go_num, after HBq.out (below_drewN (Below.refl _ _))⟩
              case measure => simp [intOf]; omega
            · go_wp2_with fail
              go_ret
              exact ⟨rfl, HB4.out.trans (HBq.out.mono HB4.out.size)⟩
    · have a1 : ((lexL s).err == 0) = false := by simpa using heA
      have a2 : ((lexL s).err != 0) = true := by simpa using heA
      clear heA
      go_enter Tryd.func6, Tryd.ntmps6
      go_wp2_with fail
      refine (works_c _ HG.out).mono ?_
      rintro e w1 ⟨rfl, hb1⟩
      have HB1 := Lib.hid hb1
      have HG1 := Lib.hid (HG.out.ext hb1)
      clear hb1
      go_wp2_with fail
      refine (lex_Lex s _ (by omega) HG1.out).mono ?_
      rintro e w2 ⟨vA, rfl, ⟨tA, rfl, htA⟩, hb2⟩
      have HB2 := Lib.hid (HB1.out.trans (hb2.mono HB1.out.size))
      clear hb2 htA
      go_wp2_with fail
      go_ret
      exact ⟨rfl, HB2.out⟩
end Go.Proofs.YtanmlhplncimpaaDoor

/-
  Walk: LexGlue.
-/
import Derived.Test.YtanmlhplncimpaaDoorLexW
import Derived.Test.YtanmlhplncimpaaDoorLexGl
import Derived.Deep.QuietTactic
import Derived.BigQuiet
namespace Go.Proofs.YtanmlhplncimpaaDoor
open Go.RowKit Go.Lamb

def ScanAt (a : List UInt8) (w : World) (v6 : Value) (wr : World) : Prop :=
  ∃ i : Nat, i ≤ a.length ∧ 37 ∉ a.take i ∧ v6 = .int .i64 i ∧ Below w.heap.size w wr
def GlueAt (n : Nat) (w : World) (v16 : Value) (wr : World) : Prop :=
  ∃ i : Nat, i ≤ n ∧ v16 = .int .i64 i ∧ Below w.heap.size w wr
theorem scan_more {a : List UInt8} {i : Nat} (h : i < a.length) (hn : 37 ∉ a.take i) (hc : a[i] ≠ 37) : 37 ∉ a.take (i + 1) := by
  rw [List.take_succ_eq_append_getElem h]
  simp only [List.mem_append, List.mem_singleton, not_or]
  exact ⟨hn, fun e => hc e.symm⟩
theorem Toks.cellsAt {w : World} {B b o c n i : Nat} {l : List Tok} {t : Tok} (h : Toks w B (.slice (some ⟨b, o, none⟩) n c) l) (hn : n = l.length) (ht : l[i]? = some t) :
    w.cell? ⟨b, o + i * 4, none⟩ = some (.int .i64 t.kind) ∧ w.cell? ⟨b, o + i * 4 + 1, none⟩ = some (.string (bs t.text)) ∧
    w.cell? ⟨b, o + i * 4 + 2, none⟩ = some (.int .i64 t.n) ∧ w.cell? ⟨b, o + i * 4 + 3, none⟩ = some (.int .i64 t.pos) := by
  subst hn
  obtain ⟨hi, rfl⟩ := List.getElem?_eq_some_iff.1 ht
  exact h.cells i hi
theorem below_drewN {n k : Nat} {w x : World} (h : Below n w x) : Below n w (x.drewN k) := h.trans ⟨rfl, rfl, rfl, Nat.le_refl _, fun _ _ => rfl⟩
theorem blank_between (a b : List UInt8) : bs a ++ (⟨#[32]⟩ : ByteArray) ++ bs b = bs (a ++ 32 :: b) := by
  show bs a ++ bs [32] ++ bs b = _
  rw [bs_append, bs_append]
  simp
set_option maxHeartbeats 4000000 in
set_option maxRecDepth 100000 in
theorem glue_walk (a b : List UInt8) (w : World) (hG : Glob w) :
    Calls Tryd.prog 8 #[.string (bs a), .string (bs b)] w (RetB (.bool true) w) := by
  have HG := Lib.hid hG
  clear hG
  by_cases hbig : 2048 < a.length ∨ 2048 < b.length
  · go_enter Tryd.func8, Tryd.ntmps8
    go_wp2_with (first
        | (go_at_call 9; refine (works_c _ HG.out).mono ?_; rintro e w1 ⟨rfl, hb1⟩; have HB1 := Lib.hid hb1; clear hb1))
    all_goals go_ret
    all_goals exact ⟨rfl, HB1.out⟩
  · have hla : a.length ≤ 2048 := by omega
    have hlb : b.length ≤ 2048 := by omega
    clear hbig
    go_enter Tryd.func8, Tryd.ntmps8
    go_wp2_with fail
    refine (works_c _ HG.out).mono ?_
    rintro e w1 ⟨rfl, hb1⟩
    have HB1 := Lib.hid hb1
    clear hb1
    go_wp2_with fail
    go_loopw [6] (fun v6 wr => ScanAt a w v6 wr) (fun v6 _ => a.length - (intOf v6).toNat)
    case atStart => exact ⟨0, Nat.zero_le _, by simp, rfl, HB1.out⟩
    case round =>
      obtain ⟨i, hi, hn, rfl, hb⟩ := hrel
      have HB := Lib.hid hb
      have HGr := Lib.hid (HG.out.ext hb)
      have HNo := Lib.hid hn
      clear hn hb
      by_cases hlt : i < a.length
      · by_cases h37 : a[i] = 37
        · have h1 : (a[i] == 37) = true := by simpa using h37
          have h2 : ((a[i].toNat : Int) == 37) = true := by rw [h37]; decide
          clear h37
          go_wp2_with fail
          go_ret
          exact ⟨rfl, HB.out⟩
        · have h1 : (a[i] == 37) = false := by simpa using h37
          have h2 : ((a[i].toNat : Int) == 37) = false := by
            simp only [beq_eq_false_iff_ne, ne_eq]
            intro e
            exact h37 (UInt8.toNat_inj.1 (by rw [show (37 : UInt8).toNat = 37 from rfl]; omega))
          go_wp2_with fail
          go_roundw
          case rel => exact ⟨i + 1, hlt, scan_more hlt HNo.out h37, by go_num, HB.out⟩
          case measure => simp [intOf]; omega
      · have hie : i = a.length := by omega
        subst hie
        have hno : 37 ∉ a := by have := HNo.out; rwa [List.take_length] at this
        have HC := Lib.hid (glue_lexL hla hlb hno)
        by_cases heA : (lexL a).err = 0
        · have a1 : ((lexL a).err == 0) = true := by simpa using heA
          have a2 : ((lexL a).err != 0) = false := by simpa using heA
          by_cases heB : (lexL b).err = 0
          · have b1 : ((lexL b).err == 0) = true := by simpa using heB
            have b2 : ((lexL b).err != 0) = false := by simpa using heB
            obtain ⟨gA, nA, _⟩ := good_lexL (by omega) heA
            obtain ⟨gB, nB, _⟩ := good_lexL (by omega) heB
            have hC : lexL (a ++ 32 :: b) = ⟨(lexL a).toks.dropLast ++ (lexL b).toks.map (Tok.shift (a.length + 1)), 0, 0⟩ := by rw [HC.out, if_pos heA]; simp [LexR.shift, LexR.after, heB]
            have HCt := Lib.hid (show (lexL (a ++ 32 :: b)).toks = (lexL a).toks.dropLast ++ (lexL b).toks.map (Tok.shift (a.length + 1)) by rw [hC])
            have HCe := Lib.hid (show (lexL (a ++ 32 :: b)).err = 0 by rw [hC])
            have hnC : (lexL (a ++ 32 :: b)).toks ≠ [] := by rw [hC]; simp [nB]
            have hlA : 0 < (lexL a).toks.length := List.length_pos_iff.2 nA
            have hlB : 0 < (lexL b).toks.length := List.length_pos_iff.2 nB
            have hlC : (lexL (a ++ 32 :: b)).toks.length = (lexL a).toks.length - 1 + (lexL b).toks.length := by rw [hC]; simp
            have hcA := lexL_count a
            have hcB := lexL_count b
            have hlA2 : (lexL a).toks.length ≤ 2049 := by omega
            have hlB2 : (lexL b).toks.length ≤ 2049 := by omega
            have hlC2 : (lexL (a ++ 32 :: b)).toks.length ≤ 4098 := by omega
            have hK1 : (((lexL (a ++ 32 :: b)).toks.length : Int) != (lexL a).toks.length + (lexL b).toks.length - 1) = false := by
              simp only [bne_eq_false_iff_eq]
              omega
            have GB := Lib.hid gB
            clear hcA hcB
            have NA := Lib.hid nA
            have NB := Lib.hid nB
            have NC := Lib.hid hnC
            clear heA heB hC gA gB nA nB hnC
            go_wp2_with fail
            refine (lex_Lex a _ (by omega) HGr.out).mono ?_
            rintro e w2 ⟨vA, rfl, ⟨tA, rfl, htA⟩, hb2⟩
            have HB2 := Lib.hid (HB.out.trans (hb2.mono HB.out.size))
            have HG2 := Lib.hid (HGr.out.ext hb2)
            obtain ⟨bA, oA, cA, rfl, hA1, hA2, hA3⟩ := htA.open NA.out
            have HTA := Lib.hid htA
            clear htA hb2
            go_wp2_with fail
            refine (lex_Lex b _ (by omega) HG2.out).mono ?_
            rintro e w3 ⟨vB, rfl, ⟨tB, rfl, htB⟩, hb3⟩
            have HB3 := Lib.hid (HB2.out.trans (hb3.mono HB2.out.size))
            have HG3 := Lib.hid (HG2.out.ext hb3)
            obtain ⟨bB, oB, cB, rfl, hB1, hB2, hB3⟩ := htB.open NB.out
            have HTA3 := Lib.hid (HTA.out.below hb3)
            have hsz3 := hb3.size
            have HTB := Lib.hid htB
            clear htB hb3
            go_wp2_with fail
            rw [blank_between]
            refine (lex_Lex (a ++ 32 :: b) _ (by simp; omega) HG3.out).mono ?_
            rintro e w4 ⟨vC, rfl, ⟨tC, rfl, htC⟩, hb4⟩
            have HB4 := Lib.hid (HB3.out.trans (hb4.mono HB3.out.size))
            obtain ⟨bC, oC, cC, rfl, hC1, hC2, hC3⟩ := htC.open NC.out
            have HTA4 := Lib.hid (HTA3.out.below (hb4.mono hsz3))
            have HTB4 := Lib.hid (HTB.out.below hb4)
            have HTC := Lib.hid htC
            rw [HCe.out]
            clear htC
            go_wp2_with fail
            have hsz4 := hb4.size
            clear hb4
            go_loopw [16] (fun v16 wr => GlueAt (lexL (a ++ 32 :: b)).toks.length w4 v16 wr) (fun v16 _ => (lexL (a ++ 32 :: b)).toks.length - (intOf v16).toNat)
            case atStart => exact ⟨0, Nat.zero_le _, rfl, Below.refl _ _⟩
            case round =>
              obtain ⟨i, hi, rfl, hb⟩ := hrel
              have HBr := Lib.hid hb
              have hsz5 := hb.size
              have hbA : bA < wr.heap.size := by omega
              have hbB : bB < wr.heap.size := by omega
              have hbC : bC < wr.heap.size := by omega
              by_cases hlt2 : i < (lexL (a ++ 32 :: b)).toks.length
              · by_cases hiA : i < (lexL a).toks.length - 1
                · obtain ⟨t, ht⟩ : ∃ t, (lexL a).toks[i]? = some t := ⟨_, List.getElem?_eq_getElem (by omega)⟩
                  have htC : (lexL (a ++ 32 :: b)).toks[i]? = some t := by
                    rw [HCt.out, List.getElem?_append_left (by simpa using hiA), List.getElem?_dropLast, if_pos hiA, ht]
                  obtain ⟨p0, p1, p2, p3⟩ := Toks.cellsAt (HTA4.out.below (hb.mono (by omega))) rfl ht
                  obtain ⟨q0, q1, q2, q3⟩ := Toks.cellsAt (HTC.out.below hb) rfl htC
                  obtain ⟨kind, text, n, pos⟩ := t
                  simp only at p0 p1 p2 p3 q0 q1 q2 q3
                  clear hb ht htC
                  go_wp2_with fail
                  go_quiet (fail)
                  go_wp2_with fail
                  go_roundw
                  case rel => exact ⟨i + 1, hlt2, by go_num, after HBr.out (below_drewN (by go_grown))⟩
                  case measure => simp [intOf]; omega
                · have hij : (i : Int) - (lexL a).toks.length + 1 = ((i + 1 - (lexL a).toks.length : Nat) : Int) := by omega
                  have hji : i - ((lexL a).toks.length - 1) = i + 1 - (lexL a).toks.length := by omega
                  generalize hj : i + 1 - (lexL a).toks.length = j at hij hji
                  have hjB : j < (lexL b).toks.length := by omega
                  have ok := toAt_ok hjB GB.out
                  obtain ⟨t, ht⟩ : ∃ t, (lexL b).toks[j]? = some t := ⟨_, List.getElem?_eq_getElem hjB⟩
                  have htC : (lexL (a ++ 32 :: b)).toks[i]? = some (t.shift (a.length + 1)) := by
                    rw [HCt.out, List.getElem?_append_right (by simpa using Nat.le_of_not_lt hiA), List.length_dropLast, hji, List.getElem?_map, ht]
                    rfl
                  rw [(List.getElem?_eq_some_iff.1 ht).2] at ok
                  obtain ⟨p0, p1, p2, p3⟩ := Toks.cellsAt (HTB4.out.below (hb.mono hsz4)) rfl ht
                  obtain ⟨q0, q1, q2, q3⟩ := Toks.cellsAt (HTC.out.below hb) rfl htC
                  have o1 := ok.pos
                  have o2 := ok.le
                  obtain ⟨kind, text, n, pos⟩ := t
                  simp only [Tok.shift] at p0 p1 p2 p3 q0 q1 q2 q3 o1 o2
                  generalize hp : pos.toNat = p at o1 o2
                  subst o1
                  rw [show (p : Int) + ((a.length + 1 : Nat) : Int) = p + a.length + 1 from by omega] at q3
                  have o3 : p ≤ 2048 := by omega
                  clear hb ht htC ok hp o2 hji hj
                  go_wp2_with fail
                  go_quiet (fail)
                  go_wp2_with fail
                  go_roundw
                  case rel => exact ⟨i + 1, hlt2, by go_num, after HBr.out (below_drewN (by go_grown))⟩
                  case measure => simp [intOf]; omega
              · go_wp2_with fail
                go_ret
                exact ⟨rfl, HB4.out.trans (HBr.out.mono HB4.out.size)⟩
          · have b1 : ((lexL b).err == 0) = false := by simpa using heB
            have b2 : ((lexL b).err != 0) = true := by simpa using heB
            have hpb := (bad_lexL (by omega) heB).2
            have HC2 := Lib.hid (show lexL (a ++ 32 :: b) = ⟨[], (lexL b).err, (lexL b).pos + (a.length + 1)⟩ by rw [HC.out, if_pos heA]; simp [LexR.shift, LexR.after, heB])
            have hps : (((lexL b).pos + (a.length + 1) : Nat) : Int) = (lexL b).pos + a.length + 1 := by omega
            clear heA heB
            go_wp2_with fail
            refine (lex_Lex a _ (by omega) HGr.out).mono ?_
            rintro e w2 ⟨vA, rfl, ⟨tA, rfl, htA⟩, hb2⟩
            have HB2 := Lib.hid (HB.out.trans (hb2.mono HB.out.size))
            have HG2 := Lib.hid (HGr.out.ext hb2)
            clear hb2 htA
            go_wp2_with fail
            refine (lex_Lex b _ (by omega) HG2.out).mono ?_
            rintro e w3 ⟨vB, rfl, ⟨tB, rfl, htB⟩, hb3⟩
            have HB3 := Lib.hid (HB2.out.trans (hb3.mono HB2.out.size))
            have HG3 := Lib.hid (HG2.out.ext hb3)
            clear hb3 htB
            go_wp2_with fail
            rw [blank_between]
            refine (lex_Lex (a ++ 32 :: b) _ (by simp; omega) HG3.out).mono ?_
            rintro e w4 ⟨vC, rfl, ⟨tC, rfl, htC⟩, hb4⟩
            have HB4 := Lib.hid (HB3.out.trans (hb4.mono HB3.out.size))
            rw [HC2.out]
            clear hb4 htC
            go_wp2_with fail
            go_ret
            exact ⟨rfl, HB4.out⟩
        · have a1 : ((lexL a).err == 0) = false := by simpa using heA
          have a2 : ((lexL a).err != 0) = true := by simpa using heA
          have HC2 := Lib.hid (show lexL (a ++ 32 :: b) = ⟨[], (lexL a).err, (lexL a).pos⟩ by rw [HC.out, if_neg heA])
          clear heA
          go_wp2_with fail
          refine (lex_Lex a _ (by omega) HGr.out).mono ?_
          rintro e w2 ⟨vA, rfl, ⟨tA, rfl, htA⟩, hb2⟩
          have HB2 := Lib.hid (HB.out.trans (hb2.mono HB.out.size))
          have HG2 := Lib.hid (HGr.out.ext hb2)
          clear hb2 htA
          go_wp2_with fail
          refine (lex_Lex b _ (by omega) HG2.out).mono ?_
          rintro e w3 ⟨vB, rfl, ⟨tB, rfl, htB⟩, hb3⟩
          have HB3 := Lib.hid (HB2.out.trans (hb3.mono HB2.out.size))
          have HG3 := Lib.hid (HG2.out.ext hb3)
          clear hb3 htB
          go_wp2_with fail
          rw [blank_between]
          refine (lex_Lex (a ++ 32 :: b) _ (by simp; omega) HG3.out).mono ?_
          rintro e w4 ⟨vC, rfl, ⟨tC, rfl, htC⟩, hb4⟩
          have HB4 := Lib.hid (HB3.out.trans (hb4.mono HB3.out.size))
          rw [HC2.out]
          clear hb4 htC
          go_wp2_with fail
          go_ret
          exact ⟨rfl, HB4.out⟩
end Go.Proofs.YtanmlhplncimpaaDoor

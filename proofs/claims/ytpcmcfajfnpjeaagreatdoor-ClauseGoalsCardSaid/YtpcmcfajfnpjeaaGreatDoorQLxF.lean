/-
  Walks: all tokens of a text.
-/
import Derived.Test.YtpcmcfajfnpjeaaGreatDoorQLexE
import Derived.Test.YtpcmcfajfnpjeaaGreatDoorQLexL
import Derived.OwnWalk
set_option linter.unusedSimpArgs false
set_option linter.unusedVariables false
set_option maxHeartbeats 8000000
set_option maxRecDepth 20000
namespace Go.Proofs.YtpcmcfajfnpjeaaGreatDoor
open Go.RowKit Go.Lamb

theorem lex_skipL (l : List UInt8) (w : World) (hl : l.length ≤ 4294967280) (hG : Glob w) : Calls Tryz.prog 250 #[.string (bs l)] w (RetB (.int .i64 (skipN l)) w) :=
  (lex_skip (bs l) w (by rw [bs_size]; omega) hG).mono fun e w' ⟨he, hw⟩ => ⟨by
    rw [he, bs_size, bs_list]
    have := skipL_le false l
    congr 2
    unfold skipN;omega, hw⟩
theorem tokInfo : (Tryz.prog.info? 223).map (fun i => (i.zero, i.size, i.bytes)) = some (some (.agg #[.int .i64 0, .string ⟨#[]⟩, .int .i64 0, .int .i64 0]), 4, 40) := by kernel_rfl

def LexO (base : Nat) (w : World) (r : LexR) (v : Value) : Prop := ∃ t, v = .tuple #[t, .int .i64 r.err, .int .i64 r.pos] ∧ w.ownsRow base 223 4 t r.toks.length (toksCells r.toks)
def RetO (w : World) (R : World → Value → Prop) : Ending → World → Prop := fun e w' => ∃ v, e = .returned v ∧ R w' v ∧ Below w.heap.size w w'
def LexAtO (s : List UInt8) (w : World) (v5 v6 : Value) (wr : World) : Prop :=
  ∃ (k : Nat) (d : List Tok), k ≤ s.length ∧ d.length ≤ k ∧ v6 = .int .i64 k ∧ wr.ownsRow w.heap.size 223 4 v5 d.length (toksCells d) ∧
    lexL s = (lexAt s.length (s.drop k)).after d ∧ Below w.heap.size w wr

attribute [local go_sem] oneV

set_option maxHeartbeats 4000000 in
set_option maxRecDepth 100000 in
theorem lex_LexO (s : List UInt8) (w : World) (hs : s.length ≤ 4294967280) (hG : Glob w) : Calls Tryz.prog 176 #[.string (bs s)] w (RetO w (fun w' v => LexO w.heap.size w' (lexL s) v)) := by
  have HG := Lib.hid hG
  clear hG
  by_cases hbig : 65536 < s.length
  · have HL := Lib.hid (show lexL s = ⟨[], 13, 0⟩ by unfold lexL; rw [if_pos hbig])
    go_enter Tryz.func176, Tryz.ntmps176
    go_wp2_with fail
    go_ret3
    refine ⟨_, rfl, ?_, Below.refl _ _⟩;rw [HL.out];exact ⟨_, rfl, World.ownsRow_nil _ _ _ _⟩
  · have HL := Lib.hid (show lexL s = lexAt s.length (skipL false s) by unfold lexL; rw [if_neg hbig])
    obtain ⟨i0, hi0, hz0, hz1, hz2⟩ := info_parts tokInfo
    go_enter Tryz.func176, Tryz.ntmps176
    go_wp2_with (first
        | (go_at_call 250; refine (lex_skipL _ _ hs HG.out).mono ?_; rintro e w1 ⟨rfl, hb1⟩; have HB1 := Lib.hid hb1; clear hb1))
    go_loopw [5, 6] (fun v5 v6 wr => LexAtO s w v5 v6 wr) (fun _ v6 _ => s.length - (intOf v6).toNat)
    case atStart => exact ⟨skipN s, [], skipN_le s, by simp, rfl, World.ownsRow_nil _ _ _ _, by rw [HL.out, drop_skipN, lexAt_after], HB1.out⟩
    case round =>
      obtain ⟨k, d, hk, hd, rfl, hown, hres, hb⟩ := hrel
      have HO := Lib.hid hown
      have HR := Lib.hid hres
      have HB := Lib.hid hb
      have HGr := Lib.hid (HG.out.ext hb)
      have htk : (s.drop k).take (s.length - k) = s.drop k := by rw [List.take_of_length_le (by simp)]
      clear hown hres hb
      by_cases he : (oneL (s.drop k)).err = 0
      · have h1 : ((oneL (s.drop k)).err == 0) = true := by simpa using he
        have h2 : ((oneL (s.drop k)).err != 0) = false := by simpa using he
        have HE := Lib.hid he
        clear he
        by_cases hk0 : (oneL (s.drop k)).kind = 0
        · have h3 : ((oneL (s.drop k)).kind == 0) = true := by simpa using hk0
          have HK := Lib.hid hk0
          clear hk0
          have hsz : w.heap.size ≤ wr.heap.size := HB.out.size
          go_wp2_with (first
        | (go_at_call 251; refine (lex_one _ _ (by simp; omega) HGr.out).mono ?_; rintro e w2 ⟨rfl, hb2⟩; have HB2 := Lib.hid hb2; have hsz2 := hb2.size; clear hb2)
        | (at_builtin; refine wpList_append_own _ rfl (.tmp 35) (.tmp 37) 213 rfl w.heap.size 223 i0 _ 4 40 Tryz.underlying213 hi0 hz0 hz1 hz2 rfl (by decide) _ _ _ rfl (((own_ext HO.out HB2.out).alloc _).alloc _) ⟨w2.heap.size + 1, 0, none⟩ 1 1 (Tok.cells ⟨(oneL (s.drop k)).kind, (oneL (s.drop k)).text, (oneL (s.drop k)).n, k⟩) rfl rfl (fresh_cells _ _ _ _ (by simp)) (by simp [Tok.cells, Value.oneCell']) (by unfold maxLen; omega) (by omega) (by simp; omega) ?_; intro v' w3 hown3 hg3 _; have HO3 := Lib.hid hown3; have HG3 := Lib.hid hg3; have hc3 := grown_cell hg3 (b := w2.heap.size) (by simp; omega) (own_ne HO.out hsz2); have HB3 := Lib.hid ((((HB.out.trans (HB2.out.mono hsz)).alloc (by omega) _).alloc (by simp; omega) _).grown hg3 (by simp; omega) (fun k hk => (HO.out.lt k hk).1)); have hsz3 := hg3.size; clear hown3 hg3))
          go_ret3
          refine ⟨_, rfl, ?_, HB3.out⟩;rw [HR.out, lexAt_end HE.out HK.out, tokAt_drop hk];refine ⟨v', rfl, ?_⟩;unfold LexR.after;rw [if_pos rfl, toksCells_snoc, List.length_append];exact HO3.out
        · have h3 : ((oneL (s.drop k)).kind == 0) = false := by simpa using hk0
          have hsz : w.heap.size ≤ wr.heap.size := HB.out.size
          have hpos := one_pos HE.out hk0
          have hlen := @one_len (s.drop k)
          rw [List.length_drop] at hlen
          have hsk := skipN_le (s.drop (k + (oneL (s.drop k)).len))
          rw [List.length_drop] at hsk
          have htk2 : (s.drop (k + (oneL (s.drop k)).len)).take (s.length - (k + (oneL (s.drop k)).len)) = s.drop (k + (oneL (s.drop k)).len) := by rw [List.take_of_length_le (by simp)]
          have HK := Lib.hid hk0
          clear hk0
          go_wp2_with (first
        | (go_at_call 251; refine (lex_one _ _ (by simp; omega) HGr.out).mono ?_; rintro e w2 ⟨rfl, hb2⟩; have HB2 := Lib.hid hb2; have hsz2 := hb2.size; clear hb2)
        | (go_at_call 250; refine (lex_skipL _ _ (by simp; omega) (HG.out.ext HB3.out)).mono ?_; rintro e w4 ⟨rfl, hb4⟩; have HB4 := Lib.hid hb4; clear hb4)
        | (at_builtin; refine wpList_append_own _ rfl (.tmp 35) (.tmp 37) 213 rfl w.heap.size 223 i0 _ 4 40 Tryz.underlying213 hi0 hz0 hz1 hz2 rfl (by decide) _ _ _ rfl (((own_ext HO.out HB2.out).alloc _).alloc _) ⟨w2.heap.size + 1, 0, none⟩ 1 1 (Tok.cells ⟨(oneL (s.drop k)).kind, (oneL (s.drop k)).text, (oneL (s.drop k)).n, k⟩) rfl rfl (fresh_cells _ _ _ _ (by simp)) (by simp [Tok.cells, Value.oneCell']) (by unfold maxLen; omega) (by omega) (by simp; omega) ?_; intro v' w3 hown3 hg3 _; have HO3 := Lib.hid hown3; have HG3 := Lib.hid hg3; have hc3 := grown_cell hg3 (b := w2.heap.size) (by simp; omega) (own_ne HO.out hsz2); have HB3 := Lib.hid ((((HB.out.trans (HB2.out.mono hsz)).alloc (by omega) _).alloc (by simp; omega) _).grown hg3 (by simp; omega) (fun k hk => (HO.out.lt k hk).1)); have hsz3 := hg3.size; clear hown3 hg3))
          go_roundw
          case rel =>
            refine ⟨k + (oneL (s.drop k)).len + skipN (s.drop (k + (oneL (s.drop k)).len)), d ++ [⟨(oneL (s.drop k)).kind, (oneL (s.drop k)).text, (oneL (s.drop k)).n, k⟩], by omega, by simp; omega, by go_num, ?_, ?_, ?_⟩
            · rw [toksCells_snoc, List.length_append]
              exact own_ext HO3.out HB4.out
            · rw [HR.out, lexAt_next HE.out HK.out, LexR.after_cons, tokAt_drop hk]
            · exact HB3.out.trans (HB4.out.mono HB3.out.size)
          case measure => simp [intOf]; omega
      · have h1 : ((oneL (s.drop k)).err == 0) = false := by simpa using he
        have h2 : ((oneL (s.drop k)).err != 0) = true := by simpa using he
        have HE := Lib.hid he
        clear he
        go_wp2_with (first
        | (go_at_call 251; refine (lex_one _ _ (by simp; omega) HGr.out).mono ?_; rintro e w2 ⟨rfl, hb2⟩; have HB2 := Lib.hid hb2; clear hb2))
        go_ret3
        refine ⟨_, rfl, ?_, (HB.out.trans (HB2.out.mono HB.out.size)).alloc (Nat.le_trans HB.out.size HB2.out.size) _⟩;rw [HR.out, lexAt_err hk HE.out];unfold LexR.after;rw [if_neg HE.out];exact ⟨_, rfl, World.ownsRow_nil _ _ _ _⟩
end Go.Proofs.YtpcmcfajfnpjeaaGreatDoor

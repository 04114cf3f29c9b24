/-
  Walks: all tokens by the reference's lex; as memory of its own.
-/
import Derived.Test.YtlogjjnimlnpkaaGreatDoorQRefEO
import Derived.Test.YtlogjjnimlnpkaaGreatDoorQLxD
import Derived.OwnWalk
set_option linter.unusedSimpArgs false
set_option linter.unusedVariables false
set_option maxHeartbeats 8000000
set_option maxRecDepth 20000
namespace Go.Proofs.YtlogjjnimlnpkaaGreatDoor
open Go.RowKit Go.Lamb

theorem ref_skip2' (s : List UInt8) (k n : Nat) (w : World) (hi : k + n ≤ s.length) (hs : s.length ≤ 140737488355328) :
    Calls Tryz.prog 166 #[.string (bs s), .int .i64 ((k : Int) + n)] w (Ret (.int .i64 (k + n + skipN (s.drop (k + n)) : Nat)) w) := by
  have h := ref_skip s (k + n) w hi hs
  have e : ((k + n : Nat) : Int) = k + n := by omega
  rw [e] at h
  exact h
theorem ref_skip0' (s : List UInt8) (w : World) (hs : s.length ≤ 140737488355328) :
    Calls Tryz.prog 166 #[.string (bs s), .int .i64 0] w (Ret (.int .i64 (skipN s : Nat)) w) := by
  have h := ref_skip s 0 w (Nat.zero_le _) hs
  rw [List.drop_zero, Nat.zero_add] at h
  exact h
set_option maxHeartbeats 4000000 in
set_option maxRecDepth 100000 in
theorem ref_LexO (s : List UInt8) (w : World) (hs : s.length ≤ 4294967280) : Calls Tryz.prog 100 #[.string (bs s)] w (RetO w (fun w' v => LexO w.heap.size w' (lexL s) v)) := by
  by_cases hbig : 65536 < s.length
  · have HL := Lib.hid (show lexL s = ⟨[], 13, 0⟩ by unfold lexL; rw [if_pos hbig])
    go_enter Tryz.func100, Tryz.ntmps100
    go_wp2_with fail
    go_ret3
    refine ⟨_, rfl, ?_, Below.refl _ _⟩
    rw [HL.out]
    exact ⟨_, rfl, World.ownsRow_nil _ _ _ _⟩
  · have HL := Lib.hid (show lexL s = lexAt s.length (skipL false s) by unfold lexL; rw [if_neg hbig])
    obtain ⟨i0, hi0, hz0, hz1, hz2⟩ := info_parts tokInfo
    go_enter Tryz.func100, Tryz.ntmps100
    go_wp2_with (first
        | (go_at_call 166; refine (ref_skip0' _ _ (by omega)).mono ?_; rintro e w' ⟨rfl, rfl⟩))
    go_loopw [5, 6] (fun v5 v6 wr => LexAtO s w v5 v6 wr) (fun _ v6 _ => s.length - (intOf v6).toNat)
    case atStart => exact ⟨skipN s, [], skipN_le s, by simp, rfl, World.ownsRow_nil _ _ _ _, by rw [HL.out, drop_skipN, lexAt_after], Below.refl _ _⟩
    case round =>
      obtain ⟨k, d, hk, hd, rfl, hown, hres, hb⟩ := hrel
      have HO := Lib.hid hown
      have HR := Lib.hid hres
      have HB := Lib.hid hb
      clear hown hres hb
      by_cases he : (oneL (s.drop k)).err = 0
      · have h1 : ((oneL (s.drop k)).err == 0) = true := by simpa using he
        have h2 : ((oneL (s.drop k)).err != 0) = false := by simpa using he
        have HE := Lib.hid he
        clear he
        by_cases hk0 : (oneL (s.drop k)).kind = 0
        · have h3 : ((oneL (s.drop k)).kind == 0) = true := by simpa using hk0
          have HK := Lib.hid hk0
          clear hk0
          have hsz : w.heap.size ≤ wr.heap.size := HB.out.size
          go_wp2_with (first
        | (go_at_call 167; refine (ref_one s k _ (by omega) hk).mono ?_; rintro e w2 ⟨v, rfl, ⟨kind, text, n, next, rfl, heq⟩, hb2⟩; obtain ⟨rfl, rfl, rfl, rfl⟩ := heq HE.out; have HB2 := Lib.hid hb2; have hsz2 := hb2.size; clear hb2 heq)
        | (at_builtin; refine wpList_append_own _ rfl (.tmp 26) (.tmp 28) 57 rfl w.heap.size 60 i0 _ 4 40 Tryz.underlying57 hi0 hz0 hz1 hz2 rfl (by decide) _ _ _ rfl (((own_ext HO.out HB2.out).alloc _).alloc _) ⟨w2.heap.size + 1, 0, none⟩ 1 1 (Tok.cells ⟨(oneL (s.drop k)).kind, (oneL (s.drop k)).text, (oneL (s.drop k)).n, k⟩) rfl rfl (fresh_cells _ _ _ _ (by simp)) (by simp [Tok.cells, Value.oneCell']) (by unfold maxLen; omega) (by omega) (by simp; omega) ?_; intro v' w3 hown3 hg3 _; have HO3 := Lib.hid hown3; have HG3 := Lib.hid hg3; have hc3 := grown_cell hg3 (b := w2.heap.size) (by simp; omega) (own_ne HO.out hsz2); have HB3 := Lib.hid ((((HB.out.trans (HB2.out.mono hsz)).alloc (by omega) _).alloc (by simp; omega) _).grown hg3 (by simp; omega) (fun k hk => (HO.out.lt k hk).1)); have hsz3 := hg3.size; clear hown3 hg3))
          go_ret3
          refine ⟨_, rfl, ?_, HB3.out⟩
          rw [HR.out, lexAt_end HE.out HK.out, tokAt_drop hk]
          refine ⟨v', rfl, ?_⟩
          unfold LexR.after
          rw [if_pos rfl, toksCells_snoc, List.length_append]
          exact HO3.out
        · have h3 : ((oneL (s.drop k)).kind == 0) = false := by simpa using hk0
          have hsz : w.heap.size ≤ wr.heap.size := HB.out.size
          have hpos := one_pos HE.out hk0
          have hlen := @one_len (s.drop k)
          rw [List.length_drop] at hlen
          have hsk := skipN_le (s.drop (k + (oneL (s.drop k)).len))
          rw [List.length_drop] at hsk
          have HK := Lib.hid hk0
          clear hk0
          go_wp2_with (first
        | (go_at_call 167; refine (ref_one s k _ (by omega) hk).mono ?_; rintro e w2 ⟨v, rfl, ⟨kind, text, n, next, rfl, heq⟩, hb2⟩; obtain ⟨rfl, rfl, rfl, rfl⟩ := heq HE.out; have HB2 := Lib.hid hb2; have hsz2 := hb2.size; clear hb2 heq)
        | (go_at_call 166; refine (ref_skip2' _ _ _ _ (by omega) (by omega)).mono ?_; rintro e w' ⟨rfl, rfl⟩)
        | (at_builtin; refine wpList_append_own _ rfl (.tmp 26) (.tmp 28) 57 rfl w.heap.size 60 i0 _ 4 40 Tryz.underlying57 hi0 hz0 hz1 hz2 rfl (by decide) _ _ _ rfl (((own_ext HO.out HB2.out).alloc _).alloc _) ⟨w2.heap.size + 1, 0, none⟩ 1 1 (Tok.cells ⟨(oneL (s.drop k)).kind, (oneL (s.drop k)).text, (oneL (s.drop k)).n, k⟩) rfl rfl (fresh_cells _ _ _ _ (by simp)) (by simp [Tok.cells, Value.oneCell']) (by unfold maxLen; omega) (by omega) (by simp; omega) ?_; intro v' w3 hown3 hg3 _; have HO3 := Lib.hid hown3; have HG3 := Lib.hid hg3; have hc3 := grown_cell hg3 (b := w2.heap.size) (by simp; omega) (own_ne HO.out hsz2); have HB3 := Lib.hid ((((HB.out.trans (HB2.out.mono hsz)).alloc (by omega) _).alloc (by simp; omega) _).grown hg3 (by simp; omega) (fun k hk => (HO.out.lt k hk).1)); have hsz3 := hg3.size; clear hown3 hg3))
          go_roundw
          case rel =>
            refine ⟨k + (oneL (s.drop k)).len + skipN (s.drop (k + (oneL (s.drop k)).len)), d ++ [⟨(oneL (s.drop k)).kind, (oneL (s.drop k)).text, (oneL (s.drop k)).n, k⟩], by omega, by simp; omega, by go_num, ?_, ?_, HB3.out⟩
            · rw [toksCells_snoc, List.length_append]
              exact HO3.out
            · rw [HR.out, lexAt_next HE.out HK.out, LexR.after_cons, tokAt_drop hk]
          case measure => simp [intOf]; omega
      · have h1 : ((oneL (s.drop k)).err == 0) = false := by simpa using he
        have h2 : ((oneL (s.drop k)).err != 0) = true := by simpa using he
        have HE := Lib.hid he
        clear he
        go_wp2_with (first
        | (go_at_call 167; refine (ref_one s k _ (by omega) hk).mono ?_; rintro e w2 ⟨v, rfl, ⟨kind, text, n, next, rfl, heq⟩, hb2⟩; have HB2 := Lib.hid hb2; clear hb2 heq))
        go_ret3
        refine ⟨_, rfl, ?_, (HB.out.trans (HB2.out.mono HB.out.size)).alloc (Nat.le_trans HB.out.size HB2.out.size) _⟩
        rw [HR.out, lexAt_err hk HE.out]
        unfold LexR.after
        rw [if_neg HE.out]
        exact ⟨_, rfl, World.ownsRow_nil _ _ _ _⟩
theorem ref01_Lex {w0 : World} (s : List UInt8) (hs : s.length ≤ 4294967280) (σ : H) :
    DC Tryz.prog w0 100 [S s] σ (Same (.tup [.c (toksC (lexL s).toks), I (lexL s).err, I (lexL s).pos]) σ) := by
  refine DC.of_new (enters_fn Tryz.func100 (by kernel_rfl) rfl) fun κ w vs hrep hfit => ?_
  obtain ⟨v, ys, rfl, hv, hfit⟩ := hfit.cons_inv
  have := hfit.nil_inv
  subst this
  cases hv with
  | c hv =>
    cases hv with
    | str _ hl =>
      refine (ref_LexO s w hs).mono ?_
      rintro e w' ⟨v, rfl, ⟨t, rfl, hown⟩, hb⟩
      refine ⟨_, rfl, hb, .tup (xs := [t, .int .i64 (lexL s).err, .int .i64 (lexL s).pos]) rfl fun j hj => ?_⟩
      match j, hj with
      | 0, _ => exact .c (toks_RC hown fun x hx => by have := lexL_texts x hx; unfold maxLen; omega)
      | 1, _ => exact .c (.int _ _)
      | 2, _ => exact .c (.int _ _)
end Go.Proofs.YtlogjjnimlnpkaaGreatDoor

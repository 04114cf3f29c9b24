/-
  A query is what a sentence is that is a clause.
-/
import Derived.Test.YtlogjjnimlnpkaaGreatDoorQJ27
set_option linter.unusedSimpArgs false
set_option linter.unusedVariables false
set_option maxHeartbeats 8000000
set_option maxRecDepth 20000
namespace Go.Proofs.YtlogjjnimlnpkaaGreatDoor
open Go.RowKit Go.Lamb
attribute [local go_sem] advO_skip advO_reg advO_seq advO_block advO_exit advO_endb advO_opsNil advO_ops advG_yes advG_no advG_none advS_some advS_none advO_cond advO_loop advO_dreg advO_ret advO_bad advO_inv advO_nil advO_zero wantedV Lamb.step ev_t ev_k put_some put_none argEnv popTo cellsAt V.cellsV V.rows V.toC toCs fillV bytesC byteRows appV rowsV boundV boundL binV binInt binStr eqC eqL V.isNil leaves V.leaf Ins.quiet Ins.pure List.getD_cons_zero List.getD_cons_succ List.getD_nil List.all_cons List.all_nil List.length_cons List.length_nil List.take_succ_cons List.take_zero List.drop_succ_cons List.drop_zero List.cons_append List.nil_append List.append_nil List.append_assoc List.map_cons List.map_nil List.getElem?_cons_zero List.getElem?_cons_succ List.length_append List.length_set hget0 hget hset0 hset hsets hgs0 hgs hss0 hss List.set_cons_zero List.set_cons_succ List.forall_mem_cons List.not_mem_nil false_implies implies_true Option.map_some Bool.and_true Bool.true_and Bool.not_not Bool.not_true Bool.not_false Bool.and_self Bool.or_true Bool.true_or Bool.or_false Bool.false_or Bool.and_false Bool.false_and Bool.false_eq_true beq_self_eq_true and_self and_true true_and if_true if_false Nat.zero_add Nat.add_zero Nat.le_refl Int.toNat_natCast decide_true decide_false beq_t beq_f List.length_map List.getElem?_map I S B opsC toksC OpT.v OpT.cs OpT.zero Tok.v Tok.cs Pre.v Pre.cs_eq k_mk name_mk n_mk l_mk pos_mk Pre.app applyL natCast0 natCast1 natCast2

def NoWord (x : Tok) (k : Nat) : Prop := ∀ q, q < k → (x.kind == 1 && x.text == words5.getD q []) = false
theorem NoWord.next1 {x : Tok} {k : Nat} (h : NoWord x k) (h1 : (x.kind == 1) = false) : NoWord x (k + 1) := fun q hq => by
  rw [h1]; rfl
theorem NoWord.next2 {x : Tok} {k : Nat} (h : NoWord x k) (hk : k < words5.length) (h1 : (x.text == words5[k]) = false) : NoWord x (k + 1) := fun q hq => by
  rcases Nat.lt_succ_iff_lt_or_eq.1 hq with h' | h'
  · exact h q h'
  · subst h'
    have : words5.getD q [] = words5[q] := by
      rw [List.getD_eq_getElem?_getD, List.getElem?_eq_getElem hk]; rfl
    rw [this, h1, Bool.and_false]
theorem noWord_here {x : Tok} {k : Nat} (h : NoWord x k) (hk : words5.length ≤ k) : wordHere x = false := by
  have hl : words5.length = 5 := rfl
  have g0 := h 0 (by omega)
  have g1 := h 1 (by omega)
  have g2 := h 2 (by omega)
  have g3 := h 3 (by omega)
  have g4 := h 4 (by omega)
  simp only [words5, List.getD_cons_zero, List.getD_cons_succ] at g0 g1 g2 g3 g4
  unfold wordHere
  cases hk1 : (x.kind == 1)
  · rfl
  · rw [hk1, Bool.true_and] at g0 g1 g2 g3 g4
    rw [g0, g1, g2, g3, g4]; rfl
theorem law10_SourceOne {w0 : World} (hG : Glob w0) (s : List UInt8) (σ : H) : DC Tryz.prog w0 12 [S s] σ (Same (B true) σ) := by
  refine go12 rfl (fun hok hsz => ?_)
  ((first | refine W.advO 5000 _ _ ?_ | skip); simp only [go_sem, seval, ↓reduceIte, reduceCtorEq, c12])
  (refine W.call1 (law10_works hG _) rfl rfl (by first | rfl | simp) ?_; refine W.advO 5000 _ _ ?_; simp only [go_sem, seval, ↓reduceIte, reduceCtorEq])
  refine W.no rfl ?_
  by_cases hs : s.length > 600
  · have h1 : (s.length : Int) > 600 := by omega
    ((first | refine W.advO 5000 _ _ ?_ | skip); simp only [go_sem, seval, ↓reduceIte, reduceCtorEq, h1])
    refine W.yes rfl ?_
    ((first | refine W.advO 5000 _ _ ?_ | skip); simp only [go_sem, seval, ↓reduceIte, reduceCtorEq])
    (refine W.ret (Fin.sameW (hok) (by (first | rfl | exact List.length_set .. | simp)) (by simp only [resEval, r12, go_sem, seval, ↓reduceIte, reduceCtorEq]; rfl) ?_ (by (first | exact .c _ | (simp only [I, S, B, opsC, toksC, Pre.v, Tok.v, OpT.v, low_c, low_void, low_any, low_csl, low_nilf, low_ptr, low_osl, low_agg, low_tup, low_fn, List.forall_mem_cons, List.not_mem_nil, false_implies, implies_true, and_self, and_true, true_and]; done))) (by (first | rfl | exact (List.append_nil _).symm))); simp only [resV]; try exact V.wk.rfl _)
  have h1 : ¬ (s.length : Int) > 600 := by omega
  ((first | refine W.advO 5000 _ _ ?_ | skip); simp only [go_sem, seval, ↓reduceIte, reduceCtorEq, h1])
  refine W.no rfl ?_
  ((first | refine W.advO 5000 _ _ ?_ | skip); simp only [go_sem, seval, ↓reduceIte, reduceCtorEq])
  (refine W.call1 (ops_Default w0 _) rfl rfl (by first | rfl | simp) ?_; refine W.advO 5000 _ _ ?_; simp only [go_sem, seval, ↓reduceIte, reduceCtorEq])
  have hq := source_Query hG ops0 s (by omega)
  cases hqr : queryS ops0 s with
  | error x =>
    have hxe := query_err hqr
    rw [hqr] at hq
    (refine W.call1 (hq _) rfl rfl (by first | rfl | simp) ?_; refine W.advO 5000 _ _ ?_; simp only [go_sem, seval, ↓reduceIte, reduceCtorEq, queryV, Pre.none])
    (refine W.call1 (lex_Lex hG s (by omega) _) rfl rfl (by first | rfl | simp) ?_; refine W.advO 5000 _ _ ?_; simp only [go_sem, seval, ↓reduceIte, reduceCtorEq, hxe])
    refine W.yes rfl ?_
    ((first | refine W.advO 5000 _ _ ?_ | skip); simp only [go_sem, seval, ↓reduceIte, reduceCtorEq])
    (refine W.ret (Fin.sameW (hok) (by (first | rfl | exact List.length_set .. | simp)) (by simp only [resEval, r12, go_sem, seval, ↓reduceIte, reduceCtorEq]; rfl) ?_ (by (first | exact .c _ | (simp only [I, S, B, opsC, toksC, Pre.v, Tok.v, OpT.v, low_c, low_void, low_any, low_csl, low_nilf, low_ptr, low_osl, low_agg, low_tup, low_fn, List.forall_mem_cons, List.not_mem_nil, false_implies, implies_true, and_self, and_true, true_and]; done))) (by (first | rfl | exact (List.append_nil _).symm))); simp only [resV]; try exact V.wk.rfl _)
  | ok p =>
    obtain ⟨he, m, j, hE, rfl, h0⟩ := query_ok hqr
    rw [hqr] at hq
    have hb : ((lexL s).err != 0) = false := by simpa using he
    (refine W.call1 (hq _) rfl rfl (by first | rfl | simp) ?_; refine W.advO 5000 _ _ ?_; simp only [go_sem, seval, ↓reduceIte, reduceCtorEq, queryV])
    by_cases h2 : (lexL s).toks.length < 2
    · have h2' : ((lexL s).toks.length : Int) < 2 := by omega
      (refine W.call1 (lex_Lex hG s (by omega) _) rfl rfl (by first | rfl | simp) ?_; refine W.advO 5000 _ _ ?_; simp only [go_sem, seval, ↓reduceIte, reduceCtorEq, hb, h2'])
      refine W.yes rfl ?_
      ((first | refine W.advO 5000 _ _ ?_ | skip); simp only [go_sem, seval, ↓reduceIte, reduceCtorEq])
      (refine W.ret (Fin.sameW (hok) (by (first | rfl | exact List.length_set .. | simp)) (by simp only [resEval, r12, go_sem, seval, ↓reduceIte, reduceCtorEq]; rfl) ?_ (by (first | exact .c _ | (simp only [I, S, B, opsC, toksC, Pre.v, Tok.v, OpT.v, low_c, low_void, low_any, low_csl, low_nilf, low_ptr, low_osl, low_agg, low_tup, low_fn, List.forall_mem_cons, List.not_mem_nil, false_implies, implies_true, and_self, and_true, true_and]; done))) (by (first | rfl | exact (List.append_nil _).symm))); simp only [resV]; try exact V.wk.rfl _)
    · have h2' : ¬ ((lexL s).toks.length : Int) < 2 := by omega
      (refine W.call1 (lex_Lex hG s (by omega) _) rfl rfl (by first | rfl | simp) ?_; refine W.advO 5000 _ _ ?_; simp only [go_sem, seval, ↓reduceIte, reduceCtorEq, hb, h2'])
      refine W.no rfl ?_
      ((first | refine W.advO 5000 _ _ ?_ | skip); simp only [go_sem, seval, ↓reduceIte, reduceCtorEq])
      (refine W.call1 (source_Words w0 _) rfl rfl (by first | rfl | simp) ?_; refine W.advO 5000 _ _ ?_; simp only [go_sem, seval, ↓reduceIte, reduceCtorEq])
      have hR := fun (hw : wordHere (tokL (lexL s).toks 0) = false) => one_law (s := s) (by omega) he (by omega) hE h0 hw
      generalize ht : (lexL s).toks = t at *
      have h2n : 2 ≤ t.length := by omega
      have hx0 : t[0]? = some (tokL t 0) := by rw [tokL_at (by omega)]; exact List.getElem?_eq_getElem (by omega)
      have hxd : t[t.length - 2]? = some (tokL t (t.length - 2)) := by rw [tokL_at (by omega)]; exact List.getElem?_eq_getElem (by omega)
      have hl0 : (0 : Int) < (t.length : Int) := by omega
      have hwd : IntKind.i64.wrap ((t.length : Int) - 2) = ((t.length - 2 : Nat) : Int) := by
        have := lexL_count s
        rw [ht] at this
        rw [wrap_in] <;> omega
      have hld : ((t.length - 2 : Nat) : Int) < (t.length : Int) := by omega
      refine W.loopP (fun k => k ≤ words5.length ∧ NoWord (tokL t 0) k) (fun k => ⟨((((((base.put (some 0) (S s)).put (some 3) (B true)).put (some 4) (.ptr σ.length 0)).put (some 7) (.c (toksC t))).put (some 10) (.csl (strsR words5))).put (some 11) (I (k : Nat))), σ ++ [.cells m.p.v.cellsV]⟩) (fun k => words5.length - k) 0 ⟨Nat.zero_le _, fun _ h => absurd h (Nat.not_lt_zero _)⟩ ?_ (fun k hk => ?_)
      · (refine Lew.env ?_; (repeat' (first | exact LeE.base _ | (refine LeE.put ?_ (by first | exact V.wk.rfl _ | exact V.wk.osl _ _ | exact V.wk.csl _)))))
      · obtain ⟨hk, hinv⟩ := hk
        by_cases hlt : k < words5.length
        · have l1 : ((k : Int) < (words5.length : Int)) := by omega
          have hxk : words5[k]? = some words5[k] := List.getElem?_eq_getElem hlt
          have hwk : IntKind.i64.wrap ((k : Int) + 1) = ((k + 1 : Nat) : Int) := by
            have : words5.length = 5 := rfl
            rw [wrap_in] <;> omega
          have hnext1 : ((tokL t 0).kind == 1) = false → NoWord (tokL t 0) (k + 1) := hinv.next1
          have hnext2 : ((tokL t 0).text == words5[k]) = false → NoWord (tokL t 0) (k + 1) := hinv.next2 hlt
          ((first | refine W.advO 5000 _ _ ?_ | skip); simp only [go_sem, seval, ↓reduceIte, reduceCtorEq, strsR, l1])
          refine W.yes rfl ?_
          ((first | refine W.advO 5000 _ _ ?_ | skip); simp only [go_sem, seval, ↓reduceIte, reduceCtorEq])
          cases hk1 : ((tokL t 0).kind == 1)
          · (apply W.dregE (List.cons_ne_nil _ _); case hc => ((apply CanonE.advPO; simp only [advPO_nil, advPO_loud, advPO_quiet, pL_yes, pL_no, pLS_some, pLS_none, pQ_yes, pQ_no, pQS_some, pQS_loud, eq_self, Nat.sub_zero, go_sem, seval, ↓reduceIte, reduceCtorEq, hl0, hx0, hk1]); exact CanonE.nil))
            ((first | refine W.advO 5000 _ _ ?_ | skip); simp only [go_sem, seval, ↓reduceIte, reduceCtorEq])
            refine W.no rfl ?_
            ((first | refine W.advO 5000 _ _ ?_ | skip); simp only [go_sem, seval, ↓reduceIte, reduceCtorEq, hwk])
            refine .inv ⟨k + 1, ⟨hlt, hnext1 hk1⟩, by omega, ?_⟩
            (refine Lew.env ?_; (repeat' (first | exact LeE.base _ | (refine LeE.put ?_ (by first | exact V.wk.rfl _ | exact V.wk.osl _ _ | exact V.wk.csl _)))))
          · cases htx : ((tokL t 0).text == words5[k])
            · (apply W.dregE (List.cons_ne_nil _ _); case hc => ((apply CanonE.advPO; simp only [advPO_nil, advPO_loud, advPO_quiet, pL_yes, pL_no, pLS_some, pLS_none, pQ_yes, pQ_no, pQS_some, pQS_loud, eq_self, Nat.sub_zero, go_sem, seval, ↓reduceIte, reduceCtorEq, hl0, hx0, hk1, strsR, l1, nat0, hxk, htx]); exact CanonE.nil))
              ((first | refine W.advO 5000 _ _ ?_ | skip); simp only [go_sem, seval, ↓reduceIte, reduceCtorEq])
              refine W.no rfl ?_
              ((first | refine W.advO 5000 _ _ ?_ | skip); simp only [go_sem, seval, ↓reduceIte, reduceCtorEq, hwk])
              refine .inv ⟨k + 1, ⟨hlt, hnext2 htx⟩, by omega, ?_⟩
              (refine Lew.env ?_; (repeat' (first | exact LeE.base _ | (refine LeE.put ?_ (by first | exact V.wk.rfl _ | exact V.wk.osl _ _ | exact V.wk.csl _)))))
            · (apply W.dregE (List.cons_ne_nil _ _); case hc => ((apply CanonE.advPO; simp only [advPO_nil, advPO_loud, advPO_quiet, pL_yes, pL_no, pLS_some, pLS_none, pQ_yes, pQ_no, pQS_some, pQS_loud, eq_self, Nat.sub_zero, go_sem, seval, ↓reduceIte, reduceCtorEq, hl0, hx0, hk1, strsR, l1, nat0, hxk, htx]); exact CanonE.nil))
              ((first | refine W.advO 5000 _ _ ?_ | skip); simp only [go_sem, seval, ↓reduceIte, reduceCtorEq])
              refine W.yes rfl ?_
              ((first | refine W.advO 5000 _ _ ?_ | skip); simp only [go_sem, seval, ↓reduceIte, reduceCtorEq])
              (refine W.ret (Fin.sameW (hok) (by (first | rfl | exact List.length_set .. | simp)) (by simp only [resEval, r12, go_sem, seval, ↓reduceIte, reduceCtorEq]; rfl) ?_ (by (first | exact .c _ | (simp only [I, S, B, opsC, toksC, Pre.v, Tok.v, OpT.v, low_c, low_void, low_any, low_csl, low_nilf, low_ptr, low_osl, low_agg, low_tup, low_fn, List.forall_mem_cons, List.not_mem_nil, false_implies, implies_true, and_self, and_true, true_and]; done))) (by (first | rfl | exact (List.append_nil _).symm))); simp only [resV]; try exact V.wk.rfl _)
        · have l1 : ¬ ((k : Int) < (words5.length : Int)) := by omega
          have hwf : wordHere (tokL t 0) = false := noWord_here (k := k) hinv (by omega)
          obtain ⟨hce, hca⟩ := hR hwf
          have hsl : (s ++ dotOf t).length ≤ 2048 := by
            rw [List.length_append]
            have : (dotOf t).length ≤ 2 := by unfold dotOf; split <;> simp
            omega
          have hread := source_Read hG (s ++ dotOf t) hsl
          have hrs : readS (s ++ dotOf t) = .ok ([⟨3, [], 0, .none, .zero, m.p, (tokL t 0).pos⟩], ops0) := by
            unfold readS
            rw [if_pos hce, hca]
          rw [hrs] at hread
          have hlen : s.length + 2 ≤ 9223372036854775807 := by omega
          have hlen0 : s.length ≤ 9223372036854775807 := by omega
          ((first | refine W.advO 5000 _ _ ?_ | skip); simp only [go_sem, seval, ↓reduceIte, reduceCtorEq, strsR, l1])
          refine W.no rfl ?_
          ((first | refine W.advO 5000 _ _ ?_ | skip); simp only [go_sem, seval, ↓reduceIte, reduceCtorEq, hwd, nat0, hld, hxd])
          unfold dotOf at hread
          by_cases h7 : (tokL t (t.length - 2)).kind = 7
          · have n7 : ((tokL t (t.length - 2)).kind == 7) = true := by simpa using h7
            rw [if_pos h7, List.append_nil] at hread
            ((first | refine W.advO 5000 _ _ ?_ | skip); simp only [go_sem, seval, ↓reduceIte, reduceCtorEq, n7])
            refine W.yes rfl ?_
            ((first | refine W.advO 5000 _ _ ?_ | skip); simp only [go_sem, seval, ↓reduceIte, reduceCtorEq, hlen0, List.append_nil])
            (refine W.call1 (hread _) rfl rfl (by first | rfl | simp) ?_; refine W.advO 5000 _ _ ?_; simp only [go_sem, seval, ↓reduceIte, reduceCtorEq, srcV, sentsC, sent_cs])
            refine W.no rfl ?_
            ((first | refine W.advO 5000 _ _ ?_ | skip); simp only [go_sem, seval, ↓reduceIte, reduceCtorEq])
            apply W.dregE (List.cons_ne_nil _ _)
            case hc =>
              (apply CanonE.advPO; simp only [advPO_nil, advPO_loud, advPO_quiet, pL_yes, pL_no, pLS_some, pLS_none, pQ_yes, pQ_no, pQS_some, pQS_loud, eq_self, Nat.sub_zero, go_sem, seval, ↓reduceIte, reduceCtorEq])
              (apply CanonE.call (ref03_Exact w0 m.p _); (case hg => rfl); (case hf => rfl); (case ha => first | rfl | simp))
              (apply CanonE.advPO; simp only [advPO_nil, advPO_loud, advPO_quiet, pL_yes, pL_no, pLS_some, pLS_none, pQ_yes, pQ_no, pQS_some, pQS_loud, eq_self, Nat.sub_zero, go_sem, seval, ↓reduceIte, reduceCtorEq])
              exact CanonE.nil
            ((first | refine W.advO 5000 _ _ ?_ | skip); simp only [go_sem, seval, ↓reduceIte, reduceCtorEq])
            (refine W.call1 (ops_Default w0 _) rfl rfl (by first | rfl | simp) ?_; refine W.advO 5000 _ _ ?_; simp only [go_sem, seval, ↓reduceIte, reduceCtorEq])
            (refine W.call1 (ref02_Same w0 ops0 _) rfl rfl (by first | rfl | simp) ?_; refine W.advO 5000 _ _ ?_; simp only [go_sem, seval, ↓reduceIte, reduceCtorEq])
            (refine W.ret (Fin.sameW (hok) (by (first | rfl | exact List.length_set .. | simp)) (by simp only [resEval, r12, go_sem, seval, ↓reduceIte, reduceCtorEq]; rfl) ?_ (by (first | exact .c _ | (simp only [I, S, B, opsC, toksC, Pre.v, Tok.v, OpT.v, low_c, low_void, low_any, low_csl, low_nilf, low_ptr, low_osl, low_agg, low_tup, low_fn, List.forall_mem_cons, List.not_mem_nil, false_implies, implies_true, and_self, and_true, true_and]; done))) (by (first | rfl | exact (List.append_nil _).symm))); simp only [resV]; try exact V.wk.rfl _)
          · have n7 : ((tokL t (t.length - 2)).kind == 7) = false := by simpa using h7
            rw [if_neg h7] at hread
            ((first | refine W.advO 5000 _ _ ?_ | skip); simp only [go_sem, seval, ↓reduceIte, reduceCtorEq, n7])
            refine W.no rfl ?_
            ((first | refine W.advO 5000 _ _ ?_ | skip); simp only [go_sem, seval, ↓reduceIte, reduceCtorEq, hlen])
            (refine W.call1 (hread _) rfl rfl (by first | rfl | simp) ?_; refine W.advO 5000 _ _ ?_; simp only [go_sem, seval, ↓reduceIte, reduceCtorEq, srcV, sentsC, sent_cs])
            refine W.no rfl ?_
            ((first | refine W.advO 5000 _ _ ?_ | skip); simp only [go_sem, seval, ↓reduceIte, reduceCtorEq])
            apply W.dregE (List.cons_ne_nil _ _)
            case hc =>
              (apply CanonE.advPO; simp only [advPO_nil, advPO_loud, advPO_quiet, pL_yes, pL_no, pLS_some, pLS_none, pQ_yes, pQ_no, pQS_some, pQS_loud, eq_self, Nat.sub_zero, go_sem, seval, ↓reduceIte, reduceCtorEq])
              (apply CanonE.call (ref03_Exact w0 m.p _); (case hg => rfl); (case hf => rfl); (case ha => first | rfl | simp))
              (apply CanonE.advPO; simp only [advPO_nil, advPO_loud, advPO_quiet, pL_yes, pL_no, pLS_some, pLS_none, pQ_yes, pQ_no, pQS_some, pQS_loud, eq_self, Nat.sub_zero, go_sem, seval, ↓reduceIte, reduceCtorEq])
              exact CanonE.nil
            ((first | refine W.advO 5000 _ _ ?_ | skip); simp only [go_sem, seval, ↓reduceIte, reduceCtorEq])
            (refine W.call1 (ops_Default w0 _) rfl rfl (by first | rfl | simp) ?_; refine W.advO 5000 _ _ ?_; simp only [go_sem, seval, ↓reduceIte, reduceCtorEq])
            (refine W.call1 (ref02_Same w0 ops0 _) rfl rfl (by first | rfl | simp) ?_; refine W.advO 5000 _ _ ?_; simp only [go_sem, seval, ↓reduceIte, reduceCtorEq])
            (refine W.ret (Fin.sameW (hok) (by (first | rfl | exact List.length_set .. | simp)) (by simp only [resEval, r12, go_sem, seval, ↓reduceIte, reduceCtorEq]; rfl) ?_ (by (first | exact .c _ | (simp only [I, S, B, opsC, toksC, Pre.v, Tok.v, OpT.v, low_c, low_void, low_any, low_csl, low_nilf, low_ptr, low_osl, low_agg, low_tup, low_fn, List.forall_mem_cons, List.not_mem_nil, false_implies, implies_true, and_self, and_true, true_and]; done))) (by (first | rfl | exact (List.append_nil _).symm))); simp only [resV]; try exact V.wk.rfl _)
end Go.Proofs.YtlogjjnimlnpkaaGreatDoor

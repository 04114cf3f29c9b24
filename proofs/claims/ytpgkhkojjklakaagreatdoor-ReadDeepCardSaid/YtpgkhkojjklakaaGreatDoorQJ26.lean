/-
  Walks: an atom.
  Walks: atoms, applied.
  Walks: an expression.
  Walks: Read.
  The code of some functions, without addresses.
  Walks: the document's reader, its small functions.
-/
import Derived.Test.YtpgkhkojjklakaaGreatDoorQJ25
import Derived.Test.YtpgkhkojjklakaaGreatDoorChecked
import Derived.Test.YtpgkhkojjklakaaGreatDoorQJ8
set_option linter.unusedSimpArgs false
set_option linter.unusedVariables false
set_option maxHeartbeats 8000000
set_option maxRecDepth 20000
namespace Go.Proofs.YtpgkhkojjklakaaGreatDoor
open Go.RowKit Go.Lamb
attribute [local go_sem] advO_skip advO_reg advO_seq advO_block advO_exit advO_endb advO_opsNil advO_ops advG_yes advG_no advG_none advS_some advS_none advO_cond advO_loop advO_dreg advO_ret advO_bad advO_inv advO_nil advO_zero wantedV Lamb.step ev_t ev_k put_some put_none argEnv popTo cellsAt V.cellsV V.rows V.toC toCs fillV rowsV boundV boundL binV binInt binStr eqC eqL V.isNil leaves V.leaf Ins.quiet Ins.pure List.getD_cons_zero List.getD_cons_succ List.getD_nil List.all_cons List.all_nil List.length_cons List.length_nil List.take_succ_cons List.take_zero List.drop_succ_cons List.drop_zero List.cons_append List.nil_append List.append_nil List.append_assoc List.map_cons List.map_nil List.getElem?_cons_zero List.getElem?_cons_succ List.length_append List.length_set hget0 hget hset0 hset hsets hgs0 hgs hss0 hss List.set_cons_zero List.set_cons_succ List.forall_mem_cons List.not_mem_nil false_implies implies_true Option.map_some Bool.and_true Bool.true_and Bool.not_not Bool.not_true Bool.not_false Bool.and_self Bool.or_true Bool.true_or Bool.or_false Bool.false_or Bool.and_false Bool.false_and Bool.false_eq_true beq_self_eq_true and_self and_true true_and if_true if_false Nat.zero_add Nat.add_zero Nat.le_refl Int.toNat_natCast decide_true decide_false beq_t beq_f List.length_map List.getElem?_map I S B opsC toksC OpT.v OpT.cs OpT.zero Tok.v Tok.cs Pre.v Pre.cs_eq k_mk name_mk n_mk l_mk pos_mk Pre.app applyL natCast0 natCast1 natCast2

theorem atomF_eq (f : Nat) (l : List OpT) (t : List Tok) (depth i : Nat) : atomF (f + 1) l t depth i =
    if beginsL l (tokL t i) = false then some (.error ⟨30, (tokL t i).pos⟩)
    else if (tokL t i).kind = 5 then bracketsF f l t depth i
    else if (tokL t i).kind = 3 then some (.ok (.mk 2 [] (tokL t i).n [] (tokL t i).pos, i + 1))
    else if (tokL t i).kind ≠ 4 ∧ (tokL t (i + 1)).kind = 8 then
      match innerF f l t 0 depth (i + 2) (tokL t i).pos with
      | none => none
      | some (.error b) => some (.error b)
      | some (.ok (m, j)) => some (.ok (.mk 4 (tokL t i).text 0 [m.p] (tokL t i).pos, j))
    else some (.ok (.mk (if (tokL t i).kind = 2 then 1 else 0) (tokL t i).text 0 [] (tokL t i).pos, i + 1)) := by
  rw [atomF, bracketsF]
  simp only [innerF]
  by_cases hd : 200 ≤ depth
  · simp only [if_pos hd]
  · simp only [if_neg hd]
    rfl
theorem read_atom {w0 : World} {f : Nat} (hE : ExprOK w0 f) : AtomOK w0 (f + 1) := by
  intro l t depth i r σ b h hb hi ht hd
  have hlt := (List.getElem?_eq_some_iff.1 hb).1
  have hbe : σ[b]? = some (.cells [.c (opsC l), .c (toksC t), I i]) := hb
  rw [atomF_eq] at h
  refine go120 rfl (fun hok hsz => ?_)
  ((first | refine W.advO 5000 _ _ ?_ | skip); simp only [go_sem, ↓reduceIte, Nat.reduceEqDiff, Nat.reduceAdd, Nat.reduceSub, Nat.reduceMul, Nat.reduceLeDiff, Nat.reduceBEq, reduceCtorEq, Int.reduceLT, Int.reduceLE, Int.reduceToNat, Int.reduceAdd, Int.reduceSub, Int.reduceBEq, Int.reduceBNe, c120])
  (refine W.call1 (read_tok w0 l t i 0 _ b (hG hb _) (by omega) ht) rfl rfl (by first | rfl | simp) ?_; refine W.advO 5000 _ _ ?_; simp only [go_sem, ↓reduceIte, Nat.reduceEqDiff, Nat.reduceAdd, Nat.reduceSub, Nat.reduceMul, Nat.reduceLeDiff, Nat.reduceBEq, reduceCtorEq, Int.reduceLT, Int.reduceLE, Int.reduceToNat, Int.reduceAdd, Int.reduceSub, Int.reduceBEq, Int.reduceBNe])
  have hw : IntKind.i64.wrap ((i : Int) + 1) = ((i + 1 : Nat) : Int) := by rw [wrap_in] <;> omega
  cases hB : beginsL l (tokL t i)
  · rw [if_pos hB] at h
    injection h with h
    subst h
    (refine W.call1 (read_begins w0 l t i _ b (hG hb _) (by omega) ht) rfl rfl (by first | rfl | simp) ?_; refine W.advO 5000 _ _ ?_; simp only [go_sem, ↓reduceIte, Nat.reduceEqDiff, Nat.reduceAdd, Nat.reduceSub, Nat.reduceMul, Nat.reduceLeDiff, Nat.reduceBEq, reduceCtorEq, Int.reduceLT, Int.reduceLE, Int.reduceToNat, Int.reduceAdd, Int.reduceSub, Int.reduceBEq, Int.reduceBNe, hB])
    refine W.yes rfl ?_
    ((first | refine W.advO 5000 _ _ ?_ | skip); simp only [go_sem, ↓reduceIte, Nat.reduceEqDiff, Nat.reduceAdd, Nat.reduceSub, Nat.reduceMul, Nat.reduceLeDiff, Nat.reduceBEq, reduceCtorEq, Int.reduceLT, Int.reduceLE, Int.reduceToNat, Int.reduceAdd, Int.reduceSub, Int.reduceBEq, Int.reduceBNe])
    (apply W.dregE (List.cons_ne_nil _ _); case hc => ((apply CanonE.advPO; simp only [advPO_nil, advPO_loud, advPO_quiet, pL_yes, pL_no, pLS_some, pLS_none, pQ_yes, pQ_no, pQS_some, pQS_loud, eq_self, Nat.sub_zero, go_sem, ↓reduceIte, Nat.reduceEqDiff, Nat.reduceAdd, Nat.reduceSub, Nat.reduceMul, Nat.reduceLeDiff, Nat.reduceBEq, reduceCtorEq, Int.reduceLT, Int.reduceLE, Int.reduceToNat, Int.reduceAdd, Int.reduceSub, Int.reduceBEq, Int.reduceBNe]); exact CanonE.nil))
    ((first | refine W.advO 5000 _ _ ?_ | skip); simp only [go_sem, ↓reduceIte, Nat.reduceEqDiff, Nat.reduceAdd, Nat.reduceSub, Nat.reduceMul, Nat.reduceLeDiff, Nat.reduceBEq, reduceCtorEq, Int.reduceLT, Int.reduceLE, Int.reduceToNat, Int.reduceAdd, Int.reduceSub, Int.reduceBEq, Int.reduceBNe])
    (refine W.ret (Fin.gen (d := .tup [Pre.none.v, wrongV 30 (tokL t i).pos]) (hok) (by (first | rfl | exact List.length_set .. | simp)) (by simp only [resEval, r120, go_sem, ↓reduceIte, Nat.reduceEqDiff, Nat.reduceAdd, Nat.reduceSub, Nat.reduceMul, Nat.reduceLeDiff, Nat.reduceBEq, reduceCtorEq, Int.reduceLT, Int.reduceLE, Int.reduceToNat, Int.reduceAdd, Int.reduceSub, Int.reduceBEq, Int.reduceBNe, wrongV, Pre.none]; rfl) (by simp only [resV, I, S, B, Pre.v, OpT.v, Tok.v, k_mk, name_mk, n_mk, l_mk, pos_mk, Pre.app, List.map_cons, List.map_nil, Pre.cs_eq, wrongV, Pre.none]; (repeat' (first | exact V.wk.rfl _ | exact V.wk.csl _ | exact V.wk.osl _ _ | exact wk_agg_nil | exact wk_tup_nil | refine wk_agg_cons ?_ ?_ | refine wk_tup_cons ?_ ?_))) (by (first | exact .c _ | (simp only [I, S, B, opsC, toksC, Pre.v, Tok.v, OpT.v, low_c, low_void, low_any, low_csl, low_nilf, low_ptr, low_osl, low_agg, low_tup, low_fn, List.forall_mem_cons, List.not_mem_nil, false_implies, implies_true, and_self, and_true, true_and, wrongV, Pre.none]; done))) (by (first | rfl | exact (List.append_nil _).symm)) ?_))
    exact ⟨rfl, Pre.none, i, rfl, (set_here hb).symm⟩
  · rw [if_neg (by rw [hB]; decide)] at h
    have hil : i < t.length := begins_lt (l := l) (by rw [hB]; decide)
    (refine W.call1 (read_begins w0 l t i _ b (hG hb _) (by omega) ht) rfl rfl (by first | rfl | simp) ?_; refine W.advO 5000 _ _ ?_; simp only [go_sem, ↓reduceIte, Nat.reduceEqDiff, Nat.reduceAdd, Nat.reduceSub, Nat.reduceMul, Nat.reduceLeDiff, Nat.reduceBEq, reduceCtorEq, Int.reduceLT, Int.reduceLE, Int.reduceToNat, Int.reduceAdd, Int.reduceSub, Int.reduceBEq, Int.reduceBNe, hB])
    refine W.no rfl ?_
    cases h5 : ((tokL t i).kind == 5)
    · rw [if_neg (by simpa using h5)] at h
      ((first | refine W.advO 5000 _ _ ?_ | skip); simp only [go_sem, ↓reduceIte, Nat.reduceEqDiff, Nat.reduceAdd, Nat.reduceSub, Nat.reduceMul, Nat.reduceLeDiff, Nat.reduceBEq, reduceCtorEq, Int.reduceLT, Int.reduceLE, Int.reduceToNat, Int.reduceAdd, Int.reduceSub, Int.reduceBEq, Int.reduceBNe, h5])
      refine W.no rfl ?_
      cases h3 : ((tokL t i).kind == 3)
      · rw [if_neg (by simpa using h3)] at h
        ((first | refine W.advO 5000 _ _ ?_ | skip); simp only [go_sem, ↓reduceIte, Nat.reduceEqDiff, Nat.reduceAdd, Nat.reduceSub, Nat.reduceMul, Nat.reduceLeDiff, Nat.reduceBEq, reduceCtorEq, Int.reduceLT, Int.reduceLE, Int.reduceToNat, Int.reduceAdd, Int.reduceSub, Int.reduceBEq, Int.reduceBNe, h3])
        refine W.no rfl ?_
        by_cases hc : (tokL t i).kind ≠ 4 ∧ (tokL t (i + 1)).kind = 8
        · rw [if_pos hc] at h
          obtain ⟨hc4, hc8⟩ := hc
          have h4 : ((tokL t i).kind != 4) = true := by simpa using hc4
          have hw2 : IntKind.i64.wrap ((i : Int) + 2) = ((i + 2 : Nat) : Int) := by rw [wrap_in] <;> omega
          have hi1 := tokL_lt (t := t) (i := i + 1) (by rw [hc8]; decide)
          ((first | refine W.advO 5000 _ _ ?_ | skip); simp only [go_sem, ↓reduceIte, Nat.reduceEqDiff, Nat.reduceAdd, Nat.reduceSub, Nat.reduceMul, Nat.reduceLeDiff, Nat.reduceBEq, reduceCtorEq, Int.reduceLT, Int.reduceLE, Int.reduceToNat, Int.reduceAdd, Int.reduceSub, Int.reduceBEq, Int.reduceBNe, h4])
          (refine W.call1 (read_tok w0 l t i 1 _ b (hG hb _) (by omega) ht) rfl rfl (by first | rfl | simp) ?_; refine W.advO 5000 _ _ ?_; simp only [go_sem, ↓reduceIte, Nat.reduceEqDiff, Nat.reduceAdd, Nat.reduceSub, Nat.reduceMul, Nat.reduceLeDiff, Nat.reduceBEq, reduceCtorEq, Int.reduceLT, Int.reduceLE, Int.reduceToNat, Int.reduceAdd, Int.reduceSub, Int.reduceBEq, Int.reduceBNe, hc8])
          refine W.yes rfl ?_
          ((first | refine W.advO 5000 _ _ ?_ | skip); simp only [go_sem, ↓reduceIte, Nat.reduceEqDiff, Nat.reduceAdd, Nat.reduceSub, Nat.reduceMul, Nat.reduceLeDiff, Nat.reduceBEq, reduceCtorEq, Int.reduceLT, Int.reduceLE, Int.reduceToNat, Int.reduceAdd, Int.reduceSub, Int.reduceBEq, Int.reduceBNe, hG hbe, hS hb, hw2])
          cases hr : innerF f l t 0 depth (i + 2) (tokL t i).pos with
          | none => rw [hr] at h; cases h
          | some y =>
            rw [hr] at h
            (refine W.call (read_inner hE l t 0 depth (i + 2) (tokL t i) y _ b hr (hG' hb _ _) (by omega) ht hd) rfl rfl (by first | rfl | simp) ?_)
            intro v σ1 hR
            cases y with
            | error x =>
              injection h with h
              subst h
              obtain ⟨he, m, k', j, rfl, rfl⟩ := hR
              ((first | refine W.advO 5000 _ _ ?_ | skip); simp only [go_sem, ↓reduceIte, Nat.reduceEqDiff, Nat.reduceAdd, Nat.reduceSub, Nat.reduceMul, Nat.reduceLeDiff, Nat.reduceBEq, reduceCtorEq, Int.reduceLT, Int.reduceLE, Int.reduceToNat, Int.reduceAdd, Int.reduceSub, Int.reduceBEq, Int.reduceBNe, hS' hb, madeV, wrongV])
              (apply W.dregE (List.cons_ne_nil _ _); case hc => ((apply CanonE.advPO; simp only [advPO_nil, advPO_loud, advPO_quiet, pL_yes, pL_no, pLS_some, pLS_none, pQ_yes, pQ_no, pQS_some, pQS_loud, eq_self, Nat.sub_zero, go_sem, ↓reduceIte, Nat.reduceEqDiff, Nat.reduceAdd, Nat.reduceSub, Nat.reduceMul, Nat.reduceLeDiff, Nat.reduceBEq, reduceCtorEq, Int.reduceLT, Int.reduceLE, Int.reduceToNat, Int.reduceAdd, Int.reduceSub, Int.reduceBEq, Int.reduceBNe]); exact CanonE.nil))
              ((first | refine W.advO 5000 _ _ ?_ | skip); simp only [go_sem, ↓reduceIte, Nat.reduceEqDiff, Nat.reduceAdd, Nat.reduceSub, Nat.reduceMul, Nat.reduceLeDiff, Nat.reduceBEq, reduceCtorEq, Int.reduceLT, Int.reduceLE, Int.reduceToNat, Int.reduceAdd, Int.reduceSub, Int.reduceBEq, Int.reduceBNe])
              (refine W.ret (Fin.gen (d := .tup [(Pre.mk 4 (tokL t i).text 0 [m.p] (tokL t i).pos).v, wrongV x.e x.pos]) (rdr_ok hok b l t j) (by (first | rfl | exact List.length_set .. | simp)) (by simp only [resEval, r120, go_sem, ↓reduceIte, Nat.reduceEqDiff, Nat.reduceAdd, Nat.reduceSub, Nat.reduceMul, Nat.reduceLeDiff, Nat.reduceBEq, reduceCtorEq, Int.reduceLT, Int.reduceLE, Int.reduceToNat, Int.reduceAdd, Int.reduceSub, Int.reduceBEq, Int.reduceBNe, wrongV]; rfl) (by simp only [resV, I, S, B, Pre.v, OpT.v, Tok.v, k_mk, name_mk, n_mk, l_mk, pos_mk, Pre.app, List.map_cons, List.map_nil, Pre.cs_eq, wrongV]; (repeat' (first | exact V.wk.rfl _ | exact V.wk.csl _ | exact V.wk.osl _ _ | exact wk_agg_nil | exact wk_tup_nil | refine wk_agg_cons ?_ ?_ | refine wk_tup_cons ?_ ?_))) (by (first | exact .c _ | (simp only [I, S, B, opsC, toksC, Pre.v, Tok.v, OpT.v, low_c, low_void, low_any, low_csl, low_nilf, low_ptr, low_osl, low_agg, low_tup, low_fn, List.forall_mem_cons, List.not_mem_nil, false_implies, implies_true, and_self, and_true, true_and, wrongV]; done))) (by (first | rfl | exact (List.append_nil _).symm)) ?_))
              exact ⟨he, _, j, rfl, rfl⟩
            | ok y =>
              obtain ⟨m, j⟩ := y
              injection h with h
              subst h
              obtain ⟨k', hk, rfl, rfl⟩ := hR
              ((first | refine W.advO 5000 _ _ ?_ | skip); simp only [go_sem, ↓reduceIte, Nat.reduceEqDiff, Nat.reduceAdd, Nat.reduceSub, Nat.reduceMul, Nat.reduceLeDiff, Nat.reduceBEq, reduceCtorEq, Int.reduceLT, Int.reduceLE, Int.reduceToNat, Int.reduceAdd, Int.reduceSub, Int.reduceBEq, Int.reduceBNe, hS' hb, madeV, wrongV])
              (apply W.dregE (List.cons_ne_nil _ _); case hc => ((apply CanonE.advPO; simp only [advPO_nil, advPO_loud, advPO_quiet, pL_yes, pL_no, pLS_some, pLS_none, pQ_yes, pQ_no, pQS_some, pQS_loud, eq_self, Nat.sub_zero, go_sem, ↓reduceIte, Nat.reduceEqDiff, Nat.reduceAdd, Nat.reduceSub, Nat.reduceMul, Nat.reduceLeDiff, Nat.reduceBEq, reduceCtorEq, Int.reduceLT, Int.reduceLE, Int.reduceToNat, Int.reduceAdd, Int.reduceSub, Int.reduceBEq, Int.reduceBNe]); exact CanonE.nil))
              ((first | refine W.advO 5000 _ _ ?_ | skip); simp only [go_sem, ↓reduceIte, Nat.reduceEqDiff, Nat.reduceAdd, Nat.reduceSub, Nat.reduceMul, Nat.reduceLeDiff, Nat.reduceBEq, reduceCtorEq, Int.reduceLT, Int.reduceLE, Int.reduceToNat, Int.reduceAdd, Int.reduceSub, Int.reduceBEq, Int.reduceBNe])
              (refine W.ret (Fin.gen (d := .tup [(Pre.mk 4 (tokL t i).text 0 [m.p] (tokL t i).pos).v, wrongV 0 0]) (rdr_ok hok b l t j) (by (first | rfl | exact List.length_set .. | simp)) (by simp only [resEval, r120, go_sem, ↓reduceIte, Nat.reduceEqDiff, Nat.reduceAdd, Nat.reduceSub, Nat.reduceMul, Nat.reduceLeDiff, Nat.reduceBEq, reduceCtorEq, Int.reduceLT, Int.reduceLE, Int.reduceToNat, Int.reduceAdd, Int.reduceSub, Int.reduceBEq, Int.reduceBNe, wrongV]; rfl) (by simp only [resV, I, S, B, Pre.v, OpT.v, Tok.v, k_mk, name_mk, n_mk, l_mk, pos_mk, Pre.app, List.map_cons, List.map_nil, Pre.cs_eq, wrongV]; (repeat' (first | exact V.wk.rfl _ | exact V.wk.csl _ | exact V.wk.osl _ _ | exact wk_agg_nil | exact wk_tup_nil | refine wk_agg_cons ?_ ?_ | refine wk_tup_cons ?_ ?_))) (by (first | exact .c _ | (simp only [I, S, B, opsC, toksC, Pre.v, Tok.v, OpT.v, low_c, low_void, low_any, low_csl, low_nilf, low_ptr, low_osl, low_agg, low_tup, low_fn, List.forall_mem_cons, List.not_mem_nil, false_implies, implies_true, and_self, and_true, true_and, wrongV]; done))) (by (first | rfl | exact (List.append_nil _).symm)) ?_))
              exact ⟨rfl, rfl⟩
        · rw [if_neg hc] at h
          injection h with h
          subst h
          have two : ((tokL t i).kind != 4) = false ∨ (((tokL t i).kind != 4) = true ∧ ((tokL t (i + 1)).kind == 8) = false) := by
            cases ho : ((tokL t i).kind != 4)
            · exact .inl rfl
            · refine .inr ⟨rfl, ?_⟩
              cases h6 : ((tokL t (i + 1)).kind == 8)
              · rfl
              · exact absurd ⟨by simpa using ho, by simpa using h6⟩ hc
          rcases two with ho | ⟨ho, h6⟩
          all_goals first
            | (((first | refine W.advO 5000 _ _ ?_ | skip); simp only [go_sem, ↓reduceIte, Nat.reduceEqDiff, Nat.reduceAdd, Nat.reduceSub, Nat.reduceMul, Nat.reduceLeDiff, Nat.reduceBEq, reduceCtorEq, Int.reduceLT, Int.reduceLE, Int.reduceToNat, Int.reduceAdd, Int.reduceSub, Int.reduceBEq, Int.reduceBNe, ho])
               (refine W.call1 (read_tok w0 l t i 1 _ b (hG hb _) (by omega) ht) rfl rfl (by first | rfl | simp) ?_; refine W.advO 5000 _ _ ?_; simp only [go_sem, ↓reduceIte, Nat.reduceEqDiff, Nat.reduceAdd, Nat.reduceSub, Nat.reduceMul, Nat.reduceLeDiff, Nat.reduceBEq, reduceCtorEq, Int.reduceLT, Int.reduceLE, Int.reduceToNat, Int.reduceAdd, Int.reduceSub, Int.reduceBEq, Int.reduceBNe, h6])
               refine W.no rfl ?_)
            | (((first | refine W.advO 5000 _ _ ?_ | skip); simp only [go_sem, ↓reduceIte, Nat.reduceEqDiff, Nat.reduceAdd, Nat.reduceSub, Nat.reduceMul, Nat.reduceLeDiff, Nat.reduceBEq, reduceCtorEq, Int.reduceLT, Int.reduceLE, Int.reduceToNat, Int.reduceAdd, Int.reduceSub, Int.reduceBEq, Int.reduceBNe, ho])
               refine W.no rfl ?_)
          all_goals
            cases h2 : ((tokL t i).kind == 2)
            · have h2' : ¬ (tokL t i).kind = 2 := by simpa using h2
              ((first | refine W.advO 5000 _ _ ?_ | skip); simp only [go_sem, ↓reduceIte, Nat.reduceEqDiff, Nat.reduceAdd, Nat.reduceSub, Nat.reduceMul, Nat.reduceLeDiff, Nat.reduceBEq, reduceCtorEq, Int.reduceLT, Int.reduceLE, Int.reduceToNat, Int.reduceAdd, Int.reduceSub, Int.reduceBEq, Int.reduceBNe, h2])
              refine W.no rfl ?_
              ((first | refine W.advO 5000 _ _ ?_ | skip); simp only [go_sem, ↓reduceIte, Nat.reduceEqDiff, Nat.reduceAdd, Nat.reduceSub, Nat.reduceMul, Nat.reduceLeDiff, Nat.reduceBEq, reduceCtorEq, Int.reduceLT, Int.reduceLE, Int.reduceToNat, Int.reduceAdd, Int.reduceSub, Int.reduceBEq, Int.reduceBNe, hG hbe, hS hb, hw])
              (refine W.ret (Fin.gen (d := .tup [(Pre.mk 0 (tokL t i).text 0 [] (tokL t i).pos).v, wrongV 0 0]) (rdr_ok hok b l t (i + 1)) (by (first | rfl | exact List.length_set .. | simp)) (by simp only [resEval, r120, go_sem, ↓reduceIte, Nat.reduceEqDiff, Nat.reduceAdd, Nat.reduceSub, Nat.reduceMul, Nat.reduceLeDiff, Nat.reduceBEq, reduceCtorEq, Int.reduceLT, Int.reduceLE, Int.reduceToNat, Int.reduceAdd, Int.reduceSub, Int.reduceBEq, Int.reduceBNe, wrongV]; rfl) (by simp only [resV, I, S, B, Pre.v, OpT.v, Tok.v, k_mk, name_mk, n_mk, l_mk, pos_mk, Pre.app, List.map_cons, List.map_nil, Pre.cs_eq, wrongV]; (repeat' (first | exact V.wk.rfl _ | exact V.wk.csl _ | exact V.wk.osl _ _ | exact wk_agg_nil | exact wk_tup_nil | refine wk_agg_cons ?_ ?_ | refine wk_tup_cons ?_ ?_))) (by (first | exact .c _ | (simp only [I, S, B, opsC, toksC, Pre.v, Tok.v, OpT.v, low_c, low_void, low_any, low_csl, low_nilf, low_ptr, low_osl, low_agg, low_tup, low_fn, List.forall_mem_cons, List.not_mem_nil, false_implies, implies_true, and_self, and_true, true_and, wrongV]; done))) (by (first | rfl | exact (List.append_nil _).symm)) ?_))
              exact ⟨by rw [if_neg h2'], rfl⟩
            · have h2' : (tokL t i).kind = 2 := by simpa using h2
              ((first | refine W.advO 5000 _ _ ?_ | skip); simp only [go_sem, ↓reduceIte, Nat.reduceEqDiff, Nat.reduceAdd, Nat.reduceSub, Nat.reduceMul, Nat.reduceLeDiff, Nat.reduceBEq, reduceCtorEq, Int.reduceLT, Int.reduceLE, Int.reduceToNat, Int.reduceAdd, Int.reduceSub, Int.reduceBEq, Int.reduceBNe, h2])
              refine W.yes rfl ?_
              ((first | refine W.advO 5000 _ _ ?_ | skip); simp only [go_sem, ↓reduceIte, Nat.reduceEqDiff, Nat.reduceAdd, Nat.reduceSub, Nat.reduceMul, Nat.reduceLeDiff, Nat.reduceBEq, reduceCtorEq, Int.reduceLT, Int.reduceLE, Int.reduceToNat, Int.reduceAdd, Int.reduceSub, Int.reduceBEq, Int.reduceBNe, hG hbe, hS hb, hw])
              (refine W.ret (Fin.gen (d := .tup [(Pre.mk 1 (tokL t i).text 0 [] (tokL t i).pos).v, wrongV 0 0]) (rdr_ok hok b l t (i + 1)) (by (first | rfl | exact List.length_set .. | simp)) (by simp only [resEval, r120, go_sem, ↓reduceIte, Nat.reduceEqDiff, Nat.reduceAdd, Nat.reduceSub, Nat.reduceMul, Nat.reduceLeDiff, Nat.reduceBEq, reduceCtorEq, Int.reduceLT, Int.reduceLE, Int.reduceToNat, Int.reduceAdd, Int.reduceSub, Int.reduceBEq, Int.reduceBNe, wrongV]; rfl) (by simp only [resV, I, S, B, Pre.v, OpT.v, Tok.v, k_mk, name_mk, n_mk, l_mk, pos_mk, Pre.app, List.map_cons, List.map_nil, Pre.cs_eq, wrongV]; (repeat' (first | exact V.wk.rfl _ | exact V.wk.csl _ | exact V.wk.osl _ _ | exact wk_agg_nil | exact wk_tup_nil | refine wk_agg_cons ?_ ?_ | refine wk_tup_cons ?_ ?_))) (by (first | exact .c _ | (simp only [I, S, B, opsC, toksC, Pre.v, Tok.v, OpT.v, low_c, low_void, low_any, low_csl, low_nilf, low_ptr, low_osl, low_agg, low_tup, low_fn, List.forall_mem_cons, List.not_mem_nil, false_implies, implies_true, and_self, and_true, true_and, wrongV]; done))) (by (first | rfl | exact (List.append_nil _).symm)) ?_))
              exact ⟨by rw [if_pos h2'], rfl⟩
      · rw [if_pos (by simpa using h3)] at h
        injection h with h
        subst h
        ((first | refine W.advO 5000 _ _ ?_ | skip); simp only [go_sem, ↓reduceIte, Nat.reduceEqDiff, Nat.reduceAdd, Nat.reduceSub, Nat.reduceMul, Nat.reduceLeDiff, Nat.reduceBEq, reduceCtorEq, Int.reduceLT, Int.reduceLE, Int.reduceToNat, Int.reduceAdd, Int.reduceSub, Int.reduceBEq, Int.reduceBNe, h3])
        refine W.yes rfl ?_
        ((first | refine W.advO 5000 _ _ ?_ | skip); simp only [go_sem, ↓reduceIte, Nat.reduceEqDiff, Nat.reduceAdd, Nat.reduceSub, Nat.reduceMul, Nat.reduceLeDiff, Nat.reduceBEq, reduceCtorEq, Int.reduceLT, Int.reduceLE, Int.reduceToNat, Int.reduceAdd, Int.reduceSub, Int.reduceBEq, Int.reduceBNe, hG hbe, hS hb, hw])
        (refine W.ret (Fin.gen (d := .tup [(Pre.mk 2 [] (tokL t i).n [] (tokL t i).pos).v, wrongV 0 0]) (rdr_ok hok b l t (i + 1)) (by (first | rfl | exact List.length_set .. | simp)) (by simp only [resEval, r120, go_sem, ↓reduceIte, Nat.reduceEqDiff, Nat.reduceAdd, Nat.reduceSub, Nat.reduceMul, Nat.reduceLeDiff, Nat.reduceBEq, reduceCtorEq, Int.reduceLT, Int.reduceLE, Int.reduceToNat, Int.reduceAdd, Int.reduceSub, Int.reduceBEq, Int.reduceBNe, wrongV]; rfl) (by simp only [resV, I, S, B, Pre.v, OpT.v, Tok.v, k_mk, name_mk, n_mk, l_mk, pos_mk, Pre.app, List.map_cons, List.map_nil, Pre.cs_eq, wrongV]; (repeat' (first | exact V.wk.rfl _ | exact V.wk.csl _ | exact V.wk.osl _ _ | exact wk_agg_nil | exact wk_tup_nil | refine wk_agg_cons ?_ ?_ | refine wk_tup_cons ?_ ?_))) (by (first | exact .c _ | (simp only [I, S, B, opsC, toksC, Pre.v, Tok.v, OpT.v, low_c, low_void, low_any, low_csl, low_nilf, low_ptr, low_osl, low_agg, low_tup, low_fn, List.forall_mem_cons, List.not_mem_nil, false_implies, implies_true, and_self, and_true, true_and, wrongV]; done))) (by (first | rfl | exact (List.append_nil _).symm)) ?_))
        exact ⟨rfl, rfl⟩
    · rw [if_pos (by simpa using h5)] at h
      ((first | refine W.advO 5000 _ _ ?_ | skip); simp only [go_sem, ↓reduceIte, Nat.reduceEqDiff, Nat.reduceAdd, Nat.reduceSub, Nat.reduceMul, Nat.reduceLeDiff, Nat.reduceBEq, reduceCtorEq, Int.reduceLT, Int.reduceLE, Int.reduceToNat, Int.reduceAdd, Int.reduceSub, Int.reduceBEq, Int.reduceBNe, h5])
      refine W.yes rfl ?_
      ((first | refine W.advO 5000 _ _ ?_ | skip); simp only [go_sem, ↓reduceIte, Nat.reduceEqDiff, Nat.reduceAdd, Nat.reduceSub, Nat.reduceMul, Nat.reduceLeDiff, Nat.reduceBEq, reduceCtorEq, Int.reduceLT, Int.reduceLE, Int.reduceToNat, Int.reduceAdd, Int.reduceSub, Int.reduceBEq, Int.reduceBNe])
      (refine W.call (read_brackets hE l t depth i r _ b h (hG hb _) hil ht hd) rfl rfl (by first | rfl | simp) ?_)
      intro v σ1 hR
      cases r with
      | ok x =>
        obtain ⟨rfl, rfl⟩ := hR
        ((first | refine W.advO 5000 _ _ ?_ | skip); simp only [go_sem, ↓reduceIte, Nat.reduceEqDiff, Nat.reduceAdd, Nat.reduceSub, Nat.reduceMul, Nat.reduceLeDiff, Nat.reduceBEq, reduceCtorEq, Int.reduceLT, Int.reduceLE, Int.reduceToNat, Int.reduceAdd, Int.reduceSub, Int.reduceBEq, Int.reduceBNe, hS hb, wrongV])
        (refine W.ret (Fin.gen (d := .tup [x.1.v, wrongV 0 0]) (rdr_ok hok b l t x.2) (by (first | rfl | exact List.length_set .. | simp)) (by simp only [resEval, r120, go_sem, ↓reduceIte, Nat.reduceEqDiff, Nat.reduceAdd, Nat.reduceSub, Nat.reduceMul, Nat.reduceLeDiff, Nat.reduceBEq, reduceCtorEq, Int.reduceLT, Int.reduceLE, Int.reduceToNat, Int.reduceAdd, Int.reduceSub, Int.reduceBEq, Int.reduceBNe, wrongV]; rfl) (by simp only [resV, I, S, B, Pre.v, OpT.v, Tok.v, k_mk, name_mk, n_mk, l_mk, pos_mk, Pre.app, List.map_cons, List.map_nil, Pre.cs_eq, wrongV]; (repeat' (first | exact V.wk.rfl _ | exact V.wk.csl _ | exact V.wk.osl _ _ | exact wk_agg_nil | exact wk_tup_nil | refine wk_agg_cons ?_ ?_ | refine wk_tup_cons ?_ ?_))) (by (first | exact .c _ | (simp only [I, S, B, opsC, toksC, Pre.v, Tok.v, OpT.v, low_c, low_void, low_any, low_csl, low_nilf, low_ptr, low_osl, low_agg, low_tup, low_fn, List.forall_mem_cons, List.not_mem_nil, false_implies, implies_true, and_self, and_true, true_and, wrongV]; done))) (by (first | rfl | exact (List.append_nil _).symm)) ?_))
        exact ⟨rfl, rfl⟩
      | error x =>
        obtain ⟨he, q, j, rfl, rfl⟩ := hR
        ((first | refine W.advO 5000 _ _ ?_ | skip); simp only [go_sem, ↓reduceIte, Nat.reduceEqDiff, Nat.reduceAdd, Nat.reduceSub, Nat.reduceMul, Nat.reduceLeDiff, Nat.reduceBEq, reduceCtorEq, Int.reduceLT, Int.reduceLE, Int.reduceToNat, Int.reduceAdd, Int.reduceSub, Int.reduceBEq, Int.reduceBNe, hS hb, wrongV])
        (refine W.ret (Fin.gen (d := .tup [q.v, wrongV x.e x.pos]) (rdr_ok hok b l t j) (by (first | rfl | exact List.length_set .. | simp)) (by simp only [resEval, r120, go_sem, ↓reduceIte, Nat.reduceEqDiff, Nat.reduceAdd, Nat.reduceSub, Nat.reduceMul, Nat.reduceLeDiff, Nat.reduceBEq, reduceCtorEq, Int.reduceLT, Int.reduceLE, Int.reduceToNat, Int.reduceAdd, Int.reduceSub, Int.reduceBEq, Int.reduceBNe, wrongV]; rfl) (by simp only [resV, I, S, B, Pre.v, OpT.v, Tok.v, k_mk, name_mk, n_mk, l_mk, pos_mk, Pre.app, List.map_cons, List.map_nil, Pre.cs_eq, wrongV]; (repeat' (first | exact V.wk.rfl _ | exact V.wk.csl _ | exact V.wk.osl _ _ | exact wk_agg_nil | exact wk_tup_nil | refine wk_agg_cons ?_ ?_ | refine wk_tup_cons ?_ ?_))) (by (first | exact .c _ | (simp only [I, S, B, opsC, toksC, Pre.v, Tok.v, OpT.v, low_c, low_void, low_any, low_csl, low_nilf, low_ptr, low_osl, low_agg, low_tup, low_fn, List.forall_mem_cons, List.not_mem_nil, false_implies, implies_true, and_self, and_true, true_and, wrongV]; done))) (by (first | rfl | exact (List.append_nil _).symm)) ?_))
        exact ⟨he, q, j, rfl, rfl⟩
end Go.Proofs.YtpgkhkojjklakaaGreatDoor
namespace Go.Proofs.YtpgkhkojjklakaaGreatDoor
open Go.RowKit Go.Lamb
attribute [local go_sem] advO_skip advO_reg advO_seq advO_block advO_exit advO_endb advO_opsNil advO_ops advG_yes advG_no advG_none advS_some advS_none advO_cond advO_loop advO_dreg advO_ret advO_bad advO_inv advO_nil advO_zero wantedV Lamb.step ev_t ev_k put_some put_none argEnv popTo cellsAt V.cellsV V.rows V.toC toCs fillV rowsV boundV boundL binV binInt binStr eqC eqL V.isNil leaves V.leaf Ins.quiet Ins.pure List.getD_cons_zero List.getD_cons_succ List.getD_nil List.all_cons List.all_nil List.length_cons List.length_nil List.take_succ_cons List.take_zero List.drop_succ_cons List.drop_zero List.cons_append List.nil_append List.append_nil List.append_assoc List.map_cons List.map_nil List.getElem?_cons_zero List.getElem?_cons_succ List.length_append List.length_set hget0 hget hset0 hset hsets hgs0 hgs hss0 hss List.set_cons_zero List.set_cons_succ List.forall_mem_cons List.not_mem_nil false_implies implies_true Option.map_some Bool.and_true Bool.true_and Bool.not_not Bool.not_true Bool.not_false Bool.and_self Bool.or_true Bool.true_or Bool.or_false Bool.false_or Bool.and_false Bool.false_and Bool.false_eq_true beq_self_eq_true and_self and_true true_and if_true if_false Nat.zero_add Nat.add_zero Nat.le_refl Int.toNat_natCast decide_true decide_false beq_t beq_f List.length_map List.getElem?_map I S B opsC toksC OpT.v OpT.cs OpT.zero Tok.v Tok.cs Pre.v Pre.cs_eq k_mk name_mk n_mk l_mk pos_mk Pre.app applyL natCast0 natCast1 natCast2

def operandF (f : Nat) (l : List OpT) (t : List Tok) (depth i : Nat) : Option (Except Bad (Pre × Nat)) := match atomF f l t depth i with
  | none => none
  | some (.error b) => some (.error b)
  | some (.ok (p, j)) => argsF f l t depth j p p.pos (lamAt t i)
theorem operandF_bound {f : Nat} {l : List OpT} {t : List Tok} {depth i : Nat} {p : Pre} {j : Nat} (h : operandF f l t depth i = some (.ok (p, j))) : i < j ∧ j ≤ t.length := by
  rw [operandF] at h
  cases ha : atomF f l t depth i with
  | none => rw [ha] at h; cases h
  | some x =>
    rw [ha] at h
    cases x with
    | error b => cases h
    | ok x =>
      have h1 := (fuel_bounds f).1 _ _ _ _ _ _ ha
      have h2 := (fuel_bounds f).2.1 _ _ _ _ _ _ _ _ _ h h1.2
      omega
structure ArgsSt where
  g : Nat
  p : Pre
  i : Nat
  last : Bool
  e : Int
  pos : Int
theorem read_operand {w0 : World} {f : Nat} (hA : ∀ g, g ≤ f → AtomOK w0 g) (l : List OpT) (t : List Tok) (depth i : Nat) (r : Except Bad (Pre × Nat)) (σ : H) (b : Nat) (h : operandF f l t depth i = some r) (hb : σ[b]? = some (rdr l t i)) (hi : i ≤ t.length) (ht : t.length ≤ 1000000) (hd : depth ≤ 200) :
    DC Tryz.prog w0 78 [.ptr b 0, I depth] σ (RAtom l t σ b r) := by
  have hlt := (List.getElem?_eq_some_iff.1 hb).1
  have hbe : σ[b]? = some (.cells [.c (opsC l), .c (toksC t), I i]) := hb
  rw [operandF] at h
  refine go78 rfl (fun hok hsz => ?_)
  ((first | refine W.advO 5000 _ _ ?_ | skip); simp only [go_sem, ↓reduceIte, Nat.reduceEqDiff, Nat.reduceAdd, Nat.reduceSub, Nat.reduceMul, Nat.reduceLeDiff, Nat.reduceBEq, reduceCtorEq, Int.reduceLT, Int.reduceLE, Int.reduceToNat, Int.reduceAdd, Int.reduceSub, Int.reduceBEq, Int.reduceBNe, c78])
  (refine W.call1 (read_lambda w0 l t i _ b (hG hb _) (by omega) ht) rfl rfl (by first | rfl | simp) ?_; refine W.advO 5000 _ _ ?_; simp only [go_sem, ↓reduceIte, Nat.reduceEqDiff, Nat.reduceAdd, Nat.reduceSub, Nat.reduceMul, Nat.reduceLeDiff, Nat.reduceBEq, reduceCtorEq, Int.reduceLT, Int.reduceLE, Int.reduceToNat, Int.reduceAdd, Int.reduceSub, Int.reduceBEq, Int.reduceBNe])
  cases ha : atomF f l t depth i with
  | none => rw [ha] at h; cases h
  | some ra =>
    rw [ha] at h
    (refine W.call (hA f (Nat.le_refl f) l t depth i ra _ b ha (hG hb _) hi ht hd) rfl rfl (by first | rfl | simp) ?_)
    intro v σ1 hR
    have hx : ∃ x : ArgsSt, (x.e = 0 ∧ x.pos = 0 ∧ argsF x.g l t depth x.i x.p x.p.pos x.last = some r ∧ x.i ≤ t.length ∧ x.g ≤ f ∨ (x.e == 0) = false ∧ r = .error ⟨x.e, x.pos⟩) ∧ x.last = lamAt t i ∧
        v = .tup [x.p.v, wrongV x.e x.pos] ∧ σ1 = (σ ++ [Blk.cells [I 0, S [], I 0, .csl [], I 0], Blk.cells [I 0, I 0]]).set b (rdr l t x.i) := by
      cases ra with
      | ok y =>
        obtain ⟨rfl, rfl⟩ := hR
        exact ⟨⟨f, y.1, y.2, lamAt t i, 0, 0⟩, .inl ⟨rfl, rfl, h, ((fuel_bounds f).1 _ _ _ _ _ _ ha).2, Nat.le_refl f⟩, rfl, rfl, rfl⟩
      | error y =>
        obtain ⟨he, q, j, rfl, rfl⟩ := hR
        injection h with h
        exact ⟨⟨0, q, j, lamAt t i, y.e, y.pos⟩, .inr ⟨he, h.symm⟩, rfl, rfl, rfl⟩
    obtain ⟨x0, hinv0, hl0, rfl, rfl⟩ := hx
    ((first | refine W.advO 5000 _ _ ?_ | skip); simp only [go_sem, ↓reduceIte, Nat.reduceEqDiff, Nat.reduceAdd, Nat.reduceSub, Nat.reduceMul, Nat.reduceLeDiff, Nat.reduceBEq, reduceCtorEq, Int.reduceLT, Int.reduceLE, Int.reduceToNat, Int.reduceAdd, Int.reduceSub, Int.reduceBEq, Int.reduceBNe, hS hb, wrongV])
    rw [← hl0]
    refine W.loopP (fun x : ArgsSt => (x.e = 0 ∧ x.pos = 0 ∧ argsF x.g l t depth x.i x.p x0.p.pos x.last = some r ∧ x.i ≤ t.length ∧ x.g ≤ f ∨ (x.e == 0) = false ∧ r = .error ⟨x.e, x.pos⟩))
      (fun x => ⟨((((((((base.put (some 0) (.ptr b 0)).put (some 1) (I depth)).put (some 4) (.ptr σ.length 0)).put (some 5) (.ptr (σ.length + 1) 0)).put (some 6) (B x.last)).put (some 7) (.ptr (σ.length + 2) 0)).put (some 8) (.ptr (σ.length + 3) 0)).put (some 9) (I x0.p.pos)), σ.set b (rdr l t x.i) ++ [.cells [I 0, S [], I 0, .csl [], I 0], .cells [I 0, I 0], .cells x.p.v.cellsV, .cells [I x.e, I x.pos]]⟩)
      (fun x => if x.e = 0 then x.g + 1 else 0) x0 hinv0 ?_ (fun x hx => ?_)
    · (refine Lew.env ?_; (repeat' (first | exact LeE.base _ | (refine LeE.put ?_ (by first | exact V.wk.rfl _ | exact V.wk.osl _ _ | exact V.wk.csl _)))))
    · obtain ⟨g, p, i', last, e, pos⟩ := x
      simp only at hx
      rcases hx with ⟨rfl, rfl, hx, hi', hg⟩ | ⟨he, rfl⟩
      · obtain ⟨g', rfl⟩ : ∃ g', g = g' + 1 := by
          cases g with
          | zero => simp [argsF] at hx
          | succ g' => exact ⟨g', rfl⟩
        rw [argsF] at hx
        ((first | refine W.advO 5000 _ _ ?_ | skip); simp only [go_sem, ↓reduceIte, Nat.reduceEqDiff, Nat.reduceAdd, Nat.reduceSub, Nat.reduceMul, Nat.reduceLeDiff, Nat.reduceBEq, reduceCtorEq, Int.reduceLT, Int.reduceLE, Int.reduceToNat, Int.reduceAdd, Int.reduceSub, Int.reduceBEq, Int.reduceBNe])
        by_cases hc : last = true ∨ beginsL l (tokL t i') = false
        · rw [if_pos hc] at hx
          injection hx with hx
          subst hx
          have two : last = true ∨ (last = false ∧ beginsL l (tokL t i') = false) := by
            cases last
            · exact .inr ⟨rfl, by simpa using hc⟩
            · exact .inl rfl
          rcases two with rfl | ⟨rfl, hB⟩
          all_goals first
            | ((refine W.call1 (wrong_ok w0 0 0 _) rfl rfl (by first | rfl | simp) ?_; refine W.advO 5000 _ _ ?_; simp only [go_sem, ↓reduceIte, Nat.reduceEqDiff, Nat.reduceAdd, Nat.reduceSub, Nat.reduceMul, Nat.reduceLeDiff, Nat.reduceBEq, reduceCtorEq, Int.reduceLT, Int.reduceLE, Int.reduceToNat, Int.reduceAdd, Int.reduceSub, Int.reduceBEq, Int.reduceBNe])
               (refine W.call1 (read_begins w0 l t i' _ b (hG' hb _ _) (by omega) ht) rfl rfl (by first | rfl | simp) ?_; refine W.advO 5000 _ _ ?_; simp only [go_sem, ↓reduceIte, Nat.reduceEqDiff, Nat.reduceAdd, Nat.reduceSub, Nat.reduceMul, Nat.reduceLeDiff, Nat.reduceBEq, reduceCtorEq, Int.reduceLT, Int.reduceLE, Int.reduceToNat, Int.reduceAdd, Int.reduceSub, Int.reduceBEq, Int.reduceBNe, hB])
               refine W.no rfl ?_)
            | ((refine W.call1 (wrong_ok w0 0 0 _) rfl rfl (by first | rfl | simp) ?_; refine W.advO 5000 _ _ ?_; simp only [go_sem, ↓reduceIte, Nat.reduceEqDiff, Nat.reduceAdd, Nat.reduceSub, Nat.reduceMul, Nat.reduceLeDiff, Nat.reduceBEq, reduceCtorEq, Int.reduceLT, Int.reduceLE, Int.reduceToNat, Int.reduceAdd, Int.reduceSub, Int.reduceBEq, Int.reduceBNe])
               refine W.no rfl ?_)
          all_goals
            ((first | refine W.advO 5000 _ _ ?_ | skip); simp only [go_sem, ↓reduceIte, Nat.reduceEqDiff, Nat.reduceAdd, Nat.reduceSub, Nat.reduceMul, Nat.reduceLeDiff, Nat.reduceBEq, reduceCtorEq, Int.reduceLT, Int.reduceLE, Int.reduceToNat, Int.reduceAdd, Int.reduceSub, Int.reduceBEq, Int.reduceBNe])
            (apply W.dregE (List.cons_ne_nil _ _); case hc => ((apply CanonE.advPO; simp only [advPO_nil, advPO_loud, advPO_quiet, pL_yes, pL_no, pLS_some, pLS_none, pQ_yes, pQ_no, pQS_some, pQS_loud, eq_self, Nat.sub_zero, go_sem, ↓reduceIte, Nat.reduceEqDiff, Nat.reduceAdd, Nat.reduceSub, Nat.reduceMul, Nat.reduceLeDiff, Nat.reduceBEq, reduceCtorEq, Int.reduceLT, Int.reduceLE, Int.reduceToNat, Int.reduceAdd, Int.reduceSub, Int.reduceBEq, Int.reduceBNe]); exact CanonE.nil))
            ((first | refine W.advO 5000 _ _ ?_ | skip); simp only [go_sem, ↓reduceIte, Nat.reduceEqDiff, Nat.reduceAdd, Nat.reduceSub, Nat.reduceMul, Nat.reduceLeDiff, Nat.reduceBEq, reduceCtorEq, Int.reduceLT, Int.reduceLE, Int.reduceToNat, Int.reduceAdd, Int.reduceSub, Int.reduceBEq, Int.reduceBNe])
            (refine W.ret (Fin.gen (d := .tup [p.v, wrongV 0 0]) (rdr_ok hok b l t i') (by (first | rfl | exact List.length_set .. | simp)) (by simp only [resEval, r78, go_sem, ↓reduceIte, Nat.reduceEqDiff, Nat.reduceAdd, Nat.reduceSub, Nat.reduceMul, Nat.reduceLeDiff, Nat.reduceBEq, reduceCtorEq, Int.reduceLT, Int.reduceLE, Int.reduceToNat, Int.reduceAdd, Int.reduceSub, Int.reduceBEq, Int.reduceBNe, wrongV]; rfl) (by simp only [resV, I, S, B, Pre.v, OpT.v, Tok.v, k_mk, name_mk, n_mk, l_mk, pos_mk, Pre.app, List.map_cons, List.map_nil, Pre.cs_eq, wrongV]; (repeat' (first | exact V.wk.rfl _ | exact V.wk.csl _ | exact V.wk.osl _ _ | exact wk_agg_nil | exact wk_tup_nil | refine wk_agg_cons ?_ ?_ | refine wk_tup_cons ?_ ?_))) (by (first | exact .c _ | (simp only [I, S, B, opsC, toksC, Pre.v, Tok.v, OpT.v, low_c, low_void, low_any, low_csl, low_nilf, low_ptr, low_osl, low_agg, low_tup, low_fn, List.forall_mem_cons, List.not_mem_nil, false_implies, implies_true, and_self, and_true, true_and, wrongV]; done))) (by (first | rfl | exact (List.append_nil _).symm)) ?_))
            exact ⟨rfl, rfl⟩
        · rw [if_neg hc] at hx
          have hl : last = false := by cases last; rfl; exact absurd (.inl rfl) hc
          have hB : beginsL l (tokL t i') = true := by
            cases h : beginsL l (tokL t i')
            · exact absurd (.inr h) hc
            · rfl
          subst hl
          have hil : i' < t.length := begins_lt (l := l) (by rw [hB]; decide)
          (refine W.call1 (wrong_ok w0 0 0 _) rfl rfl (by first | rfl | simp) ?_; refine W.advO 5000 _ _ ?_; simp only [go_sem, ↓reduceIte, Nat.reduceEqDiff, Nat.reduceAdd, Nat.reduceSub, Nat.reduceMul, Nat.reduceLeDiff, Nat.reduceBEq, reduceCtorEq, Int.reduceLT, Int.reduceLE, Int.reduceToNat, Int.reduceAdd, Int.reduceSub, Int.reduceBEq, Int.reduceBNe])
          (refine W.call1 (read_begins w0 l t i' _ b (hG' hb _ _) (by omega) ht) rfl rfl (by first | rfl | simp) ?_; refine W.advO 5000 _ _ ?_; simp only [go_sem, ↓reduceIte, Nat.reduceEqDiff, Nat.reduceAdd, Nat.reduceSub, Nat.reduceMul, Nat.reduceLeDiff, Nat.reduceBEq, reduceCtorEq, Int.reduceLT, Int.reduceLE, Int.reduceToNat, Int.reduceAdd, Int.reduceSub, Int.reduceBEq, Int.reduceBNe, hB])
          refine W.yes rfl ?_
          ((first | refine W.advO 5000 _ _ ?_ | skip); simp only [go_sem, ↓reduceIte, Nat.reduceEqDiff, Nat.reduceAdd, Nat.reduceSub, Nat.reduceMul, Nat.reduceLeDiff, Nat.reduceBEq, reduceCtorEq, Int.reduceLT, Int.reduceLE, Int.reduceToNat, Int.reduceAdd, Int.reduceSub, Int.reduceBEq, Int.reduceBNe])
          (refine W.call1 (read_lambda w0 l t i' _ b (hG' hb _ _) (by omega) ht) rfl rfl (by first | rfl | simp) ?_; refine W.advO 5000 _ _ ?_; simp only [go_sem, ↓reduceIte, Nat.reduceEqDiff, Nat.reduceAdd, Nat.reduceSub, Nat.reduceMul, Nat.reduceLeDiff, Nat.reduceBEq, reduceCtorEq, Int.reduceLT, Int.reduceLE, Int.reduceToNat, Int.reduceAdd, Int.reduceSub, Int.reduceBEq, Int.reduceBNe])
          cases ha' : atomF g' l t depth i' with
          | none => rw [ha'] at hx; cases hx
          | some ra' =>
            rw [ha'] at hx
            (refine W.call (hA g' (by omega) l t depth i' ra' _ b ha' (hG' hb _ _) hi' ht hd) rfl rfl (by first | rfl | simp) ?_)
            intro v σ1 hR
            cases ra' with
            | ok y =>
              obtain ⟨q, j⟩ := y
              obtain ⟨rfl, rfl⟩ := hR
              ((first | refine W.advO 5000 _ _ ?_ | skip); simp only [go_sem, ↓reduceIte, Nat.reduceEqDiff, Nat.reduceAdd, Nat.reduceSub, Nat.reduceMul, Nat.reduceLeDiff, Nat.reduceBEq, reduceCtorEq, Int.reduceLT, Int.reduceLE, Int.reduceToNat, Int.reduceAdd, Int.reduceSub, Int.reduceBEq, Int.reduceBNe, hS' hb, wrongV])
              refine .inv ⟨⟨g', Pre.app p q x0.p.pos, j, lamAt t i', 0, 0⟩, .inl ⟨rfl, rfl, hx, ((fuel_bounds g').1 _ _ _ _ _ _ ha').2, Nat.le_of_succ_le hg⟩, by simp, ?_⟩
              simp only [go_sem, ↓reduceIte, Nat.reduceEqDiff, Nat.reduceAdd, Nat.reduceSub, Nat.reduceMul, Nat.reduceLeDiff, Nat.reduceBEq, reduceCtorEq, Int.reduceLT, Int.reduceLE, Int.reduceToNat, Int.reduceAdd, Int.reduceSub, Int.reduceBEq, Int.reduceBNe]
              (refine Lew.cutL (rdr_ok hok b l t j) ?_ (by simp) (by simp) ?_ ?_ ?_; (repeat' (first | exact LeE.base _ | (refine LeE.put ?_ (by first | exact V.wk.rfl _ | exact V.wk.osl _ _ | exact V.wk.csl _)))); ((try simp only [List.length_cons, List.length_nil, List.length_set, List.length_append, Nat.reduceAdd, List.take_succ_cons, List.take_zero, okB, wkB, I, S, B, opsC, toksC, Pre.v, Tok.v, OpT.v, low_c, low_void, low_any, low_csl, low_nilf, low_ptr, low_osl, low_agg, low_tup, low_fn, List.forall_mem_cons, List.not_mem_nil, false_implies, implies_true, and_self, and_true, true_and]) <;> omega); (simp only [List.length_cons, List.length_nil, Nat.reduceAdd, List.take_succ_cons, List.take_zero, wkB, and_true]; (repeat' (refine And.intro ?_ ?_)) <;> (first | exact Blk.wk.rfl _ | (refine Blk.wk_cells ?_ rfl; (repeat' (first | exact V.wk.rfl _ | exact V.wk.csl _ | exact V.wk.osl _ _ | exact wk_agg_nil | exact wk_tup_nil | refine wk_agg_cons ?_ ?_ | refine wk_tup_cons ?_ ?_))))); (repeat' (first | exact LowE.base _ | (refine LowE.put ?_ (by first | exact .c _ | ((try simp only [List.length_cons, List.length_nil, List.length_set, List.length_append, Nat.reduceAdd, List.take_succ_cons, List.take_zero, okB, wkB, I, S, B, opsC, toksC, Pre.v, Tok.v, OpT.v, low_c, low_void, low_any, low_csl, low_nilf, low_ptr, low_osl, low_agg, low_tup, low_fn, List.forall_mem_cons, List.not_mem_nil, false_implies, implies_true, and_self, and_true, true_and]) <;> omega))))))
            | error y =>
              obtain ⟨he, q, j, rfl, rfl⟩ := hR
              injection hx with hx
              subst hx
              have he' : ¬ y.e = 0 := by simpa using he
              ((first | refine W.advO 5000 _ _ ?_ | skip); simp only [go_sem, ↓reduceIte, Nat.reduceEqDiff, Nat.reduceAdd, Nat.reduceSub, Nat.reduceMul, Nat.reduceLeDiff, Nat.reduceBEq, reduceCtorEq, Int.reduceLT, Int.reduceLE, Int.reduceToNat, Int.reduceAdd, Int.reduceSub, Int.reduceBEq, Int.reduceBNe, hS' hb, wrongV])
              refine .inv ⟨⟨g', Pre.app p q x0.p.pos, j, lamAt t i', y.e, y.pos⟩, .inr ⟨he, rfl⟩, by simp [he'], ?_⟩
              simp only [go_sem, ↓reduceIte, Nat.reduceEqDiff, Nat.reduceAdd, Nat.reduceSub, Nat.reduceMul, Nat.reduceLeDiff, Nat.reduceBEq, reduceCtorEq, Int.reduceLT, Int.reduceLE, Int.reduceToNat, Int.reduceAdd, Int.reduceSub, Int.reduceBEq, Int.reduceBNe]
              (refine Lew.cutL (rdr_ok hok b l t j) ?_ (by simp) (by simp) ?_ ?_ ?_; (repeat' (first | exact LeE.base _ | (refine LeE.put ?_ (by first | exact V.wk.rfl _ | exact V.wk.osl _ _ | exact V.wk.csl _)))); ((try simp only [List.length_cons, List.length_nil, List.length_set, List.length_append, Nat.reduceAdd, List.take_succ_cons, List.take_zero, okB, wkB, I, S, B, opsC, toksC, Pre.v, Tok.v, OpT.v, low_c, low_void, low_any, low_csl, low_nilf, low_ptr, low_osl, low_agg, low_tup, low_fn, List.forall_mem_cons, List.not_mem_nil, false_implies, implies_true, and_self, and_true, true_and]) <;> omega); (simp only [List.length_cons, List.length_nil, Nat.reduceAdd, List.take_succ_cons, List.take_zero, wkB, and_true]; (repeat' (refine And.intro ?_ ?_)) <;> (first | exact Blk.wk.rfl _ | (refine Blk.wk_cells ?_ rfl; (repeat' (first | exact V.wk.rfl _ | exact V.wk.csl _ | exact V.wk.osl _ _ | exact wk_agg_nil | exact wk_tup_nil | refine wk_agg_cons ?_ ?_ | refine wk_tup_cons ?_ ?_))))); (repeat' (first | exact LowE.base _ | (refine LowE.put ?_ (by first | exact .c _ | ((try simp only [List.length_cons, List.length_nil, List.length_set, List.length_append, Nat.reduceAdd, List.take_succ_cons, List.take_zero, okB, wkB, I, S, B, opsC, toksC, Pre.v, Tok.v, OpT.v, low_c, low_void, low_any, low_csl, low_nilf, low_ptr, low_osl, low_agg, low_tup, low_fn, List.forall_mem_cons, List.not_mem_nil, false_implies, implies_true, and_self, and_true, true_and]) <;> omega))))))
      · ((first | refine W.advO 5000 _ _ ?_ | skip); simp only [go_sem, ↓reduceIte, Nat.reduceEqDiff, Nat.reduceAdd, Nat.reduceSub, Nat.reduceMul, Nat.reduceLeDiff, Nat.reduceBEq, reduceCtorEq, Int.reduceLT, Int.reduceLE, Int.reduceToNat, Int.reduceAdd, Int.reduceSub, Int.reduceBEq, Int.reduceBNe])
        (refine W.call1 (wrong_ok w0 e pos _) rfl rfl (by first | rfl | simp) ?_; refine W.advO 5000 _ _ ?_; simp only [go_sem, ↓reduceIte, Nat.reduceEqDiff, Nat.reduceAdd, Nat.reduceSub, Nat.reduceMul, Nat.reduceLeDiff, Nat.reduceBEq, reduceCtorEq, Int.reduceLT, Int.reduceLE, Int.reduceToNat, Int.reduceAdd, Int.reduceSub, Int.reduceBEq, Int.reduceBNe, he])
        refine W.no rfl ?_
        ((first | refine W.advO 5000 _ _ ?_ | skip); simp only [go_sem, ↓reduceIte, Nat.reduceEqDiff, Nat.reduceAdd, Nat.reduceSub, Nat.reduceMul, Nat.reduceLeDiff, Nat.reduceBEq, reduceCtorEq, Int.reduceLT, Int.reduceLE, Int.reduceToNat, Int.reduceAdd, Int.reduceSub, Int.reduceBEq, Int.reduceBNe])
        (apply W.dregE (List.cons_ne_nil _ _); case hc => ((apply CanonE.advPO; simp only [advPO_nil, advPO_loud, advPO_quiet, pL_yes, pL_no, pLS_some, pLS_none, pQ_yes, pQ_no, pQS_some, pQS_loud, eq_self, Nat.sub_zero, go_sem, ↓reduceIte, Nat.reduceEqDiff, Nat.reduceAdd, Nat.reduceSub, Nat.reduceMul, Nat.reduceLeDiff, Nat.reduceBEq, reduceCtorEq, Int.reduceLT, Int.reduceLE, Int.reduceToNat, Int.reduceAdd, Int.reduceSub, Int.reduceBEq, Int.reduceBNe]); exact CanonE.nil))
        ((first | refine W.advO 5000 _ _ ?_ | skip); simp only [go_sem, ↓reduceIte, Nat.reduceEqDiff, Nat.reduceAdd, Nat.reduceSub, Nat.reduceMul, Nat.reduceLeDiff, Nat.reduceBEq, reduceCtorEq, Int.reduceLT, Int.reduceLE, Int.reduceToNat, Int.reduceAdd, Int.reduceSub, Int.reduceBEq, Int.reduceBNe])
        (refine W.ret (Fin.gen (d := .tup [p.v, wrongV e pos]) (rdr_ok hok b l t i') (by (first | rfl | exact List.length_set .. | simp)) (by simp only [resEval, r78, go_sem, ↓reduceIte, Nat.reduceEqDiff, Nat.reduceAdd, Nat.reduceSub, Nat.reduceMul, Nat.reduceLeDiff, Nat.reduceBEq, reduceCtorEq, Int.reduceLT, Int.reduceLE, Int.reduceToNat, Int.reduceAdd, Int.reduceSub, Int.reduceBEq, Int.reduceBNe, wrongV]; rfl) (by simp only [resV, I, S, B, Pre.v, OpT.v, Tok.v, k_mk, name_mk, n_mk, l_mk, pos_mk, Pre.app, List.map_cons, List.map_nil, Pre.cs_eq, wrongV]; (repeat' (first | exact V.wk.rfl _ | exact V.wk.csl _ | exact V.wk.osl _ _ | exact wk_agg_nil | exact wk_tup_nil | refine wk_agg_cons ?_ ?_ | refine wk_tup_cons ?_ ?_))) (by (first | exact .c _ | (simp only [I, S, B, opsC, toksC, Pre.v, Tok.v, OpT.v, low_c, low_void, low_any, low_csl, low_nilf, low_ptr, low_osl, low_agg, low_tup, low_fn, List.forall_mem_cons, List.not_mem_nil, false_implies, implies_true, and_self, and_true, true_and, wrongV]; done))) (by (first | rfl | exact (List.append_nil _).symm)) ?_))
        exact ⟨he, p, i', rfl, rfl⟩
end Go.Proofs.YtpgkhkojjklakaaGreatDoor
namespace Go.Proofs.YtpgkhkojjklakaaGreatDoor
open Go.RowKit Go.Lamb
attribute [local go_sem] advO_skip advO_reg advO_seq advO_block advO_exit advO_endb advO_opsNil advO_ops advG_yes advG_no advG_none advS_some advS_none advO_cond advO_loop advO_dreg advO_ret advO_bad advO_inv advO_nil advO_zero wantedV Lamb.step ev_t ev_k put_some put_none argEnv popTo cellsAt V.cellsV V.rows V.toC toCs fillV rowsV boundV boundL binV binInt binStr eqC eqL V.isNil leaves V.leaf Ins.quiet Ins.pure List.getD_cons_zero List.getD_cons_succ List.getD_nil List.all_cons List.all_nil List.length_cons List.length_nil List.take_succ_cons List.take_zero List.drop_succ_cons List.drop_zero List.cons_append List.nil_append List.append_nil List.append_assoc List.map_cons List.map_nil List.getElem?_cons_zero List.getElem?_cons_succ List.length_append List.length_set hget0 hget hset0 hset hsets hgs0 hgs hss0 hss List.set_cons_zero List.set_cons_succ List.forall_mem_cons List.not_mem_nil false_implies implies_true Option.map_some Bool.and_true Bool.true_and Bool.not_not Bool.not_true Bool.not_false Bool.and_self Bool.or_true Bool.true_or Bool.or_false Bool.false_or Bool.and_false Bool.false_and Bool.false_eq_true beq_self_eq_true and_self and_true true_and if_true if_false Nat.zero_add Nat.add_zero Nat.le_refl Int.toNat_natCast decide_true decide_false beq_t beq_f List.length_map List.getElem?_map I S B opsC toksC OpT.v OpT.cs OpT.zero Tok.v Tok.cs Pre.v Pre.cs_eq k_mk name_mk n_mk l_mk pos_mk Pre.app applyL natCast0 natCast1 natCast2

theorem exprF_eq (f : Nat) (l : List OpT) (t : List Tok) (least : Int) (depth i : Nat) : exprF (f + 1) l t least depth i = match operandF f l t depth i with
    | none => none
    | some (.error b) => some (.error b)
    | some (.ok (q, k)) => chainF f l t least depth k ⟨q, none⟩ := by
  rw [exprF, operandF]
  cases atomF f l t depth i with
  | none => rfl
  | some x =>
    cases x with
    | error b => rfl
    | ok x =>
      simp only
      cases argsF f l t depth x.2 x.1 x.1.pos (lamAt t i) with
      | none => rfl
      | some y =>
        cases y with
        | error b => rfl
        | ok y => rfl
theorem chainF_eq (f : Nat) (l : List OpT) (t : List Tok) (least : Int) (depth i : Nat) (m : Made) : chainF (f + 1) l t least depth i m = match opOf l (tokL t i) with
    | none => some (.ok (m, i))
    | some o => if o.prec < least then some (.ok (m, i))
      else if clashL o m = true then some (.error ⟨32, (tokL t i).pos⟩)
      else match innerF f l t (nextL o) depth (i + 1) (tokL t i).pos with
        | none => none
        | some (.error b) => some (.error b)
        | some (.ok (r, j)) => match r.by_ with
          | some (b, pos) => if besideL o b 2 = true then chainF f l t least depth j ⟨applyL o (tokL t i).pos m.p r.p, some (o, (tokL t i).pos)⟩ else some (.error ⟨32, pos⟩)
          | none => chainF f l t least depth j ⟨applyL o (tokL t i).pos m.p r.p, some (o, (tokL t i).pos)⟩ := by
  rw [chainF]
  cases opOf l (tokL t i) with
  | none => rfl
  | some o =>
    simp only [innerF]
    by_cases hd : 200 ≤ depth
    · simp only [if_pos hd]
    · simp only [if_neg hd]
      rfl
structure ChainSt where
  g : Nat
  m : Made
  k : Tok
  i : Nat
  e : Int
  pos : Int
theorem byC_none {m : Made} (h : m.by_ = none) : byC m = .nilp := by rw [byC, h]
theorem byC_some {m : Made} {o : OpT} {p : Int} (h : m.by_ = some (o, p)) : byC m = .ref [.str o.name, .int .i64 o.prec, .int .i64 o.fix] 0 := by rw [byC, h]; rfl
theorem clash_none {o : OpT} {m : Made} (h : m.by_ = none) : clashL o m = false := by rw [clashL, h]
theorem clash_some {o o' : OpT} {p : Int} {m : Made} (h : m.by_ = some (o', p)) : clashL o m = !besideL o o' 1 := by rw [clashL, h]
set_option maxHeartbeats 4000000 in
theorem read_expr {w0 : World} {f : Nat} (hA : ∀ g, g ≤ f → AtomOK w0 g) (hE : ∀ g, g ≤ f → ExprOK w0 g) : ExprOK w0 (f + 1) := by
  intro l t least depth i r σ b h hb hi ht hd
  have hlt := (List.getElem?_eq_some_iff.1 hb).1
  have hbe : σ[b]? = some (.cells [.c (opsC l), .c (toksC t), I i]) := hb
  rw [exprF_eq] at h
  refine go36 rfl (fun hok hsz => ?_)
  ((first | refine W.advO 5000 _ _ ?_ | skip); simp only [go_sem, ↓reduceIte, Nat.reduceEqDiff, Nat.reduceAdd, Nat.reduceSub, Nat.reduceMul, Nat.reduceLeDiff, Nat.reduceBEq, reduceCtorEq, Int.reduceLT, Int.reduceLE, Int.reduceToNat, Int.reduceAdd, Int.reduceSub, Int.reduceBEq, Int.reduceBNe, c36])
  cases ha : operandF f l t depth i with
  | none => rw [ha] at h; cases h
  | some ra =>
    rw [ha] at h
    (refine W.call (read_operand hA l t depth i ra _ b ha (hG hb _) hi ht hd) rfl rfl (by first | rfl | simp) ?_)
    intro v σ1 hR
    have hx : ∃ x : ChainSt, (x.e = 0 ∧ x.pos = 0 ∧ chainF x.g l t least depth x.i x.m = some r ∧ x.i ≤ t.length ∧ x.g ≤ f ∧ fitsK x.m x.k ∨ (x.e == 0) = false ∧ r = .error ⟨x.e, x.pos⟩) ∧ x.m.by_ = none ∧ x.k = Tok.zero ∧
        v = .tup [x.m.p.v, wrongV x.e x.pos] ∧ σ1 = (σ ++ [Blk.cells [I 0, S [], I 0, .csl [], I 0, .c .nilp, I 0, S [], I 0, I 0], Blk.cells [I 0, I 0]]).set b (rdr l t x.i) := by
      cases ra with
      | ok y =>
        obtain ⟨rfl, rfl⟩ := hR
        exact ⟨⟨f, ⟨y.1, none⟩, Tok.zero, y.2, 0, 0⟩, .inl ⟨rfl, rfl, h, (operandF_bound ha).2, Nat.le_refl f, fun o p h => by cases h⟩, rfl, rfl, rfl, rfl⟩
      | error y =>
        obtain ⟨he, q, j, rfl, rfl⟩ := hR
        injection h with h
        exact ⟨⟨0, ⟨q, none⟩, Tok.zero, j, y.e, y.pos⟩, .inr ⟨he, h.symm⟩, rfl, rfl, rfl, rfl⟩
    obtain ⟨x0, hinv0, hby0, hk0, rfl, rfl⟩ := hx
    ((first | refine W.advO 5000 _ _ ?_ | skip); simp only [go_sem, ↓reduceIte, Nat.reduceEqDiff, Nat.reduceAdd, Nat.reduceSub, Nat.reduceMul, Nat.reduceLeDiff, Nat.reduceBEq, reduceCtorEq, Int.reduceLT, Int.reduceLE, Int.reduceToNat, Int.reduceAdd, Int.reduceSub, Int.reduceBEq, Int.reduceBNe, hS hb, wrongV])
    refine W.loopP (fun x : ChainSt => (x.e = 0 ∧ x.pos = 0 ∧ chainF x.g l t least depth x.i x.m = some r ∧ x.i ≤ t.length ∧ x.g ≤ f ∧ fitsK x.m x.k ∨ (x.e == 0) = false ∧ r = .error ⟨x.e, x.pos⟩))
      (fun x => ⟨(((((((base.put (some 0) (.ptr b 0)).put (some 1) (I least)).put (some 2) (I depth)).put (some 6) (.ptr σ.length 0)).put (some 7) (.ptr (σ.length + 1) 0)).put (some 9) (.ptr (σ.length + 3) 0)).put (some 10) (.ptr (σ.length + 4) 0)), σ.set b (rdr l t x.i) ++ [.cells [I 0, S [], I 0, .csl [], I 0, .c .nilp, I 0, S [], I 0, I 0], .cells [I 0, I 0], .cells x0.m.p.v.cellsV, .cells [I x.e, I x.pos], .cells (madeV x.m x.k).cellsV]⟩)
      (fun x => if x.e = 0 then x.g + 1 else 0) x0 hinv0 ?_ (fun x hx => ?_)
    · simp only [go_sem, ↓reduceIte, Nat.reduceEqDiff, Nat.reduceAdd, Nat.reduceSub, Nat.reduceMul, Nat.reduceLeDiff, Nat.reduceBEq, reduceCtorEq, Int.reduceLT, Int.reduceLE, Int.reduceToNat, Int.reduceAdd, Int.reduceSub, Int.reduceBEq, Int.reduceBNe, madeV, byC_none hby0, hk0, Tok.zero]
      (refine Lew.env ?_; (repeat' (first | exact LeE.base _ | (refine LeE.put ?_ (by first | exact V.wk.rfl _ | exact V.wk.osl _ _ | exact V.wk.csl _)))))
    · obtain ⟨g, m, k, i', e, pos⟩ := x
      simp only at hx
      rcases hx with ⟨rfl, rfl, hx, hi', hg, hfit⟩ | ⟨he, rfl⟩
      · obtain ⟨g', rfl⟩ : ∃ g', g = g' + 1 := by
          cases g with
          | zero => simp [chainF] at hx
          | succ g' => exact ⟨g', rfl⟩
        rw [chainF_eq] at hx
        ((first | refine W.advO 5000 _ _ ?_ | skip); simp only [go_sem, ↓reduceIte, Nat.reduceEqDiff, Nat.reduceAdd, Nat.reduceSub, Nat.reduceMul, Nat.reduceLeDiff, Nat.reduceBEq, reduceCtorEq, Int.reduceLT, Int.reduceLE, Int.reduceToNat, Int.reduceAdd, Int.reduceSub, Int.reduceBEq, Int.reduceBNe, madeV])
        (refine W.call1 (wrong_ok w0 0 0 _) rfl rfl (by first | rfl | simp) ?_; refine W.advO 5000 _ _ ?_; simp only [go_sem, ↓reduceIte, Nat.reduceEqDiff, Nat.reduceAdd, Nat.reduceSub, Nat.reduceMul, Nat.reduceLeDiff, Nat.reduceBEq, reduceCtorEq, Int.reduceLT, Int.reduceLE, Int.reduceToNat, Int.reduceAdd, Int.reduceSub, Int.reduceBEq, Int.reduceBNe])
        refine W.yes rfl ?_
        ((first | refine W.advO 5000 _ _ ?_ | skip); simp only [go_sem, ↓reduceIte, Nat.reduceEqDiff, Nat.reduceAdd, Nat.reduceSub, Nat.reduceMul, Nat.reduceLeDiff, Nat.reduceBEq, reduceCtorEq, Int.reduceLT, Int.reduceLE, Int.reduceToNat, Int.reduceAdd, Int.reduceSub, Int.reduceBEq, Int.reduceBNe])
        (refine W.call1 (read_tok w0 l t i' 0 _ b (hG' hb _ _) (by omega) ht) rfl rfl (by first | rfl | simp) ?_; refine W.advO 5000 _ _ ?_; simp only [go_sem, ↓reduceIte, Nat.reduceEqDiff, Nat.reduceAdd, Nat.reduceSub, Nat.reduceMul, Nat.reduceLeDiff, Nat.reduceBEq, reduceCtorEq, Int.reduceLT, Int.reduceLE, Int.reduceToNat, Int.reduceAdd, Int.reduceSub, Int.reduceBEq, Int.reduceBNe])
        cases ho : opOf l (tokL t i') with
        | none =>
          rw [ho] at hx
          injection hx with hx
          subst hx
          (refine W.call1 (read_operator w0 l t i' (tokL t i') _ b (hG' hb _ _)) rfl rfl (by first | rfl | simp) ?_; refine W.advO 5000 _ _ ?_; simp only [go_sem, ↓reduceIte, Nat.reduceEqDiff, Nat.reduceAdd, Nat.reduceSub, Nat.reduceMul, Nat.reduceLeDiff, Nat.reduceBEq, reduceCtorEq, Int.reduceLT, Int.reduceLE, Int.reduceToNat, Int.reduceAdd, Int.reduceSub, Int.reduceBEq, Int.reduceBNe, foundV, ho, Option.isSome_none, Option.getD_none])
          refine W.yes rfl ?_
          ((first | refine W.advO 5000 _ _ ?_ | skip); simp only [go_sem, ↓reduceIte, Nat.reduceEqDiff, Nat.reduceAdd, Nat.reduceSub, Nat.reduceMul, Nat.reduceLeDiff, Nat.reduceBEq, reduceCtorEq, Int.reduceLT, Int.reduceLE, Int.reduceToNat, Int.reduceAdd, Int.reduceSub, Int.reduceBEq, Int.reduceBNe])
          (apply W.dregE (List.cons_ne_nil _ _); case hc => ((apply CanonE.advPO; simp only [advPO_nil, advPO_loud, advPO_quiet, pL_yes, pL_no, pLS_some, pLS_none, pQ_yes, pQ_no, pQS_some, pQS_loud, eq_self, Nat.sub_zero, go_sem, ↓reduceIte, Nat.reduceEqDiff, Nat.reduceAdd, Nat.reduceSub, Nat.reduceMul, Nat.reduceLeDiff, Nat.reduceBEq, reduceCtorEq, Int.reduceLT, Int.reduceLE, Int.reduceToNat, Int.reduceAdd, Int.reduceSub, Int.reduceBEq, Int.reduceBNe]); exact CanonE.nil))
          ((first | refine W.advO 5000 _ _ ?_ | skip); simp only [go_sem, ↓reduceIte, Nat.reduceEqDiff, Nat.reduceAdd, Nat.reduceSub, Nat.reduceMul, Nat.reduceLeDiff, Nat.reduceBEq, reduceCtorEq, Int.reduceLT, Int.reduceLE, Int.reduceToNat, Int.reduceAdd, Int.reduceSub, Int.reduceBEq, Int.reduceBNe])
          (refine W.ret (Fin.gen (d := .tup [madeV m k, wrongV 0 0]) (rdr_ok hok b l t i') (by (first | rfl | exact List.length_set .. | simp)) (by simp only [resEval, r36, go_sem, ↓reduceIte, Nat.reduceEqDiff, Nat.reduceAdd, Nat.reduceSub, Nat.reduceMul, Nat.reduceLeDiff, Nat.reduceBEq, reduceCtorEq, Int.reduceLT, Int.reduceLE, Int.reduceToNat, Int.reduceAdd, Int.reduceSub, Int.reduceBEq, Int.reduceBNe, madeV, wrongV]; rfl) (by simp only [resV, I, S, B, Pre.v, OpT.v, Tok.v, k_mk, name_mk, n_mk, l_mk, pos_mk, Pre.app, List.map_cons, List.map_nil, Pre.cs_eq, madeV, wrongV]; (repeat' (first | exact V.wk.rfl _ | exact V.wk.csl _ | exact V.wk.osl _ _ | exact wk_agg_nil | exact wk_tup_nil | refine wk_agg_cons ?_ ?_ | refine wk_tup_cons ?_ ?_))) (by (first | exact .c _ | (simp only [I, S, B, opsC, toksC, Pre.v, Tok.v, OpT.v, low_c, low_void, low_any, low_csl, low_nilf, low_ptr, low_osl, low_agg, low_tup, low_fn, List.forall_mem_cons, List.not_mem_nil, false_implies, implies_true, and_self, and_true, true_and, madeV, wrongV]; done))) (by (first | rfl | exact (List.append_nil _).symm)) ?_))
          exact ⟨k, hfit, rfl, rfl⟩
        | some o =>
          rw [ho] at hx
          simp only at hx
          by_cases hp : o.prec < least
          · rw [if_pos hp] at hx
            injection hx with hx
            subst hx
            (refine W.call1 (read_operator w0 l t i' (tokL t i') _ b (hG' hb _ _)) rfl rfl (by first | rfl | simp) ?_; refine W.advO 5000 _ _ ?_; simp only [go_sem, ↓reduceIte, Nat.reduceEqDiff, Nat.reduceAdd, Nat.reduceSub, Nat.reduceMul, Nat.reduceLeDiff, Nat.reduceBEq, reduceCtorEq, Int.reduceLT, Int.reduceLE, Int.reduceToNat, Int.reduceAdd, Int.reduceSub, Int.reduceBEq, Int.reduceBNe, foundV, ho, Option.isSome_some, Option.getD_some, hp])
            refine W.yes rfl ?_
            ((first | refine W.advO 5000 _ _ ?_ | skip); simp only [go_sem, ↓reduceIte, Nat.reduceEqDiff, Nat.reduceAdd, Nat.reduceSub, Nat.reduceMul, Nat.reduceLeDiff, Nat.reduceBEq, reduceCtorEq, Int.reduceLT, Int.reduceLE, Int.reduceToNat, Int.reduceAdd, Int.reduceSub, Int.reduceBEq, Int.reduceBNe])
            (apply W.dregE (List.cons_ne_nil _ _); case hc => ((apply CanonE.advPO; simp only [advPO_nil, advPO_loud, advPO_quiet, pL_yes, pL_no, pLS_some, pLS_none, pQ_yes, pQ_no, pQS_some, pQS_loud, eq_self, Nat.sub_zero, go_sem, ↓reduceIte, Nat.reduceEqDiff, Nat.reduceAdd, Nat.reduceSub, Nat.reduceMul, Nat.reduceLeDiff, Nat.reduceBEq, reduceCtorEq, Int.reduceLT, Int.reduceLE, Int.reduceToNat, Int.reduceAdd, Int.reduceSub, Int.reduceBEq, Int.reduceBNe]); exact CanonE.nil))
            ((first | refine W.advO 5000 _ _ ?_ | skip); simp only [go_sem, ↓reduceIte, Nat.reduceEqDiff, Nat.reduceAdd, Nat.reduceSub, Nat.reduceMul, Nat.reduceLeDiff, Nat.reduceBEq, reduceCtorEq, Int.reduceLT, Int.reduceLE, Int.reduceToNat, Int.reduceAdd, Int.reduceSub, Int.reduceBEq, Int.reduceBNe])
            (refine W.ret (Fin.gen (d := .tup [madeV m k, wrongV 0 0]) (rdr_ok hok b l t i') (by (first | rfl | exact List.length_set .. | simp)) (by simp only [resEval, r36, go_sem, ↓reduceIte, Nat.reduceEqDiff, Nat.reduceAdd, Nat.reduceSub, Nat.reduceMul, Nat.reduceLeDiff, Nat.reduceBEq, reduceCtorEq, Int.reduceLT, Int.reduceLE, Int.reduceToNat, Int.reduceAdd, Int.reduceSub, Int.reduceBEq, Int.reduceBNe, madeV, wrongV]; rfl) (by simp only [resV, I, S, B, Pre.v, OpT.v, Tok.v, k_mk, name_mk, n_mk, l_mk, pos_mk, Pre.app, List.map_cons, List.map_nil, Pre.cs_eq, madeV, wrongV]; (repeat' (first | exact V.wk.rfl _ | exact V.wk.csl _ | exact V.wk.osl _ _ | exact wk_agg_nil | exact wk_tup_nil | refine wk_agg_cons ?_ ?_ | refine wk_tup_cons ?_ ?_))) (by (first | exact .c _ | (simp only [I, S, B, opsC, toksC, Pre.v, Tok.v, OpT.v, low_c, low_void, low_any, low_csl, low_nilf, low_ptr, low_osl, low_agg, low_tup, low_fn, List.forall_mem_cons, List.not_mem_nil, false_implies, implies_true, and_self, and_true, true_and, madeV, wrongV]; done))) (by (first | rfl | exact (List.append_nil _).symm)) ?_))
            exact ⟨k, hfit, rfl, rfl⟩
          · rw [if_neg hp] at hx
            (refine W.call1 (read_operator w0 l t i' (tokL t i') _ b (hG' hb _ _)) rfl rfl (by first | rfl | simp) ?_; refine W.advO 5000 _ _ ?_; simp only [go_sem, ↓reduceIte, Nat.reduceEqDiff, Nat.reduceAdd, Nat.reduceSub, Nat.reduceMul, Nat.reduceLeDiff, Nat.reduceBEq, reduceCtorEq, Int.reduceLT, Int.reduceLE, Int.reduceToNat, Int.reduceAdd, Int.reduceSub, Int.reduceBEq, Int.reduceBNe, foundV, ho, Option.isSome_some, Option.getD_some, hp])
            refine W.no rfl ?_
            ((first | refine W.advO 5000 _ _ ?_ | skip); simp only [go_sem, ↓reduceIte, Nat.reduceEqDiff, Nat.reduceAdd, Nat.reduceSub, Nat.reduceMul, Nat.reduceLeDiff, Nat.reduceBEq, reduceCtorEq, Int.reduceLT, Int.reduceLE, Int.reduceToNat, Int.reduceAdd, Int.reduceSub, Int.reduceBEq, Int.reduceBNe])
            have hil : i' < t.length := opOf_lt ho
            have hw : IntKind.i64.wrap ((i' : Int) + 1) = ((i' + 1 : Nat) : Int) := by rw [wrap_in] <;> omega
            cases hcl : clashL o m
            · rw [if_neg (by rw [hcl]; decide)] at hx
              have two : byC m = .nilp ∨ ∃ o' p', m.by_ = some (o', p') ∧ besideL o o' 1 = true := by
                cases hby : m.by_ with
                | none => exact .inl (byC_none hby)
                | some y =>
                  obtain ⟨o', p'⟩ := y
                  rw [clash_some hby] at hcl
                  exact .inr ⟨o', p', rfl, by simpa using hcl⟩
              rcases two with hz | ⟨o', p', hby, hbes⟩
              all_goals first
                | (apply W.dreg
                   case hc => ((apply Canon.advCO; simp only [advCO_nil, advCO_cons, cG_yes, cG_no, cS_some, cS_loud, go_sem, ↓reduceIte, Nat.reduceEqDiff, Nat.reduceAdd, Nat.reduceSub, Nat.reduceMul, Nat.reduceLeDiff, Nat.reduceBEq, reduceCtorEq, Int.reduceLT, Int.reduceLE, Int.reduceToNat, Int.reduceAdd, Int.reduceSub, Int.reduceBEq, Int.reduceBNe, byC_some hby]); (apply Canon.call (ops_Left w0 o o' _); (case hg => rfl); (case hf => rfl); (case ha => first | rfl | simp)); (apply Canon.advCO; simp only [advCO_nil, advCO_cons, cG_yes, cG_no, cS_some, cS_loud, go_sem, ↓reduceIte, Nat.reduceEqDiff, Nat.reduceAdd, Nat.reduceSub, Nat.reduceMul, Nat.reduceLeDiff, Nat.reduceBEq, reduceCtorEq, Int.reduceLT, Int.reduceLE, Int.reduceToNat, Int.reduceAdd, Int.reduceSub, Int.reduceBEq, Int.reduceBNe, hbes]); exact Canon.nil))
                | (apply W.dreg
                   case hc => ((apply Canon.advCO; simp only [advCO_nil, advCO_cons, cG_yes, cG_no, cS_some, cS_loud, go_sem, ↓reduceIte, Nat.reduceEqDiff, Nat.reduceAdd, Nat.reduceSub, Nat.reduceMul, Nat.reduceLeDiff, Nat.reduceBEq, reduceCtorEq, Int.reduceLT, Int.reduceLE, Int.reduceToNat, Int.reduceAdd, Int.reduceSub, Int.reduceBEq, Int.reduceBNe, hz]); exact Canon.nil))
              all_goals
                ((first | refine W.advO 5000 _ _ ?_ | skip); simp only [go_sem, ↓reduceIte, Nat.reduceEqDiff, Nat.reduceAdd, Nat.reduceSub, Nat.reduceMul, Nat.reduceLeDiff, Nat.reduceBEq, reduceCtorEq, Int.reduceLT, Int.reduceLE, Int.reduceToNat, Int.reduceAdd, Int.reduceSub, Int.reduceBEq, Int.reduceBNe])
                refine W.no rfl ?_
                have hin := fun y σx (hb' : σx[b]? = some (rdr l t (i' + 1))) (hr : innerF g' l t (nextL o) depth (i' + 1) (tokL t i').pos = some y) => read_inner (hE g' (by omega)) l t (nextL o) depth (i' + 1) (tokL t i') y σx b hr hb' (by omega) ht hd
                have two : (nextL o = IntKind.i64.wrap (o.prec + 1) ∧ (o.fix == 2) = false) ∨ (nextL o = o.prec ∧ (o.fix == 2) = true) := by
                  rw [nextL]
                  cases h : (o.fix == 2)
                  · exact .inl ⟨if_neg (by simpa using h), rfl⟩
                  · exact .inr ⟨if_pos (by simpa using h), rfl⟩
                rcases two with ⟨hn, hfix⟩ | ⟨hn, hfix⟩
                all_goals first
                  | (((first | refine W.advO 5000 _ _ ?_ | skip); simp only [go_sem, ↓reduceIte, Nat.reduceEqDiff, Nat.reduceAdd, Nat.reduceSub, Nat.reduceMul, Nat.reduceLeDiff, Nat.reduceBEq, reduceCtorEq, Int.reduceLT, Int.reduceLE, Int.reduceToNat, Int.reduceAdd, Int.reduceSub, Int.reduceBEq, Int.reduceBNe, hG' hb, hS' hb, rdr, hw, hfix])
                     refine W.no rfl ?_)
                  | (((first | refine W.advO 5000 _ _ ?_ | skip); simp only [go_sem, ↓reduceIte, Nat.reduceEqDiff, Nat.reduceAdd, Nat.reduceSub, Nat.reduceMul, Nat.reduceLeDiff, Nat.reduceBEq, reduceCtorEq, Int.reduceLT, Int.reduceLE, Int.reduceToNat, Int.reduceAdd, Int.reduceSub, Int.reduceBEq, Int.reduceBNe, hG' hb, hS' hb, rdr, hw, hfix])
                     refine W.yes rfl ?_)
                all_goals
                  ((first | refine W.advO 5000 _ _ ?_ | skip); simp only [go_sem, ↓reduceIte, Nat.reduceEqDiff, Nat.reduceAdd, Nat.reduceSub, Nat.reduceMul, Nat.reduceLeDiff, Nat.reduceBEq, reduceCtorEq, Int.reduceLT, Int.reduceLE, Int.reduceToNat, Int.reduceAdd, Int.reduceSub, Int.reduceBEq, Int.reduceBNe])
                  rw [hn] at hin
                  cases hr : innerF g' l t (nextL o) depth (i' + 1) (tokL t i').pos with
                  | none => rw [hr] at hx; cases hx
                  | some y =>
                    rw [hr] at hx
                    rw [hn] at hr
                    (refine W.call (hin y _ (hG' hb _ _) hr) rfl rfl (by first | rfl | simp) ?_)
                    intro v σ1 hR
                    cases y with
                    | error x =>
                      injection hx with hx
                      subst hx
                      obtain ⟨he, m', k', j, rfl, rfl⟩ := hR
                      have he' : ¬ x.e = 0 := by simpa using he
                      ((first | refine W.advO 5000 _ _ ?_ | skip); simp only [go_sem, ↓reduceIte, Nat.reduceEqDiff, Nat.reduceAdd, Nat.reduceSub, Nat.reduceMul, Nat.reduceLeDiff, Nat.reduceBEq, reduceCtorEq, Int.reduceLT, Int.reduceLE, Int.reduceToNat, Int.reduceAdd, Int.reduceSub, Int.reduceBEq, Int.reduceBNe, hS' hb, madeV, wrongV])
                      apply W.dreg
                      case hc => ((apply Canon.advCO; simp only [advCO_nil, advCO_cons, cG_yes, cG_no, cS_some, cS_loud, go_sem, ↓reduceIte, Nat.reduceEqDiff, Nat.reduceAdd, Nat.reduceSub, Nat.reduceMul, Nat.reduceLeDiff, Nat.reduceBEq, reduceCtorEq, Int.reduceLT, Int.reduceLE, Int.reduceToNat, Int.reduceAdd, Int.reduceSub, Int.reduceBEq, Int.reduceBNe]); (apply Canon.call (wrong_ok w0 x.e x.pos _); (case hg => rfl); (case hf => rfl); (case ha => first | rfl | simp)); (apply Canon.advCO; simp only [advCO_nil, advCO_cons, cG_yes, cG_no, cS_some, cS_loud, go_sem, ↓reduceIte, Nat.reduceEqDiff, Nat.reduceAdd, Nat.reduceSub, Nat.reduceMul, Nat.reduceLeDiff, Nat.reduceBEq, reduceCtorEq, Int.reduceLT, Int.reduceLE, Int.reduceToNat, Int.reduceAdd, Int.reduceSub, Int.reduceBEq, Int.reduceBNe, he]); exact Canon.nil)
                      ((first | refine W.advO 5000 _ _ ?_ | skip); simp only [go_sem, ↓reduceIte, Nat.reduceEqDiff, Nat.reduceAdd, Nat.reduceSub, Nat.reduceMul, Nat.reduceLeDiff, Nat.reduceBEq, reduceCtorEq, Int.reduceLT, Int.reduceLE, Int.reduceToNat, Int.reduceAdd, Int.reduceSub, Int.reduceBEq, Int.reduceBNe])
                      refine W.no rfl ?_
                      ((first | refine W.advO 5000 _ _ ?_ | skip); simp only [go_sem, ↓reduceIte, Nat.reduceEqDiff, Nat.reduceAdd, Nat.reduceSub, Nat.reduceMul, Nat.reduceLeDiff, Nat.reduceBEq, reduceCtorEq, Int.reduceLT, Int.reduceLE, Int.reduceToNat, Int.reduceAdd, Int.reduceSub, Int.reduceBEq, Int.reduceBNe])
                      refine W.frz 12 (by rfl) (by simp only [go_sem, ↓reduceIte, Nat.reduceEqDiff, Nat.reduceAdd, Nat.reduceSub, Nat.reduceMul, Nat.reduceLeDiff, Nat.reduceBEq, reduceCtorEq, Int.reduceLT, Int.reduceLE, Int.reduceToNat, Int.reduceAdd, Int.reduceSub, Int.reduceBEq, Int.reduceBNe]; rfl) (by rfl) ?_
                      ((first | refine W.advO 5000 _ _ ?_ | skip); simp only [go_sem, ↓reduceIte, Nat.reduceEqDiff, Nat.reduceAdd, Nat.reduceSub, Nat.reduceMul, Nat.reduceLeDiff, Nat.reduceBEq, reduceCtorEq, Int.reduceLT, Int.reduceLE, Int.reduceToNat, Int.reduceAdd, Int.reduceSub, Int.reduceBEq, Int.reduceBNe])
                      apply W.dregE (List.cons_ne_nil _ _)
                      case hc =>
                        (apply CanonE.advPO; simp only [advPO_nil, advPO_loud, advPO_quiet, pL_yes, pL_no, pLS_some, pLS_none, pQ_yes, pQ_no, pQS_some, pQS_loud, eq_self, Nat.sub_zero, go_sem, ↓reduceIte, Nat.reduceEqDiff, Nat.reduceAdd, Nat.reduceSub, Nat.reduceMul, Nat.reduceLeDiff, Nat.reduceBEq, reduceCtorEq, Int.reduceLT, Int.reduceLE, Int.reduceToNat, Int.reduceAdd, Int.reduceSub, Int.reduceBEq, Int.reduceBNe])
                        (apply CanonE.call (read_apply w0 o (tokL t i').pos m.p m'.p _); (case hg => rfl); (case hf => rfl); (case ha => first | rfl | simp))
                        (apply CanonE.advPO; simp only [advPO_nil, advPO_loud, advPO_quiet, pL_yes, pL_no, pLS_some, pLS_none, pQ_yes, pQ_no, pQS_some, pQS_loud, eq_self, Nat.sub_zero, go_sem, ↓reduceIte, Nat.reduceEqDiff, Nat.reduceAdd, Nat.reduceSub, Nat.reduceMul, Nat.reduceLeDiff, Nat.reduceBEq, reduceCtorEq, Int.reduceLT, Int.reduceLE, Int.reduceToNat, Int.reduceAdd, Int.reduceSub, Int.reduceBEq, Int.reduceBNe])
                        exact CanonE.nil
                      ((first | refine W.advO 5000 _ _ ?_ | skip); simp only [go_sem, ↓reduceIte, Nat.reduceEqDiff, Nat.reduceAdd, Nat.reduceSub, Nat.reduceMul, Nat.reduceLeDiff, Nat.reduceBEq, reduceCtorEq, Int.reduceLT, Int.reduceLE, Int.reduceToNat, Int.reduceAdd, Int.reduceSub, Int.reduceBEq, Int.reduceBNe])
                      refine .inv ⟨⟨0, ⟨applyL o (tokL t i').pos m.p m'.p, some (o, (tokL t i').pos)⟩, tokL t i', j, x.e, x.pos⟩, .inr ⟨he, rfl⟩, by simp [he'], ?_⟩
                      simp only [go_sem, ↓reduceIte, Nat.reduceEqDiff, Nat.reduceAdd, Nat.reduceSub, Nat.reduceMul, Nat.reduceLeDiff, Nat.reduceBEq, reduceCtorEq, Int.reduceLT, Int.reduceLE, Int.reduceToNat, Int.reduceAdd, Int.reduceSub, Int.reduceBEq, Int.reduceBNe, madeV, byC]
                      (refine Lew.cutL (rdr_ok hok b l t j) ?_ (by simp) (by simp) ?_ ?_ ?_; (repeat' (first | exact LeE.base _ | (refine LeE.put ?_ (by first | exact V.wk.rfl _ | exact V.wk.osl _ _ | exact V.wk.csl _)))); ((try simp only [List.length_cons, List.length_nil, List.length_set, List.length_append, Nat.reduceAdd, List.take_succ_cons, List.take_zero, okB, wkB, I, S, B, opsC, toksC, Pre.v, Tok.v, OpT.v, low_c, low_void, low_any, low_csl, low_nilf, low_ptr, low_osl, low_agg, low_tup, low_fn, List.forall_mem_cons, List.not_mem_nil, false_implies, implies_true, and_self, and_true, true_and]) <;> omega); (simp only [List.length_cons, List.length_nil, Nat.reduceAdd, List.take_succ_cons, List.take_zero, wkB, and_true]; (repeat' (refine And.intro ?_ ?_)) <;> (first | exact Blk.wk.rfl _ | (refine Blk.wk_cells ?_ rfl; (repeat' (first | exact V.wk.rfl _ | exact V.wk.csl _ | exact V.wk.osl _ _ | exact wk_agg_nil | exact wk_tup_nil | refine wk_agg_cons ?_ ?_ | refine wk_tup_cons ?_ ?_))))); (repeat' (first | exact LowE.base _ | (refine LowE.put ?_ (by first | exact .c _ | ((try simp only [List.length_cons, List.length_nil, List.length_set, List.length_append, Nat.reduceAdd, List.take_succ_cons, List.take_zero, okB, wkB, I, S, B, opsC, toksC, Pre.v, Tok.v, OpT.v, low_c, low_void, low_any, low_csl, low_nilf, low_ptr, low_osl, low_agg, low_tup, low_fn, List.forall_mem_cons, List.not_mem_nil, false_implies, implies_true, and_self, and_true, true_and]) <;> omega))))))
                    | ok y =>
                      obtain ⟨m', j⟩ := y
                      obtain ⟨k', hfit', rfl, rfl⟩ := hR
                      have hj := (innerF_bound hr).2
                      simp only at hx
                      ((first | refine W.advO 5000 _ _ ?_ | skip); simp only [go_sem, ↓reduceIte, Nat.reduceEqDiff, Nat.reduceAdd, Nat.reduceSub, Nat.reduceMul, Nat.reduceLeDiff, Nat.reduceBEq, reduceCtorEq, Int.reduceLT, Int.reduceLE, Int.reduceToNat, Int.reduceAdd, Int.reduceSub, Int.reduceBEq, Int.reduceBNe, hS' hb, madeV, wrongV])
                      cases hby' : m'.by_ with
                      | none =>
                        rw [hby'] at hx
                        have hz' := byC_none hby'
                        apply W.dreg
                        case hc => ((apply Canon.advCO; simp only [advCO_nil, advCO_cons, cG_yes, cG_no, cS_some, cS_loud, go_sem, ↓reduceIte, Nat.reduceEqDiff, Nat.reduceAdd, Nat.reduceSub, Nat.reduceMul, Nat.reduceLeDiff, Nat.reduceBEq, reduceCtorEq, Int.reduceLT, Int.reduceLE, Int.reduceToNat, Int.reduceAdd, Int.reduceSub, Int.reduceBEq, Int.reduceBNe]); (apply Canon.call (wrong_ok w0 0 0 _); (case hg => rfl); (case hf => rfl); (case ha => first | rfl | simp)); (apply Canon.advCO; simp only [advCO_nil, advCO_cons, cG_yes, cG_no, cS_some, cS_loud, go_sem, ↓reduceIte, Nat.reduceEqDiff, Nat.reduceAdd, Nat.reduceSub, Nat.reduceMul, Nat.reduceLeDiff, Nat.reduceBEq, reduceCtorEq, Int.reduceLT, Int.reduceLE, Int.reduceToNat, Int.reduceAdd, Int.reduceSub, Int.reduceBEq, Int.reduceBNe, hz']); exact Canon.nil)
                        ((first | refine W.advO 5000 _ _ ?_ | skip); simp only [go_sem, ↓reduceIte, Nat.reduceEqDiff, Nat.reduceAdd, Nat.reduceSub, Nat.reduceMul, Nat.reduceLeDiff, Nat.reduceBEq, reduceCtorEq, Int.reduceLT, Int.reduceLE, Int.reduceToNat, Int.reduceAdd, Int.reduceSub, Int.reduceBEq, Int.reduceBNe])
                        refine W.no rfl ?_
                        ((first | refine W.advO 5000 _ _ ?_ | skip); simp only [go_sem, ↓reduceIte, Nat.reduceEqDiff, Nat.reduceAdd, Nat.reduceSub, Nat.reduceMul, Nat.reduceLeDiff, Nat.reduceBEq, reduceCtorEq, Int.reduceLT, Int.reduceLE, Int.reduceToNat, Int.reduceAdd, Int.reduceSub, Int.reduceBEq, Int.reduceBNe])
                        refine W.frz 12 (by rfl) (by simp only [go_sem, ↓reduceIte, Nat.reduceEqDiff, Nat.reduceAdd, Nat.reduceSub, Nat.reduceMul, Nat.reduceLeDiff, Nat.reduceBEq, reduceCtorEq, Int.reduceLT, Int.reduceLE, Int.reduceToNat, Int.reduceAdd, Int.reduceSub, Int.reduceBEq, Int.reduceBNe]; rfl) (by rfl) ?_
                        ((first | refine W.advO 5000 _ _ ?_ | skip); simp only [go_sem, ↓reduceIte, Nat.reduceEqDiff, Nat.reduceAdd, Nat.reduceSub, Nat.reduceMul, Nat.reduceLeDiff, Nat.reduceBEq, reduceCtorEq, Int.reduceLT, Int.reduceLE, Int.reduceToNat, Int.reduceAdd, Int.reduceSub, Int.reduceBEq, Int.reduceBNe])
                        apply W.dregE (List.cons_ne_nil _ _)
                        case hc =>
                          (apply CanonE.advPO; simp only [advPO_nil, advPO_loud, advPO_quiet, pL_yes, pL_no, pLS_some, pLS_none, pQ_yes, pQ_no, pQS_some, pQS_loud, eq_self, Nat.sub_zero, go_sem, ↓reduceIte, Nat.reduceEqDiff, Nat.reduceAdd, Nat.reduceSub, Nat.reduceMul, Nat.reduceLeDiff, Nat.reduceBEq, reduceCtorEq, Int.reduceLT, Int.reduceLE, Int.reduceToNat, Int.reduceAdd, Int.reduceSub, Int.reduceBEq, Int.reduceBNe])
                          (apply CanonE.call (read_apply w0 o (tokL t i').pos m.p m'.p _); (case hg => rfl); (case hf => rfl); (case ha => first | rfl | simp))
                          (apply CanonE.advPO; simp only [advPO_nil, advPO_loud, advPO_quiet, pL_yes, pL_no, pLS_some, pLS_none, pQ_yes, pQ_no, pQS_some, pQS_loud, eq_self, Nat.sub_zero, go_sem, ↓reduceIte, Nat.reduceEqDiff, Nat.reduceAdd, Nat.reduceSub, Nat.reduceMul, Nat.reduceLeDiff, Nat.reduceBEq, reduceCtorEq, Int.reduceLT, Int.reduceLE, Int.reduceToNat, Int.reduceAdd, Int.reduceSub, Int.reduceBEq, Int.reduceBNe])
                          exact CanonE.nil
                        ((first | refine W.advO 5000 _ _ ?_ | skip); simp only [go_sem, ↓reduceIte, Nat.reduceEqDiff, Nat.reduceAdd, Nat.reduceSub, Nat.reduceMul, Nat.reduceLeDiff, Nat.reduceBEq, reduceCtorEq, Int.reduceLT, Int.reduceLE, Int.reduceToNat, Int.reduceAdd, Int.reduceSub, Int.reduceBEq, Int.reduceBNe])
                        refine .inv ⟨⟨g', ⟨applyL o (tokL t i').pos m.p m'.p, some (o, (tokL t i').pos)⟩, tokL t i', j, 0, 0⟩, .inl ⟨rfl, rfl, hx, hj, Nat.le_of_succ_le hg, fun o p h => by injection h with h; injection h⟩, by simp [], ?_⟩
                        simp only [go_sem, ↓reduceIte, Nat.reduceEqDiff, Nat.reduceAdd, Nat.reduceSub, Nat.reduceMul, Nat.reduceLeDiff, Nat.reduceBEq, reduceCtorEq, Int.reduceLT, Int.reduceLE, Int.reduceToNat, Int.reduceAdd, Int.reduceSub, Int.reduceBEq, Int.reduceBNe, madeV, byC]
                        (refine Lew.cutL (rdr_ok hok b l t j) ?_ (by simp) (by simp) ?_ ?_ ?_; (repeat' (first | exact LeE.base _ | (refine LeE.put ?_ (by first | exact V.wk.rfl _ | exact V.wk.osl _ _ | exact V.wk.csl _)))); ((try simp only [List.length_cons, List.length_nil, List.length_set, List.length_append, Nat.reduceAdd, List.take_succ_cons, List.take_zero, okB, wkB, I, S, B, opsC, toksC, Pre.v, Tok.v, OpT.v, low_c, low_void, low_any, low_csl, low_nilf, low_ptr, low_osl, low_agg, low_tup, low_fn, List.forall_mem_cons, List.not_mem_nil, false_implies, implies_true, and_self, and_true, true_and]) <;> omega); (simp only [List.length_cons, List.length_nil, Nat.reduceAdd, List.take_succ_cons, List.take_zero, wkB, and_true]; (repeat' (refine And.intro ?_ ?_)) <;> (first | exact Blk.wk.rfl _ | (refine Blk.wk_cells ?_ rfl; (repeat' (first | exact V.wk.rfl _ | exact V.wk.csl _ | exact V.wk.osl _ _ | exact wk_agg_nil | exact wk_tup_nil | refine wk_agg_cons ?_ ?_ | refine wk_tup_cons ?_ ?_))))); (repeat' (first | exact LowE.base _ | (refine LowE.put ?_ (by first | exact .c _ | ((try simp only [List.length_cons, List.length_nil, List.length_set, List.length_append, Nat.reduceAdd, List.take_succ_cons, List.take_zero, okB, wkB, I, S, B, opsC, toksC, Pre.v, Tok.v, OpT.v, low_c, low_void, low_any, low_csl, low_nilf, low_ptr, low_osl, low_agg, low_tup, low_fn, List.forall_mem_cons, List.not_mem_nil, false_implies, implies_true, and_self, and_true, true_and]) <;> omega))))))
                      | some y =>
                        obtain ⟨o2, p2⟩ := y
                        rw [hby'] at hx
                        simp only at hx
                        have hz' := byC_some hby'
                        cases hb2 : besideL o o2 2
                        · rw [if_neg (by rw [hb2]; decide)] at hx
                          injection hx with hx
                          subst hx
                          have hpk := hfit' _ _ hby'
                          apply W.dreg
                          case hc => ((apply Canon.advCO; simp only [advCO_nil, advCO_cons, cG_yes, cG_no, cS_some, cS_loud, go_sem, ↓reduceIte, Nat.reduceEqDiff, Nat.reduceAdd, Nat.reduceSub, Nat.reduceMul, Nat.reduceLeDiff, Nat.reduceBEq, reduceCtorEq, Int.reduceLT, Int.reduceLE, Int.reduceToNat, Int.reduceAdd, Int.reduceSub, Int.reduceBEq, Int.reduceBNe]); (apply Canon.call (wrong_ok w0 0 0 _); (case hg => rfl); (case hf => rfl); (case ha => first | rfl | simp)); (apply Canon.advCO; simp only [advCO_nil, advCO_cons, cG_yes, cG_no, cS_some, cS_loud, go_sem, ↓reduceIte, Nat.reduceEqDiff, Nat.reduceAdd, Nat.reduceSub, Nat.reduceMul, Nat.reduceLeDiff, Nat.reduceBEq, reduceCtorEq, Int.reduceLT, Int.reduceLE, Int.reduceToNat, Int.reduceAdd, Int.reduceSub, Int.reduceBEq, Int.reduceBNe, hz']); (apply Canon.call (ops_Right w0 o o2 _); (case hg => rfl); (case hf => rfl); (case ha => first | rfl | simp)); (apply Canon.advCO; simp only [advCO_nil, advCO_cons, cG_yes, cG_no, cS_some, cS_loud, go_sem, ↓reduceIte, Nat.reduceEqDiff, Nat.reduceAdd, Nat.reduceSub, Nat.reduceMul, Nat.reduceLeDiff, Nat.reduceBEq, reduceCtorEq, Int.reduceLT, Int.reduceLE, Int.reduceToNat, Int.reduceAdd, Int.reduceSub, Int.reduceBEq, Int.reduceBNe, hb2]); exact Canon.nil)
                          ((first | refine W.advO 5000 _ _ ?_ | skip); simp only [go_sem, ↓reduceIte, Nat.reduceEqDiff, Nat.reduceAdd, Nat.reduceSub, Nat.reduceMul, Nat.reduceLeDiff, Nat.reduceBEq, reduceCtorEq, Int.reduceLT, Int.reduceLE, Int.reduceToNat, Int.reduceAdd, Int.reduceSub, Int.reduceBEq, Int.reduceBNe])
                          refine W.yes rfl ?_
                          ((first | refine W.advO 5000 _ _ ?_ | skip); simp only [go_sem, ↓reduceIte, Nat.reduceEqDiff, Nat.reduceAdd, Nat.reduceSub, Nat.reduceMul, Nat.reduceLeDiff, Nat.reduceBEq, reduceCtorEq, Int.reduceLT, Int.reduceLE, Int.reduceToNat, Int.reduceAdd, Int.reduceSub, Int.reduceBEq, Int.reduceBNe])
                          refine W.frz 12 (by rfl) (by simp only [go_sem, ↓reduceIte, Nat.reduceEqDiff, Nat.reduceAdd, Nat.reduceSub, Nat.reduceMul, Nat.reduceLeDiff, Nat.reduceBEq, reduceCtorEq, Int.reduceLT, Int.reduceLE, Int.reduceToNat, Int.reduceAdd, Int.reduceSub, Int.reduceBEq, Int.reduceBNe]; rfl) (by rfl) ?_
                          ((first | refine W.advO 5000 _ _ ?_ | skip); simp only [go_sem, ↓reduceIte, Nat.reduceEqDiff, Nat.reduceAdd, Nat.reduceSub, Nat.reduceMul, Nat.reduceLeDiff, Nat.reduceBEq, reduceCtorEq, Int.reduceLT, Int.reduceLE, Int.reduceToNat, Int.reduceAdd, Int.reduceSub, Int.reduceBEq, Int.reduceBNe])
                          apply W.dregE (List.cons_ne_nil _ _)
                          case hc =>
                            (apply CanonE.advPO; simp only [advPO_nil, advPO_loud, advPO_quiet, pL_yes, pL_no, pLS_some, pLS_none, pQ_yes, pQ_no, pQS_some, pQS_loud, eq_self, Nat.sub_zero, go_sem, ↓reduceIte, Nat.reduceEqDiff, Nat.reduceAdd, Nat.reduceSub, Nat.reduceMul, Nat.reduceLeDiff, Nat.reduceBEq, reduceCtorEq, Int.reduceLT, Int.reduceLE, Int.reduceToNat, Int.reduceAdd, Int.reduceSub, Int.reduceBEq, Int.reduceBNe])
                            (apply CanonE.call (read_apply w0 o (tokL t i').pos m.p m'.p _); (case hg => rfl); (case hf => rfl); (case ha => first | rfl | simp))
                            (apply CanonE.advPO; simp only [advPO_nil, advPO_loud, advPO_quiet, pL_yes, pL_no, pLS_some, pLS_none, pQ_yes, pQ_no, pQS_some, pQS_loud, eq_self, Nat.sub_zero, go_sem, ↓reduceIte, Nat.reduceEqDiff, Nat.reduceAdd, Nat.reduceSub, Nat.reduceMul, Nat.reduceLeDiff, Nat.reduceBEq, reduceCtorEq, Int.reduceLT, Int.reduceLE, Int.reduceToNat, Int.reduceAdd, Int.reduceSub, Int.reduceBEq, Int.reduceBNe])
                            exact CanonE.nil
                          ((first | refine W.advO 5000 _ _ ?_ | skip); simp only [go_sem, ↓reduceIte, Nat.reduceEqDiff, Nat.reduceAdd, Nat.reduceSub, Nat.reduceMul, Nat.reduceLeDiff, Nat.reduceBEq, reduceCtorEq, Int.reduceLT, Int.reduceLE, Int.reduceToNat, Int.reduceAdd, Int.reduceSub, Int.reduceBEq, Int.reduceBNe])
                          refine .inv ⟨⟨0, ⟨applyL o (tokL t i').pos m.p m'.p, some (o, (tokL t i').pos)⟩, tokL t i', j, 32, p2⟩, .inr ⟨rfl, rfl⟩, by simp [], ?_⟩
                          simp only [go_sem, ↓reduceIte, Nat.reduceEqDiff, Nat.reduceAdd, Nat.reduceSub, Nat.reduceMul, Nat.reduceLeDiff, Nat.reduceBEq, reduceCtorEq, Int.reduceLT, Int.reduceLE, Int.reduceToNat, Int.reduceAdd, Int.reduceSub, Int.reduceBEq, Int.reduceBNe, madeV, byC, hpk]
                          (refine Lew.cutL (rdr_ok hok b l t j) ?_ (by simp) (by simp) ?_ ?_ ?_; (repeat' (first | exact LeE.base _ | (refine LeE.put ?_ (by first | exact V.wk.rfl _ | exact V.wk.osl _ _ | exact V.wk.csl _)))); ((try simp only [List.length_cons, List.length_nil, List.length_set, List.length_append, Nat.reduceAdd, List.take_succ_cons, List.take_zero, okB, wkB, I, S, B, opsC, toksC, Pre.v, Tok.v, OpT.v, low_c, low_void, low_any, low_csl, low_nilf, low_ptr, low_osl, low_agg, low_tup, low_fn, List.forall_mem_cons, List.not_mem_nil, false_implies, implies_true, and_self, and_true, true_and]) <;> omega); (simp only [List.length_cons, List.length_nil, Nat.reduceAdd, List.take_succ_cons, List.take_zero, wkB, and_true]; (repeat' (refine And.intro ?_ ?_)) <;> (first | exact Blk.wk.rfl _ | (refine Blk.wk_cells ?_ rfl; (repeat' (first | exact V.wk.rfl _ | exact V.wk.csl _ | exact V.wk.osl _ _ | exact wk_agg_nil | exact wk_tup_nil | refine wk_agg_cons ?_ ?_ | refine wk_tup_cons ?_ ?_))))); (repeat' (first | exact LowE.base _ | (refine LowE.put ?_ (by first | exact .c _ | ((try simp only [List.length_cons, List.length_nil, List.length_set, List.length_append, Nat.reduceAdd, List.take_succ_cons, List.take_zero, okB, wkB, I, S, B, opsC, toksC, Pre.v, Tok.v, OpT.v, low_c, low_void, low_any, low_csl, low_nilf, low_ptr, low_osl, low_agg, low_tup, low_fn, List.forall_mem_cons, List.not_mem_nil, false_implies, implies_true, and_self, and_true, true_and]) <;> omega))))))
                        · rw [if_pos hb2] at hx
                          apply W.dreg
                          case hc => ((apply Canon.advCO; simp only [advCO_nil, advCO_cons, cG_yes, cG_no, cS_some, cS_loud, go_sem, ↓reduceIte, Nat.reduceEqDiff, Nat.reduceAdd, Nat.reduceSub, Nat.reduceMul, Nat.reduceLeDiff, Nat.reduceBEq, reduceCtorEq, Int.reduceLT, Int.reduceLE, Int.reduceToNat, Int.reduceAdd, Int.reduceSub, Int.reduceBEq, Int.reduceBNe]); (apply Canon.call (wrong_ok w0 0 0 _); (case hg => rfl); (case hf => rfl); (case ha => first | rfl | simp)); (apply Canon.advCO; simp only [advCO_nil, advCO_cons, cG_yes, cG_no, cS_some, cS_loud, go_sem, ↓reduceIte, Nat.reduceEqDiff, Nat.reduceAdd, Nat.reduceSub, Nat.reduceMul, Nat.reduceLeDiff, Nat.reduceBEq, reduceCtorEq, Int.reduceLT, Int.reduceLE, Int.reduceToNat, Int.reduceAdd, Int.reduceSub, Int.reduceBEq, Int.reduceBNe, hz']); (apply Canon.call (ops_Right w0 o o2 _); (case hg => rfl); (case hf => rfl); (case ha => first | rfl | simp)); (apply Canon.advCO; simp only [advCO_nil, advCO_cons, cG_yes, cG_no, cS_some, cS_loud, go_sem, ↓reduceIte, Nat.reduceEqDiff, Nat.reduceAdd, Nat.reduceSub, Nat.reduceMul, Nat.reduceLeDiff, Nat.reduceBEq, reduceCtorEq, Int.reduceLT, Int.reduceLE, Int.reduceToNat, Int.reduceAdd, Int.reduceSub, Int.reduceBEq, Int.reduceBNe, hb2]); exact Canon.nil)
                          ((first | refine W.advO 5000 _ _ ?_ | skip); simp only [go_sem, ↓reduceIte, Nat.reduceEqDiff, Nat.reduceAdd, Nat.reduceSub, Nat.reduceMul, Nat.reduceLeDiff, Nat.reduceBEq, reduceCtorEq, Int.reduceLT, Int.reduceLE, Int.reduceToNat, Int.reduceAdd, Int.reduceSub, Int.reduceBEq, Int.reduceBNe])
                          refine W.no rfl ?_
                          ((first | refine W.advO 5000 _ _ ?_ | skip); simp only [go_sem, ↓reduceIte, Nat.reduceEqDiff, Nat.reduceAdd, Nat.reduceSub, Nat.reduceMul, Nat.reduceLeDiff, Nat.reduceBEq, reduceCtorEq, Int.reduceLT, Int.reduceLE, Int.reduceToNat, Int.reduceAdd, Int.reduceSub, Int.reduceBEq, Int.reduceBNe])
                          refine W.frz 12 (by rfl) (by simp only [go_sem, ↓reduceIte, Nat.reduceEqDiff, Nat.reduceAdd, Nat.reduceSub, Nat.reduceMul, Nat.reduceLeDiff, Nat.reduceBEq, reduceCtorEq, Int.reduceLT, Int.reduceLE, Int.reduceToNat, Int.reduceAdd, Int.reduceSub, Int.reduceBEq, Int.reduceBNe]; rfl) (by rfl) ?_
                          ((first | refine W.advO 5000 _ _ ?_ | skip); simp only [go_sem, ↓reduceIte, Nat.reduceEqDiff, Nat.reduceAdd, Nat.reduceSub, Nat.reduceMul, Nat.reduceLeDiff, Nat.reduceBEq, reduceCtorEq, Int.reduceLT, Int.reduceLE, Int.reduceToNat, Int.reduceAdd, Int.reduceSub, Int.reduceBEq, Int.reduceBNe])
                          apply W.dregE (List.cons_ne_nil _ _)
                          case hc =>
                            (apply CanonE.advPO; simp only [advPO_nil, advPO_loud, advPO_quiet, pL_yes, pL_no, pLS_some, pLS_none, pQ_yes, pQ_no, pQS_some, pQS_loud, eq_self, Nat.sub_zero, go_sem, ↓reduceIte, Nat.reduceEqDiff, Nat.reduceAdd, Nat.reduceSub, Nat.reduceMul, Nat.reduceLeDiff, Nat.reduceBEq, reduceCtorEq, Int.reduceLT, Int.reduceLE, Int.reduceToNat, Int.reduceAdd, Int.reduceSub, Int.reduceBEq, Int.reduceBNe])
                            (apply CanonE.call (read_apply w0 o (tokL t i').pos m.p m'.p _); (case hg => rfl); (case hf => rfl); (case ha => first | rfl | simp))
                            (apply CanonE.advPO; simp only [advPO_nil, advPO_loud, advPO_quiet, pL_yes, pL_no, pLS_some, pLS_none, pQ_yes, pQ_no, pQS_some, pQS_loud, eq_self, Nat.sub_zero, go_sem, ↓reduceIte, Nat.reduceEqDiff, Nat.reduceAdd, Nat.reduceSub, Nat.reduceMul, Nat.reduceLeDiff, Nat.reduceBEq, reduceCtorEq, Int.reduceLT, Int.reduceLE, Int.reduceToNat, Int.reduceAdd, Int.reduceSub, Int.reduceBEq, Int.reduceBNe])
                            exact CanonE.nil
                          ((first | refine W.advO 5000 _ _ ?_ | skip); simp only [go_sem, ↓reduceIte, Nat.reduceEqDiff, Nat.reduceAdd, Nat.reduceSub, Nat.reduceMul, Nat.reduceLeDiff, Nat.reduceBEq, reduceCtorEq, Int.reduceLT, Int.reduceLE, Int.reduceToNat, Int.reduceAdd, Int.reduceSub, Int.reduceBEq, Int.reduceBNe])
                          refine .inv ⟨⟨g', ⟨applyL o (tokL t i').pos m.p m'.p, some (o, (tokL t i').pos)⟩, tokL t i', j, 0, 0⟩, .inl ⟨rfl, rfl, hx, hj, Nat.le_of_succ_le hg, fun o p h => by injection h with h; injection h⟩, by simp [], ?_⟩
                          simp only [go_sem, ↓reduceIte, Nat.reduceEqDiff, Nat.reduceAdd, Nat.reduceSub, Nat.reduceMul, Nat.reduceLeDiff, Nat.reduceBEq, reduceCtorEq, Int.reduceLT, Int.reduceLE, Int.reduceToNat, Int.reduceAdd, Int.reduceSub, Int.reduceBEq, Int.reduceBNe, madeV, byC]
                          (refine Lew.cutL (rdr_ok hok b l t j) ?_ (by simp) (by simp) ?_ ?_ ?_; (repeat' (first | exact LeE.base _ | (refine LeE.put ?_ (by first | exact V.wk.rfl _ | exact V.wk.osl _ _ | exact V.wk.csl _)))); ((try simp only [List.length_cons, List.length_nil, List.length_set, List.length_append, Nat.reduceAdd, List.take_succ_cons, List.take_zero, okB, wkB, I, S, B, opsC, toksC, Pre.v, Tok.v, OpT.v, low_c, low_void, low_any, low_csl, low_nilf, low_ptr, low_osl, low_agg, low_tup, low_fn, List.forall_mem_cons, List.not_mem_nil, false_implies, implies_true, and_self, and_true, true_and]) <;> omega); (simp only [List.length_cons, List.length_nil, Nat.reduceAdd, List.take_succ_cons, List.take_zero, wkB, and_true]; (repeat' (refine And.intro ?_ ?_)) <;> (first | exact Blk.wk.rfl _ | (refine Blk.wk_cells ?_ rfl; (repeat' (first | exact V.wk.rfl _ | exact V.wk.csl _ | exact V.wk.osl _ _ | exact wk_agg_nil | exact wk_tup_nil | refine wk_agg_cons ?_ ?_ | refine wk_tup_cons ?_ ?_))))); (repeat' (first | exact LowE.base _ | (refine LowE.put ?_ (by first | exact .c _ | ((try simp only [List.length_cons, List.length_nil, List.length_set, List.length_append, Nat.reduceAdd, List.take_succ_cons, List.take_zero, okB, wkB, I, S, B, opsC, toksC, Pre.v, Tok.v, OpT.v, low_c, low_void, low_any, low_csl, low_nilf, low_ptr, low_osl, low_agg, low_tup, low_fn, List.forall_mem_cons, List.not_mem_nil, false_implies, implies_true, and_self, and_true, true_and]) <;> omega))))))
            · rw [if_pos hcl] at hx
              injection hx with hx
              subst hx
              cases hby : m.by_ with
              | none => rw [clash_none hby] at hcl; cases hcl
              | some y =>
                obtain ⟨o', p'⟩ := y
                rw [clash_some hby] at hcl
                have hbes : besideL o o' 1 = false := by simpa using hcl
                apply W.dreg
                case hc =>
                  (apply Canon.advCO; simp only [advCO_nil, advCO_cons, cG_yes, cG_no, cS_some, cS_loud, go_sem, ↓reduceIte, Nat.reduceEqDiff, Nat.reduceAdd, Nat.reduceSub, Nat.reduceMul, Nat.reduceLeDiff, Nat.reduceBEq, reduceCtorEq, Int.reduceLT, Int.reduceLE, Int.reduceToNat, Int.reduceAdd, Int.reduceSub, Int.reduceBEq, Int.reduceBNe, byC_some hby])
                  (apply Canon.call (ops_Left w0 o o' _); (case hg => rfl); (case hf => rfl); (case ha => first | rfl | simp))
                  (apply Canon.advCO; simp only [advCO_nil, advCO_cons, cG_yes, cG_no, cS_some, cS_loud, go_sem, ↓reduceIte, Nat.reduceEqDiff, Nat.reduceAdd, Nat.reduceSub, Nat.reduceMul, Nat.reduceLeDiff, Nat.reduceBEq, reduceCtorEq, Int.reduceLT, Int.reduceLE, Int.reduceToNat, Int.reduceAdd, Int.reduceSub, Int.reduceBEq, Int.reduceBNe, hbes])
                  exact Canon.nil
                ((first | refine W.advO 5000 _ _ ?_ | skip); simp only [go_sem, ↓reduceIte, Nat.reduceEqDiff, Nat.reduceAdd, Nat.reduceSub, Nat.reduceMul, Nat.reduceLeDiff, Nat.reduceBEq, reduceCtorEq, Int.reduceLT, Int.reduceLE, Int.reduceToNat, Int.reduceAdd, Int.reduceSub, Int.reduceBEq, Int.reduceBNe])
                refine W.yes rfl ?_
                ((first | refine W.advO 5000 _ _ ?_ | skip); simp only [go_sem, ↓reduceIte, Nat.reduceEqDiff, Nat.reduceAdd, Nat.reduceSub, Nat.reduceMul, Nat.reduceLeDiff, Nat.reduceBEq, reduceCtorEq, Int.reduceLT, Int.reduceLE, Int.reduceToNat, Int.reduceAdd, Int.reduceSub, Int.reduceBEq, Int.reduceBNe])
                (apply W.dregE (List.cons_ne_nil _ _); case hc => ((apply CanonE.advPO; simp only [advPO_nil, advPO_loud, advPO_quiet, pL_yes, pL_no, pLS_some, pLS_none, pQ_yes, pQ_no, pQS_some, pQS_loud, eq_self, Nat.sub_zero, go_sem, ↓reduceIte, Nat.reduceEqDiff, Nat.reduceAdd, Nat.reduceSub, Nat.reduceMul, Nat.reduceLeDiff, Nat.reduceBEq, reduceCtorEq, Int.reduceLT, Int.reduceLE, Int.reduceToNat, Int.reduceAdd, Int.reduceSub, Int.reduceBEq, Int.reduceBNe]); exact CanonE.nil))
                ((first | refine W.advO 5000 _ _ ?_ | skip); simp only [go_sem, ↓reduceIte, Nat.reduceEqDiff, Nat.reduceAdd, Nat.reduceSub, Nat.reduceMul, Nat.reduceLeDiff, Nat.reduceBEq, reduceCtorEq, Int.reduceLT, Int.reduceLE, Int.reduceToNat, Int.reduceAdd, Int.reduceSub, Int.reduceBEq, Int.reduceBNe])
                (refine W.ret (Fin.gen (d := .tup [madeV ⟨Pre.none, none⟩ Tok.zero, wrongV 32 (tokL t i').pos]) (rdr_ok hok b l t i') (by (first | rfl | exact List.length_set .. | simp)) (by simp only [resEval, r36, go_sem, ↓reduceIte, Nat.reduceEqDiff, Nat.reduceAdd, Nat.reduceSub, Nat.reduceMul, Nat.reduceLeDiff, Nat.reduceBEq, reduceCtorEq, Int.reduceLT, Int.reduceLE, Int.reduceToNat, Int.reduceAdd, Int.reduceSub, Int.reduceBEq, Int.reduceBNe, madeV, wrongV, byC, Pre.none, Tok.zero]; rfl) (by simp only [resV, I, S, B, Pre.v, OpT.v, Tok.v, k_mk, name_mk, n_mk, l_mk, pos_mk, Pre.app, List.map_cons, List.map_nil, Pre.cs_eq, madeV, wrongV, byC, Pre.none, Tok.zero]; (repeat' (first | exact V.wk.rfl _ | exact V.wk.csl _ | exact V.wk.osl _ _ | exact wk_agg_nil | exact wk_tup_nil | refine wk_agg_cons ?_ ?_ | refine wk_tup_cons ?_ ?_))) (by (first | exact .c _ | (simp only [I, S, B, opsC, toksC, Pre.v, Tok.v, OpT.v, low_c, low_void, low_any, low_csl, low_nilf, low_ptr, low_osl, low_agg, low_tup, low_fn, List.forall_mem_cons, List.not_mem_nil, false_implies, implies_true, and_self, and_true, true_and, madeV, wrongV, byC, Pre.none, Tok.zero]; done))) (by (first | rfl | exact (List.append_nil _).symm)) ?_))
                exact ⟨rfl, ⟨Pre.none, none⟩, Tok.zero, i', rfl, rfl⟩
      · ((first | refine W.advO 5000 _ _ ?_ | skip); simp only [go_sem, ↓reduceIte, Nat.reduceEqDiff, Nat.reduceAdd, Nat.reduceSub, Nat.reduceMul, Nat.reduceLeDiff, Nat.reduceBEq, reduceCtorEq, Int.reduceLT, Int.reduceLE, Int.reduceToNat, Int.reduceAdd, Int.reduceSub, Int.reduceBEq, Int.reduceBNe, madeV])
        (refine W.call1 (wrong_ok w0 e pos _) rfl rfl (by first | rfl | simp) ?_; refine W.advO 5000 _ _ ?_; simp only [go_sem, ↓reduceIte, Nat.reduceEqDiff, Nat.reduceAdd, Nat.reduceSub, Nat.reduceMul, Nat.reduceLeDiff, Nat.reduceBEq, reduceCtorEq, Int.reduceLT, Int.reduceLE, Int.reduceToNat, Int.reduceAdd, Int.reduceSub, Int.reduceBEq, Int.reduceBNe, he])
        refine W.no rfl ?_
        ((first | refine W.advO 5000 _ _ ?_ | skip); simp only [go_sem, ↓reduceIte, Nat.reduceEqDiff, Nat.reduceAdd, Nat.reduceSub, Nat.reduceMul, Nat.reduceLeDiff, Nat.reduceBEq, reduceCtorEq, Int.reduceLT, Int.reduceLE, Int.reduceToNat, Int.reduceAdd, Int.reduceSub, Int.reduceBEq, Int.reduceBNe])
        (apply W.dregE (List.cons_ne_nil _ _); case hc => ((apply CanonE.advPO; simp only [advPO_nil, advPO_loud, advPO_quiet, pL_yes, pL_no, pLS_some, pLS_none, pQ_yes, pQ_no, pQS_some, pQS_loud, eq_self, Nat.sub_zero, go_sem, ↓reduceIte, Nat.reduceEqDiff, Nat.reduceAdd, Nat.reduceSub, Nat.reduceMul, Nat.reduceLeDiff, Nat.reduceBEq, reduceCtorEq, Int.reduceLT, Int.reduceLE, Int.reduceToNat, Int.reduceAdd, Int.reduceSub, Int.reduceBEq, Int.reduceBNe]); exact CanonE.nil))
        ((first | refine W.advO 5000 _ _ ?_ | skip); simp only [go_sem, ↓reduceIte, Nat.reduceEqDiff, Nat.reduceAdd, Nat.reduceSub, Nat.reduceMul, Nat.reduceLeDiff, Nat.reduceBEq, reduceCtorEq, Int.reduceLT, Int.reduceLE, Int.reduceToNat, Int.reduceAdd, Int.reduceSub, Int.reduceBEq, Int.reduceBNe])
        (refine W.ret (Fin.gen (d := .tup [madeV m k, wrongV e pos]) (rdr_ok hok b l t i') (by (first | rfl | exact List.length_set .. | simp)) (by simp only [resEval, r36, go_sem, ↓reduceIte, Nat.reduceEqDiff, Nat.reduceAdd, Nat.reduceSub, Nat.reduceMul, Nat.reduceLeDiff, Nat.reduceBEq, reduceCtorEq, Int.reduceLT, Int.reduceLE, Int.reduceToNat, Int.reduceAdd, Int.reduceSub, Int.reduceBEq, Int.reduceBNe, madeV, wrongV]; rfl) (by simp only [resV, I, S, B, Pre.v, OpT.v, Tok.v, k_mk, name_mk, n_mk, l_mk, pos_mk, Pre.app, List.map_cons, List.map_nil, Pre.cs_eq, madeV, wrongV]; (repeat' (first | exact V.wk.rfl _ | exact V.wk.csl _ | exact V.wk.osl _ _ | exact wk_agg_nil | exact wk_tup_nil | refine wk_agg_cons ?_ ?_ | refine wk_tup_cons ?_ ?_))) (by (first | exact .c _ | (simp only [I, S, B, opsC, toksC, Pre.v, Tok.v, OpT.v, low_c, low_void, low_any, low_csl, low_nilf, low_ptr, low_osl, low_agg, low_tup, low_fn, List.forall_mem_cons, List.not_mem_nil, false_implies, implies_true, and_self, and_true, true_and, madeV, wrongV]; done))) (by (first | rfl | exact (List.append_nil _).symm)) ?_))
        exact ⟨he, m, k, i', rfl, rfl⟩
end Go.Proofs.YtpgkhkojjklakaaGreatDoor
namespace Go.Proofs.YtpgkhkojjklakaaGreatDoor
open Go.RowKit Go.Lamb
attribute [local go_sem] advO_skip advO_reg advO_seq advO_block advO_exit advO_endb advO_opsNil advO_ops advG_yes advG_no advG_none advS_some advS_none advO_cond advO_loop advO_dreg advO_ret advO_bad advO_inv advO_nil advO_zero wantedV Lamb.step ev_t ev_k put_some put_none argEnv popTo cellsAt V.cellsV V.rows V.toC toCs fillV rowsV boundV boundL binV binInt binStr eqC eqL V.isNil leaves V.leaf Ins.quiet Ins.pure List.getD_cons_zero List.getD_cons_succ List.getD_nil List.all_cons List.all_nil List.length_cons List.length_nil List.take_succ_cons List.take_zero List.drop_succ_cons List.drop_zero List.cons_append List.nil_append List.append_nil List.append_assoc List.map_cons List.map_nil List.getElem?_cons_zero List.getElem?_cons_succ List.length_append List.length_set hget0 hget hset0 hset hsets hgs0 hgs hss0 hss List.set_cons_zero List.set_cons_succ List.forall_mem_cons List.not_mem_nil false_implies implies_true Option.map_some Bool.and_true Bool.true_and Bool.not_not Bool.not_true Bool.not_false Bool.and_self Bool.or_true Bool.true_or Bool.or_false Bool.false_or Bool.and_false Bool.false_and Bool.false_eq_true beq_self_eq_true and_self and_true true_and if_true if_false Nat.zero_add Nat.add_zero Nat.le_refl Int.toNat_natCast decide_true decide_false beq_t beq_f List.length_map List.getElem?_map I S B opsC toksC OpT.v OpT.cs OpT.zero Tok.v Tok.cs Pre.v Pre.cs_eq k_mk name_mk n_mk l_mk pos_mk Pre.app applyL natCast0 natCast1 natCast2

theorem read_all (w0 : World) : ∀ f, (∀ g, g ≤ f → AtomOK w0 g) ∧ (∀ g, g ≤ f → ExprOK w0 g)
  | 0 => ⟨fun g hg => by
      have : g = 0 := by omega
      subst this
      intro l t depth i r σ b h
      simp [atomF] at h, fun g hg => by
      have : g = 0 := by omega
      subst this
      intro l t least depth i r σ b h
      simp [exprF] at h⟩
  | f + 1 => by
    obtain ⟨h1, h2⟩ := read_all w0 f
    refine ⟨fun g hg => ?_, fun g hg => ?_⟩
    · rcases Nat.lt_or_ge f g with h | h
      · have : g = f + 1 := by omega
        subst this
        exact read_atom (h2 f (Nat.le_refl f))
      · exact h1 g h
    · rcases Nat.lt_or_ge f g with h | h
      · have : g = f + 1 := by omega
        subst this
        exact read_expr h1 h2
      · exact h2 g h
/-- What Read hands back. -/
def readV (from_ : Nat) : Except Bad (Made × Nat) → V
  | .ok (m, j) => .tup [m.p.v, I j, I 0, I 0]
  | .error b => .tup [Pre.none.v, I from_, I b.e, I b.pos]
theorem read_Read (w0 : World) (l : List OpT) (t : List Tok) (i : Nat) (r : Except Bad (Made × Nat)) (σ : H) (h : Lamb.Expr l t 0 0 i r) (hi : i ≤ t.length) (ht : t.length ≤ 1000000) :
    DC Tryz.prog w0 15 [.c (opsC l), .c (toksC t), I i] σ (Same (readV i r) σ) := by
  obtain ⟨f, h⟩ := h
  refine go15 rfl (fun hok hsz => ?_)
  ((first | refine W.advO 5000 _ _ ?_ | skip); simp only [go_sem, ↓reduceIte, Nat.reduceEqDiff, Nat.reduceAdd, Nat.reduceSub, Nat.reduceMul, Nat.reduceLeDiff, Nat.reduceBEq, reduceCtorEq, Int.reduceLT, Int.reduceLE, Int.reduceToNat, Int.reduceAdd, Int.reduceSub, Int.reduceBEq, Int.reduceBNe, c15])
  (refine W.call ((read_all w0 f).2 f (Nat.le_refl f) l t 0 0 i r _ (σ.length + 1) h (hget σ _ 1) hi ht (by omega)) rfl rfl (by first | rfl | simp) ?_)
  intro v σ1 hR
  cases r with
  | ok x =>
    obtain ⟨m, j⟩ := x
    obtain ⟨k, hk, rfl, rfl⟩ := hR
    ((first | refine W.advO 5000 _ _ ?_ | skip); simp only [go_sem, ↓reduceIte, Nat.reduceEqDiff, Nat.reduceAdd, Nat.reduceSub, Nat.reduceMul, Nat.reduceLeDiff, Nat.reduceBEq, reduceCtorEq, Int.reduceLT, Int.reduceLE, Int.reduceToNat, Int.reduceAdd, Int.reduceSub, Int.reduceBEq, Int.reduceBNe, madeV, wrongV])
    (refine W.call1 (wrong_ok w0 0 0 _) rfl rfl (by first | rfl | simp) ?_; refine W.advO 5000 _ _ ?_; simp only [go_sem, ↓reduceIte, Nat.reduceEqDiff, Nat.reduceAdd, Nat.reduceSub, Nat.reduceMul, Nat.reduceLeDiff, Nat.reduceBEq, reduceCtorEq, Int.reduceLT, Int.reduceLE, Int.reduceToNat, Int.reduceAdd, Int.reduceSub, Int.reduceBEq, Int.reduceBNe])
    refine W.no rfl ?_
    ((first | refine W.advO 5000 _ _ ?_ | skip); simp only [go_sem, ↓reduceIte, Nat.reduceEqDiff, Nat.reduceAdd, Nat.reduceSub, Nat.reduceMul, Nat.reduceLeDiff, Nat.reduceBEq, reduceCtorEq, Int.reduceLT, Int.reduceLE, Int.reduceToNat, Int.reduceAdd, Int.reduceSub, Int.reduceBEq, Int.reduceBNe])
    (apply W.dregE (List.cons_ne_nil _ _); case hc => ((apply CanonE.advPO; simp only [advPO_nil, advPO_loud, advPO_quiet, pL_yes, pL_no, pLS_some, pLS_none, pQ_yes, pQ_no, pQS_some, pQS_loud, eq_self, Nat.sub_zero, go_sem, ↓reduceIte, Nat.reduceEqDiff, Nat.reduceAdd, Nat.reduceSub, Nat.reduceMul, Nat.reduceLeDiff, Nat.reduceBEq, reduceCtorEq, Int.reduceLT, Int.reduceLE, Int.reduceToNat, Int.reduceAdd, Int.reduceSub, Int.reduceBEq, Int.reduceBNe, rdr]); exact CanonE.nil))
    ((first | refine W.advO 5000 _ _ ?_ | skip); simp only [go_sem, ↓reduceIte, Nat.reduceEqDiff, Nat.reduceAdd, Nat.reduceSub, Nat.reduceMul, Nat.reduceLeDiff, Nat.reduceBEq, reduceCtorEq, Int.reduceLT, Int.reduceLE, Int.reduceToNat, Int.reduceAdd, Int.reduceSub, Int.reduceBEq, Int.reduceBNe])
    (refine W.ret (Fin.sameW (hok) (by (first | rfl | exact List.length_set .. | simp)) (by simp only [resEval, r15, go_sem, ↓reduceIte, Nat.reduceEqDiff, Nat.reduceAdd, Nat.reduceSub, Nat.reduceMul, Nat.reduceLeDiff, Nat.reduceBEq, reduceCtorEq, Int.reduceLT, Int.reduceLE, Int.reduceToNat, Int.reduceAdd, Int.reduceSub, Int.reduceBEq, Int.reduceBNe, readV]; rfl) ?_ (by (first | exact .c _ | (simp only [I, S, B, opsC, toksC, Pre.v, Tok.v, OpT.v, low_c, low_void, low_any, low_csl, low_nilf, low_ptr, low_osl, low_agg, low_tup, low_fn, List.forall_mem_cons, List.not_mem_nil, false_implies, implies_true, and_self, and_true, true_and, readV]; done))) (by (first | rfl | exact (List.append_nil _).symm))); simp only [resV, readV]; try exact V.wk.rfl _)
    (repeat' (first | exact V.wk.rfl _ | exact V.wk.csl _ | exact V.wk.osl _ _ | exact wk_agg_nil | exact wk_tup_nil | refine wk_agg_cons ?_ ?_ | refine wk_tup_cons ?_ ?_))
  | error x =>
    obtain ⟨he, m, k, j, rfl, rfl⟩ := hR
    ((first | refine W.advO 5000 _ _ ?_ | skip); simp only [go_sem, ↓reduceIte, Nat.reduceEqDiff, Nat.reduceAdd, Nat.reduceSub, Nat.reduceMul, Nat.reduceLeDiff, Nat.reduceBEq, reduceCtorEq, Int.reduceLT, Int.reduceLE, Int.reduceToNat, Int.reduceAdd, Int.reduceSub, Int.reduceBEq, Int.reduceBNe, madeV, wrongV])
    (refine W.call1 (wrong_ok w0 x.e x.pos _) rfl rfl (by first | rfl | simp) ?_; refine W.advO 5000 _ _ ?_; simp only [go_sem, ↓reduceIte, Nat.reduceEqDiff, Nat.reduceAdd, Nat.reduceSub, Nat.reduceMul, Nat.reduceLeDiff, Nat.reduceBEq, reduceCtorEq, Int.reduceLT, Int.reduceLE, Int.reduceToNat, Int.reduceAdd, Int.reduceSub, Int.reduceBEq, Int.reduceBNe, he])
    refine W.yes rfl ?_
    ((first | refine W.advO 5000 _ _ ?_ | skip); simp only [go_sem, ↓reduceIte, Nat.reduceEqDiff, Nat.reduceAdd, Nat.reduceSub, Nat.reduceMul, Nat.reduceLeDiff, Nat.reduceBEq, reduceCtorEq, Int.reduceLT, Int.reduceLE, Int.reduceToNat, Int.reduceAdd, Int.reduceSub, Int.reduceBEq, Int.reduceBNe])
    (apply W.dregE (List.cons_ne_nil _ _); case hc => ((apply CanonE.advPO; simp only [advPO_nil, advPO_loud, advPO_quiet, pL_yes, pL_no, pLS_some, pLS_none, pQ_yes, pQ_no, pQS_some, pQS_loud, eq_self, Nat.sub_zero, go_sem, ↓reduceIte, Nat.reduceEqDiff, Nat.reduceAdd, Nat.reduceSub, Nat.reduceMul, Nat.reduceLeDiff, Nat.reduceBEq, reduceCtorEq, Int.reduceLT, Int.reduceLE, Int.reduceToNat, Int.reduceAdd, Int.reduceSub, Int.reduceBEq, Int.reduceBNe]); exact CanonE.nil))
    ((first | refine W.advO 5000 _ _ ?_ | skip); simp only [go_sem, ↓reduceIte, Nat.reduceEqDiff, Nat.reduceAdd, Nat.reduceSub, Nat.reduceMul, Nat.reduceLeDiff, Nat.reduceBEq, reduceCtorEq, Int.reduceLT, Int.reduceLE, Int.reduceToNat, Int.reduceAdd, Int.reduceSub, Int.reduceBEq, Int.reduceBNe])
    (refine W.ret (Fin.sameW (hok) (by (first | rfl | exact List.length_set .. | simp)) (by simp only [resEval, r15, go_sem, ↓reduceIte, Nat.reduceEqDiff, Nat.reduceAdd, Nat.reduceSub, Nat.reduceMul, Nat.reduceLeDiff, Nat.reduceBEq, reduceCtorEq, Int.reduceLT, Int.reduceLE, Int.reduceToNat, Int.reduceAdd, Int.reduceSub, Int.reduceBEq, Int.reduceBNe, readV, Pre.none]; rfl) ?_ (by (first | exact .c _ | (simp only [I, S, B, opsC, toksC, Pre.v, Tok.v, OpT.v, low_c, low_void, low_any, low_csl, low_nilf, low_ptr, low_osl, low_agg, low_tup, low_fn, List.forall_mem_cons, List.not_mem_nil, false_implies, implies_true, and_self, and_true, true_and, readV, Pre.none]; done))) (by (first | rfl | exact (List.append_nil _).symm))); simp only [resV, readV, Pre.none]; try exact V.wk.rfl _)
    (repeat' (first | exact V.wk.rfl _ | exact V.wk.csl _ | exact V.wk.osl _ _ | exact wk_agg_nil | exact wk_tup_nil | refine wk_agg_cons ?_ ?_ | refine wk_tup_cons ?_ ?_))
end Go.Proofs.YtpgkhkojjklakaaGreatDoor
namespace Go.Proofs.YtpgkhkojjklakaaGreatDoor
open Go.RowKit Go.Lamb
/-- lambentref03.Tok -/
def c86 : AC :=
  .seq (.reg [⟨some 4, .box (.k (.agg [.c (.int .i64 0), .c (.str []), .c (.int .i64 0), .c (.int .i64 0)])), none⟩])
  (.seq (.seq (.reg [⟨some 6, .mov (.t 1), none⟩,
    ⟨some 7, .bin .geq (.t 6) (.k (.c (.int .i64 0))), none⟩,
    ⟨some 8, .mov (.t 7), none⟩,
    ⟨some 9, .mov (.t 1), some (8, true)⟩,
    ⟨some 10, .mov (.t 0), some (8, true)⟩,
    ⟨some 11, .lenr (.t 10), some (8, true)⟩,
    ⟨some 12, .bin .lss (.t 9) (.t 11), some (8, true)⟩,
    ⟨some 13, .pick (.t 8) (.t 12) (.k (.c (.bool false))), none⟩])
  (.cond (.t 13)
  (.seq (.reg [⟨some 14, .mov (.t 0), none⟩,
    ⟨some 15, .mov (.t 1), none⟩,
    ⟨some 16, .iadd 4 (.t 14) (.t 15), none⟩,
    ⟨some 17, .loadn 4 (.t 16), none⟩,
    ⟨none, .store 4 (.t 4) (.t 17), none⟩])
  (.ret))
  (.skip)))
  (.seq (.reg [⟨some 5, .mov (.k (.c (.int .i64 0))), none⟩])
  (.seq (.seq (.reg [⟨some 18, .mov (.t 0), none⟩,
    ⟨some 19, .lenr (.t 18), none⟩,
    ⟨some 20, .bin .gtr (.t 19) (.k (.c (.int .i64 0))), none⟩])
  (.cond (.t 20)
  (.reg [⟨some 21, .mov (.t 0), none⟩,
    ⟨some 22, .mov (.t 0), none⟩,
    ⟨some 23, .lenr (.t 22), none⟩,
    ⟨some 24, .bin .sub (.t 23) (.k (.c (.int .i64 1))), none⟩,
    ⟨some 25, .iadd 4 (.t 21) (.t 24), none⟩,
    ⟨some 26, .fadd 3 (.t 25), none⟩,
    ⟨some 27, .load1 (.t 26), none⟩,
    ⟨some 5, .mov (.t 27), none⟩])
  (.skip)))
  (.seq (.reg [⟨some 28, .mov (.t 5), none⟩,
    ⟨some 29, .build [.c (.int .i64 0), .c (.str []), .c (.int .i64 0), .c (.int .i64 0)] [(3, 1, (.t 28))], none⟩,
    ⟨none, .store 4 (.t 4) (.t 29), none⟩])
  (.ret)))))
def r86 : List ResV := [.celln 4 4]
theorem tr86 : tr Tryz.prog Tryz.f86.ntmps (Tryz.f86.body.getD .skip) = some c86 := by kernel_rfl
theorem tre86 : trRes Tryz.prog Tryz.f86.results.toList = some r86 := by kernel_rfl
theorem en86 : Enters Tryz.prog 86 := enters_fn Tryz.func86 (by kernel_rfl) rfl
theorem go86 {w0 : World} {args : List V} {σ : H} {R : V → H → Prop} (ha : args.length = 2) (h : H.ok σ → (∀ x ∈ args, V.Sz x) → W Tryz.prog w0 σ.length (Fin r86 σ.length R) [.code c86] ⟨argEnv args, σ⟩) : DC Tryz.prog w0 86 args σ R :=
  DC.of_code (by kernel_rfl) Tryz.func86 rfl tr86 tre86 (by rw [ha]; exact by decide) en86 h
/-- (*lambentref03.State).fail -/
def c88 : AC :=
  .seq (.reg [⟨some 6, .mov (.t 0), none⟩,
    ⟨some 7, .nilck (.t 6), none⟩,
    ⟨some 8, .fadd 3 (.t 7), none⟩,
    ⟨some 9, .load1 (.t 8), none⟩,
    ⟨some 10, .bin .eql (.t 9) (.k (.c (.int .i64 0))), none⟩])
  (.cond (.t 10)
  (.seq (.reg [⟨some 11, .mov (.t 0), none⟩,
    ⟨some 12, .mov (.t 1), none⟩,
    ⟨some 13, .nilck (.t 11), none⟩,
    ⟨some 14, .fadd 3 (.t 13), none⟩,
    ⟨none, .store 1 (.t 14) (.t 12), none⟩])
  (.reg [⟨some 15, .mov (.t 0), none⟩,
    ⟨some 16, .mov (.t 2), none⟩,
    ⟨some 17, .nilck (.t 15), none⟩,
    ⟨some 18, .fadd 4 (.t 17), none⟩,
    ⟨none, .store 1 (.t 18) (.t 16), none⟩]))
  (.skip))
def r88 : List ResV := []
theorem tr88 : tr Tryz.prog Tryz.f88.ntmps (Tryz.f88.body.getD .skip) = some c88 := by kernel_rfl
theorem tre88 : trRes Tryz.prog Tryz.f88.results.toList = some r88 := by kernel_rfl
theorem en88 : Enters Tryz.prog 88 := enters_fn Tryz.func88 (by kernel_rfl) rfl
theorem go88 {w0 : World} {args : List V} {σ : H} {R : V → H → Prop} (ha : args.length = 3) (h : H.ok σ → (∀ x ∈ args, V.Sz x) → W Tryz.prog w0 σ.length (Fin r88 σ.length R) [.code c88] ⟨argEnv args, σ⟩) : DC Tryz.prog w0 88 args σ R :=
  DC.of_code (by kernel_rfl) Tryz.func88 rfl tr88 tre88 (by rw [ha]; exact by decide) en88 h
/-- (*lambentref03.State).begins -/
def c125 : AC :=
  .seq (.reg [⟨some 2, .mov (.k (.c (.bool false))), none⟩])
  (.seq (.dreg [⟨some 6, .mov (.t 0), none⟩,
    ⟨some 7, .nilck (.t 6), none⟩,
    ⟨some 8, .fadd 1 (.t 7), none⟩,
    ⟨some 9, .load1 (.t 8), none⟩,
    ⟨some 10, .mov (.t 0), none⟩,
    ⟨some 11, .nilck (.t 10), none⟩,
    ⟨some 12, .fadd 2 (.t 11), none⟩,
    ⟨some 13, .load1 (.t 12), none⟩,
    ⟨some 14, .call (.k (.fn 86 [])) [(.t 9), (.t 13)], none⟩,
    ⟨some 3, .box (.k (.agg [.c (.int .i64 0), .c (.str []), .c (.int .i64 0), .c (.int .i64 0)])), none⟩,
    ⟨none, .store 4 (.t 3) (.t 14), none⟩]
    [⟨⟨some 3, .box (.k (.agg [.c (.int .i64 0), .c (.str []), .c (.int .i64 0), .c (.int .i64 0)])), none⟩, true, 0⟩,
    ⟨⟨some 6, .mov (.t 0), none⟩, false, 0⟩,
    ⟨⟨some 7, .nilck (.t 6), none⟩, false, 0⟩,
    ⟨⟨some 8, .fadd 1 (.t 7), none⟩, false, 0⟩,
    ⟨⟨some 9, .load1 (.t 8), none⟩, false, 0⟩,
    ⟨⟨some 10, .mov (.t 0), none⟩, false, 0⟩,
    ⟨⟨some 11, .nilck (.t 10), none⟩, false, 0⟩,
    ⟨⟨some 12, .fadd 2 (.t 11), none⟩, false, 0⟩,
    ⟨⟨some 13, .load1 (.t 12), none⟩, false, 0⟩,
    ⟨⟨some 14, .call (.k (.fn 86 [])) [(.t 9), (.t 13)], none⟩, false, 0⟩,
    ⟨⟨none, .store 4 (.t 3) (.t 14), none⟩, true, 1⟩])
  (.seq (.dreg [⟨some 16, .mov (.t 0), none⟩,
    ⟨some 17, .nilck (.t 16), none⟩,
    ⟨some 18, .fadd 0 (.t 17), none⟩,
    ⟨some 19, .load1 (.t 18), none⟩,
    ⟨some 20, .loadn 4 (.t 3), none⟩,
    ⟨some 21, .call (.k (.fn 87 [])) [(.t 19), (.t 20)], none⟩,
    ⟨some 15, .mov (.t 21), none⟩,
    ⟨some 22, .ext (.t 15) 0, none⟩,
    ⟨some 23, .ext (.t 15) 1, none⟩,
    ⟨some 4, .box (.k (.agg [.c (.str []), .c (.int .i64 0), .c (.int .i64 0)])), none⟩,
    ⟨none, .store 3 (.t 4) (.t 22), none⟩,
    ⟨some 5, .mov (.t 23), none⟩]
    [⟨⟨some 4, .box (.k (.agg [.c (.str []), .c (.int .i64 0), .c (.int .i64 0)])), none⟩, true, 0⟩,
    ⟨⟨some 16, .mov (.t 0), none⟩, false, 0⟩,
    ⟨⟨some 17, .nilck (.t 16), none⟩, false, 0⟩,
    ⟨⟨some 18, .fadd 0 (.t 17), none⟩, false, 0⟩,
    ⟨⟨some 19, .load1 (.t 18), none⟩, false, 0⟩,
    ⟨⟨some 20, .loadn 4 (.t 3), none⟩, false, 0⟩,
    ⟨⟨some 21, .call (.k (.fn 87 [])) [(.t 19), (.t 20)], none⟩, false, 0⟩,
    ⟨⟨some 15, .mov (.t 21), none⟩, false, 0⟩,
    ⟨⟨some 22, .ext (.t 15) 0, none⟩, false, 0⟩,
    ⟨⟨none, .store 3 (.t 4) (.t 22), none⟩, true, 1⟩,
    ⟨⟨some 23, .ext (.t 15) 1, none⟩, false, 0⟩,
    ⟨⟨some 5, .mov (.t 23), none⟩, false, 2⟩])
  (.seq (.seq (.reg [⟨some 24, .fadd 0 (.t 3), none⟩,
    ⟨some 25, .load1 (.t 24), none⟩,
    ⟨some 26, .bin .eql (.t 25) (.k (.c (.int .i64 1))), none⟩,
    ⟨some 27, .mov (.t 26), none⟩,
    ⟨some 28, .fadd 0 (.t 3), some (27, false)⟩,
    ⟨some 29, .load1 (.t 28), some (27, false)⟩,
    ⟨some 30, .bin .eql (.t 29) (.k (.c (.int .i64 4))), some (27, false)⟩,
    ⟨some 31, .pick (.t 27) (.k (.c (.bool true))) (.t 30), none⟩])
  (.cond (.t 31)
  (.seq (.reg [⟨some 32, .mov (.t 5), none⟩,
    ⟨some 33, .un .not (.t 32), none⟩,
    ⟨some 2, .mov (.t 33), none⟩])
  (.ret))
  (.skip)))
  (.seq (.reg [⟨some 34, .fadd 0 (.t 3), none⟩,
    ⟨some 35, .load1 (.t 34), none⟩,
    ⟨some 36, .bin .eql (.t 35) (.k (.c (.int .i64 2))), none⟩,
    ⟨some 37, .mov (.t 36), none⟩,
    ⟨some 38, .fadd 0 (.t 3), some (37, false)⟩,
    ⟨some 39, .load1 (.t 38), some (37, false)⟩,
    ⟨some 40, .bin .eql (.t 39) (.k (.c (.int .i64 3))), some (37, false)⟩,
    ⟨some 41, .pick (.t 37) (.k (.c (.bool true))) (.t 40), none⟩,
    ⟨some 42, .mov (.t 41), none⟩,
    ⟨some 43, .fadd 0 (.t 3), some (42, false)⟩,
    ⟨some 44, .load1 (.t 43), some (42, false)⟩,
    ⟨some 45, .bin .eql (.t 44) (.k (.c (.int .i64 5))), some (42, false)⟩,
    ⟨some 46, .pick (.t 42) (.k (.c (.bool true))) (.t 45), none⟩,
    ⟨some 2, .mov (.t 46), none⟩])
  (.ret)))))
def r125 : List ResV := [.tmp 2]
theorem tr125 : tr Tryz.prog Tryz.f125.ntmps (Tryz.f125.body.getD .skip) = some c125 := by kernel_rfl
theorem tre125 : trRes Tryz.prog Tryz.f125.results.toList = some r125 := by kernel_rfl
theorem en125 : Enters Tryz.prog 125 := enters_fn Tryz.func125 (by kernel_rfl) rfl
theorem go125 {w0 : World} {args : List V} {σ : H} {R : V → H → Prop} (ha : args.length = 1) (h : H.ok σ → (∀ x ∈ args, V.Sz x) → W Tryz.prog w0 σ.length (Fin r125 σ.length R) [.code c125] ⟨argEnv args, σ⟩) : DC Tryz.prog w0 125 args σ R :=
  DC.of_code (by kernel_rfl) Tryz.func125 rfl tr125 tre125 (by rw [ha]; exact by decide) en125 h
/-- (*lambentref03.State).deep -/
def c89 : AC :=
  .seq (.reg [⟨some 6, .mov (.k (.c (.bool false))), none⟩])
  (.seq (.seq (.reg [⟨some 7, .mov (.t 1), none⟩,
    ⟨some 8, .bin .add (.t 7) (.k (.c (.int .i64 1))), none⟩,
    ⟨some 9, .bin .gtr (.t 8) (.k (.c (.int .i64 200))), none⟩])
  (.cond (.t 9)
  (.seq (.reg [⟨some 10, .mov (.t 0), none⟩,
    ⟨some 11, .mov (.t 2), none⟩,
    ⟨some 12, .call (.k (.fn 88 [])) [(.t 10), (.k (.c (.int .i64 31))), (.t 11)], none⟩])
  (.seq (.reg [⟨some 6, .mov (.k (.c (.bool false))), none⟩])
  (.ret)))
  (.skip)))
  (.seq (.reg [⟨some 6, .mov (.k (.c (.bool true))), none⟩])
  (.ret)))
def r89 : List ResV := [.tmp 6]
theorem tr89 : tr Tryz.prog Tryz.f89.ntmps (Tryz.f89.body.getD .skip) = some c89 := by kernel_rfl
theorem tre89 : trRes Tryz.prog Tryz.f89.results.toList = some r89 := by kernel_rfl
theorem en89 : Enters Tryz.prog 89 := enters_fn Tryz.func89 (by kernel_rfl) rfl
theorem go89 {w0 : World} {args : List V} {σ : H} {R : V → H → Prop} (ha : args.length = 3) (h : H.ok σ → (∀ x ∈ args, V.Sz x) → W Tryz.prog w0 σ.length (Fin r89 σ.length R) [.code c89] ⟨argEnv args, σ⟩) : DC Tryz.prog w0 89 args σ R :=
  DC.of_code (by kernel_rfl) Tryz.func89 rfl tr89 tre89 (by rw [ha]; exact by decide) en89 h
/-- (*lambentref03.State).Atom -/
def c124 : AC :=
  .seq (.reg [⟨some 4, .box (.k (.agg [.c (.int .i64 0), .c (.str []), .c (.int .i64 0), .csl [], .c (.int .i64 0)])), none⟩,
    ⟨some 5, .mov (.k (.c (.bool false))), none⟩])
  (.seq (.dreg [⟨some 17, .mov (.t 0), none⟩,
    ⟨some 18, .nilck (.t 17), none⟩,
    ⟨some 19, .fadd 1 (.t 18), none⟩,
    ⟨some 20, .load1 (.t 19), none⟩,
    ⟨some 21, .mov (.t 0), none⟩,
    ⟨some 22, .nilck (.t 21), none⟩,
    ⟨some 23, .fadd 2 (.t 22), none⟩,
    ⟨some 24, .load1 (.t 23), none⟩,
    ⟨some 25, .call (.k (.fn 86 [])) [(.t 20), (.t 24)], none⟩,
    ⟨some 6, .box (.k (.agg [.c (.int .i64 0), .c (.str []), .c (.int .i64 0), .c (.int .i64 0)])), none⟩,
    ⟨none, .store 4 (.t 6) (.t 25), none⟩]
    [⟨⟨some 6, .box (.k (.agg [.c (.int .i64 0), .c (.str []), .c (.int .i64 0), .c (.int .i64 0)])), none⟩, true, 0⟩,
    ⟨⟨some 17, .mov (.t 0), none⟩, false, 0⟩,
    ⟨⟨some 18, .nilck (.t 17), none⟩, false, 0⟩,
    ⟨⟨some 19, .fadd 1 (.t 18), none⟩, false, 0⟩,
    ⟨⟨some 20, .load1 (.t 19), none⟩, false, 0⟩,
    ⟨⟨some 21, .mov (.t 0), none⟩, false, 0⟩,
    ⟨⟨some 22, .nilck (.t 21), none⟩, false, 0⟩,
    ⟨⟨some 23, .fadd 2 (.t 22), none⟩, false, 0⟩,
    ⟨⟨some 24, .load1 (.t 23), none⟩, false, 0⟩,
    ⟨⟨some 25, .call (.k (.fn 86 [])) [(.t 20), (.t 24)], none⟩, false, 0⟩,
    ⟨⟨none, .store 4 (.t 6) (.t 25), none⟩, true, 1⟩])
  (.seq (.reg [⟨some 26, .mov (.t 0), none⟩,
    ⟨some 27, .call (.k (.fn 125 [])) [(.t 26)], none⟩,
    ⟨some 7, .mov (.t 27), none⟩])
  (.seq (.seq (.reg [⟨some 28, .mov (.t 7), none⟩,
    ⟨some 29, .un .not (.t 28), none⟩])
  (.cond (.t 29)
  (.seq (.reg [⟨some 30, .mov (.t 0), none⟩,
    ⟨some 31, .fadd 3 (.t 6), none⟩,
    ⟨some 32, .load1 (.t 31), none⟩,
    ⟨some 33, .call (.k (.fn 88 [])) [(.t 30), (.k (.c (.int .i64 30))), (.t 32)], none⟩])
  (.seq (.reg [⟨some 34, .build [.c (.int .i64 0), .c (.str []), .c (.int .i64 0), .csl [], .c (.int .i64 0)] [], none⟩,
    ⟨none, .store 5 (.t 4) (.t 34), none⟩,
    ⟨some 5, .mov (.k (.c (.bool false))), none⟩])
  (.ret)))
  (.skip)))
  (.seq (.dreg [⟨some 35, .mov (.t 0), none⟩,
    ⟨some 36, .nilck (.t 35), none⟩,
    ⟨some 37, .fadd 1 (.t 36), none⟩,
    ⟨some 38, .load1 (.t 37), none⟩,
    ⟨some 39, .mov (.t 0), none⟩,
    ⟨some 40, .nilck (.t 39), none⟩,
    ⟨some 41, .fadd 2 (.t 40), none⟩,
    ⟨some 42, .load1 (.t 41), none⟩,
    ⟨some 43, .bin .add (.t 42) (.k (.c (.int .i64 1))), none⟩,
    ⟨some 44, .call (.k (.fn 86 [])) [(.t 38), (.t 43)], none⟩,
    ⟨some 8, .box (.k (.agg [.c (.int .i64 0), .c (.str []), .c (.int .i64 0), .c (.int .i64 0)])), none⟩,
    ⟨none, .store 4 (.t 8) (.t 44), none⟩]
    [⟨⟨some 8, .box (.k (.agg [.c (.int .i64 0), .c (.str []), .c (.int .i64 0), .c (.int .i64 0)])), none⟩, true, 0⟩,
    ⟨⟨some 35, .mov (.t 0), none⟩, false, 0⟩,
    ⟨⟨some 36, .nilck (.t 35), none⟩, false, 0⟩,
    ⟨⟨some 37, .fadd 1 (.t 36), none⟩, false, 0⟩,
    ⟨⟨some 38, .load1 (.t 37), none⟩, false, 0⟩,
    ⟨⟨some 39, .mov (.t 0), none⟩, false, 0⟩,
    ⟨⟨some 40, .nilck (.t 39), none⟩, false, 0⟩,
    ⟨⟨some 41, .fadd 2 (.t 40), none⟩, false, 0⟩,
    ⟨⟨some 42, .load1 (.t 41), none⟩, false, 0⟩,
    ⟨⟨some 43, .bin .add (.t 42) (.k (.c (.int .i64 1))), none⟩, false, 0⟩,
    ⟨⟨some 44, .call (.k (.fn 86 [])) [(.t 38), (.t 43)], none⟩, false, 0⟩,
    ⟨⟨none, .store 4 (.t 8) (.t 44), none⟩, true, 1⟩])
  (.seq (.seq (.reg [⟨some 45, .fadd 0 (.t 6), none⟩,
    ⟨some 46, .load1 (.t 45), none⟩])
  (.block 0 (.seq (.reg [⟨some 48, .bin .eql (.t 46) (.k (.c (.int .i64 3))), none⟩,
    ⟨some 47, .mov (.t 48), none⟩])
  (.cond (.t 47)
  (.seq (.reg [⟨some 49, .mov (.t 0), none⟩,
    ⟨some 50, .nilck (.t 49), none⟩,
    ⟨some 51, .fadd 2 (.t 50), none⟩,
    ⟨some 52, .load1 (.t 51), none⟩,
    ⟨some 53, .bin .add (.t 52) (.k (.c (.int .i64 1))), none⟩,
    ⟨some 54, .nilck (.t 49), none⟩,
    ⟨some 55, .fadd 2 (.t 54), none⟩,
    ⟨none, .store 1 (.t 55) (.t 53), none⟩])
  (.seq (.reg [⟨some 56, .fadd 2 (.t 6), none⟩,
    ⟨some 57, .load1 (.t 56), none⟩,
    ⟨some 58, .fadd 3 (.t 6), none⟩,
    ⟨some 59, .load1 (.t 58), none⟩,
    ⟨some 60, .build [.c (.int .i64 0), .c (.str []), .c (.int .i64 0), .csl [], .c (.int .i64 0)] [(0, 1, (.k (.c (.int .i64 2)))), (2, 1, (.t 57)), (4, 1, (.t 59))], none⟩,
    ⟨none, .store 5 (.t 4) (.t 60), none⟩,
    ⟨some 5, .mov (.k (.c (.bool false))), none⟩])
  (.ret)))
  (.seq (.reg [⟨some 62, .bin .eql (.t 46) (.k (.c (.int .i64 4))), none⟩,
    ⟨some 61, .mov (.t 62), none⟩])
  (.cond (.t 61)
  (.seq (.reg [⟨some 63, .mov (.t 0), none⟩,
    ⟨some 64, .nilck (.t 63), none⟩,
    ⟨some 65, .fadd 2 (.t 64), none⟩,
    ⟨some 66, .load1 (.t 65), none⟩,
    ⟨some 67, .bin .add (.t 66) (.k (.c (.int .i64 1))), none⟩,
    ⟨some 68, .nilck (.t 63), none⟩,
    ⟨some 69, .fadd 2 (.t 68), none⟩,
    ⟨none, .store 1 (.t 69) (.t 67), none⟩])
  (.seq (.reg [⟨some 70, .fadd 1 (.t 6), none⟩,
    ⟨some 71, .load1 (.t 70), none⟩,
    ⟨some 72, .fadd 3 (.t 6), none⟩,
    ⟨some 73, .load1 (.t 72), none⟩,
    ⟨some 74, .build [.c (.int .i64 0), .c (.str []), .c (.int .i64 0), .csl [], .c (.int .i64 0)] [(0, 1, (.k (.c (.int .i64 0)))), (1, 1, (.t 71)), (4, 1, (.t 73))], none⟩,
    ⟨none, .store 5 (.t 4) (.t 74), none⟩,
    ⟨some 5, .mov (.k (.c (.bool false))), none⟩])
  (.ret)))
  (.seq (.reg [⟨some 76, .bin .eql (.t 46) (.k (.c (.int .i64 5))), none⟩,
    ⟨some 75, .mov (.t 76), none⟩])
  (.cond (.t 75)
  (.seq (.dreg [⟨some 78, .mov (.t 0), none⟩,
    ⟨some 79, .nilck (.t 78), none⟩,
    ⟨some 80, .fadd 0 (.t 79), none⟩,
    ⟨some 81, .load1 (.t 80), none⟩,
    ⟨some 82, .loadn 4 (.t 8), none⟩,
    ⟨some 83, .call (.k (.fn 87 [])) [(.t 81), (.t 82)], none⟩,
    ⟨some 77, .mov (.t 83), none⟩,
    ⟨some 84, .ext (.t 77) 0, none⟩,
    ⟨some 85, .ext (.t 77) 1, none⟩,
    ⟨some 9, .box (.k (.agg [.c (.str []), .c (.int .i64 0), .c (.int .i64 0)])), none⟩,
    ⟨none, .store 3 (.t 9) (.t 84), none⟩,
    ⟨some 10, .mov (.t 85), none⟩]
    [⟨⟨some 9, .box (.k (.agg [.c (.str []), .c (.int .i64 0), .c (.int .i64 0)])), none⟩, true, 0⟩,
    ⟨⟨some 78, .mov (.t 0), none⟩, false, 0⟩,
    ⟨⟨some 79, .nilck (.t 78), none⟩, false, 0⟩,
    ⟨⟨some 80, .fadd 0 (.t 79), none⟩, false, 0⟩,
    ⟨⟨some 81, .load1 (.t 80), none⟩, false, 0⟩,
    ⟨⟨some 82, .loadn 4 (.t 8), none⟩, false, 0⟩,
    ⟨⟨some 83, .call (.k (.fn 87 [])) [(.t 81), (.t 82)], none⟩, false, 0⟩,
    ⟨⟨some 77, .mov (.t 83), none⟩, false, 0⟩,
    ⟨⟨some 84, .ext (.t 77) 0, none⟩, false, 0⟩,
    ⟨⟨none, .store 3 (.t 9) (.t 84), none⟩, true, 1⟩,
    ⟨⟨some 85, .ext (.t 77) 1, none⟩, false, 0⟩,
    ⟨⟨some 10, .mov (.t 85), none⟩, false, 2⟩])
  (.seq (.seq (.dreg [⟨some 86, .mov (.t 10), none⟩,
    ⟨some 87, .mov (.t 86), none⟩,
    ⟨some 88, .mov (.t 0), some (87, true)⟩,
    ⟨some 89, .nilck (.t 88), some (87, true)⟩,
    ⟨some 90, .fadd 1 (.t 89), some (87, true)⟩,
    ⟨some 91, .load1 (.t 90), some (87, true)⟩,
    ⟨some 92, .mov (.t 0), some (87, true)⟩,
    ⟨some 93, .nilck (.t 92), some (87, true)⟩,
    ⟨some 94, .fadd 2 (.t 93), some (87, true)⟩,
    ⟨some 95, .load1 (.t 94), some (87, true)⟩,
    ⟨some 96, .bin .add (.t 95) (.k (.c (.int .i64 2))), some (87, true)⟩,
    ⟨some 97, .call (.k (.fn 86 [])) [(.t 91), (.t 96)], some (87, true)⟩,
    ⟨some 98, .field1 0 (.t 97), some (87, true)⟩,
    ⟨some 99, .bin .eql (.t 98) (.k (.c (.int .i64 6))), some (87, true)⟩,
    ⟨some 100, .pick (.t 87) (.t 99) (.k (.c (.bool false))), none⟩]
    [⟨⟨some 86, .mov (.t 10), none⟩, false, 0⟩,
    ⟨⟨some 87, .mov (.t 86), none⟩, false, 0⟩,
    ⟨⟨some 88, .mov (.t 0), some (87, true)⟩, false, 0⟩,
    ⟨⟨some 89, .nilck (.t 88), some (87, true)⟩, false, 0⟩,
    ⟨⟨some 90, .fadd 1 (.t 89), some (87, true)⟩, false, 0⟩,
    ⟨⟨some 91, .load1 (.t 90), some (87, true)⟩, false, 0⟩,
    ⟨⟨some 92, .mov (.t 0), some (87, true)⟩, false, 0⟩,
    ⟨⟨some 93, .nilck (.t 92), some (87, true)⟩, false, 0⟩,
    ⟨⟨some 94, .fadd 2 (.t 93), some (87, true)⟩, false, 0⟩,
    ⟨⟨some 95, .load1 (.t 94), some (87, true)⟩, false, 0⟩,
    ⟨⟨some 96, .bin .add (.t 95) (.k (.c (.int .i64 2))), some (87, true)⟩, false, 0⟩,
    ⟨⟨some 97, .call (.k (.fn 86 [])) [(.t 91), (.t 96)], some (87, true)⟩, true, 0⟩,
    ⟨⟨some 98, .field1 0 (.t 97), some (87, true)⟩, false, 1⟩,
    ⟨⟨some 99, .bin .eql (.t 98) (.k (.c (.int .i64 6))), some (87, true)⟩, false, 1⟩,
    ⟨⟨some 100, .pick (.t 87) (.t 99) (.k (.c (.bool false))), none⟩, false, 1⟩])
  (.cond (.t 100)
  (.seq (.reg [⟨some 101, .mov (.t 0), none⟩,
    ⟨some 102, .mov (.t 0), none⟩,
    ⟨some 103, .nilck (.t 102), none⟩,
    ⟨some 104, .fadd 2 (.t 103), none⟩,
    ⟨some 105, .load1 (.t 104), none⟩,
    ⟨some 106, .bin .add (.t 105) (.k (.c (.int .i64 3))), none⟩,
    ⟨some 107, .nilck (.t 101), none⟩,
    ⟨some 108, .fadd 2 (.t 107), none⟩,
    ⟨none, .store 1 (.t 108) (.t 106), none⟩])
  (.seq (.reg [⟨some 109, .fadd 1 (.t 8), none⟩,
    ⟨some 110, .load1 (.t 109), none⟩,
    ⟨some 111, .fadd 3 (.t 8), none⟩,
    ⟨some 112, .load1 (.t 111), none⟩,
    ⟨some 113, .build [.c (.int .i64 0), .c (.str []), .c (.int .i64 0), .csl [], .c (.int .i64 0)] [(0, 1, (.k (.c (.int .i64 0)))), (1, 1, (.t 110)), (4, 1, (.t 112))], none⟩,
    ⟨none, .store 5 (.t 4) (.t 113), none⟩,
    ⟨some 5, .mov (.k (.c (.bool false))), none⟩])
  (.ret)))
  (.skip)))
  (.seq (.reg [⟨some 114, .mov (.t 0), none⟩,
    ⟨some 115, .mov (.t 1), none⟩,
    ⟨some 116, .fadd 3 (.t 6), none⟩,
    ⟨some 117, .load1 (.t 116), none⟩,
    ⟨some 118, .call (.k (.fn 89 [])) [(.t 114), (.t 115), (.t 117)], none⟩,
    ⟨some 11, .mov (.t 118), none⟩])
  (.seq (.seq (.reg [⟨some 119, .mov (.t 11), none⟩,
    ⟨some 120, .un .not (.t 119), none⟩])
  (.cond (.t 120)
  (.seq (.reg [⟨some 121, .build [.c (.int .i64 0), .c (.str []), .c (.int .i64 0), .csl [], .c (.int .i64 0)] [], none⟩,
    ⟨none, .store 5 (.t 4) (.t 121), none⟩,
    ⟨some 5, .mov (.k (.c (.bool false))), none⟩])
  (.ret))
  (.skip)))
  (.seq (.reg [⟨some 122, .mov (.t 0), none⟩,
    ⟨some 123, .nilck (.t 122), none⟩,
    ⟨some 124, .fadd 2 (.t 123), none⟩,
    ⟨some 125, .load1 (.t 124), none⟩,
    ⟨some 126, .bin .add (.t 125) (.k (.c (.int .i64 1))), none⟩,
    ⟨some 127, .nilck (.t 122), none⟩,
    ⟨some 128, .fadd 2 (.t 127), none⟩,
    ⟨none, .store 1 (.t 128) (.t 126), none⟩])
  (.seq (.reg [⟨some 129, .mov (.t 0), none⟩,
    ⟨some 130, .mov (.t 1), none⟩,
    ⟨some 131, .bin .add (.t 130) (.k (.c (.int .i64 1))), none⟩,
    ⟨some 132, .call (.k (.fn 38 [])) [(.t 129), (.k (.c (.int .i64 0))), (.t 131)], none⟩,
    ⟨some 12, .box (.k (.agg [.c (.int .i64 0), .c (.str []), .c (.int .i64 0), .csl [], .c (.int .i64 0), .c (.bool false), .c (.str []), .c (.int .i64 0), .c (.int .i64 0), .c (.int .i64 0)])), none⟩,
    ⟨none, .store 10 (.t 12) (.t 132), none⟩])
  (.seq (.seq (.reg [⟨some 133, .mov (.t 0), none⟩,
    ⟨some 134, .nilck (.t 133), none⟩,
    ⟨some 135, .fadd 3 (.t 134), none⟩,
    ⟨some 136, .load1 (.t 135), none⟩,
    ⟨some 137, .bin .neq (.t 136) (.k (.c (.int .i64 0))), none⟩])
  (.cond (.t 137)
  (.seq (.reg [⟨some 138, .build [.c (.int .i64 0), .c (.str []), .c (.int .i64 0), .csl [], .c (.int .i64 0)] [], none⟩,
    ⟨none, .store 5 (.t 4) (.t 138), none⟩,
    ⟨some 5, .mov (.k (.c (.bool false))), none⟩])
  (.ret))
  (.skip)))
  (.seq (.dreg [⟨some 139, .mov (.t 0), none⟩,
    ⟨some 140, .nilck (.t 139), none⟩,
    ⟨some 141, .fadd 1 (.t 140), none⟩,
    ⟨some 142, .load1 (.t 141), none⟩,
    ⟨some 143, .mov (.t 0), none⟩,
    ⟨some 144, .nilck (.t 143), none⟩,
    ⟨some 145, .fadd 2 (.t 144), none⟩,
    ⟨some 146, .load1 (.t 145), none⟩,
    ⟨some 147, .call (.k (.fn 86 [])) [(.t 142), (.t 146)], none⟩,
    ⟨some 13, .box (.k (.agg [.c (.int .i64 0), .c (.str []), .c (.int .i64 0), .c (.int .i64 0)])), none⟩,
    ⟨none, .store 4 (.t 13) (.t 147), none⟩]
    [⟨⟨some 13, .box (.k (.agg [.c (.int .i64 0), .c (.str []), .c (.int .i64 0), .c (.int .i64 0)])), none⟩, true, 0⟩,
    ⟨⟨some 139, .mov (.t 0), none⟩, false, 0⟩,
    ⟨⟨some 140, .nilck (.t 139), none⟩, false, 0⟩,
    ⟨⟨some 141, .fadd 1 (.t 140), none⟩, false, 0⟩,
    ⟨⟨some 142, .load1 (.t 141), none⟩, false, 0⟩,
    ⟨⟨some 143, .mov (.t 0), none⟩, false, 0⟩,
    ⟨⟨some 144, .nilck (.t 143), none⟩, false, 0⟩,
    ⟨⟨some 145, .fadd 2 (.t 144), none⟩, false, 0⟩,
    ⟨⟨some 146, .load1 (.t 145), none⟩, false, 0⟩,
    ⟨⟨some 147, .call (.k (.fn 86 [])) [(.t 142), (.t 146)], none⟩, false, 0⟩,
    ⟨⟨none, .store 4 (.t 13) (.t 147), none⟩, true, 1⟩])
  (.seq (.seq (.reg [⟨some 148, .fadd 0 (.t 13), none⟩,
    ⟨some 149, .load1 (.t 148), none⟩,
    ⟨some 150, .bin .neq (.t 149) (.k (.c (.int .i64 6))), none⟩])
  (.cond (.t 150)
  (.seq (.reg [⟨some 151, .mov (.t 0), none⟩,
    ⟨some 152, .fadd 3 (.t 13), none⟩,
    ⟨some 153, .load1 (.t 152), none⟩,
    ⟨some 154, .call (.k (.fn 88 [])) [(.t 151), (.k (.c (.int .i64 30))), (.t 153)], none⟩])
  (.seq (.reg [⟨some 155, .build [.c (.int .i64 0), .c (.str []), .c (.int .i64 0), .csl [], .c (.int .i64 0)] [], none⟩,
    ⟨none, .store 5 (.t 4) (.t 155), none⟩,
    ⟨some 5, .mov (.k (.c (.bool false))), none⟩])
  (.ret)))
  (.skip)))
  (.seq (.reg [⟨some 156, .mov (.t 0), none⟩,
    ⟨some 157, .nilck (.t 156), none⟩,
    ⟨some 158, .fadd 2 (.t 157), none⟩,
    ⟨some 159, .load1 (.t 158), none⟩,
    ⟨some 160, .bin .add (.t 159) (.k (.c (.int .i64 1))), none⟩,
    ⟨some 161, .nilck (.t 156), none⟩,
    ⟨some 162, .fadd 2 (.t 161), none⟩,
    ⟨none, .store 1 (.t 162) (.t 160), none⟩])
  (.seq (.reg [⟨some 163, .fadd 0 (.t 12), none⟩,
    ⟨some 164, .loadn 5 (.t 163), none⟩,
    ⟨none, .store 5 (.t 4) (.t 164), none⟩,
    ⟨some 5, .mov (.k (.c (.bool false))), none⟩])
  (.ret))))))))))))
  (.skip)))))))))
  (.seq (.seq (.reg [⟨some 165, .fadd 0 (.t 8), none⟩,
    ⟨some 166, .load1 (.t 165), none⟩,
    ⟨some 167, .bin .eql (.t 166) (.k (.c (.int .i64 8))), none⟩])
  (.cond (.t 167)
  (.seq (.reg [⟨some 168, .mov (.t 0), none⟩,
    ⟨some 169, .mov (.t 1), none⟩,
    ⟨some 170, .fadd 3 (.t 6), none⟩,
    ⟨some 171, .load1 (.t 170), none⟩,
    ⟨some 172, .call (.k (.fn 89 [])) [(.t 168), (.t 169), (.t 171)], none⟩,
    ⟨some 14, .mov (.t 172), none⟩])
  (.seq (.seq (.reg [⟨some 173, .mov (.t 14), none⟩,
    ⟨some 174, .un .not (.t 173), none⟩])
  (.cond (.t 174)
  (.seq (.reg [⟨some 175, .build [.c (.int .i64 0), .c (.str []), .c (.int .i64 0), .csl [], .c (.int .i64 0)] [], none⟩,
    ⟨none, .store 5 (.t 4) (.t 175), none⟩,
    ⟨some 5, .mov (.k (.c (.bool false))), none⟩])
  (.ret))
  (.skip)))
  (.seq (.reg [⟨some 176, .mov (.t 0), none⟩,
    ⟨some 177, .mov (.t 0), none⟩,
    ⟨some 178, .nilck (.t 177), none⟩,
    ⟨some 179, .fadd 2 (.t 178), none⟩,
    ⟨some 180, .load1 (.t 179), none⟩,
    ⟨some 181, .bin .add (.t 180) (.k (.c (.int .i64 2))), none⟩,
    ⟨some 182, .nilck (.t 176), none⟩,
    ⟨some 183, .fadd 2 (.t 182), none⟩,
    ⟨none, .store 1 (.t 183) (.t 181), none⟩])
  (.seq (.reg [⟨some 184, .mov (.t 0), none⟩,
    ⟨some 185, .mov (.t 1), none⟩,
    ⟨some 186, .bin .add (.t 185) (.k (.c (.int .i64 1))), none⟩,
    ⟨some 187, .call (.k (.fn 38 [])) [(.t 184), (.k (.c (.int .i64 0))), (.t 186)], none⟩,
    ⟨some 15, .box (.k (.agg [.c (.int .i64 0), .c (.str []), .c (.int .i64 0), .csl [], .c (.int .i64 0), .c (.bool false), .c (.str []), .c (.int .i64 0), .c (.int .i64 0), .c (.int .i64 0)])), none⟩,
    ⟨none, .store 10 (.t 15) (.t 187), none⟩])
  (.seq (.reg [⟨some 188, .fadd 1 (.t 6), none⟩,
    ⟨some 189, .load1 (.t 188), none⟩,
    ⟨some 190, .fadd 0 (.t 15), none⟩,
    ⟨some 191, .loadn 5 (.t 190), none⟩,
    ⟨some 192, .bsl 5 [(.t 191)], none⟩,
    ⟨some 193, .fadd 3 (.t 6), none⟩,
    ⟨some 194, .load1 (.t 193), none⟩,
    ⟨some 195, .build [.c (.int .i64 0), .c (.str []), .c (.int .i64 0), .csl [], .c (.int .i64 0)] [(0, 1, (.k (.c (.int .i64 4)))), (1, 1, (.t 189)), (3, 1, (.t 192)), (4, 1, (.t 194))], none⟩,
    ⟨none, .store 5 (.t 4) (.t 195), none⟩,
    ⟨some 5, .mov (.k (.c (.bool true))), none⟩])
  (.ret))))))
  (.skip)))
  (.seq (.reg [⟨some 196, .mov (.t 0), none⟩,
    ⟨some 197, .nilck (.t 196), none⟩,
    ⟨some 198, .fadd 2 (.t 197), none⟩,
    ⟨some 199, .load1 (.t 198), none⟩,
    ⟨some 200, .bin .add (.t 199) (.k (.c (.int .i64 1))), none⟩,
    ⟨some 201, .nilck (.t 196), none⟩,
    ⟨some 202, .fadd 2 (.t 201), none⟩,
    ⟨none, .store 1 (.t 202) (.t 200), none⟩])
  (.seq (.reg [⟨some 16, .mov (.k (.c (.int .i64 0))), none⟩])
  (.seq (.seq (.reg [⟨some 203, .fadd 0 (.t 6), none⟩,
    ⟨some 204, .load1 (.t 203), none⟩,
    ⟨some 205, .bin .eql (.t 204) (.k (.c (.int .i64 2))), none⟩])
  (.cond (.t 205)
  (.reg [⟨some 16, .mov (.k (.c (.int .i64 1))), none⟩])
  (.skip)))
  (.seq (.reg [⟨some 206, .mov (.t 16), none⟩,
    ⟨some 207, .fadd 1 (.t 6), none⟩,
    ⟨some 208, .load1 (.t 207), none⟩,
    ⟨some 209, .fadd 3 (.t 6), none⟩,
    ⟨some 210, .load1 (.t 209), none⟩,
    ⟨some 211, .build [.c (.int .i64 0), .c (.str []), .c (.int .i64 0), .csl [], .c (.int .i64 0)] [(0, 1, (.t 206)), (1, 1, (.t 208)), (4, 1, (.t 210))], none⟩,
    ⟨none, .store 5 (.t 4) (.t 211), none⟩,
    ⟨some 5, .mov (.k (.c (.bool false))), none⟩])
  (.ret)))))))))))
def r124 : List ResV := [.celln 5 4, .tmp 5]
theorem tr124 : tr Tryz.prog Tryz.f124.ntmps (Tryz.f124.body.getD .skip) = some c124 := by kernel_rfl
theorem tre124 : trRes Tryz.prog Tryz.f124.results.toList = some r124 := by kernel_rfl
theorem en124 : Enters Tryz.prog 124 := enters_fn Tryz.func124 (by kernel_rfl) rfl
theorem go124 {w0 : World} {args : List V} {σ : H} {R : V → H → Prop} (ha : args.length = 2) (h : H.ok σ → (∀ x ∈ args, V.Sz x) → W Tryz.prog w0 σ.length (Fin r124 σ.length R) [.code c124] ⟨argEnv args, σ⟩) : DC Tryz.prog w0 124 args σ R :=
  DC.of_code (by kernel_rfl) Tryz.func124 rfl tr124 tre124 (by rw [ha]; exact by decide) en124 h
/-- (*lambentref03.State).Operand -/
def c85 : AC :=
  .seq (.reg [⟨some 4, .box (.k (.agg [.c (.int .i64 0), .c (.str []), .c (.int .i64 0), .csl [], .c (.int .i64 0)])), none⟩])
  (.seq (.reg [⟨some 11, .mov (.t 0), none⟩,
    ⟨some 12, .mov (.t 1), none⟩,
    ⟨some 13, .call (.k (.fn 124 [])) [(.t 11), (.t 12)], none⟩,
    ⟨some 10, .mov (.t 13), none⟩,
    ⟨some 14, .ext (.t 10) 0, none⟩,
    ⟨some 15, .ext (.t 10) 1, none⟩,
    ⟨some 5, .box (.k (.agg [.c (.int .i64 0), .c (.str []), .c (.int .i64 0), .csl [], .c (.int .i64 0)])), none⟩,
    ⟨none, .store 5 (.t 5) (.t 14), none⟩,
    ⟨some 6, .mov (.t 15), none⟩])
  (.seq (.reg [⟨some 16, .fadd 4 (.t 5), none⟩,
    ⟨some 17, .load1 (.t 16), none⟩,
    ⟨some 7, .mov (.t 17), none⟩])
  (.seq (.block 0 (.loop (.seq (.seq (.reg [⟨some 18, .mov (.t 0), none⟩,
    ⟨some 19, .nilck (.t 18), none⟩,
    ⟨some 20, .fadd 3 (.t 19), none⟩,
    ⟨some 21, .load1 (.t 20), none⟩,
    ⟨some 22, .bin .eql (.t 21) (.k (.c (.int .i64 0))), none⟩,
    ⟨some 23, .mov (.t 22), none⟩,
    ⟨some 24, .mov (.t 6), some (23, true)⟩,
    ⟨some 25, .un .not (.t 24), some (23, true)⟩,
    ⟨some 26, .pick (.t 23) (.t 25) (.k (.c (.bool false))), none⟩,
    ⟨some 27, .mov (.t 26), none⟩,
    ⟨some 28, .mov (.t 0), some (27, true)⟩,
    ⟨some 29, .call (.k (.fn 125 [])) [(.t 28)], some (27, true)⟩,
    ⟨some 30, .pick (.t 27) (.t 29) (.k (.c (.bool false))), none⟩])
  (.cond (.t 30)
  (.skip)
  (.exit 0)))
  (.block 1 (.seq (.reg [⟨some 32, .mov (.t 0), none⟩,
    ⟨some 33, .mov (.t 1), none⟩,
    ⟨some 34, .call (.k (.fn 124 [])) [(.t 32), (.t 33)], none⟩,
    ⟨some 31, .mov (.t 34), none⟩,
    ⟨some 35, .ext (.t 31) 0, none⟩,
    ⟨some 36, .ext (.t 31) 1, none⟩,
    ⟨some 8, .box (.k (.agg [.c (.int .i64 0), .c (.str []), .c (.int .i64 0), .csl [], .c (.int .i64 0)])), none⟩,
    ⟨none, .store 5 (.t 8) (.t 35), none⟩,
    ⟨some 9, .mov (.t 36), none⟩])
  (.seq (.reg [⟨some 37, .loadn 5 (.t 5), none⟩,
    ⟨some 38, .loadn 5 (.t 8), none⟩,
    ⟨some 39, .bsl 5 [(.t 37), (.t 38)], none⟩,
    ⟨some 40, .mov (.t 7), none⟩,
    ⟨some 41, .build [.c (.int .i64 0), .c (.str []), .c (.int .i64 0), .csl [], .c (.int .i64 0)] [(0, 1, (.k (.c (.int .i64 3)))), (3, 1, (.t 39)), (4, 1, (.t 40))], none⟩,
    ⟨none, .store 5 (.t 5) (.t 41), none⟩])
  (.reg [⟨some 42, .mov (.t 9), none⟩,
    ⟨some 6, .mov (.t 42), none⟩])))))))
  (.seq (.reg [⟨some 43, .loadn 5 (.t 5), none⟩,
    ⟨none, .store 5 (.t 4) (.t 43), none⟩])
  (.ret)))))
def r85 : List ResV := [.celln 5 4]
theorem tr85 : tr Tryz.prog Tryz.f85.ntmps (Tryz.f85.body.getD .skip) = some c85 := by kernel_rfl
theorem tre85 : trRes Tryz.prog Tryz.f85.results.toList = some r85 := by kernel_rfl
theorem en85 : Enters Tryz.prog 85 := enters_fn Tryz.func85 (by kernel_rfl) rfl
theorem go85 {w0 : World} {args : List V} {σ : H} {R : V → H → Prop} (ha : args.length = 2) (h : H.ok σ → (∀ x ∈ args, V.Sz x) → W Tryz.prog w0 σ.length (Fin r85 σ.length R) [.code c85] ⟨argEnv args, σ⟩) : DC Tryz.prog w0 85 args σ R :=
  DC.of_code (by kernel_rfl) Tryz.func85 rfl tr85 tre85 (by rw [ha]; exact by decide) en85 h
/-- (*lambentref03.State).Expr -/
def c38 : AC :=
  .seq (.reg [⟨some 6, .box (.k (.agg [.c (.int .i64 0), .c (.str []), .c (.int .i64 0), .csl [], .c (.int .i64 0), .c (.bool false), .c (.str []), .c (.int .i64 0), .c (.int .i64 0), .c (.int .i64 0)])), none⟩])
  (.seq (.reg [⟨some 15, .mov (.t 0), none⟩,
    ⟨some 16, .mov (.t 2), none⟩,
    ⟨some 17, .call (.k (.fn 85 [])) [(.t 15), (.t 16)], none⟩,
    ⟨some 18, .build [.c (.int .i64 0), .c (.str []), .c (.int .i64 0), .csl [], .c (.int .i64 0), .c (.bool false), .c (.str []), .c (.int .i64 0), .c (.int .i64 0), .c (.int .i64 0)] [(0, 5, (.t 17))], none⟩,
    ⟨some 7, .box (.k (.agg [.c (.int .i64 0), .c (.str []), .c (.int .i64 0), .csl [], .c (.int .i64 0), .c (.bool false), .c (.str []), .c (.int .i64 0), .c (.int .i64 0), .c (.int .i64 0)])), none⟩,
    ⟨none, .store 10 (.t 7) (.t 18), none⟩])
  (.seq (.block 0 (.loop (.seq (.seq (.reg [⟨some 19, .mov (.t 0), none⟩,
    ⟨some 20, .nilck (.t 19), none⟩,
    ⟨some 21, .fadd 3 (.t 20), none⟩,
    ⟨some 22, .load1 (.t 21), none⟩,
    ⟨some 23, .bin .eql (.t 22) (.k (.c (.int .i64 0))), none⟩])
  (.cond (.t 23)
  (.skip)
  (.exit 0)))
  (.block 1 (.seq (.dreg [⟨some 24, .mov (.t 0), none⟩,
    ⟨some 25, .nilck (.t 24), none⟩,
    ⟨some 26, .fadd 1 (.t 25), none⟩,
    ⟨some 27, .load1 (.t 26), none⟩,
    ⟨some 28, .mov (.t 0), none⟩,
    ⟨some 29, .nilck (.t 28), none⟩,
    ⟨some 30, .fadd 2 (.t 29), none⟩,
    ⟨some 31, .load1 (.t 30), none⟩,
    ⟨some 32, .call (.k (.fn 86 [])) [(.t 27), (.t 31)], none⟩,
    ⟨some 8, .box (.k (.agg [.c (.int .i64 0), .c (.str []), .c (.int .i64 0), .c (.int .i64 0)])), none⟩,
    ⟨none, .store 4 (.t 8) (.t 32), none⟩]
    [⟨⟨some 8, .box (.k (.agg [.c (.int .i64 0), .c (.str []), .c (.int .i64 0), .c (.int .i64 0)])), none⟩, true, 0⟩,
    ⟨⟨some 24, .mov (.t 0), none⟩, false, 0⟩,
    ⟨⟨some 25, .nilck (.t 24), none⟩, false, 0⟩,
    ⟨⟨some 26, .fadd 1 (.t 25), none⟩, false, 0⟩,
    ⟨⟨some 27, .load1 (.t 26), none⟩, false, 0⟩,
    ⟨⟨some 28, .mov (.t 0), none⟩, false, 0⟩,
    ⟨⟨some 29, .nilck (.t 28), none⟩, false, 0⟩,
    ⟨⟨some 30, .fadd 2 (.t 29), none⟩, false, 0⟩,
    ⟨⟨some 31, .load1 (.t 30), none⟩, false, 0⟩,
    ⟨⟨some 32, .call (.k (.fn 86 [])) [(.t 27), (.t 31)], none⟩, false, 0⟩,
    ⟨⟨none, .store 4 (.t 8) (.t 32), none⟩, true, 1⟩])
  (.seq (.dreg [⟨some 34, .mov (.t 0), none⟩,
    ⟨some 35, .nilck (.t 34), none⟩,
    ⟨some 36, .fadd 0 (.t 35), none⟩,
    ⟨some 37, .load1 (.t 36), none⟩,
    ⟨some 38, .loadn 4 (.t 8), none⟩,
    ⟨some 39, .call (.k (.fn 87 [])) [(.t 37), (.t 38)], none⟩,
    ⟨some 33, .mov (.t 39), none⟩,
    ⟨some 40, .ext (.t 33) 0, none⟩,
    ⟨some 41, .ext (.t 33) 1, none⟩,
    ⟨some 9, .box (.k (.agg [.c (.str []), .c (.int .i64 0), .c (.int .i64 0)])), none⟩,
    ⟨none, .store 3 (.t 9) (.t 40), none⟩,
    ⟨some 10, .mov (.t 41), none⟩]
    [⟨⟨some 9, .box (.k (.agg [.c (.str []), .c (.int .i64 0), .c (.int .i64 0)])), none⟩, true, 0⟩,
    ⟨⟨some 34, .mov (.t 0), none⟩, false, 0⟩,
    ⟨⟨some 35, .nilck (.t 34), none⟩, false, 0⟩,
    ⟨⟨some 36, .fadd 0 (.t 35), none⟩, false, 0⟩,
    ⟨⟨some 37, .load1 (.t 36), none⟩, false, 0⟩,
    ⟨⟨some 38, .loadn 4 (.t 8), none⟩, false, 0⟩,
    ⟨⟨some 39, .call (.k (.fn 87 [])) [(.t 37), (.t 38)], none⟩, false, 0⟩,
    ⟨⟨some 33, .mov (.t 39), none⟩, false, 0⟩,
    ⟨⟨some 40, .ext (.t 33) 0, none⟩, false, 0⟩,
    ⟨⟨none, .store 3 (.t 9) (.t 40), none⟩, true, 1⟩,
    ⟨⟨some 41, .ext (.t 33) 1, none⟩, false, 0⟩,
    ⟨⟨some 10, .mov (.t 41), none⟩, false, 2⟩])
  (.seq (.seq (.reg [⟨some 42, .mov (.t 10), none⟩,
    ⟨some 43, .un .not (.t 42), none⟩,
    ⟨some 44, .mov (.t 43), none⟩,
    ⟨some 45, .fadd 1 (.t 9), some (44, false)⟩,
    ⟨some 46, .load1 (.t 45), some (44, false)⟩,
    ⟨some 47, .mov (.t 1), some (44, false)⟩,
    ⟨some 48, .bin .lss (.t 46) (.t 47), some (44, false)⟩,
    ⟨some 49, .pick (.t 44) (.k (.c (.bool true))) (.t 48), none⟩])
  (.cond (.t 49)
  (.seq (.reg [⟨some 50, .loadn 10 (.t 7), none⟩,
    ⟨none, .store 10 (.t 6) (.t 50), none⟩])
  (.ret))
  (.skip)))
  (.seq (.seq (.reg [⟨some 51, .fadd 5 (.t 7), none⟩,
    ⟨some 52, .load1 (.t 51), none⟩,
    ⟨some 53, .mov (.t 52), none⟩,
    ⟨some 54, .loadn 3 (.t 9), some (53, true)⟩,
    ⟨some 55, .fadd 6 (.t 7), some (53, true)⟩,
    ⟨some 56, .loadn 3 (.t 55), some (53, true)⟩,
    ⟨some 57, .call (.k (.fn 58 [])) [(.t 54), (.t 56)], some (53, true)⟩,
    ⟨some 58, .un .not (.t 57), some (53, true)⟩,
    ⟨some 59, .pick (.t 53) (.t 58) (.k (.c (.bool false))), none⟩])
  (.cond (.t 59)
  (.seq (.reg [⟨some 60, .mov (.t 0), none⟩,
    ⟨some 61, .fadd 3 (.t 8), none⟩,
    ⟨some 62, .load1 (.t 61), none⟩,
    ⟨some 63, .call (.k (.fn 88 [])) [(.t 60), (.k (.c (.int .i64 32))), (.t 62)], none⟩])
  (.seq (.reg [⟨some 64, .build [.c (.int .i64 0), .c (.str []), .c (.int .i64 0), .csl [], .c (.int .i64 0), .c (.bool false), .c (.str []), .c (.int .i64 0), .c (.int .i64 0), .c (.int .i64 0)] [], none⟩,
    ⟨none, .store 10 (.t 6) (.t 64), none⟩])
  (.ret)))
  (.skip)))
  (.seq (.reg [⟨some 65, .mov (.t 0), none⟩,
    ⟨some 66, .mov (.t 2), none⟩,
    ⟨some 67, .fadd 3 (.t 8), none⟩,
    ⟨some 68, .load1 (.t 67), none⟩,
    ⟨some 69, .call (.k (.fn 89 [])) [(.t 65), (.t 66), (.t 68)], none⟩,
    ⟨some 11, .mov (.t 69), none⟩])
  (.seq (.seq (.reg [⟨some 70, .mov (.t 11), none⟩,
    ⟨some 71, .un .not (.t 70), none⟩])
  (.cond (.t 71)
  (.seq (.reg [⟨some 72, .build [.c (.int .i64 0), .c (.str []), .c (.int .i64 0), .csl [], .c (.int .i64 0), .c (.bool false), .c (.str []), .c (.int .i64 0), .c (.int .i64 0), .c (.int .i64 0)] [], none⟩,
    ⟨none, .store 10 (.t 6) (.t 72), none⟩])
  (.ret))
  (.skip)))
  (.seq (.reg [⟨some 73, .mov (.t 0), none⟩,
    ⟨some 74, .nilck (.t 73), none⟩,
    ⟨some 75, .fadd 2 (.t 74), none⟩,
    ⟨some 76, .load1 (.t 75), none⟩,
    ⟨some 77, .bin .add (.t 76) (.k (.c (.int .i64 1))), none⟩,
    ⟨some 78, .nilck (.t 73), none⟩,
    ⟨some 79, .fadd 2 (.t 78), none⟩,
    ⟨none, .store 1 (.t 79) (.t 77), none⟩])
  (.seq (.reg [⟨some 80, .fadd 1 (.t 9), none⟩,
    ⟨some 81, .load1 (.t 80), none⟩,
    ⟨some 82, .bin .add (.t 81) (.k (.c (.int .i64 1))), none⟩,
    ⟨some 12, .mov (.t 82), none⟩])
  (.seq (.seq (.reg [⟨some 83, .fadd 2 (.t 9), none⟩,
    ⟨some 84, .load1 (.t 83), none⟩,
    ⟨some 85, .bin .eql (.t 84) (.k (.c (.int .i64 2))), none⟩])
  (.cond (.t 85)
  (.reg [⟨some 86, .fadd 1 (.t 9), none⟩,
    ⟨some 87, .load1 (.t 86), none⟩,
    ⟨some 12, .mov (.t 87), none⟩])
  (.skip)))
  (.seq (.reg [⟨some 88, .mov (.t 0), none⟩,
    ⟨some 89, .mov (.t 12), none⟩,
    ⟨some 90, .mov (.t 2), none⟩,
    ⟨some 91, .bin .add (.t 90) (.k (.c (.int .i64 1))), none⟩,
    ⟨some 92, .call (.k (.fn 38 [])) [(.t 88), (.t 89), (.t 91)], none⟩,
    ⟨some 13, .box (.k (.agg [.c (.int .i64 0), .c (.str []), .c (.int .i64 0), .csl [], .c (.int .i64 0), .c (.bool false), .c (.str []), .c (.int .i64 0), .c (.int .i64 0), .c (.int .i64 0)])), none⟩,
    ⟨none, .store 10 (.t 13) (.t 92), none⟩])
  (.seq (.seq (.reg [⟨some 93, .mov (.t 0), none⟩,
    ⟨some 94, .nilck (.t 93), none⟩,
    ⟨some 95, .fadd 3 (.t 94), none⟩,
    ⟨some 96, .load1 (.t 95), none⟩,
    ⟨some 97, .bin .neq (.t 96) (.k (.c (.int .i64 0))), none⟩])
  (.cond (.t 97)
  (.seq (.reg [⟨some 98, .build [.c (.int .i64 0), .c (.str []), .c (.int .i64 0), .csl [], .c (.int .i64 0), .c (.bool false), .c (.str []), .c (.int .i64 0), .c (.int .i64 0), .c (.int .i64 0)] [], none⟩,
    ⟨none, .store 10 (.t 6) (.t 98), none⟩])
  (.ret))
  (.skip)))
  (.seq (.seq (.reg [⟨some 99, .fadd 5 (.t 13), none⟩,
    ⟨some 100, .load1 (.t 99), none⟩,
    ⟨some 101, .mov (.t 100), none⟩,
    ⟨some 102, .loadn 3 (.t 9), some (101, true)⟩,
    ⟨some 103, .fadd 6 (.t 13), some (101, true)⟩,
    ⟨some 104, .loadn 3 (.t 103), some (101, true)⟩,
    ⟨some 105, .call (.k (.fn 59 [])) [(.t 102), (.t 104)], some (101, true)⟩,
    ⟨some 106, .un .not (.t 105), some (101, true)⟩,
    ⟨some 107, .pick (.t 101) (.t 106) (.k (.c (.bool false))), none⟩])
  (.cond (.t 107)
  (.seq (.reg [⟨some 108, .mov (.t 0), none⟩,
    ⟨some 109, .fadd 9 (.t 13), none⟩,
    ⟨some 110, .load1 (.t 109), none⟩,
    ⟨some 111, .call (.k (.fn 88 [])) [(.t 108), (.k (.c (.int .i64 32))), (.t 110)], none⟩])
  (.seq (.reg [⟨some 112, .build [.c (.int .i64 0), .c (.str []), .c (.int .i64 0), .csl [], .c (.int .i64 0), .c (.bool false), .c (.str []), .c (.int .i64 0), .c (.int .i64 0), .c (.int .i64 0)] [], none⟩,
    ⟨none, .store 10 (.t 6) (.t 112), none⟩])
  (.ret)))
  (.skip)))
  (.seq (.reg [⟨some 113, .fadd 0 (.t 9), none⟩,
    ⟨some 114, .load1 (.t 113), none⟩,
    ⟨some 115, .fadd 3 (.t 8), none⟩,
    ⟨some 116, .load1 (.t 115), none⟩,
    ⟨some 117, .build [.c (.int .i64 0), .c (.str []), .c (.int .i64 0), .csl [], .c (.int .i64 0)] [(0, 1, (.k (.c (.int .i64 0)))), (1, 1, (.t 114)), (4, 1, (.t 116))], none⟩,
    ⟨some 118, .fadd 0 (.t 7), none⟩,
    ⟨some 119, .loadn 5 (.t 118), none⟩,
    ⟨some 120, .bsl 5 [(.t 117), (.t 119)], none⟩,
    ⟨some 121, .fadd 3 (.t 8), none⟩,
    ⟨some 122, .load1 (.t 121), none⟩,
    ⟨some 123, .build [.c (.int .i64 0), .c (.str []), .c (.int .i64 0), .csl [], .c (.int .i64 0)] [(0, 1, (.k (.c (.int .i64 3)))), (3, 1, (.t 120)), (4, 1, (.t 122))], none⟩,
    ⟨some 14, .box (.k (.agg [.c (.int .i64 0), .c (.str []), .c (.int .i64 0), .csl [], .c (.int .i64 0)])), none⟩,
    ⟨none, .store 5 (.t 14) (.t 123), none⟩])
  (.reg [⟨some 124, .loadn 5 (.t 14), none⟩,
    ⟨some 125, .fadd 0 (.t 13), none⟩,
    ⟨some 126, .loadn 5 (.t 125), none⟩,
    ⟨some 127, .bsl 5 [(.t 124), (.t 126)], none⟩,
    ⟨some 128, .fadd 3 (.t 8), none⟩,
    ⟨some 129, .load1 (.t 128), none⟩,
    ⟨some 130, .build [.c (.int .i64 0), .c (.str []), .c (.int .i64 0), .csl [], .c (.int .i64 0)] [(0, 1, (.k (.c (.int .i64 3)))), (3, 1, (.t 127)), (4, 1, (.t 129))], none⟩,
    ⟨some 131, .loadn 3 (.t 9), none⟩,
    ⟨some 132, .fadd 3 (.t 8), none⟩,
    ⟨some 133, .load1 (.t 132), none⟩,
    ⟨some 134, .build [.c (.int .i64 0), .c (.str []), .c (.int .i64 0), .csl [], .c (.int .i64 0), .c (.bool false), .c (.str []), .c (.int .i64 0), .c (.int .i64 0), .c (.int .i64 0)] [(0, 5, (.t 130)), (5, 1, (.k (.c (.bool true)))), (6, 3, (.t 131)), (9, 1, (.t 133))], none⟩,
    ⟨none, .store 10 (.t 7) (.t 134), none⟩]))))))))))))))))))
  (.seq (.reg [⟨some 135, .build [.c (.int .i64 0), .c (.str []), .c (.int .i64 0), .csl [], .c (.int .i64 0), .c (.bool false), .c (.str []), .c (.int .i64 0), .c (.int .i64 0), .c (.int .i64 0)] [], none⟩,
    ⟨none, .store 10 (.t 6) (.t 135), none⟩])
  (.ret))))
def r38 : List ResV := [.celln 10 6]
theorem tr38 : tr Tryz.prog Tryz.f38.ntmps (Tryz.f38.body.getD .skip) = some c38 := by kernel_rfl
theorem tre38 : trRes Tryz.prog Tryz.f38.results.toList = some r38 := by kernel_rfl
theorem en38 : Enters Tryz.prog 38 := enters_fn Tryz.func38 (by kernel_rfl) rfl
theorem go38 {w0 : World} {args : List V} {σ : H} {R : V → H → Prop} (ha : args.length = 3) (h : H.ok σ → (∀ x ∈ args, V.Sz x) → W Tryz.prog w0 σ.length (Fin r38 σ.length R) [.code c38] ⟨argEnv args, σ⟩) : DC Tryz.prog w0 38 args σ R :=
  DC.of_code (by kernel_rfl) Tryz.func38 rfl tr38 tre38 (by rw [ha]; exact by decide) en38 h
/-- lambentref03.Read -/
def c16 : AC :=
  .seq (.reg [⟨some 6, .box (.k (.agg [.c (.int .i64 0), .c (.str []), .c (.int .i64 0), .csl [], .c (.int .i64 0)])), none⟩,
    ⟨some 7, .mov (.k (.c (.int .i64 0))), none⟩,
    ⟨some 8, .mov (.k (.c (.int .i64 0))), none⟩,
    ⟨some 9, .mov (.k (.c (.int .i64 0))), none⟩])
  (.seq (.reg [⟨some 12, .mov (.t 0), none⟩,
    ⟨some 13, .mov (.t 1), none⟩,
    ⟨some 14, .mov (.t 2), none⟩,
    ⟨some 15, .build [.csl [], .csl [], .c (.int .i64 0), .c (.int .i64 0), .c (.int .i64 0)] [(0, 1, (.t 12)), (1, 1, (.t 13)), (2, 1, (.t 14))], none⟩,
    ⟨some 16, .box (.t 15), none⟩,
    ⟨some 10, .mov (.t 16), none⟩])
  (.seq (.reg [⟨some 17, .mov (.t 10), none⟩,
    ⟨some 18, .call (.k (.fn 38 [])) [(.t 17), (.k (.c (.int .i64 0))), (.k (.c (.int .i64 0)))], none⟩,
    ⟨some 11, .box (.k (.agg [.c (.int .i64 0), .c (.str []), .c (.int .i64 0), .csl [], .c (.int .i64 0), .c (.bool false), .c (.str []), .c (.int .i64 0), .c (.int .i64 0), .c (.int .i64 0)])), none⟩,
    ⟨none, .store 10 (.t 11) (.t 18), none⟩])
  (.seq (.seq (.reg [⟨some 19, .mov (.t 10), none⟩,
    ⟨some 20, .nilck (.t 19), none⟩,
    ⟨some 21, .fadd 3 (.t 20), none⟩,
    ⟨some 22, .load1 (.t 21), none⟩,
    ⟨some 23, .bin .neq (.t 22) (.k (.c (.int .i64 0))), none⟩])
  (.cond (.t 23)
  (.seq (.dreg [⟨some 24, .build [.c (.int .i64 0), .c (.str []), .c (.int .i64 0), .csl [], .c (.int .i64 0)] [], none⟩,
    ⟨some 25, .mov (.t 2), none⟩,
    ⟨some 26, .mov (.t 10), none⟩,
    ⟨some 27, .nilck (.t 26), none⟩,
    ⟨some 28, .fadd 3 (.t 27), none⟩,
    ⟨some 29, .load1 (.t 28), none⟩,
    ⟨some 30, .mov (.t 10), none⟩,
    ⟨some 31, .nilck (.t 30), none⟩,
    ⟨some 32, .fadd 4 (.t 31), none⟩,
    ⟨some 33, .load1 (.t 32), none⟩,
    ⟨none, .store 5 (.t 6) (.t 24), none⟩,
    ⟨some 7, .mov (.t 25), none⟩,
    ⟨some 8, .mov (.t 29), none⟩,
    ⟨some 9, .mov (.t 33), none⟩]
    [⟨⟨some 24, .build [.c (.int .i64 0), .c (.str []), .c (.int .i64 0), .csl [], .c (.int .i64 0)] [], none⟩, false, 0⟩,
    ⟨⟨none, .store 5 (.t 6) (.t 24), none⟩, true, 0⟩,
    ⟨⟨some 25, .mov (.t 2), none⟩, false, 0⟩,
    ⟨⟨some 26, .mov (.t 10), none⟩, false, 0⟩,
    ⟨⟨some 27, .nilck (.t 26), none⟩, false, 0⟩,
    ⟨⟨some 28, .fadd 3 (.t 27), none⟩, false, 0⟩,
    ⟨⟨some 29, .load1 (.t 28), none⟩, false, 0⟩,
    ⟨⟨some 30, .mov (.t 10), none⟩, false, 0⟩,
    ⟨⟨some 31, .nilck (.t 30), none⟩, false, 0⟩,
    ⟨⟨some 32, .fadd 4 (.t 31), none⟩, false, 0⟩,
    ⟨⟨some 33, .load1 (.t 32), none⟩, false, 0⟩,
    ⟨⟨some 7, .mov (.t 25), none⟩, false, 1⟩,
    ⟨⟨some 8, .mov (.t 29), none⟩, false, 1⟩,
    ⟨⟨some 9, .mov (.t 33), none⟩, false, 1⟩])
  (.ret))
  (.skip)))
  (.seq (.dreg [⟨some 34, .fadd 0 (.t 11), none⟩,
    ⟨some 35, .loadn 5 (.t 34), none⟩,
    ⟨some 36, .mov (.t 10), none⟩,
    ⟨some 37, .nilck (.t 36), none⟩,
    ⟨some 38, .fadd 2 (.t 37), none⟩,
    ⟨some 39, .load1 (.t 38), none⟩,
    ⟨none, .store 5 (.t 6) (.t 35), none⟩,
    ⟨some 7, .mov (.t 39), none⟩,
    ⟨some 8, .mov (.k (.c (.int .i64 0))), none⟩,
    ⟨some 9, .mov (.k (.c (.int .i64 0))), none⟩]
    [⟨⟨some 34, .fadd 0 (.t 11), none⟩, false, 0⟩,
    ⟨⟨some 35, .loadn 5 (.t 34), none⟩, false, 0⟩,
    ⟨⟨none, .store 5 (.t 6) (.t 35), none⟩, true, 0⟩,
    ⟨⟨some 36, .mov (.t 10), none⟩, false, 0⟩,
    ⟨⟨some 37, .nilck (.t 36), none⟩, false, 0⟩,
    ⟨⟨some 38, .fadd 2 (.t 37), none⟩, false, 0⟩,
    ⟨⟨some 39, .load1 (.t 38), none⟩, false, 0⟩,
    ⟨⟨some 7, .mov (.t 39), none⟩, false, 1⟩,
    ⟨⟨some 8, .mov (.k (.c (.int .i64 0))), none⟩, false, 1⟩,
    ⟨⟨some 9, .mov (.k (.c (.int .i64 0))), none⟩, false, 1⟩])
  (.ret)))))
def r16 : List ResV := [.celln 5 6, .tmp 7, .tmp 8, .tmp 9]
theorem tr16 : tr Tryz.prog Tryz.f16.ntmps (Tryz.f16.body.getD .skip) = some c16 := by kernel_rfl
theorem tre16 : trRes Tryz.prog Tryz.f16.results.toList = some r16 := by kernel_rfl
theorem en16 : Enters Tryz.prog 16 := enters_fn Tryz.func16 (by kernel_rfl) rfl
theorem go16 {w0 : World} {args : List V} {σ : H} {R : V → H → Prop} (ha : args.length = 3) (h : H.ok σ → (∀ x ∈ args, V.Sz x) → W Tryz.prog w0 σ.length (Fin r16 σ.length R) [.code c16] ⟨argEnv args, σ⟩) : DC Tryz.prog w0 16 args σ R :=
  DC.of_code (by kernel_rfl) Tryz.func16 rfl tr16 tre16 (by rw [ha]; exact by decide) en16 h
end Go.Proofs.YtpgkhkojjklakaaGreatDoor
namespace Go.Proofs.YtpgkhkojjklakaaGreatDoor
open Go.RowKit Go.Lamb
attribute [local go_sem] advO_skip advO_reg advO_seq advO_block advO_exit advO_endb advO_opsNil advO_ops advG_yes advG_no advG_none advS_some advS_none advO_cond advO_loop advO_dreg advO_ret advO_bad advO_inv advO_nil advO_zero wantedV Lamb.step ev_t ev_k put_some put_none argEnv popTo cellsAt V.cellsV V.rows V.toC toCs fillV rowsV boundV boundL binV binInt binStr eqC eqL V.isNil leaves V.leaf Ins.quiet Ins.pure List.getD_cons_zero List.getD_cons_succ List.getD_nil List.all_cons List.all_nil List.length_cons List.length_nil List.take_succ_cons List.take_zero List.drop_succ_cons List.drop_zero List.cons_append List.nil_append List.append_nil List.append_assoc List.map_cons List.map_nil List.getElem?_cons_zero List.getElem?_cons_succ List.length_append List.length_set hget0 hget hset0 hset hsets hgs0 hgs hss0 hss List.set_cons_zero List.set_cons_succ List.forall_mem_cons List.not_mem_nil false_implies implies_true Option.map_some Bool.and_true Bool.true_and Bool.not_not Bool.not_true Bool.not_false Bool.and_self Bool.or_true Bool.true_or Bool.or_false Bool.false_or Bool.and_false Bool.false_and Bool.false_eq_true beq_self_eq_true and_self and_true true_and if_true if_false Nat.zero_add Nat.add_zero Nat.le_refl Int.toNat_natCast decide_true decide_false beq_t beq_f List.length_map List.getElem?_map I S B opsC toksC OpT.v OpT.cs OpT.zero Tok.v Tok.cs Pre.v Pre.cs_eq k_mk name_mk n_mk l_mk pos_mk Pre.app applyL natCast0 natCast1 natCast2

def rst (l : List OpT) (t : List Tok) (i : Nat) (e p : Int) : Blk := .cells [.c (opsC l), .c (toksC t), I i, I e, I p]
theorem rst_ok {σ : H} (h : H.ok σ) (b : Nat) (l : List OpT) (t : List Tok) (j : Nat) (e p : Int) : H.ok (σ.set b (rst l t j e p)) := H.ok_set h fun x hx => by
  simp only [List.mem_cons, List.not_mem_nil, or_false] at hx
  rcases hx with rfl | rfl | rfl | rfl | rfl <;> exact .c _
theorem ref03_Tok (w0 : World) (t : List Tok) (i : Nat) (σ : H) : DC Tryz.prog w0 86 [.c (toksC t), I i] σ (Same (tokL t i).v σ) := by
  refine go86 rfl (fun hok hsz => ?_)
  have hlen := sz_rows (hsz _ (List.mem_cons_self ..))
  have h0 : (i : Int) ≥ 0 := by omega
  by_cases h : i < t.length
  · have h1 : ((i : Int) < (t.length : Int)) := by omega
    have hx : t[i]? = some t[i] := List.getElem?_eq_getElem h
    ((first | refine W.advO 5000 _ _ ?_ | skip); simp only [go_sem, ↓reduceIte, Nat.reduceEqDiff, Nat.reduceAdd, Nat.reduceSub, Nat.reduceMul, Nat.reduceLeDiff, Nat.reduceBEq, reduceCtorEq, Int.reduceLT, Int.reduceLE, Int.reduceToNat, Int.reduceAdd, Int.reduceSub, Int.reduceBEq, Int.reduceBNe, c86, h0, h1])
    refine W.yes rfl ?_
    ((first | refine W.advO 5000 _ _ ?_ | skip); simp only [go_sem, ↓reduceIte, Nat.reduceEqDiff, Nat.reduceAdd, Nat.reduceSub, Nat.reduceMul, Nat.reduceLeDiff, Nat.reduceBEq, reduceCtorEq, Int.reduceLT, Int.reduceLE, Int.reduceToNat, Int.reduceAdd, Int.reduceSub, Int.reduceBEq, Int.reduceBNe, nat0, h1, hx])
    (refine W.ret (Fin.same hok (by simp only [resEval, r86, go_sem, ↓reduceIte, Nat.reduceEqDiff, Nat.reduceAdd, Nat.reduceSub, Nat.reduceMul, Nat.reduceLeDiff, Nat.reduceBEq, reduceCtorEq, Int.reduceLT, Int.reduceLE, Int.reduceToNat, Int.reduceAdd, Int.reduceSub, Int.reduceBEq, Int.reduceBNe]; rfl) ?_ (by first | exact .c _ | (simp only [I, S, B, opsC, toksC, Pre.v, Tok.v, OpT.v, low_c, low_void, low_any, low_csl, low_nilf, low_ptr, low_osl, low_agg, low_tup, low_fn, List.forall_mem_cons, List.not_mem_nil, false_implies, implies_true, and_self, and_true, true_and]; done)) (by first | exact ⟨[], (List.append_nil _).symm⟩ | exact ⟨_, rfl⟩)); simp only [resV])
    rw [tokL_in h]
  · have h1 : ¬ ((i : Int) < (t.length : Int)) := by omega
    ((first | refine W.advO 5000 _ _ ?_ | skip); simp only [go_sem, ↓reduceIte, Nat.reduceEqDiff, Nat.reduceAdd, Nat.reduceSub, Nat.reduceMul, Nat.reduceLeDiff, Nat.reduceBEq, reduceCtorEq, Int.reduceLT, Int.reduceLE, Int.reduceToNat, Int.reduceAdd, Int.reduceSub, Int.reduceBEq, Int.reduceBNe, c86, h0, h1])
    refine W.no rfl ?_
    ((first | refine W.advO 5000 _ _ ?_ | skip); simp only [go_sem, ↓reduceIte, Nat.reduceEqDiff, Nat.reduceAdd, Nat.reduceSub, Nat.reduceMul, Nat.reduceLeDiff, Nat.reduceBEq, reduceCtorEq, Int.reduceLT, Int.reduceLE, Int.reduceToNat, Int.reduceAdd, Int.reduceSub, Int.reduceBEq, Int.reduceBNe])
    by_cases h2 : 0 < t.length
    · have h3 : ((t.length : Int) > 0) := by omega
      have hw2 : IntKind.i64.wrap ((t.length : Int) - 1) = ((t.length - 1 : Nat) : Int) := by rw [wrap_in] <;> omega
      obtain ⟨x, hx, hp⟩ := lastPos_at h2
      have h4 : (((t.length - 1 : Nat) : Int) < (t.length : Int)) := by omega
      ((first | refine W.advO 5000 _ _ ?_ | skip); simp only [go_sem, ↓reduceIte, Nat.reduceEqDiff, Nat.reduceAdd, Nat.reduceSub, Nat.reduceMul, Nat.reduceLeDiff, Nat.reduceBEq, reduceCtorEq, Int.reduceLT, Int.reduceLE, Int.reduceToNat, Int.reduceAdd, Int.reduceSub, Int.reduceBEq, Int.reduceBNe, h3])
      refine W.yes rfl ?_
      ((first | refine W.advO 5000 _ _ ?_ | skip); simp only [go_sem, ↓reduceIte, Nat.reduceEqDiff, Nat.reduceAdd, Nat.reduceSub, Nat.reduceMul, Nat.reduceLeDiff, Nat.reduceBEq, reduceCtorEq, Int.reduceLT, Int.reduceLE, Int.reduceToNat, Int.reduceAdd, Int.reduceSub, Int.reduceBEq, Int.reduceBNe, hw2, nat0, h4, hx])
      (refine W.ret (Fin.same hok (by simp only [resEval, r86, go_sem, ↓reduceIte, Nat.reduceEqDiff, Nat.reduceAdd, Nat.reduceSub, Nat.reduceMul, Nat.reduceLeDiff, Nat.reduceBEq, reduceCtorEq, Int.reduceLT, Int.reduceLE, Int.reduceToNat, Int.reduceAdd, Int.reduceSub, Int.reduceBEq, Int.reduceBNe]; rfl) ?_ (by first | exact .c _ | (simp only [I, S, B, opsC, toksC, Pre.v, Tok.v, OpT.v, low_c, low_void, low_any, low_csl, low_nilf, low_ptr, low_osl, low_agg, low_tup, low_fn, List.forall_mem_cons, List.not_mem_nil, false_implies, implies_true, and_self, and_true, true_and]; done)) (by first | exact ⟨[], (List.append_nil _).symm⟩ | exact ⟨_, rfl⟩)); simp only [resV])
      rw [tokL_out (by omega), hp]
    · have h3 : ¬ ((t.length : Int) > 0) := by omega
      ((first | refine W.advO 5000 _ _ ?_ | skip); simp only [go_sem, ↓reduceIte, Nat.reduceEqDiff, Nat.reduceAdd, Nat.reduceSub, Nat.reduceMul, Nat.reduceLeDiff, Nat.reduceBEq, reduceCtorEq, Int.reduceLT, Int.reduceLE, Int.reduceToNat, Int.reduceAdd, Int.reduceSub, Int.reduceBEq, Int.reduceBNe, h3])
      refine W.no rfl ?_
      ((first | refine W.advO 5000 _ _ ?_ | skip); simp only [go_sem, ↓reduceIte, Nat.reduceEqDiff, Nat.reduceAdd, Nat.reduceSub, Nat.reduceMul, Nat.reduceLeDiff, Nat.reduceBEq, reduceCtorEq, Int.reduceLT, Int.reduceLE, Int.reduceToNat, Int.reduceAdd, Int.reduceSub, Int.reduceBEq, Int.reduceBNe])
      (refine W.ret (Fin.same hok (by simp only [resEval, r86, go_sem, ↓reduceIte, Nat.reduceEqDiff, Nat.reduceAdd, Nat.reduceSub, Nat.reduceMul, Nat.reduceLeDiff, Nat.reduceBEq, reduceCtorEq, Int.reduceLT, Int.reduceLE, Int.reduceToNat, Int.reduceAdd, Int.reduceSub, Int.reduceBEq, Int.reduceBNe]; rfl) ?_ (by first | exact .c _ | (simp only [I, S, B, opsC, toksC, Pre.v, Tok.v, OpT.v, low_c, low_void, low_any, low_csl, low_nilf, low_ptr, low_osl, low_agg, low_tup, low_fn, List.forall_mem_cons, List.not_mem_nil, false_implies, implies_true, and_self, and_true, true_and]; done)) (by first | exact ⟨[], (List.append_nil _).symm⟩ | exact ⟨_, rfl⟩)); simp only [resV])
      have : t = [] := List.eq_nil_of_length_eq_zero (by omega)
      subst this
      rw [tokL_out (by omega)]; rfl
theorem ref03_fail (w0 : World) (l : List OpT) (t : List Tok) (i : Nat) (e p : Int) (σ : H) (b : Nat) (hb : σ[b]? = some (rst l t i 0 0)) : DC Tryz.prog w0 88 [.ptr b 0, I e, I p] σ (Same (.tup []) (σ.set b (rst l t i e p))) := by
  have hlt := (List.getElem?_eq_some_iff.1 hb).1
  have hbe : σ[b]? = some (.cells [.c (opsC l), .c (toksC t), I i, I 0, I 0]) := hb
  refine go88 rfl (fun hok hsz => ?_)
  ((first | refine W.advO 5000 _ _ ?_ | skip); simp only [go_sem, ↓reduceIte, Nat.reduceEqDiff, Nat.reduceAdd, Nat.reduceSub, Nat.reduceMul, Nat.reduceLeDiff, Nat.reduceBEq, reduceCtorEq, Int.reduceLT, Int.reduceLE, Int.reduceToNat, Int.reduceAdd, Int.reduceSub, Int.reduceBEq, Int.reduceBNe, c88, hbe])
  refine W.yes rfl ?_
  ((first | refine W.advO 5000 _ _ ?_ | skip); simp only [go_sem, ↓reduceIte, Nat.reduceEqDiff, Nat.reduceAdd, Nat.reduceSub, Nat.reduceMul, Nat.reduceLeDiff, Nat.reduceBEq, reduceCtorEq, Int.reduceLT, Int.reduceLE, Int.reduceToNat, Int.reduceAdd, Int.reduceSub, Int.reduceBEq, Int.reduceBNe, hbe, hgets _ hlt])
  (refine W.done (Fin.sameW (rst_ok hok b l t i e p) (by (first | rfl | exact List.length_set .. | simp)) (by simp only [resEval, r88, go_sem, ↓reduceIte, Nat.reduceEqDiff, Nat.reduceAdd, Nat.reduceSub, Nat.reduceMul, Nat.reduceLeDiff, Nat.reduceBEq, reduceCtorEq, Int.reduceLT, Int.reduceLE, Int.reduceToNat, Int.reduceAdd, Int.reduceSub, Int.reduceBEq, Int.reduceBNe]; rfl) ?_ (by (first | exact .c _ | (simp only [I, S, B, opsC, toksC, Pre.v, Tok.v, OpT.v, low_c, low_void, low_any, low_csl, low_nilf, low_ptr, low_osl, low_agg, low_tup, low_fn, List.forall_mem_cons, List.not_mem_nil, false_implies, implies_true, and_self, and_true, true_and]; done))) (by (first | rfl | exact (List.append_nil _).symm))); simp only [resV]; try exact V.wk.rfl _)
theorem ref03_begins (w0 : World) (l : List OpT) (t : List Tok) (i : Nat) (e p : Int) (σ : H) (b : Nat) (hb : σ[b]? = some (rst l t i e p)) :
    DC Tryz.prog w0 125 [.ptr b 0] σ (Same (B (beginsL l (tokL t i))) σ) := by
  have hlt := (List.getElem?_eq_some_iff.1 hb).1
  have hbe : σ[b]? = some (.cells [.c (opsC l), .c (toksC t), I i, I e, I p]) := hb
  refine go125 rfl (fun hok hsz => ?_)
  ((first | refine W.advO 5000 _ _ ?_ | skip); simp only [go_sem, ↓reduceIte, Nat.reduceEqDiff, Nat.reduceAdd, Nat.reduceSub, Nat.reduceMul, Nat.reduceLeDiff, Nat.reduceBEq, reduceCtorEq, Int.reduceLT, Int.reduceLE, Int.reduceToNat, Int.reduceAdd, Int.reduceSub, Int.reduceBEq, Int.reduceBNe, c125])
  apply W.dregE (List.cons_ne_nil _ _)
  case hc =>
    (apply CanonE.advPO; simp only [advPO_nil, advPO_loud, advPO_quiet, pL_yes, pL_no, pLS_some, pLS_none, pQ_yes, pQ_no, pQS_some, pQS_loud, eq_self, Nat.sub_zero, go_sem, ↓reduceIte, Nat.reduceEqDiff, Nat.reduceAdd, Nat.reduceSub, Nat.reduceMul, Nat.reduceLeDiff, Nat.reduceBEq, reduceCtorEq, Int.reduceLT, Int.reduceLE, Int.reduceToNat, Int.reduceAdd, Int.reduceSub, Int.reduceBEq, Int.reduceBNe, hG hbe, hbe])
    (apply CanonE.pcall (fun τ => ref03_Tok w0 t i τ); (case hg => rfl); (case hf => rfl); (case ha => first | rfl | simp))
    (apply CanonE.advPO; simp only [advPO_nil, advPO_loud, advPO_quiet, pL_yes, pL_no, pLS_some, pLS_none, pQ_yes, pQ_no, pQS_some, pQS_loud, eq_self, Nat.sub_zero, go_sem, ↓reduceIte, Nat.reduceEqDiff, Nat.reduceAdd, Nat.reduceSub, Nat.reduceMul, Nat.reduceLeDiff, Nat.reduceBEq, reduceCtorEq, Int.reduceLT, Int.reduceLE, Int.reduceToNat, Int.reduceAdd, Int.reduceSub, Int.reduceBEq, Int.reduceBNe])
    exact CanonE.nil
  ((first | refine W.advO 5000 _ _ ?_ | skip); simp only [go_sem, ↓reduceIte, Nat.reduceEqDiff, Nat.reduceAdd, Nat.reduceSub, Nat.reduceMul, Nat.reduceLeDiff, Nat.reduceBEq, reduceCtorEq, Int.reduceLT, Int.reduceLE, Int.reduceToNat, Int.reduceAdd, Int.reduceSub, Int.reduceBEq, Int.reduceBNe])
  apply W.dregE (List.cons_ne_nil _ _)
  case hc =>
    (apply CanonE.advPO; simp only [advPO_nil, advPO_loud, advPO_quiet, pL_yes, pL_no, pLS_some, pLS_none, pQ_yes, pQ_no, pQS_some, pQS_loud, eq_self, Nat.sub_zero, go_sem, ↓reduceIte, Nat.reduceEqDiff, Nat.reduceAdd, Nat.reduceSub, Nat.reduceMul, Nat.reduceLeDiff, Nat.reduceBEq, reduceCtorEq, Int.reduceLT, Int.reduceLE, Int.reduceToNat, Int.reduceAdd, Int.reduceSub, Int.reduceBEq, Int.reduceBNe, hG hbe, hbe])
    (apply CanonE.pcall (fun τ => ref02_Is w0 l (tokL t i) τ); (case hg => rfl); (case hf => rfl); (case ha => first | rfl | simp))
    (apply CanonE.advPO; simp only [advPO_nil, advPO_loud, advPO_quiet, pL_yes, pL_no, pLS_some, pLS_none, pQ_yes, pQ_no, pQS_some, pQS_loud, eq_self, Nat.sub_zero, go_sem, ↓reduceIte, Nat.reduceEqDiff, Nat.reduceAdd, Nat.reduceSub, Nat.reduceMul, Nat.reduceLeDiff, Nat.reduceBEq, reduceCtorEq, Int.reduceLT, Int.reduceLE, Int.reduceToNat, Int.reduceAdd, Int.reduceSub, Int.reduceBEq, Int.reduceBNe, foundV])
    exact CanonE.nil
  generalize tokL t i = x
  cases h1 : (x.kind == 1) <;> cases h4 : (x.kind == 4)
  · have hk : ¬ (x.kind = 1 ∨ x.kind = 4) := by
      simp only [beq_eq_false_iff_ne] at h1 h4
      rintro (h | h)
      · exact h1 h
      · exact h4 h
    ((first | refine W.advO 5000 _ _ ?_ | skip); simp only [go_sem, ↓reduceIte, Nat.reduceEqDiff, Nat.reduceAdd, Nat.reduceSub, Nat.reduceMul, Nat.reduceLeDiff, Nat.reduceBEq, reduceCtorEq, Int.reduceLT, Int.reduceLE, Int.reduceToNat, Int.reduceAdd, Int.reduceSub, Int.reduceBEq, Int.reduceBNe, h1, h4])
    refine W.no rfl ?_
    cases h2 : (x.kind == 2) <;> cases h3 : (x.kind == 3) <;> cases h5 : (x.kind == 5)
    all_goals
      ((first | refine W.advO 5000 _ _ ?_ | skip); simp only [go_sem, ↓reduceIte, Nat.reduceEqDiff, Nat.reduceAdd, Nat.reduceSub, Nat.reduceMul, Nat.reduceLeDiff, Nat.reduceBEq, reduceCtorEq, Int.reduceLT, Int.reduceLE, Int.reduceToNat, Int.reduceAdd, Int.reduceSub, Int.reduceBEq, Int.reduceBNe, h2, h3, h5])
      (refine W.ret (Fin.same hok (by simp only [resEval, r125, go_sem, ↓reduceIte, Nat.reduceEqDiff, Nat.reduceAdd, Nat.reduceSub, Nat.reduceMul, Nat.reduceLeDiff, Nat.reduceBEq, reduceCtorEq, Int.reduceLT, Int.reduceLE, Int.reduceToNat, Int.reduceAdd, Int.reduceSub, Int.reduceBEq, Int.reduceBNe]; rfl) ?_ (by first | exact .c _ | (simp only [I, S, B, opsC, toksC, Pre.v, Tok.v, OpT.v, low_c, low_void, low_any, low_csl, low_nilf, low_ptr, low_osl, low_agg, low_tup, low_fn, List.forall_mem_cons, List.not_mem_nil, false_implies, implies_true, and_self, and_true, true_and]; done)) (by first | exact ⟨[], (List.append_nil _).symm⟩ | exact ⟨_, rfl⟩)); simp only [resV])
      rw [beginsL, if_neg hk]; simp_all
  all_goals
    have hk : x.kind = 1 ∨ x.kind = 4 := by
      first
        | exact .inl (by simpa using h1)
        | exact .inr (by simpa using h4)
    ((first | refine W.advO 5000 _ _ ?_ | skip); simp only [go_sem, ↓reduceIte, Nat.reduceEqDiff, Nat.reduceAdd, Nat.reduceSub, Nat.reduceMul, Nat.reduceLeDiff, Nat.reduceBEq, reduceCtorEq, Int.reduceLT, Int.reduceLE, Int.reduceToNat, Int.reduceAdd, Int.reduceSub, Int.reduceBEq, Int.reduceBNe, h1, h4])
    refine W.yes rfl ?_
    ((first | refine W.advO 5000 _ _ ?_ | skip); simp only [go_sem, ↓reduceIte, Nat.reduceEqDiff, Nat.reduceAdd, Nat.reduceSub, Nat.reduceMul, Nat.reduceLeDiff, Nat.reduceBEq, reduceCtorEq, Int.reduceLT, Int.reduceLE, Int.reduceToNat, Int.reduceAdd, Int.reduceSub, Int.reduceBEq, Int.reduceBNe])
    (refine W.ret (Fin.same hok (by simp only [resEval, r125, go_sem, ↓reduceIte, Nat.reduceEqDiff, Nat.reduceAdd, Nat.reduceSub, Nat.reduceMul, Nat.reduceLeDiff, Nat.reduceBEq, reduceCtorEq, Int.reduceLT, Int.reduceLE, Int.reduceToNat, Int.reduceAdd, Int.reduceSub, Int.reduceBEq, Int.reduceBNe]; rfl) ?_ (by first | exact .c _ | (simp only [I, S, B, opsC, toksC, Pre.v, Tok.v, OpT.v, low_c, low_void, low_any, low_csl, low_nilf, low_ptr, low_osl, low_agg, low_tup, low_fn, List.forall_mem_cons, List.not_mem_nil, false_implies, implies_true, and_self, and_true, true_and]; done)) (by first | exact ⟨[], (List.append_nil _).symm⟩ | exact ⟨_, rfl⟩)); simp only [resV])
    rw [beginsL, if_pos hk]; cases opOf l x <;> rfl
theorem ref03_deep_no (w0 : World) (l : List OpT) (t : List Tok) (i : Nat) (depth : Nat) (p : Int) (σ : H) (b : Nat) (hb : σ[b]? = some (rst l t i 0 0)) (hd : 200 ≤ depth) (hd' : depth ≤ 300) :
    DC Tryz.prog w0 89 [.ptr b 0, I depth, I p] σ (Same (B false) (σ.set b (rst l t i 31 p))) := by
  have hw : IntKind.i64.wrap ((depth : Int) + 1) = ((depth + 1 : Nat) : Int) := by rw [wrap_in] <;> omega
  have h1 : ((depth + 1 : Nat) : Int) > 200 := by omega
  refine go89 rfl (fun hok hsz => ?_)
  ((first | refine W.advO 5000 _ _ ?_ | skip); simp only [go_sem, ↓reduceIte, Nat.reduceEqDiff, Nat.reduceAdd, Nat.reduceSub, Nat.reduceMul, Nat.reduceLeDiff, Nat.reduceBEq, reduceCtorEq, Int.reduceLT, Int.reduceLE, Int.reduceToNat, Int.reduceAdd, Int.reduceSub, Int.reduceBEq, Int.reduceBNe, c89, hw, h1])
  refine W.yes rfl ?_
  ((first | refine W.advO 5000 _ _ ?_ | skip); simp only [go_sem, ↓reduceIte, Nat.reduceEqDiff, Nat.reduceAdd, Nat.reduceSub, Nat.reduceMul, Nat.reduceLeDiff, Nat.reduceBEq, reduceCtorEq, Int.reduceLT, Int.reduceLE, Int.reduceToNat, Int.reduceAdd, Int.reduceSub, Int.reduceBEq, Int.reduceBNe])
  (refine W.call1 (ref03_fail w0 l t i 31 p _ b hb) rfl rfl (by first | rfl | simp) ?_; refine W.advO 5000 _ _ ?_; simp only [go_sem, ↓reduceIte, Nat.reduceEqDiff, Nat.reduceAdd, Nat.reduceSub, Nat.reduceMul, Nat.reduceLeDiff, Nat.reduceBEq, reduceCtorEq, Int.reduceLT, Int.reduceLE, Int.reduceToNat, Int.reduceAdd, Int.reduceSub, Int.reduceBEq, Int.reduceBNe])
  (refine W.ret (Fin.sameW (rst_ok hok b l t i 31 p) (by (first | rfl | exact List.length_set .. | simp)) (by simp only [resEval, r89, go_sem, ↓reduceIte, Nat.reduceEqDiff, Nat.reduceAdd, Nat.reduceSub, Nat.reduceMul, Nat.reduceLeDiff, Nat.reduceBEq, reduceCtorEq, Int.reduceLT, Int.reduceLE, Int.reduceToNat, Int.reduceAdd, Int.reduceSub, Int.reduceBEq, Int.reduceBNe]; rfl) ?_ (by (first | exact .c _ | (simp only [I, S, B, opsC, toksC, Pre.v, Tok.v, OpT.v, low_c, low_void, low_any, low_csl, low_nilf, low_ptr, low_osl, low_agg, low_tup, low_fn, List.forall_mem_cons, List.not_mem_nil, false_implies, implies_true, and_self, and_true, true_and]; done))) (by (first | rfl | exact (List.append_nil _).symm))); simp only [resV]; try exact V.wk.rfl _)
theorem ref03_deep_yes (w0 : World) (depth : Nat) (x : V) (p : Int) (σ : H) (hd : depth < 200) :
    DC Tryz.prog w0 89 [x, I depth, I p] σ (Same (B true) σ) := by
  have hw : IntKind.i64.wrap ((depth : Int) + 1) = ((depth + 1 : Nat) : Int) := by rw [wrap_in] <;> omega
  have h1 : ¬ ((depth + 1 : Nat) : Int) > 200 := by omega
  refine go89 rfl (fun hok hsz => ?_)
  ((first | refine W.advO 5000 _ _ ?_ | skip); simp only [go_sem, ↓reduceIte, Nat.reduceEqDiff, Nat.reduceAdd, Nat.reduceSub, Nat.reduceMul, Nat.reduceLeDiff, Nat.reduceBEq, reduceCtorEq, Int.reduceLT, Int.reduceLE, Int.reduceToNat, Int.reduceAdd, Int.reduceSub, Int.reduceBEq, Int.reduceBNe, c89, hw, h1])
  refine W.no rfl ?_
  ((first | refine W.advO 5000 _ _ ?_ | skip); simp only [go_sem, ↓reduceIte, Nat.reduceEqDiff, Nat.reduceAdd, Nat.reduceSub, Nat.reduceMul, Nat.reduceLeDiff, Nat.reduceBEq, reduceCtorEq, Int.reduceLT, Int.reduceLE, Int.reduceToNat, Int.reduceAdd, Int.reduceSub, Int.reduceBEq, Int.reduceBNe])
  (refine W.ret (Fin.same hok (by simp only [resEval, r89, go_sem, ↓reduceIte, Nat.reduceEqDiff, Nat.reduceAdd, Nat.reduceSub, Nat.reduceMul, Nat.reduceLeDiff, Nat.reduceBEq, reduceCtorEq, Int.reduceLT, Int.reduceLE, Int.reduceToNat, Int.reduceAdd, Int.reduceSub, Int.reduceBEq, Int.reduceBNe]; rfl) ?_ (by first | exact .c _ | (simp only [I, S, B, opsC, toksC, Pre.v, Tok.v, OpT.v, low_c, low_void, low_any, low_csl, low_nilf, low_ptr, low_osl, low_agg, low_tup, low_fn, List.forall_mem_cons, List.not_mem_nil, false_implies, implies_true, and_self, and_true, true_and]; done)) (by first | exact ⟨[], (List.append_nil _).symm⟩ | exact ⟨_, rfl⟩)); simp only [resV])
end Go.Proofs.YtpgkhkojjklakaaGreatDoor

/-
  Walks: which trees could have been read, and which are the same, in the document's words; how large they are.
  Walks: which trees could have been read, in the document's words; what is more than is looked at.
  Walks: the first operators.
  Walks: rows of operators, one behind the other.
  Walks: the first operators, all of them.
  Walks: a tree is the same as itself.
  The code of some functions, without addresses.
  Walks: the reader's small functions.
  Walks: the reader's small functions, more of them.
  Walks: what an operator makes of two trees.
  Walks: an expression one deeper; brackets; an atom.
  Walks: brackets.
-/
import Derived.Test.YtpgkhkojjklakaaGreatDoorQJ24
import Derived.Test.YtpgkhkojjklakaaGreatDoorQGrow
import Derived.Test.YtpgkhkojjklakaaGreatDoorQJ8
import Derived.Test.YtpgkhkojjklakaaGreatDoorChecked
set_option linter.unusedSimpArgs false
set_option linter.unusedVariables false
set_option maxHeartbeats 8000000
set_option maxRecDepth 20000
namespace Go.Proofs.YtpgkhkojjklakaaGreatDoor
open Go.RowKit Go.Lamb
attribute [local go_sem] advO_skip advO_reg advO_seq advO_block advO_exit advO_endb advO_opsNil advO_ops advG_yes advG_no advG_none advS_some advS_none advO_cond advO_loop advO_dreg advO_ret advO_bad advO_inv advO_nil advO_zero wantedV Lamb.step ev_t ev_k put_some put_none argEnv popTo cellsAt V.cellsV V.rows V.toC toCs fillV rowsV boundV boundL binV binInt binStr eqC eqL V.isNil leaves V.leaf Ins.quiet Ins.pure List.getD_cons_zero List.getD_cons_succ List.getD_nil List.all_cons List.all_nil List.length_cons List.length_nil List.take_succ_cons List.take_zero List.drop_succ_cons List.drop_zero List.cons_append List.nil_append List.append_nil List.append_assoc List.map_cons List.map_nil List.getElem?_cons_zero List.getElem?_cons_succ List.length_append List.length_set hget0 hget hset0 hset hsets hgs0 hgs hss0 hss List.set_cons_zero List.set_cons_succ List.forall_mem_cons List.not_mem_nil false_implies implies_true Option.map_some Bool.and_true Bool.true_and Bool.not_not Bool.not_true Bool.not_false Bool.and_self Bool.or_true Bool.true_or Bool.or_false Bool.false_or Bool.and_false Bool.false_and Bool.false_eq_true beq_self_eq_true and_self and_true true_and if_true if_false Nat.zero_add Nat.add_zero Nat.le_refl Int.toNat_natCast decide_true decide_false beq_t beq_f List.length_map List.getElem?_map I S B opsC toksC OpT.v OpT.cs OpT.zero Tok.v Tok.cs Pre.v Pre.cs_eq k_mk name_mk n_mk l_mk pos_mk Pre.app applyL natCast0 natCast1 natCast2

theorem pre_len {p : Pre} {args : List V} (h : ∀ y ∈ args, V.Sz y) (hx : p.v ∈ args) : p.l.length ≤ 9223372036854775807 := by
  have := h _ hx
  rw [Pre.v, sz_agg] at this
  exact sz_rows (this (.c (.sl (p.l.map Pre.cs))) (by simp))
theorem ref03_Same (w0 : World) (p : Pre) : ∀ (q : Pre) (σ : H), DC Tryz.prog w0 23 [p.v, q.v] σ (Same (B (samePre p q)) σ) := by
  refine Pre.ind (P := fun p => ∀ (q : Pre) (σ : H), DC Tryz.prog w0 23 [p.v, q.v] σ (Same (B (samePre p q)) σ)) (fun p ih q σ => ?_) p
  refine go23 rfl (fun hok hsz => ?_)
  have hlen := pre_len hsz (List.mem_cons_self ..)
  have hlq : ((p.l.length : Int) == (q.l.length : Int)) = (p.l.length == q.l.length) := by rw [Bool.eq_iff_iff]; simp; omega
  have hnl : p.l.length ≠ q.l.length → zipAll samePre p.l q.l = false := zipAll_len
  (((first | refine W.advO 5000 _ _ ?_ | skip); (try simp only [bne, go_sem, ↓reduceIte, Nat.reduceEqDiff, Nat.reduceAdd, Nat.reduceSub, Nat.reduceMul, Nat.reduceLeDiff, Nat.reduceBEq, reduceCtorEq, Int.reduceLT, Int.reduceLE, Int.reduceToNat, Int.reduceAdd, Int.reduceSub, Int.reduceBEq, Int.reduceBNe, c23, hlq, *])); (repeat' (first | (refine W.yes rfl ?_; (refine W.advO 5000 _ _ ?_; simp only [bne, go_sem, ↓reduceIte, Nat.reduceEqDiff, Nat.reduceAdd, Nat.reduceSub, Nat.reduceMul, Nat.reduceLeDiff, Nat.reduceBEq, reduceCtorEq, Int.reduceLT, Int.reduceLE, Int.reduceToNat, Int.reduceAdd, Int.reduceSub, Int.reduceBEq, Int.reduceBNe, c23, hlq, *])) | (refine W.no rfl ?_; (refine W.advO 5000 _ _ ?_; simp only [bne, go_sem, ↓reduceIte, Nat.reduceEqDiff, Nat.reduceAdd, Nat.reduceSub, Nat.reduceMul, Nat.reduceLeDiff, Nat.reduceBEq, reduceCtorEq, Int.reduceLT, Int.reduceLE, Int.reduceToNat, Int.reduceAdd, Int.reduceSub, Int.reduceBEq, Int.reduceBNe, c23, hlq, *])) | (refine W.testn rfl (fun hT => ?_) (fun hT => ?_) <;> (refine W.advO 5000 _ _ ?_; simp only [bne, go_sem, ↓reduceIte, Nat.reduceEqDiff, Nat.reduceAdd, Nat.reduceSub, Nat.reduceMul, Nat.reduceLeDiff, Nat.reduceBEq, reduceCtorEq, Int.reduceLT, Int.reduceLE, Int.reduceToNat, Int.reduceAdd, Int.reduceSub, Int.reduceBEq, Int.reduceBNe, c23, hlq, *])) | (refine W.test rfl (fun hT => ?_) (fun hT => ?_) <;> (refine W.advO 5000 _ _ ?_; simp only [bne, go_sem, ↓reduceIte, Nat.reduceEqDiff, Nat.reduceAdd, Nat.reduceSub, Nat.reduceMul, Nat.reduceLeDiff, Nat.reduceBEq, reduceCtorEq, Int.reduceLT, Int.reduceLE, Int.reduceToNat, Int.reduceAdd, Int.reduceSub, Int.reduceBEq, Int.reduceBNe, c23, hlq, *])) | (refine advG_ifn _ _ _ _ (fun hT => ?_) (fun hT => ?_) <;> simp only [bne, go_sem, ↓reduceIte, Nat.reduceEqDiff, Nat.reduceAdd, Nat.reduceSub, Nat.reduceMul, Nat.reduceLeDiff, Nat.reduceBEq, reduceCtorEq, Int.reduceLT, Int.reduceLE, Int.reduceToNat, Int.reduceAdd, Int.reduceSub, Int.reduceBEq, Int.reduceBNe, c23, hlq, *]) | (refine advG_if _ _ _ _ (fun hT => ?_) (fun hT => ?_) <;> simp only [bne, go_sem, ↓reduceIte, Nat.reduceEqDiff, Nat.reduceAdd, Nat.reduceSub, Nat.reduceMul, Nat.reduceLeDiff, Nat.reduceBEq, reduceCtorEq, Int.reduceLT, Int.reduceLE, Int.reduceToNat, Int.reduceAdd, Int.reduceSub, Int.reduceBEq, Int.reduceBNe, c23, hlq, *]))))
  all_goals (try (refine W.ret (Fin.sameW (hok) (by (first | rfl | exact List.length_set .. | simp)) (by simp only [resEval, r23, go_sem, ↓reduceIte, Nat.reduceEqDiff, Nat.reduceAdd, Nat.reduceSub, Nat.reduceMul, Nat.reduceLeDiff, Nat.reduceBEq, reduceCtorEq, Int.reduceLT, Int.reduceLE, Int.reduceToNat, Int.reduceAdd, Int.reduceSub, Int.reduceBEq, Int.reduceBNe]; rfl) ?_ (by (first | exact .c _ | (simp only [I, S, B, opsC, toksC, Pre.v, Tok.v, OpT.v, low_c, low_void, low_any, low_csl, low_nilf, low_ptr, low_osl, low_agg, low_tup, low_fn, List.forall_mem_cons, List.not_mem_nil, false_implies, implies_true, and_self, and_true, true_and]; done))) (by (first | rfl | exact (List.append_nil _).symm))); simp only [resV]; (first | exact V.wk.rfl _ | (refine wk_bool ?_; clear hsz hok; rw [samePre_eq] <;> ((try simp only [beq_iff_eq, beq_eq_false_iff_ne, ne_eq, decide_eq_true_eq, decide_eq_false_iff_not] at *); first | (exfalso; omega) | (simp [hnl, *]; done) | (simp [hnl, *]; omega) | (simp [hnl, *]))))))
  simp only [beq_iff_eq, beq_eq_false_iff_ne, Bool.not_eq_true', Bool.not_eq_false'] at *
  have hl : p.l.length = q.l.length := by assumption
  have hs0 : samePre p q = zipAll samePre p.l q.l := by rw [samePre_eq]; simp [*]
  refine W.loopP (fun i => i ≤ p.l.length ∧ ∀ j (hj : j < p.l.length) (hj' : j < q.l.length), j < i → samePre p.l[j] q.l[j] = true) (fun i => ⟨((((base.put (some 2) (.ptr σ.length 0)).put (some 3) (.ptr (σ.length + 1) 0)).put (some 4) (B false)).put (some 5) (I (i : Nat))), σ ++ [.cells p.v.cellsV, .cells q.v.cellsV]⟩) (fun i => p.l.length - i) 0 ⟨Nat.zero_le _, fun _ _ _ h => absurd h (by omega)⟩ ?_ (fun i hi => ?_)
  · (refine Lew.env ?_; (repeat' (first | exact LeE.base _ | (refine LeE.put ?_ (by first | exact V.wk.rfl _ | exact V.wk.osl _ _ | exact V.wk.csl _)))))
  · obtain ⟨hi, hinv⟩ := hi
    by_cases hlt : i < p.l.length
    · have h1 : ((i : Int) < (p.l.length : Int)) := by omega
      have h2 : ((i : Int) < (q.l.length : Int)) := by omega
      have hltr : i < q.l.length := by omega
      have hx : p.l[i]? = some p.l[i] := List.getElem?_eq_getElem hlt
      have hy : q.l[i]? = some q.l[i] := List.getElem?_eq_getElem hltr
      have hw : IntKind.i64.wrap ((i : Int) + 1) = ((i + 1 : Nat) : Int) := wrap_next hlt hlen
      ((first | refine W.advO 5000 _ _ ?_ | skip); simp only [go_sem, ↓reduceIte, Nat.reduceEqDiff, Nat.reduceAdd, Nat.reduceSub, Nat.reduceMul, Nat.reduceLeDiff, Nat.reduceBEq, reduceCtorEq, Int.reduceLT, Int.reduceLE, Int.reduceToNat, Int.reduceAdd, Int.reduceSub, Int.reduceBEq, Int.reduceBNe, h1])
      refine W.yes rfl ?_
      ((first | refine W.advO 5000 _ _ ?_ | skip); simp only [go_sem, ↓reduceIte, Nat.reduceEqDiff, Nat.reduceAdd, Nat.reduceSub, Nat.reduceMul, Nat.reduceLeDiff, Nat.reduceBEq, reduceCtorEq, Int.reduceLT, Int.reduceLE, Int.reduceToNat, Int.reduceAdd, Int.reduceSub, Int.reduceBEq, Int.reduceBNe])
      apply W.dregE (List.cons_ne_nil _ _)
      case hc =>
        (apply CanonE.advPO; simp only [advPO_nil, advPO_loud, advPO_quiet, pL_yes, pL_no, pLS_some, pLS_none, pQ_yes, pQ_no, pQS_some, pQS_loud, eq_self, Nat.sub_zero, go_sem, ↓reduceIte, Nat.reduceEqDiff, Nat.reduceAdd, Nat.reduceSub, Nat.reduceMul, Nat.reduceLeDiff, Nat.reduceBEq, reduceCtorEq, Int.reduceLT, Int.reduceLE, Int.reduceToNat, Int.reduceAdd, Int.reduceSub, Int.reduceBEq, Int.reduceBNe, h1, h2, nat0, hx, hy])
        (apply CanonE.call (ih p.l[i] (List.getElem_mem hlt) q.l[i] _); (case hg => rfl); (case hf => rfl); (case ha => first | rfl | simp))
        (apply CanonE.advPO; simp only [advPO_nil, advPO_loud, advPO_quiet, pL_yes, pL_no, pLS_some, pLS_none, pQ_yes, pQ_no, pQS_some, pQS_loud, eq_self, Nat.sub_zero, go_sem, ↓reduceIte, Nat.reduceEqDiff, Nat.reduceAdd, Nat.reduceSub, Nat.reduceMul, Nat.reduceLeDiff, Nat.reduceBEq, reduceCtorEq, Int.reduceLT, Int.reduceLE, Int.reduceToNat, Int.reduceAdd, Int.reduceSub, Int.reduceBEq, Int.reduceBNe])
        exact CanonE.nil
      ((first | refine W.advO 5000 _ _ ?_ | skip); simp only [go_sem, ↓reduceIte, Nat.reduceEqDiff, Nat.reduceAdd, Nat.reduceSub, Nat.reduceMul, Nat.reduceLeDiff, Nat.reduceBEq, reduceCtorEq, Int.reduceLT, Int.reduceLE, Int.reduceToNat, Int.reduceAdd, Int.reduceSub, Int.reduceBEq, Int.reduceBNe])
      refine W.testn rfl (fun h => ?_) (fun h => ?_)
      · ((first | refine W.advO 5000 _ _ ?_ | skip); simp only [go_sem, ↓reduceIte, Nat.reduceEqDiff, Nat.reduceAdd, Nat.reduceSub, Nat.reduceMul, Nat.reduceLeDiff, Nat.reduceBEq, reduceCtorEq, Int.reduceLT, Int.reduceLE, Int.reduceToNat, Int.reduceAdd, Int.reduceSub, Int.reduceBEq, Int.reduceBNe, hw])
        refine .inv ⟨i + 1, ⟨hlt, fun j hj hj' hji => ?_⟩, by omega, ?_⟩
        · rcases Nat.lt_succ_iff_lt_or_eq.1 hji with h' | h'
          · exact hinv j hj hj' h'
          · subst h'; exact h
        · (refine Lew.env ?_; (repeat' (first | exact LeE.base _ | (refine LeE.put ?_ (by first | exact V.wk.rfl _ | exact V.wk.osl _ _ | exact V.wk.csl _)))))
      · ((first | refine W.advO 5000 _ _ ?_ | skip); simp only [go_sem, ↓reduceIte, Nat.reduceEqDiff, Nat.reduceAdd, Nat.reduceSub, Nat.reduceMul, Nat.reduceLeDiff, Nat.reduceBEq, reduceCtorEq, Int.reduceLT, Int.reduceLE, Int.reduceToNat, Int.reduceAdd, Int.reduceSub, Int.reduceBEq, Int.reduceBNe])
        (refine W.ret (Fin.sameW (hok) (by (first | rfl | exact List.length_set .. | simp)) (by simp only [resEval, r23, go_sem, ↓reduceIte, Nat.reduceEqDiff, Nat.reduceAdd, Nat.reduceSub, Nat.reduceMul, Nat.reduceLeDiff, Nat.reduceBEq, reduceCtorEq, Int.reduceLT, Int.reduceLE, Int.reduceToNat, Int.reduceAdd, Int.reduceSub, Int.reduceBEq, Int.reduceBNe]; rfl) ?_ (by (first | exact .c _ | (simp only [I, S, B, opsC, toksC, Pre.v, Tok.v, OpT.v, low_c, low_void, low_any, low_csl, low_nilf, low_ptr, low_osl, low_agg, low_tup, low_fn, List.forall_mem_cons, List.not_mem_nil, false_implies, implies_true, and_self, and_true, true_and]; done))) (by (first | rfl | exact (List.append_nil _).symm))); simp only [resV]; try exact V.wk.rfl _)
        rw [hs0, zipAll_no hlt hltr h]
        exact .rfl _
    · have h1 : ¬ ((i : Int) < (p.l.length : Int)) := by omega
      ((first | refine W.advO 5000 _ _ ?_ | skip); simp only [go_sem, ↓reduceIte, Nat.reduceEqDiff, Nat.reduceAdd, Nat.reduceSub, Nat.reduceMul, Nat.reduceLeDiff, Nat.reduceBEq, reduceCtorEq, Int.reduceLT, Int.reduceLE, Int.reduceToNat, Int.reduceAdd, Int.reduceSub, Int.reduceBEq, Int.reduceBNe, h1])
      refine W.no rfl ?_
      ((first | refine W.advO 5000 _ _ ?_ | skip); simp only [go_sem, ↓reduceIte, Nat.reduceEqDiff, Nat.reduceAdd, Nat.reduceSub, Nat.reduceMul, Nat.reduceLeDiff, Nat.reduceBEq, reduceCtorEq, Int.reduceLT, Int.reduceLE, Int.reduceToNat, Int.reduceAdd, Int.reduceSub, Int.reduceBEq, Int.reduceBNe])
      (refine W.ret (Fin.sameW (hok) (by (first | rfl | exact List.length_set .. | simp)) (by simp only [resEval, r23, go_sem, ↓reduceIte, Nat.reduceEqDiff, Nat.reduceAdd, Nat.reduceSub, Nat.reduceMul, Nat.reduceLeDiff, Nat.reduceBEq, reduceCtorEq, Int.reduceLT, Int.reduceLE, Int.reduceToNat, Int.reduceAdd, Int.reduceSub, Int.reduceBEq, Int.reduceBNe]; rfl) ?_ (by (first | exact .c _ | (simp only [I, S, B, opsC, toksC, Pre.v, Tok.v, OpT.v, low_c, low_void, low_any, low_csl, low_nilf, low_ptr, low_osl, low_agg, low_tup, low_fn, List.forall_mem_cons, List.not_mem_nil, false_implies, implies_true, and_self, and_true, true_and]; done))) (by (first | rfl | exact (List.append_nil _).symm))); simp only [resV]; try exact V.wk.rfl _)
      rw [hs0, zipAll_yes hl (fun j hj hj' => hinv j hj hj' (by omega))]
      exact .rfl _
theorem ref03_left (w0 : World) (p : Pre) : ∀ (n : Int), 0 ≤ n → n ≤ 1000000 → ∀ (σ : H), DC Tryz.prog w0 39 [p.v, I n] σ (Same (I (leftP p n)) σ) := by
  refine Pre.ind (P := fun p => ∀ (n : Int), 0 ≤ n → n ≤ 1000000 → ∀ (σ : H), DC Tryz.prog w0 39 [p.v, I n] σ (Same (I (leftP p n)) σ)) (fun p ih n hn hn' σ => ?_) p
  refine go39 rfl (fun hok hsz => ?_)
  have hlen := pre_len hsz (List.mem_cons_self ..)
  have hw0 : IntKind.i64.wrap (n - 1) = n - 1 := by rw [wrap_in] <;> omega
  ((first | refine W.advO 5000 _ _ ?_ | skip); simp only [go_sem, ↓reduceIte, Nat.reduceEqDiff, Nat.reduceAdd, Nat.reduceSub, Nat.reduceMul, Nat.reduceLeDiff, Nat.reduceBEq, reduceCtorEq, Int.reduceLT, Int.reduceLE, Int.reduceToNat, Int.reduceAdd, Int.reduceSub, Int.reduceBEq, Int.reduceBNe, c39, hw0])
  refine W.loopP (α := Nat × Int) (fun x => x.1 ≤ p.l.length ∧ -1 ≤ x.2 ∧ x.2 ≤ 1000000 ∧ leftPs (p.l.drop x.1) x.2 = leftP p n) (fun x => ⟨((((base.put (some 2) (.ptr σ.length 0)).put (some 4) (I 0)).put (some 5) (I x.2)).put (some 6) (I (x.1 : Nat))), σ ++ [.cells p.v.cellsV]⟩) (fun x => p.l.length - x.1) (0, n - 1) ⟨Nat.zero_le _, by simp only; omega, by simp only; omega, by rw [leftP_eq]; rfl⟩ ?_ (fun x hi => ?_)
  · (refine Lew.env ?_; (repeat' (first | exact LeE.base _ | (refine LeE.put ?_ (by first | exact V.wk.rfl _ | exact V.wk.osl _ _ | exact V.wk.csl _)))))
  · obtain ⟨i, m⟩ := x
    obtain ⟨hi, hm, hm', hinv⟩ := hi
    simp only at hi hm hm' hinv
    by_cases hlt : i < p.l.length
    · have h1 : ((i : Int) < (p.l.length : Int)) := by omega
      have hx : p.l[i]? = some p.l[i] := List.getElem?_eq_getElem hlt
      have hw : IntKind.i64.wrap ((i : Int) + 1) = ((i + 1 : Nat) : Int) := wrap_next hlt hlen
      by_cases h0 : 0 ≤ m
      · have h0' : m ≥ 0 := h0
        ((first | refine W.advO 5000 _ _ ?_ | skip); simp only [go_sem, ↓reduceIte, Nat.reduceEqDiff, Nat.reduceAdd, Nat.reduceSub, Nat.reduceMul, Nat.reduceLeDiff, Nat.reduceBEq, reduceCtorEq, Int.reduceLT, Int.reduceLE, Int.reduceToNat, Int.reduceAdd, Int.reduceSub, Int.reduceBEq, Int.reduceBNe, h1, h0'])
        refine W.yes rfl ?_
        ((first | refine W.advO 5000 _ _ ?_ | skip); simp only [go_sem, ↓reduceIte, Nat.reduceEqDiff, Nat.reduceAdd, Nat.reduceSub, Nat.reduceMul, Nat.reduceLeDiff, Nat.reduceBEq, reduceCtorEq, Int.reduceLT, Int.reduceLE, Int.reduceToNat, Int.reduceAdd, Int.reduceSub, Int.reduceBEq, Int.reduceBNe, h1, nat0, hx])
        (refine W.call1 (ih p.l[i] (List.getElem_mem hlt) m h0 hm' _) rfl rfl (by first | rfl | simp) ?_; refine W.advO 5000 _ _ ?_; simp only [go_sem, ↓reduceIte, Nat.reduceEqDiff, Nat.reduceAdd, Nat.reduceSub, Nat.reduceMul, Nat.reduceLeDiff, Nat.reduceBEq, reduceCtorEq, Int.reduceLT, Int.reduceLE, Int.reduceToNat, Int.reduceAdd, Int.reduceSub, Int.reduceBEq, Int.reduceBNe, hw])
        have := leftP_le p.l[i] m h0
        refine .inv ⟨(i + 1, leftP p.l[i] m), ⟨hlt, this.1, by simp only; omega, by rw [← hinv, leftPs_step hlt h0]⟩, by simp only; omega, ?_⟩
        (refine Lew.env ?_; (repeat' (first | exact LeE.base _ | (refine LeE.put ?_ (by first | exact V.wk.rfl _ | exact V.wk.osl _ _ | exact V.wk.csl _)))))
      · have h0' : ¬ m ≥ 0 := h0
        ((first | refine W.advO 5000 _ _ ?_ | skip); simp only [go_sem, ↓reduceIte, Nat.reduceEqDiff, Nat.reduceAdd, Nat.reduceSub, Nat.reduceMul, Nat.reduceLeDiff, Nat.reduceBEq, reduceCtorEq, Int.reduceLT, Int.reduceLE, Int.reduceToNat, Int.reduceAdd, Int.reduceSub, Int.reduceBEq, Int.reduceBNe, h1, h0'])
        refine W.no rfl ?_
        ((first | refine W.advO 5000 _ _ ?_ | skip); simp only [go_sem, ↓reduceIte, Nat.reduceEqDiff, Nat.reduceAdd, Nat.reduceSub, Nat.reduceMul, Nat.reduceLeDiff, Nat.reduceBEq, reduceCtorEq, Int.reduceLT, Int.reduceLE, Int.reduceToNat, Int.reduceAdd, Int.reduceSub, Int.reduceBEq, Int.reduceBNe])
        (refine W.ret (Fin.sameW (hok) (by (first | rfl | exact List.length_set .. | simp)) (by simp only [resEval, r39, go_sem, ↓reduceIte, Nat.reduceEqDiff, Nat.reduceAdd, Nat.reduceSub, Nat.reduceMul, Nat.reduceLeDiff, Nat.reduceBEq, reduceCtorEq, Int.reduceLT, Int.reduceLE, Int.reduceToNat, Int.reduceAdd, Int.reduceSub, Int.reduceBEq, Int.reduceBNe]; rfl) ?_ (by (first | exact .c _ | (simp only [I, S, B, opsC, toksC, Pre.v, Tok.v, OpT.v, low_c, low_void, low_any, low_csl, low_nilf, low_ptr, low_osl, low_agg, low_tup, low_fn, List.forall_mem_cons, List.not_mem_nil, false_implies, implies_true, and_self, and_true, true_and]; done))) (by (first | rfl | exact (List.append_nil _).symm))); simp only [resV]; try exact V.wk.rfl _)
        rw [← hinv, leftPs_neg h0]
        exact .rfl _
    · have h1 : ¬ ((i : Int) < (p.l.length : Int)) := by omega
      ((first | refine W.advO 5000 _ _ ?_ | skip); simp only [go_sem, ↓reduceIte, Nat.reduceEqDiff, Nat.reduceAdd, Nat.reduceSub, Nat.reduceMul, Nat.reduceLeDiff, Nat.reduceBEq, reduceCtorEq, Int.reduceLT, Int.reduceLE, Int.reduceToNat, Int.reduceAdd, Int.reduceSub, Int.reduceBEq, Int.reduceBNe, h1])
      refine W.no rfl ?_
      ((first | refine W.advO 5000 _ _ ?_ | skip); simp only [go_sem, ↓reduceIte, Nat.reduceEqDiff, Nat.reduceAdd, Nat.reduceSub, Nat.reduceMul, Nat.reduceLeDiff, Nat.reduceBEq, reduceCtorEq, Int.reduceLT, Int.reduceLE, Int.reduceToNat, Int.reduceAdd, Int.reduceSub, Int.reduceBEq, Int.reduceBNe])
      (refine W.ret (Fin.sameW (hok) (by (first | rfl | exact List.length_set .. | simp)) (by simp only [resEval, r39, go_sem, ↓reduceIte, Nat.reduceEqDiff, Nat.reduceAdd, Nat.reduceSub, Nat.reduceMul, Nat.reduceLeDiff, Nat.reduceBEq, reduceCtorEq, Int.reduceLT, Int.reduceLE, Int.reduceToNat, Int.reduceAdd, Int.reduceSub, Int.reduceBEq, Int.reduceBNe]; rfl) ?_ (by (first | exact .c _ | (simp only [I, S, B, opsC, toksC, Pre.v, Tok.v, OpT.v, low_c, low_void, low_any, low_csl, low_nilf, low_ptr, low_osl, low_agg, low_tup, low_fn, List.forall_mem_cons, List.not_mem_nil, false_implies, implies_true, and_self, and_true, true_and]; done))) (by (first | rfl | exact (List.append_nil _).symm))); simp only [resV]; try exact V.wk.rfl _)
      rw [← hinv, leftPs_end (by omega)]
      exact .rfl _
theorem ref03_Deep (w0 : World) (p : Pre) (n : Int) (hn : 0 ≤ n) (hn' : n ≤ 1000000) (σ : H) : DC Tryz.prog w0 19 [p.v, I n] σ (Same (B (decide (leftP p n < 0))) σ) := by
  refine go19 rfl (fun hok hsz => ?_)
  ((first | refine W.advO 5000 _ _ ?_ | skip); simp only [go_sem, ↓reduceIte, Nat.reduceEqDiff, Nat.reduceAdd, Nat.reduceSub, Nat.reduceMul, Nat.reduceLeDiff, Nat.reduceBEq, reduceCtorEq, Int.reduceLT, Int.reduceLE, Int.reduceToNat, Int.reduceAdd, Int.reduceSub, Int.reduceBEq, Int.reduceBNe, c19])
  (refine W.call1 (ref03_left w0 p n hn hn' _) rfl rfl (by first | rfl | simp) ?_; refine W.advO 5000 _ _ ?_; simp only [go_sem, ↓reduceIte, Nat.reduceEqDiff, Nat.reduceAdd, Nat.reduceSub, Nat.reduceMul, Nat.reduceLeDiff, Nat.reduceBEq, reduceCtorEq, Int.reduceLT, Int.reduceLE, Int.reduceToNat, Int.reduceAdd, Int.reduceSub, Int.reduceBEq, Int.reduceBNe])
  (refine W.ret (Fin.sameW (hok) (by (first | rfl | exact List.length_set .. | simp)) (by simp only [resEval, r19, go_sem, ↓reduceIte, Nat.reduceEqDiff, Nat.reduceAdd, Nat.reduceSub, Nat.reduceMul, Nat.reduceLeDiff, Nat.reduceBEq, reduceCtorEq, Int.reduceLT, Int.reduceLE, Int.reduceToNat, Int.reduceAdd, Int.reduceSub, Int.reduceBEq, Int.reduceBNe]; rfl) ?_ (by (first | exact .c _ | (simp only [I, S, B, opsC, toksC, Pre.v, Tok.v, OpT.v, low_c, low_void, low_any, low_csl, low_nilf, low_ptr, low_osl, low_agg, low_tup, low_fn, List.forall_mem_cons, List.not_mem_nil, false_implies, implies_true, and_self, and_true, true_and]; done))) (by (first | rfl | exact (List.append_nil _).symm))); simp only [resV]; try exact V.wk.rfl _)
end Go.Proofs.YtpgkhkojjklakaaGreatDoor
namespace Go.Proofs.YtpgkhkojjklakaaGreatDoor
open Go.RowKit Go.Lamb
attribute [local go_sem] advO_skip advO_reg advO_seq advO_block advO_exit advO_endb advO_opsNil advO_ops advG_yes advG_no advG_none advS_some advS_none advO_cond advO_loop advO_dreg advO_ret advO_bad advO_inv advO_nil advO_zero wantedV Lamb.step ev_t ev_k put_some put_none argEnv popTo cellsAt V.cellsV V.rows V.toC toCs fillV rowsV boundV boundL binV binInt binStr eqC eqL V.isNil leaves V.leaf Ins.quiet Ins.pure List.getD_cons_zero List.getD_cons_succ List.getD_nil List.all_cons List.all_nil List.length_cons List.length_nil List.take_succ_cons List.take_zero List.drop_succ_cons List.drop_zero List.cons_append List.nil_append List.append_nil List.append_assoc List.map_cons List.map_nil List.getElem?_cons_zero List.getElem?_cons_succ List.length_append List.length_set hget0 hget hset0 hset hsets hgs0 hgs hss0 hss List.set_cons_zero List.set_cons_succ List.forall_mem_cons List.not_mem_nil false_implies implies_true Option.map_some Bool.and_true Bool.true_and Bool.not_not Bool.not_true Bool.not_false Bool.and_self Bool.or_true Bool.true_or Bool.or_false Bool.false_or Bool.and_false Bool.false_and Bool.false_eq_true beq_self_eq_true and_self and_true true_and if_true if_false Nat.zero_add Nat.add_zero Nat.le_refl Int.toNat_natCast decide_true decide_false beq_t beq_f List.length_map List.getElem?_map I S B opsC toksC OpT.v OpT.cs OpT.zero Tok.v Tok.cs Pre.v Pre.cs_eq k_mk name_mk n_mk l_mk pos_mk Pre.app applyL natCast0 natCast1 natCast2

theorem all_at {α : Type} {l : List α} {f : α → Bool} {j : Nat} (hj : j < l.length) (h : f l[j] = false) : l.all f = false := by
  rw [List.all_eq_false]; exact ⟨_, List.getElem_mem hj, by rw [h]; simp⟩
theorem all_yes {α : Type} {l : List α} {f : α → Bool} (h : ∀ j (hj : j < l.length), f l[j] = true) : l.all f = true := by
  rw [List.all_eq_true]; intro x hx; obtain ⟨j, hj, rfl⟩ := List.getElem_of_mem hx; exact h j hj
theorem ref03_Valid (w0 : World) (o : List OpT) (p : Pre) : ∀ (σ : H), DC Tryz.prog w0 21 [.c (opsC o), p.v] σ (Same (B (validPre o p)) σ) := by
  refine Pre.ind (P := fun p => ∀ (σ : H), DC Tryz.prog w0 21 [.c (opsC o), p.v] σ (Same (B (validPre o p)) σ)) (fun p ih σ => ?_) p
  refine go21 rfl (fun hok hsz => ?_)
  have l0 := len_ne (n := p.l.length) 0
  have l1 := len_ne (n := p.l.length) 1
  have l2 := len_ne (n := p.l.length) 2
  simp only [natCast0, natCast1, natCast2] at l0 l1 l2
  ((first | refine W.advO 5000 _ _ ?_ | skip); simp only [go_sem, ↓reduceIte, Nat.reduceEqDiff, Nat.reduceAdd, Nat.reduceSub, Nat.reduceMul, Nat.reduceLeDiff, Nat.reduceBEq, reduceCtorEq, Int.reduceLT, Int.reduceLE, Int.reduceToNat, Int.reduceAdd, Int.reduceSub, Int.reduceBEq, Int.reduceBNe, c21])
  (refine W.call1 (ref02_Find w0 o p.name _) rfl rfl (by first | rfl | simp) ?_; refine W.advO 5000 _ _ ?_; simp only [go_sem, ↓reduceIte, Nat.reduceEqDiff, Nat.reduceAdd, Nat.reduceSub, Nat.reduceMul, Nat.reduceLeDiff, Nat.reduceBEq, reduceCtorEq, Int.reduceLT, Int.reduceLE, Int.reduceToNat, Int.reduceAdd, Int.reduceSub, Int.reduceBEq, Int.reduceBNe, foundV])
  (((first | refine W.advO 5000 _ _ ?_ | skip); (try simp only [bne, go_sem, ↓reduceIte, Nat.reduceEqDiff, Nat.reduceAdd, Nat.reduceSub, Nat.reduceMul, Nat.reduceLeDiff, Nat.reduceBEq, reduceCtorEq, Int.reduceLT, Int.reduceLE, Int.reduceToNat, Int.reduceAdd, Int.reduceSub, Int.reduceBEq, Int.reduceBNe, l0, l1, l2, *])); (repeat' (first | (refine W.yes rfl ?_; (refine W.advO 5000 _ _ ?_; simp only [bne, go_sem, ↓reduceIte, Nat.reduceEqDiff, Nat.reduceAdd, Nat.reduceSub, Nat.reduceMul, Nat.reduceLeDiff, Nat.reduceBEq, reduceCtorEq, Int.reduceLT, Int.reduceLE, Int.reduceToNat, Int.reduceAdd, Int.reduceSub, Int.reduceBEq, Int.reduceBNe, l0, l1, l2, *])) | (refine W.no rfl ?_; (refine W.advO 5000 _ _ ?_; simp only [bne, go_sem, ↓reduceIte, Nat.reduceEqDiff, Nat.reduceAdd, Nat.reduceSub, Nat.reduceMul, Nat.reduceLeDiff, Nat.reduceBEq, reduceCtorEq, Int.reduceLT, Int.reduceLE, Int.reduceToNat, Int.reduceAdd, Int.reduceSub, Int.reduceBEq, Int.reduceBNe, l0, l1, l2, *])) | (refine W.call1 (ref01_IsNameD w0 p.name _) rfl rfl (by first | rfl | simp) ?_; (refine W.advO 5000 _ _ ?_; simp only [bne, go_sem, ↓reduceIte, Nat.reduceEqDiff, Nat.reduceAdd, Nat.reduceSub, Nat.reduceMul, Nat.reduceLeDiff, Nat.reduceBEq, reduceCtorEq, Int.reduceLT, Int.reduceLE, Int.reduceToNat, Int.reduceAdd, Int.reduceSub, Int.reduceBEq, Int.reduceBNe, l0, l1, l2, *])) | (refine W.call1 (ref01_IsSymD w0 p.name _) rfl rfl (by first | rfl | simp) ?_; (refine W.advO 5000 _ _ ?_; simp only [bne, go_sem, ↓reduceIte, Nat.reduceEqDiff, Nat.reduceAdd, Nat.reduceSub, Nat.reduceMul, Nat.reduceLeDiff, Nat.reduceBEq, reduceCtorEq, Int.reduceLT, Int.reduceLE, Int.reduceToNat, Int.reduceAdd, Int.reduceSub, Int.reduceBEq, Int.reduceBNe, l0, l1, l2, *])) | (refine W.call1 (ref01_IsVarD w0 p.name _) rfl rfl (by first | rfl | simp) ?_; (refine W.advO 5000 _ _ ?_; simp only [bne, go_sem, ↓reduceIte, Nat.reduceEqDiff, Nat.reduceAdd, Nat.reduceSub, Nat.reduceMul, Nat.reduceLeDiff, Nat.reduceBEq, reduceCtorEq, Int.reduceLT, Int.reduceLE, Int.reduceToNat, Int.reduceAdd, Int.reduceSub, Int.reduceBEq, Int.reduceBNe, l0, l1, l2, *])) | (refine W.testn rfl (fun hT => ?_) (fun hT => ?_) <;> (refine W.advO 5000 _ _ ?_; simp only [bne, go_sem, ↓reduceIte, Nat.reduceEqDiff, Nat.reduceAdd, Nat.reduceSub, Nat.reduceMul, Nat.reduceLeDiff, Nat.reduceBEq, reduceCtorEq, Int.reduceLT, Int.reduceLE, Int.reduceToNat, Int.reduceAdd, Int.reduceSub, Int.reduceBEq, Int.reduceBNe, l0, l1, l2, *])) | (refine W.test rfl (fun hT => ?_) (fun hT => ?_) <;> (refine W.advO 5000 _ _ ?_; simp only [bne, go_sem, ↓reduceIte, Nat.reduceEqDiff, Nat.reduceAdd, Nat.reduceSub, Nat.reduceMul, Nat.reduceLeDiff, Nat.reduceBEq, reduceCtorEq, Int.reduceLT, Int.reduceLE, Int.reduceToNat, Int.reduceAdd, Int.reduceSub, Int.reduceBEq, Int.reduceBNe, l0, l1, l2, *])) | (refine advG_ifn _ _ _ _ (fun hT => ?_) (fun hT => ?_) <;> simp only [bne, go_sem, ↓reduceIte, Nat.reduceEqDiff, Nat.reduceAdd, Nat.reduceSub, Nat.reduceMul, Nat.reduceLeDiff, Nat.reduceBEq, reduceCtorEq, Int.reduceLT, Int.reduceLE, Int.reduceToNat, Int.reduceAdd, Int.reduceSub, Int.reduceBEq, Int.reduceBNe, l0, l1, l2, *]) | (refine advG_if _ _ _ _ (fun hT => ?_) (fun hT => ?_) <;> simp only [bne, go_sem, ↓reduceIte, Nat.reduceEqDiff, Nat.reduceAdd, Nat.reduceSub, Nat.reduceMul, Nat.reduceLeDiff, Nat.reduceBEq, reduceCtorEq, Int.reduceLT, Int.reduceLE, Int.reduceToNat, Int.reduceAdd, Int.reduceSub, Int.reduceBEq, Int.reduceBNe, l0, l1, l2, *]))))
  all_goals (try (refine W.ret (Fin.sameW (hok) (by (first | rfl | exact List.length_set .. | simp)) (by simp only [resEval, r21, go_sem, ↓reduceIte, Nat.reduceEqDiff, Nat.reduceAdd, Nat.reduceSub, Nat.reduceMul, Nat.reduceLeDiff, Nat.reduceBEq, reduceCtorEq, Int.reduceLT, Int.reduceLE, Int.reduceToNat, Int.reduceAdd, Int.reduceSub, Int.reduceBEq, Int.reduceBNe]; rfl) ?_ (by (first | exact .c _ | (simp only [I, S, B, opsC, toksC, Pre.v, Tok.v, OpT.v, low_c, low_void, low_any, low_csl, low_nilf, low_ptr, low_osl, low_agg, low_tup, low_fn, List.forall_mem_cons, List.not_mem_nil, false_implies, implies_true, and_self, and_true, true_and]; done))) (by (first | rfl | exact (List.append_nil _).symm))); simp only [resV]; (first | exact V.wk.rfl _ | (refine wk_bool ?_; clear hsz hok; rw [validPre_eq] <;> ((try simp only [beq_iff_eq, beq_eq_false_iff_ne, ne_eq, decide_eq_true_eq, decide_eq_false_iff_not] at *); first | (exfalso; omega) | (simp [nodeOk, *]; done) | (simp [nodeOk, *]; omega) | (simp [nodeOk, *]))))))
  all_goals
    simp only [beq_iff_eq, beq_eq_false_iff_ne, ne_eq, decide_eq_true_eq] at *
    have hn : nodeOk o p.k p.name p.n p.l.length = true := by simp [nodeOk, *]
    have hv : validPre o p = p.l.all (validPre o) := by rw [validPre_eq, hn]; rfl
    refine W.loopP (fun i => i ≤ p.l.length ∧ ∀ j (hj : j < p.l.length), j < i → validPre o p.l[j] = true) (fun i => ⟨(((((base.put (some 0) (.c (opsC o))).put (some 3) (.ptr σ.length 0)).put (some 4) (B false)).put (some 7) (I ?_)).put (some 13) (I (i : Nat))), σ ++ [.cells p.v.cellsV, .cells ((findL o p.name).getD OpT.zero).v.cellsV]⟩) (fun i => p.l.length - i) 0 ⟨Nat.zero_le _, fun _ _ h => absurd h (by omega)⟩ ?_ (fun i hi => ?_)
    rotate_left
    · (refine Lew.env ?_; (repeat' (first | exact LeE.base _ | (refine LeE.put ?_ (by first | exact V.wk.rfl _ | exact V.wk.osl _ _ | exact V.wk.csl _)))))
    · obtain ⟨hi, hinv⟩ := hi
      ((first | refine W.advO 5000 _ _ ?_ | skip); simp only [go_sem, ↓reduceIte, Nat.reduceEqDiff, Nat.reduceAdd, Nat.reduceSub, Nat.reduceMul, Nat.reduceLeDiff, Nat.reduceBEq, reduceCtorEq, Int.reduceLT, Int.reduceLE, Int.reduceToNat, Int.reduceAdd, Int.reduceSub, Int.reduceBEq, Int.reduceBNe])
      refine W.test rfl (fun h => ?_) (fun h => ?_)
      · have hlt : i < p.l.length := by simp only [decide_eq_true_eq] at h; omega
        have hx : p.l[i]? = some p.l[i] := List.getElem?_eq_getElem hlt
        have h1 : ((i : Int) < (p.l.length : Int)) := by omega
        have hw : IntKind.i64.wrap ((i : Int) + 1) = ((i + 1 : Nat) : Int) := by rw [wrap_in] <;> omega
        ((first | refine W.advO 5000 _ _ ?_ | skip); simp only [go_sem, ↓reduceIte, Nat.reduceEqDiff, Nat.reduceAdd, Nat.reduceSub, Nat.reduceMul, Nat.reduceLeDiff, Nat.reduceBEq, reduceCtorEq, Int.reduceLT, Int.reduceLE, Int.reduceToNat, Int.reduceAdd, Int.reduceSub, Int.reduceBEq, Int.reduceBNe, h1, nat0, hx])
        (refine W.call1 (ih p.l[i] (List.getElem_mem hlt) _) rfl rfl (by first | rfl | simp) ?_; refine W.advO 5000 _ _ ?_; simp only [go_sem, ↓reduceIte, Nat.reduceEqDiff, Nat.reduceAdd, Nat.reduceSub, Nat.reduceMul, Nat.reduceLeDiff, Nat.reduceBEq, reduceCtorEq, Int.reduceLT, Int.reduceLE, Int.reduceToNat, Int.reduceAdd, Int.reduceSub, Int.reduceBEq, Int.reduceBNe])
        refine W.testn rfl (fun h' => ?_) (fun h' => ?_)
        · ((first | refine W.advO 5000 _ _ ?_ | skip); simp only [go_sem, ↓reduceIte, Nat.reduceEqDiff, Nat.reduceAdd, Nat.reduceSub, Nat.reduceMul, Nat.reduceLeDiff, Nat.reduceBEq, reduceCtorEq, Int.reduceLT, Int.reduceLE, Int.reduceToNat, Int.reduceAdd, Int.reduceSub, Int.reduceBEq, Int.reduceBNe, hw])
          refine .inv ⟨i + 1, ⟨hlt, fun j hj hji => ?_⟩, by omega, ?_⟩
          · rcases Nat.lt_succ_iff_lt_or_eq.1 hji with h2 | h2
            · exact hinv j hj h2
            · subst h2; exact h'
          · (refine Lew.env ?_; (repeat' (first | exact LeE.base _ | (refine LeE.put ?_ (by first | exact V.wk.rfl _ | exact V.wk.osl _ _ | exact V.wk.csl _)))))
        · ((first | refine W.advO 5000 _ _ ?_ | skip); simp only [go_sem, ↓reduceIte, Nat.reduceEqDiff, Nat.reduceAdd, Nat.reduceSub, Nat.reduceMul, Nat.reduceLeDiff, Nat.reduceBEq, reduceCtorEq, Int.reduceLT, Int.reduceLE, Int.reduceToNat, Int.reduceAdd, Int.reduceSub, Int.reduceBEq, Int.reduceBNe])
          (refine W.ret (Fin.sameW (hok) (by (first | rfl | exact List.length_set .. | simp)) (by simp only [resEval, r21, go_sem, ↓reduceIte, Nat.reduceEqDiff, Nat.reduceAdd, Nat.reduceSub, Nat.reduceMul, Nat.reduceLeDiff, Nat.reduceBEq, reduceCtorEq, Int.reduceLT, Int.reduceLE, Int.reduceToNat, Int.reduceAdd, Int.reduceSub, Int.reduceBEq, Int.reduceBNe]; rfl) ?_ (by (first | exact .c _ | (simp only [I, S, B, opsC, toksC, Pre.v, Tok.v, OpT.v, low_c, low_void, low_any, low_csl, low_nilf, low_ptr, low_osl, low_agg, low_tup, low_fn, List.forall_mem_cons, List.not_mem_nil, false_implies, implies_true, and_self, and_true, true_and]; done))) (by (first | rfl | exact (List.append_nil _).symm))); simp only [resV]; try exact V.wk.rfl _)
          rw [hv, all_at hlt h']
          exact .rfl _
      · have hge : ¬ i < p.l.length := by simp only [decide_eq_false_iff_not] at h; omega
        ((first | refine W.advO 5000 _ _ ?_ | skip); simp only [go_sem, ↓reduceIte, Nat.reduceEqDiff, Nat.reduceAdd, Nat.reduceSub, Nat.reduceMul, Nat.reduceLeDiff, Nat.reduceBEq, reduceCtorEq, Int.reduceLT, Int.reduceLE, Int.reduceToNat, Int.reduceAdd, Int.reduceSub, Int.reduceBEq, Int.reduceBNe])
        (refine W.ret (Fin.sameW (hok) (by (first | rfl | exact List.length_set .. | simp)) (by simp only [resEval, r21, go_sem, ↓reduceIte, Nat.reduceEqDiff, Nat.reduceAdd, Nat.reduceSub, Nat.reduceMul, Nat.reduceLeDiff, Nat.reduceBEq, reduceCtorEq, Int.reduceLT, Int.reduceLE, Int.reduceToNat, Int.reduceAdd, Int.reduceSub, Int.reduceBEq, Int.reduceBNe]; rfl) ?_ (by (first | exact .c _ | (simp only [I, S, B, opsC, toksC, Pre.v, Tok.v, OpT.v, low_c, low_void, low_any, low_csl, low_nilf, low_ptr, low_osl, low_agg, low_tup, low_fn, List.forall_mem_cons, List.not_mem_nil, false_implies, implies_true, and_self, and_true, true_and]; done))) (by (first | rfl | exact (List.append_nil _).symm))); simp only [resV]; try exact V.wk.rfl _)
        rw [hv, all_yes (fun j hj => hinv j hj (by omega))]
        exact .rfl _
end Go.Proofs.YtpgkhkojjklakaaGreatDoor
namespace Go.Proofs.YtpgkhkojjklakaaGreatDoor
open Go.RowKit Go.Lamb
attribute [local go_sem] advO_skip advO_reg advO_seq advO_block advO_exit advO_endb advO_opsNil advO_ops advG_yes advG_no advG_none advS_some advS_none advO_cond advO_loop advO_dreg advO_ret advO_bad advO_inv advO_nil advO_zero wantedV Lamb.step ev_t ev_k put_some put_none argEnv popTo cellsAt V.cellsV V.rows V.toC toCs fillV rowsV boundV boundL binV binInt binStr eqC eqL V.isNil leaves V.leaf Ins.quiet Ins.pure List.getD_cons_zero List.getD_cons_succ List.getD_nil List.all_cons List.all_nil List.length_cons List.length_nil List.take_succ_cons List.take_zero List.drop_succ_cons List.drop_zero List.cons_append List.nil_append List.append_nil List.append_assoc List.map_cons List.map_nil List.getElem?_cons_zero List.getElem?_cons_succ List.length_append List.length_set hget0 hget hset0 hset hsets hgs0 hgs hss0 hss List.set_cons_zero List.set_cons_succ List.forall_mem_cons List.not_mem_nil false_implies implies_true Option.map_some Bool.and_true Bool.true_and Bool.not_not Bool.not_true Bool.not_false Bool.and_self Bool.or_true Bool.true_or Bool.or_false Bool.false_or Bool.and_false Bool.false_and Bool.false_eq_true beq_self_eq_true and_self and_true true_and if_true if_false Nat.zero_add Nat.add_zero Nat.le_refl Int.toNat_natCast decide_true decide_false beq_t beq_f List.length_map List.getElem?_map I S B opsC toksC OpT.v OpT.cs OpT.zero Tok.v Tok.cs Pre.v Pre.cs_eq k_mk name_mk n_mk l_mk pos_mk Pre.app applyL natCast0 natCast1 natCast2

def rowOf (prec fix : Int) (names : List (List UInt8)) : List OpT := names.map fun n => ⟨n, prec, fix⟩
theorem ops_row (w0 : World) (prec fix : Int) (names : List (List UInt8)) (hn : names.length ≤ 1000) (σ : H) :
    DC Tryz.prog w0 35 [I prec, I fix, .csl (names.map fun n => [.str n])] σ (Same (.c (opsC (rowOf prec fix names))) σ) := by
  refine go35 rfl (fun hok hsz => ?_)
  ((first | refine W.advO 5000 _ _ ?_ | skip); simp only [go_sem, ↓reduceIte, Nat.reduceEqDiff, Nat.reduceAdd, Nat.reduceSub, Nat.reduceMul, Nat.reduceLeDiff, Nat.reduceBEq, reduceCtorEq, Int.reduceLT, Int.reduceLE, Int.reduceToNat, Int.reduceAdd, Int.reduceSub, Int.reduceBEq, Int.reduceBNe, c35])
  refine W.own 7 59 3 rfl ?_
  refine W.loopP (fun i => i ≤ names.length) (fun i => ⟨((((((base.put (some 0) (I prec)).put (some 1) (I fix)).put (some 7) (.osl σ.length ((rowOf prec fix (names.take i)).map OpT.cs))).put (some 10) (.csl (names.map fun n => [.str n]))).put (some 11) (I names.length)).put (some 12) (I i)), σ ++ [.spare 59 3 i]⟩) (fun i => names.length - i) 0 (Nat.zero_le _) ?_ (fun i hi => ?_)
  · (refine Lew.env ?_; (repeat' (first | exact LeE.base _ | (refine LeE.put ?_ (by first | exact V.wk.rfl _ | exact V.wk.osl _ _ | exact V.wk.csl _)))))
  · by_cases hlt : i < names.length
    · have h1 : ((i : Int) < (names.length : Int)) := by omega
      have hx : names[i]? = some names[i] := List.getElem?_eq_getElem hlt
      have hl : (rowOf prec fix (names.take i)).length = i := by simp [rowOf, hi]
      have hb1 : (i + 1) * 32 ≤ 140737488355328 := by omega
      have hb2 : i + 1 ≤ 140737488355328 := by omega
      have hta : (rowOf prec fix (names.take (i + 1))).map OpT.cs = (rowOf prec fix (names.take i)).map OpT.cs ++ [OpT.cs ⟨names[i], prec, fix⟩] := by
        unfold rowOf
        rw [List.take_add_one, hx, List.map_append, List.map_append]; rfl
      have hw : IntKind.i64.wrap ((i : Int) + 1) = ((i + 1 : Nat) : Int) := by rw [wrap_in] <;> omega
      ((first | refine W.advO 5000 _ _ ?_ | skip); simp only [go_sem, ↓reduceIte, Nat.reduceEqDiff, Nat.reduceAdd, Nat.reduceSub, Nat.reduceMul, Nat.reduceLeDiff, Nat.reduceBEq, reduceCtorEq, Int.reduceLT, Int.reduceLE, Int.reduceToNat, Int.reduceAdd, Int.reduceSub, Int.reduceBEq, Int.reduceBNe, h1])
      refine W.yes rfl ?_
      ((first | refine W.advO 5000 _ _ ?_ | skip); simp only [go_sem, ↓reduceIte, Nat.reduceEqDiff, Nat.reduceAdd, Nat.reduceSub, Nat.reduceMul, Nat.reduceLeDiff, Nat.reduceBEq, reduceCtorEq, Int.reduceLT, Int.reduceLE, Int.reduceToNat, Int.reduceAdd, Int.reduceSub, Int.reduceBEq, Int.reduceBNe, h1, nat0, hx, hl, hb1, hb2, eq_self, hw])
      refine .inv ⟨i + 1, hlt, by omega, ?_⟩
      simp only [go_sem, ↓reduceIte, Nat.reduceEqDiff, Nat.reduceAdd, Nat.reduceSub, Nat.reduceMul, Nat.reduceLeDiff, Nat.reduceBEq, reduceCtorEq, Int.reduceLT, Int.reduceLE, Int.reduceToNat, Int.reduceAdd, Int.reduceSub, Int.reduceBEq, Int.reduceBNe, hta]
      (refine Lew.env ?_; (repeat' (first | exact LeE.base _ | (refine LeE.put ?_ (by first | exact V.wk.rfl _ | exact V.wk.osl _ _ | exact V.wk.csl _)))))
    · have h1 : ¬ ((i : Int) < (names.length : Int)) := by omega
      have hi' : i = names.length := by omega
      subst hi'
      ((first | refine W.advO 5000 _ _ ?_ | skip); simp only [go_sem, ↓reduceIte, Nat.reduceEqDiff, Nat.reduceAdd, Nat.reduceSub, Nat.reduceMul, Nat.reduceLeDiff, Nat.reduceBEq, reduceCtorEq, Int.reduceLT, Int.reduceLE, Int.reduceToNat, Int.reduceAdd, Int.reduceSub, Int.reduceBEq, Int.reduceBNe, h1])
      refine W.no rfl ?_
      ((first | refine W.advO 5000 _ _ ?_ | skip); simp only [go_sem, ↓reduceIte, Nat.reduceEqDiff, Nat.reduceAdd, Nat.reduceSub, Nat.reduceMul, Nat.reduceLeDiff, Nat.reduceBEq, reduceCtorEq, Int.reduceLT, Int.reduceLE, Int.reduceToNat, Int.reduceAdd, Int.reduceSub, Int.reduceBEq, Int.reduceBNe, List.take_length])
      (refine W.ret (Fin.sameW (hok) (by (first | rfl | exact List.length_set .. | simp)) (by simp only [resEval, r35, go_sem, ↓reduceIte, Nat.reduceEqDiff, Nat.reduceAdd, Nat.reduceSub, Nat.reduceMul, Nat.reduceLeDiff, Nat.reduceBEq, reduceCtorEq, Int.reduceLT, Int.reduceLE, Int.reduceToNat, Int.reduceAdd, Int.reduceSub, Int.reduceBEq, Int.reduceBNe]; rfl) ?_ (by (first | exact .c _ | (simp only [I, S, B, opsC, toksC, Pre.v, Tok.v, OpT.v, low_c, low_void, low_any, low_csl, low_nilf, low_ptr, low_osl, low_agg, low_tup, low_fn, List.forall_mem_cons, List.not_mem_nil, false_implies, implies_true, and_self, and_true, true_and]; done))) (by (first | rfl | exact (List.append_nil _).symm))); simp only [resV]; try exact V.wk.rfl _)
      (repeat' (first | exact V.wk.rfl _ | exact V.wk.csl _ | exact V.wk.osl _ _ | exact wk_agg_nil | exact wk_tup_nil | refine wk_agg_cons ?_ ?_ | refine wk_tup_cons ?_ ?_))
end Go.Proofs.YtpgkhkojjklakaaGreatDoor
namespace Go.Proofs.YtpgkhkojjklakaaGreatDoor
open Go.RowKit Go.Lamb
attribute [local go_sem] advO_skip advO_reg advO_seq advO_block advO_exit advO_endb advO_opsNil advO_ops advG_yes advG_no advG_none advS_some advS_none advO_cond advO_loop advO_dreg advO_ret advO_bad advO_inv advO_nil advO_zero wantedV Lamb.step ev_t ev_k put_some put_none argEnv popTo cellsAt V.cellsV V.rows V.toC toCs fillV rowsV boundV boundL binV binInt binStr eqC eqL V.isNil leaves V.leaf Ins.quiet Ins.pure List.getD_cons_zero List.getD_cons_succ List.getD_nil List.all_cons List.all_nil List.length_cons List.length_nil List.take_succ_cons List.take_zero List.drop_succ_cons List.drop_zero List.cons_append List.nil_append List.append_nil List.append_assoc List.map_cons List.map_nil List.getElem?_cons_zero List.getElem?_cons_succ List.length_append List.length_set hget0 hget hset0 hset hsets hgs0 hgs hss0 hss List.set_cons_zero List.set_cons_succ List.forall_mem_cons List.not_mem_nil false_implies implies_true Option.map_some Bool.and_true Bool.true_and Bool.not_not Bool.not_true Bool.not_false Bool.and_self Bool.or_true Bool.true_or Bool.or_false Bool.false_or Bool.and_false Bool.false_and Bool.false_eq_true beq_self_eq_true and_self and_true true_and if_true if_false Nat.zero_add Nat.add_zero Nat.le_refl Int.toNat_natCast decide_true decide_false beq_t beq_f List.length_map List.getElem?_map I S B opsC toksC OpT.v OpT.cs OpT.zero Tok.v Tok.cs Pre.v Pre.cs_eq k_mk name_mk n_mk l_mk pos_mk Pre.app applyL natCast0 natCast1 natCast2

theorem flat_take {α : Type} {ls : List (List α)} {i : Nat} (h : i < ls.length) : (ls.take (i + 1)).flatten = (ls.take i).flatten ++ ls[i] := by
  rw [List.take_add_one, List.getElem?_eq_getElem h, List.flatten_append]
  congr 1
  exact List.append_nil _
theorem flat_le {α : Type} {ls : List (List α)} (i : Nat) : (ls.take i).flatten.length ≤ ls.flatten.length := by
  have : ls.flatten = (ls.take i).flatten ++ (ls.drop i).flatten := by rw [← List.flatten_append, List.take_append_drop]
  rw [this, List.length_append]
  omega
theorem slices_Concat (w0 : World) (ls : List (List OpT)) (hn : ls.flatten.length ≤ 100000) (hls : ls.length ≤ 100000) (σ : H) :
    DC Tryz.prog w0 34 [.csl (ls.map fun r => [opsC r])] σ (Same (.c (opsC ls.flatten)) σ) := by
  refine go34 rfl (fun hok hsz => ?_)
  ((first | refine W.advO 5000 _ _ ?_ | skip); simp only [go_sem, ↓reduceIte, Nat.reduceEqDiff, Nat.reduceAdd, Nat.reduceSub, Nat.reduceMul, Nat.reduceLeDiff, Nat.reduceBEq, reduceCtorEq, Int.reduceLT, Int.reduceLE, Int.reduceToNat, Int.reduceAdd, Int.reduceSub, Int.reduceBEq, Int.reduceBNe, c34])
  refine W.loopP (fun i => i ≤ ls.length) (fun i => ⟨(((((base.put (some 0) (.csl (ls.map fun r => [opsC r]))).put (some 3) (I (ls.take i).flatten.length)).put (some 9) (.csl (ls.map fun r => [opsC r]))).put (some 10) (I ls.length)).put (some 11) (I i)), σ⟩) (fun i => ls.length - i) 0 (Nat.zero_le _) ?_ (fun i hi => ?_)
  · (refine Lew.env ?_; (repeat' (first | exact LeE.base _ | (refine LeE.put ?_ (by first | exact V.wk.rfl _ | exact V.wk.osl _ _ | exact V.wk.csl _)))))
  · by_cases hlt : i < ls.length
    · have h1 : ((i : Int) < (ls.length : Int)) := by omega
      have hx : ls[i]? = some ls[i] := List.getElem?_eq_getElem hlt
      have hft := flat_take hlt
      have hfl : (ls.take (i + 1)).flatten.length = (ls.take i).flatten.length + ls[i].length := by rw [hft, List.length_append]
      have hle := flat_le (ls := ls) (i + 1)
      have hw : IntKind.i64.wrap ((i : Int) + 1) = ((i + 1 : Nat) : Int) := by rw [wrap_in] <;> omega
      have hw2 : IntKind.i64.wrap (((ls.take i).flatten.length : Int) + (ls[i].length : Int)) = (((ls.take (i + 1)).flatten.length : Nat) : Int) := by rw [wrap_in] <;> omega
      have hneg : ¬ ((((ls.take (i + 1)).flatten.length : Nat) : Int) < 0) := by omega
      ((first | refine W.advO 5000 _ _ ?_ | skip); simp only [go_sem, ↓reduceIte, Nat.reduceEqDiff, Nat.reduceAdd, Nat.reduceSub, Nat.reduceMul, Nat.reduceLeDiff, Nat.reduceBEq, reduceCtorEq, Int.reduceLT, Int.reduceLE, Int.reduceToNat, Int.reduceAdd, Int.reduceSub, Int.reduceBEq, Int.reduceBNe, h1])
      refine W.yes rfl ?_
      ((first | refine W.advO 5000 _ _ ?_ | skip); simp only [go_sem, ↓reduceIte, Nat.reduceEqDiff, Nat.reduceAdd, Nat.reduceSub, Nat.reduceMul, Nat.reduceLeDiff, Nat.reduceBEq, reduceCtorEq, Int.reduceLT, Int.reduceLE, Int.reduceToNat, Int.reduceAdd, Int.reduceSub, Int.reduceBEq, Int.reduceBNe, h1, nat0, hx, hw2, hneg])
      refine W.no rfl ?_
      ((first | refine W.advO 5000 _ _ ?_ | skip); simp only [go_sem, ↓reduceIte, Nat.reduceEqDiff, Nat.reduceAdd, Nat.reduceSub, Nat.reduceMul, Nat.reduceLeDiff, Nat.reduceBEq, reduceCtorEq, Int.reduceLT, Int.reduceLE, Int.reduceToNat, Int.reduceAdd, Int.reduceSub, Int.reduceBEq, Int.reduceBNe, hw])
      refine .inv ⟨i + 1, hlt, by omega, ?_⟩
      (refine Lew.env ?_; (repeat' (first | exact LeE.base _ | (refine LeE.put ?_ (by first | exact V.wk.rfl _ | exact V.wk.osl _ _ | exact V.wk.csl _)))))
    · have h1 : ¬ ((i : Int) < (ls.length : Int)) := by omega
      have hi' : i = ls.length := by omega
      subst hi'
      ((first | refine W.advO 5000 _ _ ?_ | skip); simp only [go_sem, ↓reduceIte, Nat.reduceEqDiff, Nat.reduceAdd, Nat.reduceSub, Nat.reduceMul, Nat.reduceLeDiff, Nat.reduceBEq, reduceCtorEq, Int.reduceLT, Int.reduceLE, Int.reduceToNat, Int.reduceAdd, Int.reduceSub, Int.reduceBEq, Int.reduceBNe, h1])
      refine W.no rfl ?_
      ((first | refine W.advO 5000 _ _ ?_ | skip); simp only [go_sem, ↓reduceIte, Nat.reduceEqDiff, Nat.reduceAdd, Nat.reduceSub, Nat.reduceMul, Nat.reduceLeDiff, Nat.reduceBEq, reduceCtorEq, Int.reduceLT, Int.reduceLE, Int.reduceToNat, Int.reduceAdd, Int.reduceSub, Int.reduceBEq, Int.reduceBNe, List.take_length])
      (refine W.call1 (slices_Grow w0 ls.flatten.length (by omega) _) rfl rfl (by first | rfl | simp) ?_; refine W.advO 5000 _ _ ?_; simp only [go_sem, ↓reduceIte, Nat.reduceEqDiff, Nat.reduceAdd, Nat.reduceSub, Nat.reduceMul, Nat.reduceLeDiff, Nat.reduceBEq, reduceCtorEq, Int.reduceLT, Int.reduceLE, Int.reduceToNat, Int.reduceAdd, Int.reduceSub, Int.reduceBEq, Int.reduceBNe])
      refine W.loopP (fun i => i ≤ ls.length) (fun i => ⟨((((base.put (some 6) (.osl σ.length ((ls.take i).flatten.map OpT.cs))).put (some 25) (.csl (ls.map fun r => [opsC r]))).put (some 26) (I ls.length)).put (some 27) (I i)), σ ++ [.spare 59 3 (ls.take i).flatten.length]⟩) (fun i => ls.length - i) 0 (Nat.zero_le _) ?_ (fun i hi => ?_)
      · (refine Lew.env ?_; (repeat' (first | exact LeE.base _ | (refine LeE.put ?_ (by first | exact V.wk.rfl _ | exact V.wk.osl _ _ | exact V.wk.csl _)))))
      · by_cases hlt : i < ls.length
        · have h1 : ((i : Int) < (ls.length : Int)) := by omega
          have hx : ls[i]? = some ls[i] := List.getElem?_eq_getElem hlt
          have hft := flat_take hlt
          have hfl : (ls.take (i + 1)).flatten.length = (ls.take i).flatten.length + ls[i].length := by rw [hft, List.length_append]
          have hle := flat_le (ls := ls) (i + 1)
          have hb1 : ((ls.take i).flatten.length + ls[i].length) * 32 ≤ 140737488355328 := by omega
          have hb2 : (ls.take i).flatten.length + ls[i].length ≤ 140737488355328 := by omega
          have hb3 : ∀ r ∈ ls[i].map OpT.cs, r.length = 3 := fun r hr => by obtain ⟨o, _, rfl⟩ := List.mem_map.1 hr; rfl
          have hta : (ls.take (i + 1)).flatten.map OpT.cs = (ls.take i).flatten.map OpT.cs ++ ls[i].map OpT.cs := by rw [hft, List.map_append]
          have hw : IntKind.i64.wrap ((i : Int) + 1) = ((i + 1 : Nat) : Int) := by rw [wrap_in] <;> omega
          ((first | refine W.advO 5000 _ _ ?_ | skip); simp only [go_sem, ↓reduceIte, Nat.reduceEqDiff, Nat.reduceAdd, Nat.reduceSub, Nat.reduceMul, Nat.reduceLeDiff, Nat.reduceBEq, reduceCtorEq, Int.reduceLT, Int.reduceLE, Int.reduceToNat, Int.reduceAdd, Int.reduceSub, Int.reduceBEq, Int.reduceBNe, h1])
          refine W.yes rfl ?_
          ((first | refine W.advO 5000 _ _ ?_ | skip); simp only [go_sem, ↓reduceIte, Nat.reduceEqDiff, Nat.reduceAdd, Nat.reduceSub, Nat.reduceMul, Nat.reduceLeDiff, Nat.reduceBEq, reduceCtorEq, Int.reduceLT, Int.reduceLE, Int.reduceToNat, Int.reduceAdd, Int.reduceSub, Int.reduceBEq, Int.reduceBNe, h1, nat0, hx, hb1, hb2, eq_self, hw, eq_true hb3])
          refine .inv ⟨i + 1, hlt, by omega, ?_⟩
          simp only [go_sem, ↓reduceIte, Nat.reduceEqDiff, Nat.reduceAdd, Nat.reduceSub, Nat.reduceMul, Nat.reduceLeDiff, Nat.reduceBEq, reduceCtorEq, Int.reduceLT, Int.reduceLE, Int.reduceToNat, Int.reduceAdd, Int.reduceSub, Int.reduceBEq, Int.reduceBNe, hta, hfl]
          (refine Lew.env ?_; (repeat' (first | exact LeE.base _ | (refine LeE.put ?_ (by first | exact V.wk.rfl _ | exact V.wk.osl _ _ | exact V.wk.csl _)))))
        · have h1 : ¬ ((i : Int) < (ls.length : Int)) := by omega
          have hi' : i = ls.length := by omega
          subst hi'
          ((first | refine W.advO 5000 _ _ ?_ | skip); simp only [go_sem, ↓reduceIte, Nat.reduceEqDiff, Nat.reduceAdd, Nat.reduceSub, Nat.reduceMul, Nat.reduceLeDiff, Nat.reduceBEq, reduceCtorEq, Int.reduceLT, Int.reduceLE, Int.reduceToNat, Int.reduceAdd, Int.reduceSub, Int.reduceBEq, Int.reduceBNe, h1])
          refine W.no rfl ?_
          ((first | refine W.advO 5000 _ _ ?_ | skip); simp only [go_sem, ↓reduceIte, Nat.reduceEqDiff, Nat.reduceAdd, Nat.reduceSub, Nat.reduceMul, Nat.reduceLeDiff, Nat.reduceBEq, reduceCtorEq, Int.reduceLT, Int.reduceLE, Int.reduceToNat, Int.reduceAdd, Int.reduceSub, Int.reduceBEq, Int.reduceBNe, List.take_length])
          (refine W.ret (Fin.sameW (hok) (by (first | rfl | exact List.length_set .. | simp)) (by simp only [resEval, r34, go_sem, ↓reduceIte, Nat.reduceEqDiff, Nat.reduceAdd, Nat.reduceSub, Nat.reduceMul, Nat.reduceLeDiff, Nat.reduceBEq, reduceCtorEq, Int.reduceLT, Int.reduceLE, Int.reduceToNat, Int.reduceAdd, Int.reduceSub, Int.reduceBEq, Int.reduceBNe]; rfl) ?_ (by (first | exact .c _ | (simp only [I, S, B, opsC, toksC, Pre.v, Tok.v, OpT.v, low_c, low_void, low_any, low_csl, low_nilf, low_ptr, low_osl, low_agg, low_tup, low_fn, List.forall_mem_cons, List.not_mem_nil, false_implies, implies_true, and_self, and_true, true_and]; done))) (by (first | rfl | exact (List.append_nil _).symm))); simp only [resV]; try exact V.wk.rfl _)
          (repeat' (first | exact V.wk.rfl _ | exact V.wk.csl _ | exact V.wk.osl _ _ | exact wk_agg_nil | exact wk_tup_nil | refine wk_agg_cons ?_ ?_ | refine wk_tup_cons ?_ ?_))
end Go.Proofs.YtpgkhkojjklakaaGreatDoor
namespace Go.Proofs.YtpgkhkojjklakaaGreatDoor
open Go.RowKit Go.Lamb
attribute [local go_sem] advO_skip advO_reg advO_seq advO_block advO_exit advO_endb advO_opsNil advO_ops advG_yes advG_no advG_none advS_some advS_none advO_cond advO_loop advO_dreg advO_ret advO_bad advO_inv advO_nil advO_zero wantedV Lamb.step ev_t ev_k put_some put_none argEnv popTo cellsAt V.cellsV V.rows V.toC toCs fillV rowsV boundV boundL binV binInt binStr eqC eqL V.isNil leaves V.leaf Ins.quiet Ins.pure List.getD_cons_zero List.getD_cons_succ List.getD_nil List.all_cons List.all_nil List.length_cons List.length_nil List.take_succ_cons List.take_zero List.drop_succ_cons List.drop_zero List.cons_append List.nil_append List.append_nil List.append_assoc List.map_cons List.map_nil List.getElem?_cons_zero List.getElem?_cons_succ List.length_append List.length_set hget0 hget hset0 hset hsets hgs0 hgs hss0 hss List.set_cons_zero List.set_cons_succ List.forall_mem_cons List.not_mem_nil false_implies implies_true Option.map_some Bool.and_true Bool.true_and Bool.not_not Bool.not_true Bool.not_false Bool.and_self Bool.or_true Bool.true_or Bool.or_false Bool.false_or Bool.and_false Bool.false_and Bool.false_eq_true beq_self_eq_true and_self and_true true_and if_true if_false Nat.zero_add Nat.add_zero Nat.le_refl Int.toNat_natCast decide_true decide_false beq_t beq_f List.length_map List.getElem?_map I S B opsC toksC OpT.v OpT.cs OpT.zero Tok.v Tok.cs Pre.v Pre.cs_eq k_mk name_mk n_mk l_mk pos_mk Pre.app applyL natCast0 natCast1 natCast2

def firstRows : List (List OpT) := [rowOf 10 0 [[58, 45]], rowOf 20 2 [[59]], rowOf 30 2 [[44]], rowOf 40 2 [[61, 62]], rowOf 60 0 [[61], [105, 115], [60], [61, 60], [62], [62, 61]], rowOf 80 1 [[43], [45]], rowOf 90 1 [[42], [100, 105, 118], [109, 111, 100]]]
theorem ops_Default (w0 : World) (σ : H) : DC Tryz.prog w0 14 [] σ (Same (.c (opsC firstRows.flatten)) σ) := by
  refine go14 rfl (fun hok hsz => ?_)
  ((first | refine W.advO 5000 _ _ ?_ | skip); simp only [go_sem, ↓reduceIte, Nat.reduceEqDiff, Nat.reduceAdd, Nat.reduceSub, Nat.reduceMul, Nat.reduceLeDiff, Nat.reduceBEq, reduceCtorEq, Int.reduceLT, Int.reduceLE, Int.reduceToNat, Int.reduceAdd, Int.reduceSub, Int.reduceBEq, Int.reduceBNe, c14])
  (refine W.call1 (ops_row w0 10 0 [[58, 45]] (by decide) _) rfl rfl (by first | rfl | simp) ?_; refine W.advO 5000 _ _ ?_; simp only [go_sem, ↓reduceIte, Nat.reduceEqDiff, Nat.reduceAdd, Nat.reduceSub, Nat.reduceMul, Nat.reduceLeDiff, Nat.reduceBEq, reduceCtorEq, Int.reduceLT, Int.reduceLE, Int.reduceToNat, Int.reduceAdd, Int.reduceSub, Int.reduceBEq, Int.reduceBNe])
  (refine W.call1 (ops_row w0 20 2 [[59]] (by decide) _) rfl rfl (by first | rfl | simp) ?_; refine W.advO 5000 _ _ ?_; simp only [go_sem, ↓reduceIte, Nat.reduceEqDiff, Nat.reduceAdd, Nat.reduceSub, Nat.reduceMul, Nat.reduceLeDiff, Nat.reduceBEq, reduceCtorEq, Int.reduceLT, Int.reduceLE, Int.reduceToNat, Int.reduceAdd, Int.reduceSub, Int.reduceBEq, Int.reduceBNe])
  (refine W.call1 (ops_row w0 30 2 [[44]] (by decide) _) rfl rfl (by first | rfl | simp) ?_; refine W.advO 5000 _ _ ?_; simp only [go_sem, ↓reduceIte, Nat.reduceEqDiff, Nat.reduceAdd, Nat.reduceSub, Nat.reduceMul, Nat.reduceLeDiff, Nat.reduceBEq, reduceCtorEq, Int.reduceLT, Int.reduceLE, Int.reduceToNat, Int.reduceAdd, Int.reduceSub, Int.reduceBEq, Int.reduceBNe])
  (refine W.call1 (ops_row w0 40 2 [[61, 62]] (by decide) _) rfl rfl (by first | rfl | simp) ?_; refine W.advO 5000 _ _ ?_; simp only [go_sem, ↓reduceIte, Nat.reduceEqDiff, Nat.reduceAdd, Nat.reduceSub, Nat.reduceMul, Nat.reduceLeDiff, Nat.reduceBEq, reduceCtorEq, Int.reduceLT, Int.reduceLE, Int.reduceToNat, Int.reduceAdd, Int.reduceSub, Int.reduceBEq, Int.reduceBNe])
  (refine W.call1 (ops_row w0 60 0 [[61], [105, 115], [60], [61, 60], [62], [62, 61]] (by decide) _) rfl rfl (by first | rfl | simp) ?_; refine W.advO 5000 _ _ ?_; simp only [go_sem, ↓reduceIte, Nat.reduceEqDiff, Nat.reduceAdd, Nat.reduceSub, Nat.reduceMul, Nat.reduceLeDiff, Nat.reduceBEq, reduceCtorEq, Int.reduceLT, Int.reduceLE, Int.reduceToNat, Int.reduceAdd, Int.reduceSub, Int.reduceBEq, Int.reduceBNe])
  (refine W.call1 (ops_row w0 80 1 [[43], [45]] (by decide) _) rfl rfl (by first | rfl | simp) ?_; refine W.advO 5000 _ _ ?_; simp only [go_sem, ↓reduceIte, Nat.reduceEqDiff, Nat.reduceAdd, Nat.reduceSub, Nat.reduceMul, Nat.reduceLeDiff, Nat.reduceBEq, reduceCtorEq, Int.reduceLT, Int.reduceLE, Int.reduceToNat, Int.reduceAdd, Int.reduceSub, Int.reduceBEq, Int.reduceBNe])
  (refine W.call1 (ops_row w0 90 1 [[42], [100, 105, 118], [109, 111, 100]] (by decide) _) rfl rfl (by first | rfl | simp) ?_; refine W.advO 5000 _ _ ?_; simp only [go_sem, ↓reduceIte, Nat.reduceEqDiff, Nat.reduceAdd, Nat.reduceSub, Nat.reduceMul, Nat.reduceLeDiff, Nat.reduceBEq, reduceCtorEq, Int.reduceLT, Int.reduceLE, Int.reduceToNat, Int.reduceAdd, Int.reduceSub, Int.reduceBEq, Int.reduceBNe])
  (refine W.call1 (slices_Concat w0 firstRows (by decide) (by decide) _) rfl rfl (by first | rfl | simp) ?_; refine W.advO 5000 _ _ ?_; simp only [go_sem, ↓reduceIte, Nat.reduceEqDiff, Nat.reduceAdd, Nat.reduceSub, Nat.reduceMul, Nat.reduceLeDiff, Nat.reduceBEq, reduceCtorEq, Int.reduceLT, Int.reduceLE, Int.reduceToNat, Int.reduceAdd, Int.reduceSub, Int.reduceBEq, Int.reduceBNe])
  (refine W.ret (Fin.sameW (hok) (by (first | rfl | exact List.length_set .. | simp)) (by simp only [resEval, r14, go_sem, ↓reduceIte, Nat.reduceEqDiff, Nat.reduceAdd, Nat.reduceSub, Nat.reduceMul, Nat.reduceLeDiff, Nat.reduceBEq, reduceCtorEq, Int.reduceLT, Int.reduceLE, Int.reduceToNat, Int.reduceAdd, Int.reduceSub, Int.reduceBEq, Int.reduceBNe]; rfl) ?_ (by (first | exact .c _ | (simp only [I, S, B, opsC, toksC, Pre.v, Tok.v, OpT.v, low_c, low_void, low_any, low_csl, low_nilf, low_ptr, low_osl, low_agg, low_tup, low_fn, List.forall_mem_cons, List.not_mem_nil, false_implies, implies_true, and_self, and_true, true_and]; done))) (by (first | rfl | exact (List.append_nil _).symm))); simp only [resV]; try exact V.wk.rfl _)
end Go.Proofs.YtpgkhkojjklakaaGreatDoor
namespace Go.Proofs.YtpgkhkojjklakaaGreatDoor
open Go.RowKit Go.Lamb
attribute [local go_sem] advO_skip advO_reg advO_seq advO_block advO_exit advO_endb advO_opsNil advO_ops advG_yes advG_no advG_none advS_some advS_none advO_cond advO_loop advO_dreg advO_ret advO_bad advO_inv advO_nil advO_zero wantedV Lamb.step ev_t ev_k put_some put_none argEnv popTo cellsAt V.cellsV V.rows V.toC toCs fillV rowsV boundV boundL binV binInt binStr eqC eqL V.isNil leaves V.leaf Ins.quiet Ins.pure List.getD_cons_zero List.getD_cons_succ List.getD_nil List.all_cons List.all_nil List.length_cons List.length_nil List.take_succ_cons List.take_zero List.drop_succ_cons List.drop_zero List.cons_append List.nil_append List.append_nil List.append_assoc List.map_cons List.map_nil List.getElem?_cons_zero List.getElem?_cons_succ List.length_append List.length_set hget0 hget hset0 hset hsets hgs0 hgs hss0 hss List.set_cons_zero List.set_cons_succ List.forall_mem_cons List.not_mem_nil false_implies implies_true Option.map_some Bool.and_true Bool.true_and Bool.not_not Bool.not_true Bool.not_false Bool.and_self Bool.or_true Bool.true_or Bool.or_false Bool.false_or Bool.and_false Bool.false_and Bool.false_eq_true beq_self_eq_true and_self and_true true_and if_true if_false Nat.zero_add Nat.add_zero Nat.le_refl Int.toNat_natCast decide_true decide_false beq_t beq_f List.length_map List.getElem?_map I S B opsC toksC OpT.v OpT.cs OpT.zero Tok.v Tok.cs Pre.v Pre.cs_eq k_mk name_mk n_mk l_mk pos_mk Pre.app applyL natCast0 natCast1 natCast2

theorem ref03_Exact (w0 : World) (p : Pre) : ∀ (σ : H), DC Tryz.prog w0 17 [p.v, p.v] σ (Same (B true) σ) := by
  refine Pre.ind (P := fun p => ∀ (σ : H), DC Tryz.prog w0 17 [p.v, p.v] σ (Same (B true) σ)) (fun p ih σ => ?_) p
  refine go17 rfl (fun hok hsz => ?_)
  have hlen : p.l.length ≤ 9223372036854775807 := by
    have := hsz _ (List.mem_cons_self ..)
    rw [Pre.v, sz_agg] at this
    exact sz_rows (this (.c (.sl (p.l.map Pre.cs))) (by simp))
  have e1 : ∀ a : Int, (a != a) = false := fun a => by simp
  ((first | refine W.advO 5000 _ _ ?_ | skip); simp only [go_sem, ↓reduceIte, Nat.reduceEqDiff, Nat.reduceAdd, Nat.reduceSub, Nat.reduceMul, Nat.reduceLeDiff, Nat.reduceBEq, reduceCtorEq, Int.reduceLT, Int.reduceLE, Int.reduceToNat, Int.reduceAdd, Int.reduceSub, Int.reduceBEq, Int.reduceBNe, c17, e1])
  refine W.no rfl ?_
  ((first | refine W.advO 5000 _ _ ?_ | skip); simp only [go_sem, ↓reduceIte, Nat.reduceEqDiff, Nat.reduceAdd, Nat.reduceSub, Nat.reduceMul, Nat.reduceLeDiff, Nat.reduceBEq, reduceCtorEq, Int.reduceLT, Int.reduceLE, Int.reduceToNat, Int.reduceAdd, Int.reduceSub, Int.reduceBEq, Int.reduceBNe])
  refine W.loopP (fun i => i ≤ p.l.length) (fun i => ⟨((((base.put (some 2) (.ptr σ.length 0)).put (some 3) (.ptr (σ.length + 1) 0)).put (some 4) (B false)).put (some 5) (I (i : Nat))), σ ++ [.cells p.v.cellsV, .cells p.v.cellsV]⟩) (fun i => p.l.length - i) 0 (Nat.zero_le _) ?_ (fun i hi => ?_)
  · (refine Lew.env ?_; (repeat' (first | exact LeE.base _ | (refine LeE.put ?_ (by first | exact V.wk.rfl _ | exact V.wk.osl _ _ | exact V.wk.csl _)))))
  · by_cases hlt : i < p.l.length
    · have h1 : ((i : Int) < (p.l.length : Int)) := by omega
      have hx : p.l[i]? = some p.l[i] := List.getElem?_eq_getElem hlt
      have hw : IntKind.i64.wrap ((i : Int) + 1) = ((i + 1 : Nat) : Int) := wrap_next hlt hlen
      ((first | refine W.advO 5000 _ _ ?_ | skip); simp only [go_sem, ↓reduceIte, Nat.reduceEqDiff, Nat.reduceAdd, Nat.reduceSub, Nat.reduceMul, Nat.reduceLeDiff, Nat.reduceBEq, reduceCtorEq, Int.reduceLT, Int.reduceLE, Int.reduceToNat, Int.reduceAdd, Int.reduceSub, Int.reduceBEq, Int.reduceBNe, h1])
      refine W.yes rfl ?_
      ((first | refine W.advO 5000 _ _ ?_ | skip); simp only [go_sem, ↓reduceIte, Nat.reduceEqDiff, Nat.reduceAdd, Nat.reduceSub, Nat.reduceMul, Nat.reduceLeDiff, Nat.reduceBEq, reduceCtorEq, Int.reduceLT, Int.reduceLE, Int.reduceToNat, Int.reduceAdd, Int.reduceSub, Int.reduceBEq, Int.reduceBNe])
      apply W.dreg
      case hc =>
        (apply Canon.advCO; simp only [advCO_nil, advCO_cons, cG_yes, cG_no, cS_some, cS_loud, go_sem, ↓reduceIte, Nat.reduceEqDiff, Nat.reduceAdd, Nat.reduceSub, Nat.reduceMul, Nat.reduceLeDiff, Nat.reduceBEq, reduceCtorEq, Int.reduceLT, Int.reduceLE, Int.reduceToNat, Int.reduceAdd, Int.reduceSub, Int.reduceBEq, Int.reduceBNe, h1, nat0, hx])
        (apply Canon.call (ih p.l[i] (List.getElem_mem hlt) _); (case hg => rfl); (case hf => rfl); (case ha => first | rfl | simp))
        (apply Canon.advCO; simp only [advCO_nil, advCO_cons, cG_yes, cG_no, cS_some, cS_loud, go_sem, ↓reduceIte, Nat.reduceEqDiff, Nat.reduceAdd, Nat.reduceSub, Nat.reduceMul, Nat.reduceLeDiff, Nat.reduceBEq, reduceCtorEq, Int.reduceLT, Int.reduceLE, Int.reduceToNat, Int.reduceAdd, Int.reduceSub, Int.reduceBEq, Int.reduceBNe])
        exact Canon.nil
      ((first | refine W.advO 5000 _ _ ?_ | skip); simp only [go_sem, ↓reduceIte, Nat.reduceEqDiff, Nat.reduceAdd, Nat.reduceSub, Nat.reduceMul, Nat.reduceLeDiff, Nat.reduceBEq, reduceCtorEq, Int.reduceLT, Int.reduceLE, Int.reduceToNat, Int.reduceAdd, Int.reduceSub, Int.reduceBEq, Int.reduceBNe])
      refine W.no rfl ?_
      ((first | refine W.advO 5000 _ _ ?_ | skip); simp only [go_sem, ↓reduceIte, Nat.reduceEqDiff, Nat.reduceAdd, Nat.reduceSub, Nat.reduceMul, Nat.reduceLeDiff, Nat.reduceBEq, reduceCtorEq, Int.reduceLT, Int.reduceLE, Int.reduceToNat, Int.reduceAdd, Int.reduceSub, Int.reduceBEq, Int.reduceBNe, hw])
      refine .inv ⟨i + 1, hlt, by omega, ?_⟩
      (refine Lew.env ?_; (repeat' (first | exact LeE.base _ | (refine LeE.put ?_ (by first | exact V.wk.rfl _ | exact V.wk.osl _ _ | exact V.wk.csl _)))))
    · have h1 : ¬ ((i : Int) < (p.l.length : Int)) := by omega
      ((first | refine W.advO 5000 _ _ ?_ | skip); simp only [go_sem, ↓reduceIte, Nat.reduceEqDiff, Nat.reduceAdd, Nat.reduceSub, Nat.reduceMul, Nat.reduceLeDiff, Nat.reduceBEq, reduceCtorEq, Int.reduceLT, Int.reduceLE, Int.reduceToNat, Int.reduceAdd, Int.reduceSub, Int.reduceBEq, Int.reduceBNe, h1])
      refine W.no rfl ?_
      ((first | refine W.advO 5000 _ _ ?_ | skip); simp only [go_sem, ↓reduceIte, Nat.reduceEqDiff, Nat.reduceAdd, Nat.reduceSub, Nat.reduceMul, Nat.reduceLeDiff, Nat.reduceBEq, reduceCtorEq, Int.reduceLT, Int.reduceLE, Int.reduceToNat, Int.reduceAdd, Int.reduceSub, Int.reduceBEq, Int.reduceBNe])
      (refine W.ret (Fin.sameW (hok) (by (first | rfl | exact List.length_set .. | simp)) (by simp only [resEval, r17, go_sem, ↓reduceIte, Nat.reduceEqDiff, Nat.reduceAdd, Nat.reduceSub, Nat.reduceMul, Nat.reduceLeDiff, Nat.reduceBEq, reduceCtorEq, Int.reduceLT, Int.reduceLE, Int.reduceToNat, Int.reduceAdd, Int.reduceSub, Int.reduceBEq, Int.reduceBNe]; rfl) ?_ (by (first | exact .c _ | (simp only [I, S, B, opsC, toksC, Pre.v, Tok.v, OpT.v, low_c, low_void, low_any, low_csl, low_nilf, low_ptr, low_osl, low_agg, low_tup, low_fn, List.forall_mem_cons, List.not_mem_nil, false_implies, implies_true, and_self, and_true, true_and]; done))) (by (first | rfl | exact (List.append_nil _).symm))); simp only [resV]; try exact V.wk.rfl _)
end Go.Proofs.YtpgkhkojjklakaaGreatDoor
namespace Go.Proofs.YtpgkhkojjklakaaGreatDoor
open Go.RowKit Go.Lamb
/-- (*read.reader).tok -/
def c79 : AC :=
  .seq (.reg [⟨some 4, .box (.k (.agg [.c (.int .i64 0), .c (.str []), .c (.int .i64 0), .c (.int .i64 0)])), none⟩])
  (.seq (.seq (.reg [⟨some 6, .mov (.t 0), none⟩,
    ⟨some 7, .nilck (.t 6), none⟩,
    ⟨some 8, .fadd 2 (.t 7), none⟩,
    ⟨some 9, .load1 (.t 8), none⟩,
    ⟨some 10, .mov (.t 1), none⟩,
    ⟨some 11, .bin .add (.t 9) (.t 10), none⟩,
    ⟨some 5, .mov (.t 11), none⟩])
  (.seq (.reg [⟨some 12, .mov (.t 5), none⟩,
    ⟨some 13, .bin .leq (.k (.c (.int .i64 0))) (.t 12), none⟩,
    ⟨some 14, .mov (.t 13), none⟩,
    ⟨some 15, .mov (.t 5), some (14, true)⟩,
    ⟨some 16, .mov (.t 0), some (14, true)⟩,
    ⟨some 17, .nilck (.t 16), some (14, true)⟩,
    ⟨some 18, .fadd 1 (.t 17), some (14, true)⟩,
    ⟨some 19, .load1 (.t 18), some (14, true)⟩,
    ⟨some 20, .lenr (.t 19), some (14, true)⟩,
    ⟨some 21, .bin .lss (.t 15) (.t 20), some (14, true)⟩,
    ⟨some 22, .pick (.t 14) (.t 21) (.k (.c (.bool false))), none⟩])
  (.cond (.t 22)
  (.seq (.reg [⟨some 23, .mov (.t 0), none⟩,
    ⟨some 24, .nilck (.t 23), none⟩,
    ⟨some 25, .fadd 1 (.t 24), none⟩,
    ⟨some 26, .load1 (.t 25), none⟩,
    ⟨some 27, .mov (.t 5), none⟩,
    ⟨some 28, .iadd 4 (.t 26) (.t 27), none⟩,
    ⟨some 29, .loadn 4 (.t 28), none⟩,
    ⟨none, .store 4 (.t 4) (.t 29), none⟩])
  (.ret))
  (.skip))))
  (.seq (.seq (.reg [⟨some 30, .mov (.t 0), none⟩,
    ⟨some 31, .nilck (.t 30), none⟩,
    ⟨some 32, .fadd 1 (.t 31), none⟩,
    ⟨some 33, .load1 (.t 32), none⟩,
    ⟨some 34, .lenr (.t 33), none⟩,
    ⟨some 35, .bin .gtr (.t 34) (.k (.c (.int .i64 0))), none⟩])
  (.cond (.t 35)
  (.seq (.dreg [⟨some 36, .mov (.t 0), none⟩,
    ⟨some 37, .nilck (.t 36), none⟩,
    ⟨some 38, .fadd 1 (.t 37), none⟩,
    ⟨some 39, .load1 (.t 38), none⟩,
    ⟨some 40, .mov (.t 0), none⟩,
    ⟨some 41, .nilck (.t 40), none⟩,
    ⟨some 42, .fadd 1 (.t 41), none⟩,
    ⟨some 43, .load1 (.t 42), none⟩,
    ⟨some 44, .lenr (.t 43), none⟩,
    ⟨some 45, .bin .sub (.t 44) (.k (.c (.int .i64 1))), none⟩,
    ⟨some 46, .iadd 4 (.t 39) (.t 45), none⟩,
    ⟨some 47, .fadd 3 (.t 46), none⟩,
    ⟨some 48, .load1 (.t 47), none⟩,
    ⟨some 49, .build [.c (.int .i64 0), .c (.str []), .c (.int .i64 0), .c (.int .i64 0)] [(3, 1, (.t 48))], none⟩,
    ⟨none, .store 4 (.t 4) (.t 49), none⟩]
    [⟨⟨some 36, .mov (.t 0), none⟩, false, 0⟩,
    ⟨⟨some 37, .nilck (.t 36), none⟩, false, 0⟩,
    ⟨⟨some 38, .fadd 1 (.t 37), none⟩, false, 0⟩,
    ⟨⟨some 39, .load1 (.t 38), none⟩, false, 0⟩,
    ⟨⟨some 40, .mov (.t 0), none⟩, false, 0⟩,
    ⟨⟨some 41, .nilck (.t 40), none⟩, false, 0⟩,
    ⟨⟨some 42, .fadd 1 (.t 41), none⟩, false, 0⟩,
    ⟨⟨some 43, .load1 (.t 42), none⟩, false, 0⟩,
    ⟨⟨some 44, .lenr (.t 43), none⟩, false, 0⟩,
    ⟨⟨some 45, .bin .sub (.t 44) (.k (.c (.int .i64 1))), none⟩, false, 0⟩,
    ⟨⟨some 46, .iadd 4 (.t 39) (.t 45), none⟩, false, 0⟩,
    ⟨⟨some 47, .fadd 3 (.t 46), none⟩, false, 0⟩,
    ⟨⟨some 48, .load1 (.t 47), none⟩, false, 0⟩,
    ⟨⟨some 49, .build [.c (.int .i64 0), .c (.str []), .c (.int .i64 0), .c (.int .i64 0)] [(3, 1, (.t 48))], none⟩, false, 0⟩,
    ⟨⟨none, .store 4 (.t 4) (.t 49), none⟩, true, 0⟩])
  (.ret))
  (.skip)))
  (.seq (.reg [⟨some 50, .build [.c (.int .i64 0), .c (.str []), .c (.int .i64 0), .c (.int .i64 0)] [], none⟩,
    ⟨none, .store 4 (.t 4) (.t 50), none⟩])
  (.ret))))
def r79 : List ResV := [.celln 4 4]
theorem tr79 : tr Tryz.prog Tryz.f79.ntmps (Tryz.f79.body.getD .skip) = some c79 := by kernel_rfl
theorem tre79 : trRes Tryz.prog Tryz.f79.results.toList = some r79 := by kernel_rfl
theorem en79 : Enters Tryz.prog 79 := enters_fn Tryz.func79 (by kernel_rfl) rfl
theorem go79 {w0 : World} {args : List V} {σ : H} {R : V → H → Prop} (ha : args.length = 2) (h : H.ok σ → (∀ x ∈ args, V.Sz x) → W Tryz.prog w0 σ.length (Fin r79 σ.length R) [.code c79] ⟨argEnv args, σ⟩) : DC Tryz.prog w0 79 args σ R :=
  DC.of_code (by kernel_rfl) Tryz.func79 rfl tr79 tre79 (by rw [ha]; exact by decide) en79 h
/-- (*read.reader).operator -/
def c80 : AC :=
  .seq (.reg [⟨some 3, .box (.t 1), none⟩,
    ⟨some 4, .box (.k (.agg [.c (.str []), .c (.int .i64 0), .c (.int .i64 0)])), none⟩,
    ⟨some 5, .mov (.k (.c (.bool false))), none⟩])
  (.seq (.dreg [⟨some 6, .mov (.t 0), none⟩,
    ⟨some 7, .nilck (.t 6), none⟩,
    ⟨some 8, .fadd 0 (.t 7), none⟩,
    ⟨some 9, .load1 (.t 8), none⟩,
    ⟨some 10, .loadn 4 (.t 3), none⟩,
    ⟨some 11, .call (.k (.fn 122 [])) [(.t 9), (.t 10)], none⟩,
    ⟨some 12, .ext (.t 11) 0, none⟩,
    ⟨some 13, .ext (.t 11) 1, none⟩,
    ⟨none, .store 3 (.t 4) (.t 12), none⟩,
    ⟨some 5, .mov (.t 13), none⟩]
    [⟨⟨some 6, .mov (.t 0), none⟩, false, 0⟩,
    ⟨⟨some 7, .nilck (.t 6), none⟩, false, 0⟩,
    ⟨⟨some 8, .fadd 0 (.t 7), none⟩, false, 0⟩,
    ⟨⟨some 9, .load1 (.t 8), none⟩, false, 0⟩,
    ⟨⟨some 10, .loadn 4 (.t 3), none⟩, false, 0⟩,
    ⟨⟨some 11, .call (.k (.fn 122 [])) [(.t 9), (.t 10)], none⟩, true, 0⟩,
    ⟨⟨some 12, .ext (.t 11) 0, none⟩, false, 1⟩,
    ⟨⟨some 13, .ext (.t 11) 1, none⟩, false, 1⟩,
    ⟨⟨none, .store 3 (.t 4) (.t 12), none⟩, true, 1⟩,
    ⟨⟨some 5, .mov (.t 13), none⟩, false, 2⟩])
  (.ret))
def r80 : List ResV := [.celln 3 4, .tmp 5]
theorem tr80 : tr Tryz.prog Tryz.f80.ntmps (Tryz.f80.body.getD .skip) = some c80 := by kernel_rfl
theorem tre80 : trRes Tryz.prog Tryz.f80.results.toList = some r80 := by kernel_rfl
theorem en80 : Enters Tryz.prog 80 := enters_fn Tryz.func80 (by kernel_rfl) rfl
theorem go80 {w0 : World} {args : List V} {σ : H} {R : V → H → Prop} (ha : args.length = 2) (h : H.ok σ → (∀ x ∈ args, V.Sz x) → W Tryz.prog w0 σ.length (Fin r80 σ.length R) [.code c80] ⟨argEnv args, σ⟩) : DC Tryz.prog w0 80 args σ R :=
  DC.of_code (by kernel_rfl) Tryz.func80 rfl tr80 tre80 (by rw [ha]; exact by decide) en80 h
/-- (*read.reader).begins -/
def c121 : AC :=
  .seq (.reg [⟨some 2, .mov (.k (.c (.bool false))), none⟩])
  (.seq (.seq (.reg [⟨some 6, .mov (.t 0), none⟩,
    ⟨some 7, .call (.k (.fn 79 [])) [(.t 6), (.k (.c (.int .i64 0)))], none⟩,
    ⟨some 3, .box (.k (.agg [.c (.int .i64 0), .c (.str []), .c (.int .i64 0), .c (.int .i64 0)])), none⟩,
    ⟨none, .store 4 (.t 3) (.t 7), none⟩])
  (.seq (.reg [⟨some 8, .fadd 0 (.t 3), none⟩,
    ⟨some 9, .load1 (.t 8), none⟩])
  (.block 0 (.seq (.seq (.reg [⟨some 11, .bin .eql (.t 9) (.k (.c (.int .i64 1))), none⟩,
    ⟨some 10, .mov (.t 11), none⟩])
  (.cond (.t 10)
  (.skip)
  (.reg [⟨some 12, .bin .eql (.t 9) (.k (.c (.int .i64 4))), none⟩,
    ⟨some 10, .mov (.t 12), none⟩])))
  (.cond (.t 10)
  (.seq (.reg [⟨some 14, .mov (.t 0), none⟩,
    ⟨some 15, .loadn 4 (.t 3), none⟩,
    ⟨some 16, .call (.k (.fn 80 [])) [(.t 14), (.t 15)], none⟩,
    ⟨some 13, .mov (.t 16), none⟩,
    ⟨some 17, .ext (.t 13) 0, none⟩,
    ⟨some 18, .ext (.t 13) 1, none⟩,
    ⟨some 4, .box (.k (.agg [.c (.str []), .c (.int .i64 0), .c (.int .i64 0)])), none⟩,
    ⟨none, .store 3 (.t 4) (.t 17), none⟩,
    ⟨some 5, .mov (.t 18), none⟩])
  (.seq (.reg [⟨some 19, .mov (.t 5), none⟩,
    ⟨some 20, .un .not (.t 19), none⟩,
    ⟨some 2, .mov (.t 20), none⟩])
  (.ret)))
  (.seq (.seq (.reg [⟨some 22, .bin .eql (.t 9) (.k (.c (.int .i64 2))), none⟩,
    ⟨some 21, .mov (.t 22), none⟩])
  (.cond (.t 21)
  (.skip)
  (.seq (.reg [⟨some 23, .bin .eql (.t 9) (.k (.c (.int .i64 3))), none⟩,
    ⟨some 21, .mov (.t 23), none⟩])
  (.cond (.t 21)
  (.skip)
  (.reg [⟨some 24, .bin .eql (.t 9) (.k (.c (.int .i64 5))), none⟩,
    ⟨some 21, .mov (.t 24), none⟩])))))
  (.cond (.t 21)
  (.seq (.reg [⟨some 2, .mov (.k (.c (.bool true))), none⟩])
  (.ret))
  (.skip))))))))
  (.seq (.reg [⟨some 2, .mov (.k (.c (.bool false))), none⟩])
  (.ret)))
def r121 : List ResV := [.tmp 2]
theorem tr121 : tr Tryz.prog Tryz.f121.ntmps (Tryz.f121.body.getD .skip) = some c121 := by kernel_rfl
theorem tre121 : trRes Tryz.prog Tryz.f121.results.toList = some r121 := by kernel_rfl
theorem en121 : Enters Tryz.prog 121 := enters_fn Tryz.func121 (by kernel_rfl) rfl
theorem go121 {w0 : World} {args : List V} {σ : H} {R : V → H → Prop} (ha : args.length = 1) (h : H.ok σ → (∀ x ∈ args, V.Sz x) → W Tryz.prog w0 σ.length (Fin r121 σ.length R) [.code c121] ⟨argEnv args, σ⟩) : DC Tryz.prog w0 121 args σ R :=
  DC.of_code (by kernel_rfl) Tryz.func121 rfl tr121 tre121 (by rw [ha]; exact by decide) en121 h
/-- (*read.reader).lambda -/
def c119 : AC :=
  .seq (.reg [⟨some 2, .mov (.k (.c (.bool false))), none⟩])
  (.seq (.reg [⟨some 4, .mov (.t 0), none⟩,
    ⟨some 5, .call (.k (.fn 79 [])) [(.t 4), (.k (.c (.int .i64 0)))], none⟩,
    ⟨some 6, .field1 0 (.t 5), none⟩,
    ⟨some 3, .mov (.t 6), none⟩])
  (.seq (.reg [⟨some 7, .mov (.t 3), none⟩,
    ⟨some 8, .bin .eql (.t 7) (.k (.c (.int .i64 1))), none⟩,
    ⟨some 9, .mov (.t 8), none⟩,
    ⟨some 10, .mov (.t 3), some (9, false)⟩,
    ⟨some 11, .bin .eql (.t 10) (.k (.c (.int .i64 2))), some (9, false)⟩,
    ⟨some 12, .pick (.t 9) (.k (.c (.bool true))) (.t 11), none⟩,
    ⟨some 13, .mov (.t 12), none⟩,
    ⟨some 14, .mov (.t 0), some (13, true)⟩,
    ⟨some 15, .call (.k (.fn 79 [])) [(.t 14), (.k (.c (.int .i64 1)))], some (13, true)⟩,
    ⟨some 16, .field1 0 (.t 15), some (13, true)⟩,
    ⟨some 17, .bin .eql (.t 16) (.k (.c (.int .i64 8))), some (13, true)⟩,
    ⟨some 18, .pick (.t 13) (.t 17) (.k (.c (.bool false))), none⟩,
    ⟨some 2, .mov (.t 18), none⟩])
  (.ret)))
def r119 : List ResV := [.tmp 2]
theorem tr119 : tr Tryz.prog Tryz.f119.ntmps (Tryz.f119.body.getD .skip) = some c119 := by kernel_rfl
theorem tre119 : trRes Tryz.prog Tryz.f119.results.toList = some r119 := by kernel_rfl
theorem en119 : Enters Tryz.prog 119 := enters_fn Tryz.func119 (by kernel_rfl) rfl
theorem go119 {w0 : World} {args : List V} {σ : H} {R : V → H → Prop} (ha : args.length = 1) (h : H.ok σ → (∀ x ∈ args, V.Sz x) → W Tryz.prog w0 σ.length (Fin r119 σ.length R) [.code c119] ⟨argEnv args, σ⟩) : DC Tryz.prog w0 119 args σ R :=
  DC.of_code (by kernel_rfl) Tryz.func119 rfl tr119 tre119 (by rw [ha]; exact by decide) en119 h
/-- (read.wrong).ok -/
def c37 : AC :=
  .seq (.reg [⟨some 1, .box (.t 0), none⟩,
    ⟨some 2, .mov (.k (.c (.bool false))), none⟩])
  (.seq (.reg [⟨some 3, .fadd 0 (.t 1), none⟩,
    ⟨some 4, .load1 (.t 3), none⟩,
    ⟨some 5, .bin .eql (.t 4) (.k (.c (.int .i64 0))), none⟩,
    ⟨some 2, .mov (.t 5), none⟩])
  (.ret))
def r37 : List ResV := [.tmp 2]
theorem tr37 : tr Tryz.prog Tryz.f37.ntmps (Tryz.f37.body.getD .skip) = some c37 := by kernel_rfl
theorem tre37 : trRes Tryz.prog Tryz.f37.results.toList = some r37 := by kernel_rfl
theorem en37 : Enters Tryz.prog 37 := enters_fn Tryz.func37 (by kernel_rfl) rfl
theorem go37 {w0 : World} {args : List V} {σ : H} {R : V → H → Prop} (ha : args.length = 1) (h : H.ok σ → (∀ x ∈ args, V.Sz x) → W Tryz.prog w0 σ.length (Fin r37 σ.length R) [.code c37] ⟨argEnv args, σ⟩) : DC Tryz.prog w0 37 args σ R :=
  DC.of_code (by kernel_rfl) Tryz.func37 rfl tr37 tre37 (by rw [ha]; exact by decide) en37 h
/-- read.apply -/
def c84 : AC :=
  .seq (.reg [⟨some 4, .box (.t 0), none⟩,
    ⟨some 6, .box (.t 2), none⟩,
    ⟨some 7, .box (.t 3), none⟩,
    ⟨some 8, .box (.k (.agg [.c (.int .i64 0), .c (.str []), .c (.int .i64 0), .csl [], .c (.int .i64 0)])), none⟩])
  (.seq (.reg [⟨some 12, .fadd 0 (.t 4), none⟩,
    ⟨some 13, .load1 (.t 12), none⟩,
    ⟨some 14, .mov (.t 1), none⟩,
    ⟨some 15, .build [.c (.int .i64 0), .c (.str []), .c (.int .i64 0), .csl [], .c (.int .i64 0)] [(0, 1, (.k (.c (.int .i64 0)))), (1, 1, (.t 13)), (4, 1, (.t 14))], none⟩,
    ⟨some 9, .box (.k (.agg [.c (.int .i64 0), .c (.str []), .c (.int .i64 0), .csl [], .c (.int .i64 0)])), none⟩,
    ⟨none, .store 5 (.t 9) (.t 15), none⟩])
  (.seq (.seq (.reg [⟨some 16, .loadn 5 (.t 6), none⟩,
    ⟨some 17, .loadn 5 (.t 7), none⟩,
    ⟨some 18, .bsl 5 [(.t 16), (.t 17)], none⟩,
    ⟨some 19, .lenr (.t 18), none⟩,
    ⟨some 20, .mov (.k (.c (.int .i64 0))), none⟩])
  (.block 0 (.loop (.seq (.reg [⟨some 21, .bin .lss (.t 20) (.t 19), none⟩])
  (.seq (.cond (.t 21)
  (.skip)
  (.exit 0))
  (.seq (.block 1 (.seq (.reg [⟨some 22, .iadd 5 (.t 18) (.t 20), none⟩,
    ⟨some 23, .loadn 5 (.t 22), none⟩,
    ⟨some 11, .box (.k (.agg [.c (.int .i64 0), .c (.str []), .c (.int .i64 0), .csl [], .c (.int .i64 0)])), none⟩,
    ⟨none, .store 5 (.t 11) (.t 23), none⟩])
  (.reg [⟨some 24, .loadn 5 (.t 9), none⟩,
    ⟨some 25, .loadn 5 (.t 11), none⟩,
    ⟨some 26, .bsl 5 [(.t 24), (.t 25)], none⟩,
    ⟨some 27, .mov (.t 1), none⟩,
    ⟨some 28, .build [.c (.int .i64 0), .c (.str []), .c (.int .i64 0), .csl [], .c (.int .i64 0)] [(0, 1, (.k (.c (.int .i64 3)))), (3, 1, (.t 26)), (4, 1, (.t 27))], none⟩,
    ⟨none, .store 5 (.t 9) (.t 28), none⟩])))
  (.reg [⟨some 29, .bin .add (.t 20) (.k (.c (.int .i64 1))), none⟩,
    ⟨some 20, .mov (.t 29), none⟩])))))))
  (.seq (.reg [⟨some 30, .loadn 5 (.t 9), none⟩,
    ⟨none, .store 5 (.t 8) (.t 30), none⟩])
  (.ret))))
def r84 : List ResV := [.celln 5 8]
theorem tr84 : tr Tryz.prog Tryz.f84.ntmps (Tryz.f84.body.getD .skip) = some c84 := by kernel_rfl
theorem tre84 : trRes Tryz.prog Tryz.f84.results.toList = some r84 := by kernel_rfl
theorem en84 : Enters Tryz.prog 84 := enters_fn Tryz.func84 (by kernel_rfl) rfl
theorem go84 {w0 : World} {args : List V} {σ : H} {R : V → H → Prop} (ha : args.length = 4) (h : H.ok σ → (∀ x ∈ args, V.Sz x) → W Tryz.prog w0 σ.length (Fin r84 σ.length R) [.code c84] ⟨argEnv args, σ⟩) : DC Tryz.prog w0 84 args σ R :=
  DC.of_code (by kernel_rfl) Tryz.func84 rfl tr84 tre84 (by rw [ha]; exact by decide) en84 h
/-- (*read.reader).inner -/
def c82 : AC :=
  .seq (.reg [⟨some 7, .box (.t 3), none⟩,
    ⟨some 8, .box (.k (.agg [.c (.int .i64 0), .c (.str []), .c (.int .i64 0), .csl [], .c (.int .i64 0), .c (.nilp), .c (.int .i64 0), .c (.str []), .c (.int .i64 0), .c (.int .i64 0)])), none⟩,
    ⟨some 9, .box (.k (.agg [.c (.int .i64 0), .c (.int .i64 0)])), none⟩])
  (.seq (.seq (.reg [⟨some 10, .mov (.t 2), none⟩,
    ⟨some 11, .bin .geq (.t 10) (.k (.c (.int .i64 200))), none⟩])
  (.cond (.t 11)
  (.seq (.dreg [⟨some 12, .build [.c (.int .i64 0), .c (.str []), .c (.int .i64 0), .csl [], .c (.int .i64 0), .c (.nilp), .c (.int .i64 0), .c (.str []), .c (.int .i64 0), .c (.int .i64 0)] [], none⟩,
    ⟨some 13, .fadd 3 (.t 7), none⟩,
    ⟨some 14, .load1 (.t 13), none⟩,
    ⟨some 15, .build [.c (.int .i64 0), .c (.int .i64 0)] [(0, 1, (.k (.c (.int .i64 31)))), (1, 1, (.t 14))], none⟩,
    ⟨none, .store 10 (.t 8) (.t 12), none⟩,
    ⟨none, .store 2 (.t 9) (.t 15), none⟩]
    [⟨⟨some 12, .build [.c (.int .i64 0), .c (.str []), .c (.int .i64 0), .csl [], .c (.int .i64 0), .c (.nilp), .c (.int .i64 0), .c (.str []), .c (.int .i64 0), .c (.int .i64 0)] [], none⟩, false, 0⟩,
    ⟨⟨none, .store 10 (.t 8) (.t 12), none⟩, true, 0⟩,
    ⟨⟨some 13, .fadd 3 (.t 7), none⟩, false, 0⟩,
    ⟨⟨some 14, .load1 (.t 13), none⟩, false, 0⟩,
    ⟨⟨some 15, .build [.c (.int .i64 0), .c (.int .i64 0)] [(0, 1, (.k (.c (.int .i64 31)))), (1, 1, (.t 14))], none⟩, false, 0⟩,
    ⟨⟨none, .store 2 (.t 9) (.t 15), none⟩, true, 1⟩])
  (.ret))
  (.skip)))
  (.seq (.reg [⟨some 16, .mov (.t 0), none⟩,
    ⟨some 17, .mov (.t 1), none⟩,
    ⟨some 18, .mov (.t 2), none⟩,
    ⟨some 19, .bin .add (.t 18) (.k (.c (.int .i64 1))), none⟩,
    ⟨some 20, .call (.k (.fn 36 [])) [(.t 16), (.t 17), (.t 19)], none⟩,
    ⟨some 21, .ext (.t 20) 0, none⟩,
    ⟨some 22, .ext (.t 20) 1, none⟩,
    ⟨none, .store 10 (.t 8) (.t 21), none⟩,
    ⟨none, .store 2 (.t 9) (.t 22), none⟩])
  (.ret)))
def r82 : List ResV := [.celln 10 8, .celln 2 9]
theorem tr82 : tr Tryz.prog Tryz.f82.ntmps (Tryz.f82.body.getD .skip) = some c82 := by kernel_rfl
theorem tre82 : trRes Tryz.prog Tryz.f82.results.toList = some r82 := by kernel_rfl
theorem en82 : Enters Tryz.prog 82 := enters_fn Tryz.func82 (by kernel_rfl) rfl
theorem go82 {w0 : World} {args : List V} {σ : H} {R : V → H → Prop} (ha : args.length = 4) (h : H.ok σ → (∀ x ∈ args, V.Sz x) → W Tryz.prog w0 σ.length (Fin r82 σ.length R) [.code c82] ⟨argEnv args, σ⟩) : DC Tryz.prog w0 82 args σ R :=
  DC.of_code (by kernel_rfl) Tryz.func82 rfl tr82 tre82 (by rw [ha]; exact by decide) en82 h
/-- (*read.reader).brackets -/
def c140 : AC :=
  .seq (.reg [⟨some 4, .box (.k (.agg [.c (.int .i64 0), .c (.str []), .c (.int .i64 0), .csl [], .c (.int .i64 0)])), none⟩,
    ⟨some 5, .box (.k (.agg [.c (.int .i64 0), .c (.int .i64 0)])), none⟩])
  (.seq (.reg [⟨some 13, .mov (.t 0), none⟩,
    ⟨some 14, .call (.k (.fn 79 [])) [(.t 13), (.k (.c (.int .i64 0)))], none⟩,
    ⟨some 15, .mov (.t 0), none⟩,
    ⟨some 16, .call (.k (.fn 79 [])) [(.t 15), (.k (.c (.int .i64 1)))], none⟩,
    ⟨some 6, .box (.k (.agg [.c (.int .i64 0), .c (.str []), .c (.int .i64 0), .c (.int .i64 0)])), none⟩,
    ⟨some 7, .box (.k (.agg [.c (.int .i64 0), .c (.str []), .c (.int .i64 0), .c (.int .i64 0)])), none⟩,
    ⟨none, .store 4 (.t 6) (.t 14), none⟩,
    ⟨none, .store 4 (.t 7) (.t 16), none⟩])
  (.seq (.seq (.reg [⟨some 18, .mov (.t 0), none⟩,
    ⟨some 19, .loadn 4 (.t 7), none⟩,
    ⟨some 20, .call (.k (.fn 80 [])) [(.t 18), (.t 19)], none⟩,
    ⟨some 17, .mov (.t 20), none⟩,
    ⟨some 21, .ext (.t 17) 0, none⟩,
    ⟨some 22, .ext (.t 17) 1, none⟩,
    ⟨some 8, .box (.k (.agg [.c (.str []), .c (.int .i64 0), .c (.int .i64 0)])), none⟩,
    ⟨none, .store 3 (.t 8) (.t 21), none⟩,
    ⟨some 9, .mov (.t 22), none⟩])
  (.seq (.reg [⟨some 23, .mov (.t 9), none⟩,
    ⟨some 24, .mov (.t 23), none⟩,
    ⟨some 25, .mov (.t 0), some (24, true)⟩,
    ⟨some 26, .call (.k (.fn 79 [])) [(.t 25), (.k (.c (.int .i64 2)))], some (24, true)⟩,
    ⟨some 27, .field1 0 (.t 26), some (24, true)⟩,
    ⟨some 28, .bin .eql (.t 27) (.k (.c (.int .i64 6))), some (24, true)⟩,
    ⟨some 29, .pick (.t 24) (.t 28) (.k (.c (.bool false))), none⟩])
  (.cond (.t 29)
  (.seq (.reg [⟨some 30, .mov (.t 0), none⟩,
    ⟨some 31, .nilck (.t 30), none⟩,
    ⟨some 32, .fadd 2 (.t 31), none⟩,
    ⟨some 33, .load1 (.t 32), none⟩,
    ⟨some 34, .bin .add (.t 33) (.k (.c (.int .i64 3))), none⟩,
    ⟨some 35, .nilck (.t 30), none⟩,
    ⟨some 36, .fadd 2 (.t 35), none⟩,
    ⟨none, .store 1 (.t 36) (.t 34), none⟩])
  (.seq (.reg [⟨some 37, .fadd 1 (.t 7), none⟩,
    ⟨some 38, .load1 (.t 37), none⟩,
    ⟨some 39, .fadd 3 (.t 7), none⟩,
    ⟨some 40, .load1 (.t 39), none⟩,
    ⟨some 41, .build [.c (.int .i64 0), .c (.str []), .c (.int .i64 0), .csl [], .c (.int .i64 0)] [(0, 1, (.k (.c (.int .i64 0)))), (1, 1, (.t 38)), (4, 1, (.t 40))], none⟩,
    ⟨some 42, .build [.c (.int .i64 0), .c (.int .i64 0)] [], none⟩,
    ⟨none, .store 5 (.t 4) (.t 41), none⟩,
    ⟨none, .store 2 (.t 5) (.t 42), none⟩])
  (.ret)))
  (.skip))))
  (.seq (.reg [⟨some 43, .mov (.t 0), none⟩,
    ⟨some 44, .nilck (.t 43), none⟩,
    ⟨some 45, .fadd 2 (.t 44), none⟩,
    ⟨some 46, .load1 (.t 45), none⟩,
    ⟨some 47, .bin .add (.t 46) (.k (.c (.int .i64 1))), none⟩,
    ⟨some 48, .nilck (.t 43), none⟩,
    ⟨some 49, .fadd 2 (.t 48), none⟩,
    ⟨none, .store 1 (.t 49) (.t 47), none⟩])
  (.seq (.reg [⟨some 51, .mov (.t 0), none⟩,
    ⟨some 52, .mov (.t 1), none⟩,
    ⟨some 53, .loadn 4 (.t 6), none⟩,
    ⟨some 54, .call (.k (.fn 82 [])) [(.t 51), (.k (.c (.int .i64 0))), (.t 52), (.t 53)], none⟩,
    ⟨some 50, .mov (.t 54), none⟩,
    ⟨some 55, .ext (.t 50) 0, none⟩,
    ⟨some 56, .ext (.t 50) 1, none⟩,
    ⟨some 10, .box (.k (.agg [.c (.int .i64 0), .c (.str []), .c (.int .i64 0), .csl [], .c (.int .i64 0), .c (.nilp), .c (.int .i64 0), .c (.str []), .c (.int .i64 0), .c (.int .i64 0)])), none⟩,
    ⟨some 11, .box (.k (.agg [.c (.int .i64 0), .c (.int .i64 0)])), none⟩,
    ⟨none, .store 10 (.t 10) (.t 55), none⟩,
    ⟨none, .store 2 (.t 11) (.t 56), none⟩])
  (.seq (.seq (.reg [⟨some 57, .loadn 2 (.t 11), none⟩,
    ⟨some 58, .call (.k (.fn 37 [])) [(.t 57)], none⟩,
    ⟨some 59, .un .not (.t 58), none⟩])
  (.cond (.t 59)
  (.seq (.dreg [⟨some 60, .build [.c (.int .i64 0), .c (.str []), .c (.int .i64 0), .csl [], .c (.int .i64 0)] [], none⟩,
    ⟨some 61, .loadn 2 (.t 11), none⟩,
    ⟨none, .store 5 (.t 4) (.t 60), none⟩,
    ⟨none, .store 2 (.t 5) (.t 61), none⟩]
    [⟨⟨some 60, .build [.c (.int .i64 0), .c (.str []), .c (.int .i64 0), .csl [], .c (.int .i64 0)] [], none⟩, false, 0⟩,
    ⟨⟨none, .store 5 (.t 4) (.t 60), none⟩, true, 0⟩,
    ⟨⟨some 61, .loadn 2 (.t 11), none⟩, false, 0⟩,
    ⟨⟨none, .store 2 (.t 5) (.t 61), none⟩, true, 1⟩])
  (.ret))
  (.skip)))
  (.seq (.seq (.reg [⟨some 62, .mov (.t 0), none⟩,
    ⟨some 63, .call (.k (.fn 79 [])) [(.t 62), (.k (.c (.int .i64 0)))], none⟩,
    ⟨some 12, .box (.k (.agg [.c (.int .i64 0), .c (.str []), .c (.int .i64 0), .c (.int .i64 0)])), none⟩,
    ⟨none, .store 4 (.t 12) (.t 63), none⟩])
  (.seq (.reg [⟨some 64, .fadd 0 (.t 12), none⟩,
    ⟨some 65, .load1 (.t 64), none⟩,
    ⟨some 66, .bin .neq (.t 65) (.k (.c (.int .i64 6))), none⟩])
  (.cond (.t 66)
  (.seq (.dreg [⟨some 67, .build [.c (.int .i64 0), .c (.str []), .c (.int .i64 0), .csl [], .c (.int .i64 0)] [], none⟩,
    ⟨some 68, .fadd 3 (.t 12), none⟩,
    ⟨some 69, .load1 (.t 68), none⟩,
    ⟨some 70, .build [.c (.int .i64 0), .c (.int .i64 0)] [(0, 1, (.k (.c (.int .i64 30)))), (1, 1, (.t 69))], none⟩,
    ⟨none, .store 5 (.t 4) (.t 67), none⟩,
    ⟨none, .store 2 (.t 5) (.t 70), none⟩]
    [⟨⟨some 67, .build [.c (.int .i64 0), .c (.str []), .c (.int .i64 0), .csl [], .c (.int .i64 0)] [], none⟩, false, 0⟩,
    ⟨⟨none, .store 5 (.t 4) (.t 67), none⟩, true, 0⟩,
    ⟨⟨some 68, .fadd 3 (.t 12), none⟩, false, 0⟩,
    ⟨⟨some 69, .load1 (.t 68), none⟩, false, 0⟩,
    ⟨⟨some 70, .build [.c (.int .i64 0), .c (.int .i64 0)] [(0, 1, (.k (.c (.int .i64 30)))), (1, 1, (.t 69))], none⟩, false, 0⟩,
    ⟨⟨none, .store 2 (.t 5) (.t 70), none⟩, true, 1⟩])
  (.ret))
  (.skip))))
  (.seq (.reg [⟨some 71, .mov (.t 0), none⟩,
    ⟨some 72, .nilck (.t 71), none⟩,
    ⟨some 73, .fadd 2 (.t 72), none⟩,
    ⟨some 74, .load1 (.t 73), none⟩,
    ⟨some 75, .bin .add (.t 74) (.k (.c (.int .i64 1))), none⟩,
    ⟨some 76, .nilck (.t 71), none⟩,
    ⟨some 77, .fadd 2 (.t 76), none⟩,
    ⟨none, .store 1 (.t 77) (.t 75), none⟩])
  (.seq (.reg [⟨some 78, .fadd 0 (.t 10), none⟩,
    ⟨some 79, .loadn 5 (.t 78), none⟩,
    ⟨some 80, .build [.c (.int .i64 0), .c (.int .i64 0)] [], none⟩,
    ⟨none, .store 5 (.t 4) (.t 79), none⟩,
    ⟨none, .store 2 (.t 5) (.t 80), none⟩])
  (.ret)))))))))
def r140 : List ResV := [.celln 5 4, .celln 2 5]
theorem tr140 : tr Tryz.prog Tryz.f140.ntmps (Tryz.f140.body.getD .skip) = some c140 := by kernel_rfl
theorem tre140 : trRes Tryz.prog Tryz.f140.results.toList = some r140 := by kernel_rfl
theorem en140 : Enters Tryz.prog 140 := enters_fn Tryz.func140 (by kernel_rfl) rfl
theorem go140 {w0 : World} {args : List V} {σ : H} {R : V → H → Prop} (ha : args.length = 2) (h : H.ok σ → (∀ x ∈ args, V.Sz x) → W Tryz.prog w0 σ.length (Fin r140 σ.length R) [.code c140] ⟨argEnv args, σ⟩) : DC Tryz.prog w0 140 args σ R :=
  DC.of_code (by kernel_rfl) Tryz.func140 rfl tr140 tre140 (by rw [ha]; exact by decide) en140 h
/-- (*read.reader).atom -/
def c120 : AC :=
  .seq (.reg [⟨some 4, .box (.k (.agg [.c (.int .i64 0), .c (.str []), .c (.int .i64 0), .csl [], .c (.int .i64 0)])), none⟩,
    ⟨some 5, .box (.k (.agg [.c (.int .i64 0), .c (.int .i64 0)])), none⟩])
  (.seq (.reg [⟨some 10, .mov (.t 0), none⟩,
    ⟨some 11, .call (.k (.fn 79 [])) [(.t 10), (.k (.c (.int .i64 0)))], none⟩,
    ⟨some 6, .box (.k (.agg [.c (.int .i64 0), .c (.str []), .c (.int .i64 0), .c (.int .i64 0)])), none⟩,
    ⟨none, .store 4 (.t 6) (.t 11), none⟩])
  (.seq (.reg [⟨some 12, .fadd 1 (.t 6), none⟩,
    ⟨some 13, .load1 (.t 12), none⟩,
    ⟨some 14, .fadd 3 (.t 6), none⟩,
    ⟨some 15, .load1 (.t 14), none⟩,
    ⟨some 16, .build [.c (.int .i64 0), .c (.str []), .c (.int .i64 0), .csl [], .c (.int .i64 0)] [(0, 1, (.k (.c (.int .i64 0)))), (1, 1, (.t 13)), (4, 1, (.t 15))], none⟩,
    ⟨some 7, .box (.k (.agg [.c (.int .i64 0), .c (.str []), .c (.int .i64 0), .csl [], .c (.int .i64 0)])), none⟩,
    ⟨none, .store 5 (.t 7) (.t 16), none⟩])
  (.seq (.block 0 (.seq (.reg [⟨some 18, .mov (.t 0), none⟩,
    ⟨some 19, .call (.k (.fn 121 [])) [(.t 18)], none⟩,
    ⟨some 20, .un .not (.t 19), none⟩,
    ⟨some 17, .mov (.t 20), none⟩])
  (.cond (.t 17)
  (.seq (.dreg [⟨some 21, .build [.c (.int .i64 0), .c (.str []), .c (.int .i64 0), .csl [], .c (.int .i64 0)] [], none⟩,
    ⟨some 22, .fadd 3 (.t 6), none⟩,
    ⟨some 23, .load1 (.t 22), none⟩,
    ⟨some 24, .build [.c (.int .i64 0), .c (.int .i64 0)] [(0, 1, (.k (.c (.int .i64 30)))), (1, 1, (.t 23))], none⟩,
    ⟨none, .store 5 (.t 4) (.t 21), none⟩,
    ⟨none, .store 2 (.t 5) (.t 24), none⟩]
    [⟨⟨some 21, .build [.c (.int .i64 0), .c (.str []), .c (.int .i64 0), .csl [], .c (.int .i64 0)] [], none⟩, false, 0⟩,
    ⟨⟨none, .store 5 (.t 4) (.t 21), none⟩, true, 0⟩,
    ⟨⟨some 22, .fadd 3 (.t 6), none⟩, false, 0⟩,
    ⟨⟨some 23, .load1 (.t 22), none⟩, false, 0⟩,
    ⟨⟨some 24, .build [.c (.int .i64 0), .c (.int .i64 0)] [(0, 1, (.k (.c (.int .i64 30)))), (1, 1, (.t 23))], none⟩, false, 0⟩,
    ⟨⟨none, .store 2 (.t 5) (.t 24), none⟩, true, 1⟩])
  (.ret))
  (.seq (.reg [⟨some 26, .fadd 0 (.t 6), none⟩,
    ⟨some 27, .load1 (.t 26), none⟩,
    ⟨some 28, .bin .eql (.t 27) (.k (.c (.int .i64 5))), none⟩,
    ⟨some 25, .mov (.t 28), none⟩])
  (.cond (.t 25)
  (.seq (.reg [⟨some 29, .mov (.t 0), none⟩,
    ⟨some 30, .mov (.t 1), none⟩,
    ⟨some 31, .call (.k (.fn 140 [])) [(.t 29), (.t 30)], none⟩,
    ⟨some 32, .ext (.t 31) 0, none⟩,
    ⟨some 33, .ext (.t 31) 1, none⟩,
    ⟨none, .store 5 (.t 4) (.t 32), none⟩,
    ⟨none, .store 2 (.t 5) (.t 33), none⟩])
  (.ret))
  (.seq (.reg [⟨some 35, .fadd 0 (.t 6), none⟩,
    ⟨some 36, .load1 (.t 35), none⟩,
    ⟨some 37, .bin .eql (.t 36) (.k (.c (.int .i64 3))), none⟩,
    ⟨some 34, .mov (.t 37), none⟩])
  (.cond (.t 34)
  (.reg [⟨some 38, .fadd 2 (.t 6), none⟩,
    ⟨some 39, .load1 (.t 38), none⟩,
    ⟨some 40, .fadd 3 (.t 6), none⟩,
    ⟨some 41, .load1 (.t 40), none⟩,
    ⟨some 42, .build [.c (.int .i64 0), .c (.str []), .c (.int .i64 0), .csl [], .c (.int .i64 0)] [(0, 1, (.k (.c (.int .i64 2)))), (2, 1, (.t 39)), (4, 1, (.t 41))], none⟩,
    ⟨none, .store 5 (.t 7) (.t 42), none⟩])
  (.seq (.reg [⟨some 44, .fadd 0 (.t 6), none⟩,
    ⟨some 45, .load1 (.t 44), none⟩,
    ⟨some 46, .bin .neq (.t 45) (.k (.c (.int .i64 4))), none⟩,
    ⟨some 47, .mov (.t 46), none⟩,
    ⟨some 48, .mov (.t 0), some (47, true)⟩,
    ⟨some 49, .call (.k (.fn 79 [])) [(.t 48), (.k (.c (.int .i64 1)))], some (47, true)⟩,
    ⟨some 50, .field1 0 (.t 49), some (47, true)⟩,
    ⟨some 51, .bin .eql (.t 50) (.k (.c (.int .i64 8))), some (47, true)⟩,
    ⟨some 52, .pick (.t 47) (.t 51) (.k (.c (.bool false))), none⟩,
    ⟨some 43, .mov (.t 52), none⟩])
  (.cond (.t 43)
  (.seq (.reg [⟨some 53, .mov (.t 0), none⟩,
    ⟨some 54, .nilck (.t 53), none⟩,
    ⟨some 55, .fadd 2 (.t 54), none⟩,
    ⟨some 56, .load1 (.t 55), none⟩,
    ⟨some 57, .bin .add (.t 56) (.k (.c (.int .i64 2))), none⟩,
    ⟨some 58, .nilck (.t 53), none⟩,
    ⟨some 59, .fadd 2 (.t 58), none⟩,
    ⟨none, .store 1 (.t 59) (.t 57), none⟩])
  (.seq (.reg [⟨some 61, .mov (.t 0), none⟩,
    ⟨some 62, .mov (.t 1), none⟩,
    ⟨some 63, .loadn 4 (.t 6), none⟩,
    ⟨some 64, .call (.k (.fn 82 [])) [(.t 61), (.k (.c (.int .i64 0))), (.t 62), (.t 63)], none⟩,
    ⟨some 60, .mov (.t 64), none⟩,
    ⟨some 65, .ext (.t 60) 0, none⟩,
    ⟨some 66, .ext (.t 60) 1, none⟩,
    ⟨some 8, .box (.k (.agg [.c (.int .i64 0), .c (.str []), .c (.int .i64 0), .csl [], .c (.int .i64 0), .c (.nilp), .c (.int .i64 0), .c (.str []), .c (.int .i64 0), .c (.int .i64 0)])), none⟩,
    ⟨some 9, .box (.k (.agg [.c (.int .i64 0), .c (.int .i64 0)])), none⟩,
    ⟨none, .store 10 (.t 8) (.t 65), none⟩,
    ⟨none, .store 2 (.t 9) (.t 66), none⟩])
  (.seq (.dreg [⟨some 67, .fadd 1 (.t 6), none⟩,
    ⟨some 68, .load1 (.t 67), none⟩,
    ⟨some 69, .fadd 0 (.t 8), none⟩,
    ⟨some 70, .loadn 5 (.t 69), none⟩,
    ⟨some 71, .bsl 5 [(.t 70)], none⟩,
    ⟨some 72, .fadd 3 (.t 6), none⟩,
    ⟨some 73, .load1 (.t 72), none⟩,
    ⟨some 74, .build [.c (.int .i64 0), .c (.str []), .c (.int .i64 0), .csl [], .c (.int .i64 0)] [(0, 1, (.k (.c (.int .i64 4)))), (1, 1, (.t 68)), (3, 1, (.t 71)), (4, 1, (.t 73))], none⟩,
    ⟨some 75, .loadn 2 (.t 9), none⟩,
    ⟨none, .store 5 (.t 4) (.t 74), none⟩,
    ⟨none, .store 2 (.t 5) (.t 75), none⟩]
    [⟨⟨some 67, .fadd 1 (.t 6), none⟩, false, 0⟩,
    ⟨⟨some 68, .load1 (.t 67), none⟩, false, 0⟩,
    ⟨⟨some 69, .fadd 0 (.t 8), none⟩, false, 0⟩,
    ⟨⟨some 70, .loadn 5 (.t 69), none⟩, false, 0⟩,
    ⟨⟨some 71, .bsl 5 [(.t 70)], none⟩, false, 0⟩,
    ⟨⟨some 72, .fadd 3 (.t 6), none⟩, false, 0⟩,
    ⟨⟨some 73, .load1 (.t 72), none⟩, false, 0⟩,
    ⟨⟨some 74, .build [.c (.int .i64 0), .c (.str []), .c (.int .i64 0), .csl [], .c (.int .i64 0)] [(0, 1, (.k (.c (.int .i64 4)))), (1, 1, (.t 68)), (3, 1, (.t 71)), (4, 1, (.t 73))], none⟩, false, 0⟩,
    ⟨⟨none, .store 5 (.t 4) (.t 74), none⟩, true, 0⟩,
    ⟨⟨some 75, .loadn 2 (.t 9), none⟩, false, 0⟩,
    ⟨⟨none, .store 2 (.t 5) (.t 75), none⟩, true, 1⟩])
  (.ret))))
  (.seq (.reg [⟨some 77, .fadd 0 (.t 6), none⟩,
    ⟨some 78, .load1 (.t 77), none⟩,
    ⟨some 79, .bin .eql (.t 78) (.k (.c (.int .i64 2))), none⟩,
    ⟨some 76, .mov (.t 79), none⟩])
  (.cond (.t 76)
  (.reg [⟨some 80, .fadd 0 (.t 7), none⟩,
    ⟨none, .store 1 (.t 80) (.k (.c (.int .i64 1))), none⟩])
  (.skip))))))))))))
  (.seq (.reg [⟨some 81, .mov (.t 0), none⟩,
    ⟨some 82, .nilck (.t 81), none⟩,
    ⟨some 83, .fadd 2 (.t 82), none⟩,
    ⟨some 84, .load1 (.t 83), none⟩,
    ⟨some 85, .bin .add (.t 84) (.k (.c (.int .i64 1))), none⟩,
    ⟨some 86, .nilck (.t 81), none⟩,
    ⟨some 87, .fadd 2 (.t 86), none⟩,
    ⟨none, .store 1 (.t 87) (.t 85), none⟩])
  (.seq (.reg [⟨some 88, .loadn 5 (.t 7), none⟩,
    ⟨some 89, .build [.c (.int .i64 0), .c (.int .i64 0)] [], none⟩,
    ⟨none, .store 5 (.t 4) (.t 88), none⟩,
    ⟨none, .store 2 (.t 5) (.t 89), none⟩])
  (.ret))))))
def r120 : List ResV := [.celln 5 4, .celln 2 5]
theorem tr120 : tr Tryz.prog Tryz.f120.ntmps (Tryz.f120.body.getD .skip) = some c120 := by kernel_rfl
theorem tre120 : trRes Tryz.prog Tryz.f120.results.toList = some r120 := by kernel_rfl
theorem en120 : Enters Tryz.prog 120 := enters_fn Tryz.func120 (by kernel_rfl) rfl
theorem go120 {w0 : World} {args : List V} {σ : H} {R : V → H → Prop} (ha : args.length = 2) (h : H.ok σ → (∀ x ∈ args, V.Sz x) → W Tryz.prog w0 σ.length (Fin r120 σ.length R) [.code c120] ⟨argEnv args, σ⟩) : DC Tryz.prog w0 120 args σ R :=
  DC.of_code (by kernel_rfl) Tryz.func120 rfl tr120 tre120 (by rw [ha]; exact by decide) en120 h
/-- (*read.reader).operand -/
def c78 : AC :=
  .seq (.reg [⟨some 4, .box (.k (.agg [.c (.int .i64 0), .c (.str []), .c (.int .i64 0), .csl [], .c (.int .i64 0)])), none⟩,
    ⟨some 5, .box (.k (.agg [.c (.int .i64 0), .c (.int .i64 0)])), none⟩])
  (.seq (.reg [⟨some 11, .mov (.t 0), none⟩,
    ⟨some 12, .call (.k (.fn 119 [])) [(.t 11)], none⟩,
    ⟨some 6, .mov (.t 12), none⟩])
  (.seq (.reg [⟨some 14, .mov (.t 0), none⟩,
    ⟨some 15, .mov (.t 1), none⟩,
    ⟨some 16, .call (.k (.fn 120 [])) [(.t 14), (.t 15)], none⟩,
    ⟨some 13, .mov (.t 16), none⟩,
    ⟨some 17, .ext (.t 13) 0, none⟩,
    ⟨some 18, .ext (.t 13) 1, none⟩,
    ⟨some 7, .box (.k (.agg [.c (.int .i64 0), .c (.str []), .c (.int .i64 0), .csl [], .c (.int .i64 0)])), none⟩,
    ⟨some 8, .box (.k (.agg [.c (.int .i64 0), .c (.int .i64 0)])), none⟩,
    ⟨none, .store 5 (.t 7) (.t 17), none⟩,
    ⟨none, .store 2 (.t 8) (.t 18), none⟩])
  (.seq (.reg [⟨some 19, .fadd 4 (.t 7), none⟩,
    ⟨some 20, .load1 (.t 19), none⟩,
    ⟨some 9, .mov (.t 20), none⟩])
  (.seq (.block 0 (.loop (.seq (.seq (.reg [⟨some 21, .loadn 2 (.t 8), none⟩,
    ⟨some 22, .call (.k (.fn 37 [])) [(.t 21)], none⟩,
    ⟨some 23, .mov (.t 22), none⟩,
    ⟨some 24, .mov (.t 6), some (23, true)⟩,
    ⟨some 25, .un .not (.t 24), some (23, true)⟩,
    ⟨some 26, .pick (.t 23) (.t 25) (.k (.c (.bool false))), none⟩,
    ⟨some 27, .mov (.t 26), none⟩,
    ⟨some 28, .mov (.t 0), some (27, true)⟩,
    ⟨some 29, .call (.k (.fn 121 [])) [(.t 28)], some (27, true)⟩,
    ⟨some 30, .pick (.t 27) (.t 29) (.k (.c (.bool false))), none⟩])
  (.cond (.t 30)
  (.skip)
  (.exit 0)))
  (.block 1 (.seq (.reg [⟨some 31, .mov (.t 0), none⟩,
    ⟨some 32, .call (.k (.fn 119 [])) [(.t 31)], none⟩,
    ⟨some 6, .mov (.t 32), none⟩])
  (.seq (.reg [⟨some 10, .box (.k (.agg [.c (.int .i64 0), .c (.str []), .c (.int .i64 0), .csl [], .c (.int .i64 0)])), none⟩])
  (.seq (.reg [⟨some 34, .mov (.t 0), none⟩,
    ⟨some 35, .mov (.t 1), none⟩,
    ⟨some 36, .call (.k (.fn 120 [])) [(.t 34), (.t 35)], none⟩,
    ⟨some 33, .mov (.t 36), none⟩,
    ⟨some 37, .ext (.t 33) 0, none⟩,
    ⟨some 38, .ext (.t 33) 1, none⟩,
    ⟨none, .store 5 (.t 10) (.t 37), none⟩,
    ⟨none, .store 2 (.t 8) (.t 38), none⟩])
  (.reg [⟨some 39, .loadn 5 (.t 7), none⟩,
    ⟨some 40, .loadn 5 (.t 10), none⟩,
    ⟨some 41, .bsl 5 [(.t 39), (.t 40)], none⟩,
    ⟨some 42, .mov (.t 9), none⟩,
    ⟨some 43, .build [.c (.int .i64 0), .c (.str []), .c (.int .i64 0), .csl [], .c (.int .i64 0)] [(0, 1, (.k (.c (.int .i64 3)))), (3, 1, (.t 41)), (4, 1, (.t 42))], none⟩,
    ⟨none, .store 5 (.t 7) (.t 43), none⟩]))))))))
  (.seq (.dreg [⟨some 44, .loadn 5 (.t 7), none⟩,
    ⟨some 45, .loadn 2 (.t 8), none⟩,
    ⟨none, .store 5 (.t 4) (.t 44), none⟩,
    ⟨none, .store 2 (.t 5) (.t 45), none⟩]
    [⟨⟨some 44, .loadn 5 (.t 7), none⟩, false, 0⟩,
    ⟨⟨none, .store 5 (.t 4) (.t 44), none⟩, true, 0⟩,
    ⟨⟨some 45, .loadn 2 (.t 8), none⟩, false, 0⟩,
    ⟨⟨none, .store 2 (.t 5) (.t 45), none⟩, true, 1⟩])
  (.ret))))))
def r78 : List ResV := [.celln 5 4, .celln 2 5]
theorem tr78 : tr Tryz.prog Tryz.f78.ntmps (Tryz.f78.body.getD .skip) = some c78 := by kernel_rfl
theorem tre78 : trRes Tryz.prog Tryz.f78.results.toList = some r78 := by kernel_rfl
theorem en78 : Enters Tryz.prog 78 := enters_fn Tryz.func78 (by kernel_rfl) rfl
theorem go78 {w0 : World} {args : List V} {σ : H} {R : V → H → Prop} (ha : args.length = 2) (h : H.ok σ → (∀ x ∈ args, V.Sz x) → W Tryz.prog w0 σ.length (Fin r78 σ.length R) [.code c78] ⟨argEnv args, σ⟩) : DC Tryz.prog w0 78 args σ R :=
  DC.of_code (by kernel_rfl) Tryz.func78 rfl tr78 tre78 (by rw [ha]; exact by decide) en78 h
/-- (*read.reader).expr -/
def c36 : AC :=
  .seq (.reg [⟨some 6, .box (.k (.agg [.c (.int .i64 0), .c (.str []), .c (.int .i64 0), .csl [], .c (.int .i64 0), .c (.nilp), .c (.int .i64 0), .c (.str []), .c (.int .i64 0), .c (.int .i64 0)])), none⟩,
    ⟨some 7, .box (.k (.agg [.c (.int .i64 0), .c (.int .i64 0)])), none⟩])
  (.seq (.reg [⟨some 17, .mov (.t 0), none⟩,
    ⟨some 18, .mov (.t 2), none⟩,
    ⟨some 19, .call (.k (.fn 78 [])) [(.t 17), (.t 18)], none⟩,
    ⟨some 16, .mov (.t 19), none⟩,
    ⟨some 20, .ext (.t 16) 0, none⟩,
    ⟨some 21, .ext (.t 16) 1, none⟩,
    ⟨some 8, .box (.k (.agg [.c (.int .i64 0), .c (.str []), .c (.int .i64 0), .csl [], .c (.int .i64 0)])), none⟩,
    ⟨some 9, .box (.k (.agg [.c (.int .i64 0), .c (.int .i64 0)])), none⟩,
    ⟨none, .store 5 (.t 8) (.t 20), none⟩,
    ⟨none, .store 2 (.t 9) (.t 21), none⟩])
  (.seq (.reg [⟨some 22, .loadn 5 (.t 8), none⟩,
    ⟨some 23, .build [.c (.int .i64 0), .c (.str []), .c (.int .i64 0), .csl [], .c (.int .i64 0), .c (.nilp), .c (.int .i64 0), .c (.str []), .c (.int .i64 0), .c (.int .i64 0)] [(0, 5, (.t 22))], none⟩,
    ⟨some 10, .box (.k (.agg [.c (.int .i64 0), .c (.str []), .c (.int .i64 0), .csl [], .c (.int .i64 0), .c (.nilp), .c (.int .i64 0), .c (.str []), .c (.int .i64 0), .c (.int .i64 0)])), none⟩,
    ⟨none, .store 10 (.t 10) (.t 23), none⟩])
  (.seq (.skip)
  (.seq (.block 0 (.loop (.seq (.seq (.reg [⟨some 24, .loadn 2 (.t 9), none⟩,
    ⟨some 25, .call (.k (.fn 37 [])) [(.t 24)], none⟩])
  (.cond (.t 25)
  (.skip)
  (.exit 0)))
  (.block 1 (.seq (.reg [⟨some 26, .mov (.t 0), none⟩,
    ⟨some 27, .call (.k (.fn 79 [])) [(.t 26), (.k (.c (.int .i64 0)))], none⟩,
    ⟨some 11, .box (.k (.agg [.c (.int .i64 0), .c (.str []), .c (.int .i64 0), .c (.int .i64 0)])), none⟩,
    ⟨none, .store 4 (.t 11) (.t 27), none⟩])
  (.seq (.reg [⟨some 29, .mov (.t 0), none⟩,
    ⟨some 30, .loadn 4 (.t 11), none⟩,
    ⟨some 31, .call (.k (.fn 80 [])) [(.t 29), (.t 30)], none⟩,
    ⟨some 28, .mov (.t 31), none⟩,
    ⟨some 32, .ext (.t 28) 0, none⟩,
    ⟨some 33, .ext (.t 28) 1, none⟩,
    ⟨some 12, .box (.k (.agg [.c (.str []), .c (.int .i64 0), .c (.int .i64 0)])), none⟩,
    ⟨none, .store 3 (.t 12) (.t 32), none⟩,
    ⟨some 13, .mov (.t 33), none⟩])
  (.seq (.block 2 (.seq (.reg [⟨some 35, .mov (.t 13), none⟩,
    ⟨some 36, .un .not (.t 35), none⟩,
    ⟨some 37, .mov (.t 36), none⟩,
    ⟨some 38, .fadd 1 (.t 12), some (37, false)⟩,
    ⟨some 39, .load1 (.t 38), some (37, false)⟩,
    ⟨some 40, .mov (.t 1), some (37, false)⟩,
    ⟨some 41, .bin .lss (.t 39) (.t 40), some (37, false)⟩,
    ⟨some 42, .pick (.t 37) (.k (.c (.bool true))) (.t 41), none⟩,
    ⟨some 34, .mov (.t 42), none⟩])
  (.cond (.t 34)
  (.exit 0)
  (.seq (.dreg [⟨some 44, .fadd 5 (.t 10), none⟩,
    ⟨some 45, .load1 (.t 44), none⟩,
    ⟨some 46, .eqn true 0 (.t 45), none⟩,
    ⟨some 47, .mov (.t 46), none⟩,
    ⟨some 48, .loadn 3 (.t 12), some (47, true)⟩,
    ⟨some 49, .fadd 5 (.t 10), some (47, true)⟩,
    ⟨some 50, .load1 (.t 49), some (47, true)⟩,
    ⟨some 51, .nilck (.t 50), some (47, true)⟩,
    ⟨some 52, .loadn 3 (.t 51), some (47, true)⟩,
    ⟨some 53, .call (.k (.fn 81 [])) [(.t 48), (.t 52)], some (47, true)⟩,
    ⟨some 54, .un .not (.t 53), some (47, true)⟩,
    ⟨some 55, .pick (.t 47) (.t 54) (.k (.c (.bool false))), none⟩,
    ⟨some 43, .mov (.t 55), none⟩]
    [⟨⟨some 44, .fadd 5 (.t 10), none⟩, false, 0⟩,
    ⟨⟨some 45, .load1 (.t 44), none⟩, false, 0⟩,
    ⟨⟨some 46, .eqn true 0 (.t 45), none⟩, false, 0⟩,
    ⟨⟨some 47, .mov (.t 46), none⟩, false, 0⟩,
    ⟨⟨some 48, .loadn 3 (.t 12), some (47, true)⟩, false, 0⟩,
    ⟨⟨some 49, .fadd 5 (.t 10), some (47, true)⟩, false, 0⟩,
    ⟨⟨some 50, .load1 (.t 49), some (47, true)⟩, false, 0⟩,
    ⟨⟨some 51, .nilck (.t 50), some (47, true)⟩, false, 0⟩,
    ⟨⟨some 52, .loadn 3 (.t 51), some (47, true)⟩, false, 0⟩,
    ⟨⟨some 53, .call (.k (.fn 81 [])) [(.t 48), (.t 52)], some (47, true)⟩, true, 0⟩,
    ⟨⟨some 54, .un .not (.t 53), some (47, true)⟩, false, 1⟩,
    ⟨⟨some 55, .pick (.t 47) (.t 54) (.k (.c (.bool false))), none⟩, false, 1⟩,
    ⟨⟨some 43, .mov (.t 55), none⟩, false, 1⟩])
  (.cond (.t 43)
  (.seq (.dreg [⟨some 56, .build [.c (.int .i64 0), .c (.str []), .c (.int .i64 0), .csl [], .c (.int .i64 0), .c (.nilp), .c (.int .i64 0), .c (.str []), .c (.int .i64 0), .c (.int .i64 0)] [], none⟩,
    ⟨some 57, .fadd 3 (.t 11), none⟩,
    ⟨some 58, .load1 (.t 57), none⟩,
    ⟨some 59, .build [.c (.int .i64 0), .c (.int .i64 0)] [(0, 1, (.k (.c (.int .i64 32)))), (1, 1, (.t 58))], none⟩,
    ⟨none, .store 10 (.t 6) (.t 56), none⟩,
    ⟨none, .store 2 (.t 7) (.t 59), none⟩]
    [⟨⟨some 56, .build [.c (.int .i64 0), .c (.str []), .c (.int .i64 0), .csl [], .c (.int .i64 0), .c (.nilp), .c (.int .i64 0), .c (.str []), .c (.int .i64 0), .c (.int .i64 0)] [], none⟩, false, 0⟩,
    ⟨⟨none, .store 10 (.t 6) (.t 56), none⟩, true, 0⟩,
    ⟨⟨some 57, .fadd 3 (.t 11), none⟩, false, 0⟩,
    ⟨⟨some 58, .load1 (.t 57), none⟩, false, 0⟩,
    ⟨⟨some 59, .build [.c (.int .i64 0), .c (.int .i64 0)] [(0, 1, (.k (.c (.int .i64 32)))), (1, 1, (.t 58))], none⟩, false, 0⟩,
    ⟨⟨none, .store 2 (.t 7) (.t 59), none⟩, true, 1⟩])
  (.ret))
  (.skip))))))
  (.seq (.reg [⟨some 60, .mov (.t 0), none⟩,
    ⟨some 61, .nilck (.t 60), none⟩,
    ⟨some 62, .fadd 2 (.t 61), none⟩,
    ⟨some 63, .load1 (.t 62), none⟩,
    ⟨some 64, .bin .add (.t 63) (.k (.c (.int .i64 1))), none⟩,
    ⟨some 65, .nilck (.t 60), none⟩,
    ⟨some 66, .fadd 2 (.t 65), none⟩,
    ⟨none, .store 1 (.t 66) (.t 64), none⟩])
  (.seq (.reg [⟨some 67, .fadd 1 (.t 12), none⟩,
    ⟨some 68, .load1 (.t 67), none⟩,
    ⟨some 69, .bin .add (.t 68) (.k (.c (.int .i64 1))), none⟩,
    ⟨some 14, .mov (.t 69), none⟩])
  (.seq (.seq (.reg [⟨some 70, .fadd 2 (.t 12), none⟩,
    ⟨some 71, .load1 (.t 70), none⟩,
    ⟨some 72, .bin .eql (.t 71) (.k (.c (.int .i64 2))), none⟩])
  (.cond (.t 72)
  (.reg [⟨some 73, .fadd 1 (.t 12), none⟩,
    ⟨some 74, .load1 (.t 73), none⟩,
    ⟨some 14, .mov (.t 74), none⟩])
  (.skip)))
  (.seq (.reg [⟨some 15, .box (.k (.agg [.c (.int .i64 0), .c (.str []), .c (.int .i64 0), .csl [], .c (.int .i64 0), .c (.nilp), .c (.int .i64 0), .c (.str []), .c (.int .i64 0), .c (.int .i64 0)])), none⟩])
  (.seq (.reg [⟨some 76, .mov (.t 0), none⟩,
    ⟨some 77, .mov (.t 14), none⟩,
    ⟨some 78, .mov (.t 2), none⟩,
    ⟨some 79, .loadn 4 (.t 11), none⟩,
    ⟨some 80, .call (.k (.fn 82 [])) [(.t 76), (.t 77), (.t 78), (.t 79)], none⟩,
    ⟨some 75, .mov (.t 80), none⟩,
    ⟨some 81, .ext (.t 75) 0, none⟩,
    ⟨some 82, .ext (.t 75) 1, none⟩,
    ⟨none, .store 10 (.t 15) (.t 81), none⟩,
    ⟨none, .store 2 (.t 9) (.t 82), none⟩])
  (.seq (.seq (.dreg [⟨some 83, .loadn 2 (.t 9), none⟩,
    ⟨some 84, .call (.k (.fn 37 [])) [(.t 83)], none⟩,
    ⟨some 85, .mov (.t 84), none⟩,
    ⟨some 86, .fadd 5 (.t 15), some (85, true)⟩,
    ⟨some 87, .load1 (.t 86), some (85, true)⟩,
    ⟨some 88, .eqn true 0 (.t 87), some (85, true)⟩,
    ⟨some 89, .pick (.t 85) (.t 88) (.k (.c (.bool false))), none⟩,
    ⟨some 90, .mov (.t 89), none⟩,
    ⟨some 91, .loadn 3 (.t 12), some (90, true)⟩,
    ⟨some 92, .fadd 5 (.t 15), some (90, true)⟩,
    ⟨some 93, .load1 (.t 92), some (90, true)⟩,
    ⟨some 94, .nilck (.t 93), some (90, true)⟩,
    ⟨some 95, .loadn 3 (.t 94), some (90, true)⟩,
    ⟨some 96, .call (.k (.fn 83 [])) [(.t 91), (.t 95)], some (90, true)⟩,
    ⟨some 97, .un .not (.t 96), some (90, true)⟩,
    ⟨some 98, .pick (.t 90) (.t 97) (.k (.c (.bool false))), none⟩]
    [⟨⟨some 83, .loadn 2 (.t 9), none⟩, false, 0⟩,
    ⟨⟨some 84, .call (.k (.fn 37 [])) [(.t 83)], none⟩, true, 0⟩,
    ⟨⟨some 85, .mov (.t 84), none⟩, false, 1⟩,
    ⟨⟨some 86, .fadd 5 (.t 15), some (85, true)⟩, false, 1⟩,
    ⟨⟨some 87, .load1 (.t 86), some (85, true)⟩, false, 1⟩,
    ⟨⟨some 88, .eqn true 0 (.t 87), some (85, true)⟩, false, 1⟩,
    ⟨⟨some 89, .pick (.t 85) (.t 88) (.k (.c (.bool false))), none⟩, false, 1⟩,
    ⟨⟨some 90, .mov (.t 89), none⟩, false, 1⟩,
    ⟨⟨some 91, .loadn 3 (.t 12), some (90, true)⟩, false, 1⟩,
    ⟨⟨some 92, .fadd 5 (.t 15), some (90, true)⟩, false, 1⟩,
    ⟨⟨some 93, .load1 (.t 92), some (90, true)⟩, false, 1⟩,
    ⟨⟨some 94, .nilck (.t 93), some (90, true)⟩, false, 1⟩,
    ⟨⟨some 95, .loadn 3 (.t 94), some (90, true)⟩, false, 1⟩,
    ⟨⟨some 96, .call (.k (.fn 83 [])) [(.t 91), (.t 95)], some (90, true)⟩, true, 1⟩,
    ⟨⟨some 97, .un .not (.t 96), some (90, true)⟩, false, 2⟩,
    ⟨⟨some 98, .pick (.t 90) (.t 97) (.k (.c (.bool false))), none⟩, false, 2⟩])
  (.cond (.t 98)
  (.reg [⟨some 99, .fadd 6 (.t 15), none⟩,
    ⟨some 100, .fadd 3 (.t 99), none⟩,
    ⟨some 101, .load1 (.t 100), none⟩,
    ⟨some 102, .build [.c (.int .i64 0), .c (.int .i64 0)] [(0, 1, (.k (.c (.int .i64 32)))), (1, 1, (.t 101))], none⟩,
    ⟨none, .store 2 (.t 9) (.t 102), none⟩])
  (.skip)))
  (.dreg [⟨some 103, .loadn 3 (.t 12), none⟩,
    ⟨some 104, .fadd 3 (.t 11), none⟩,
    ⟨some 105, .load1 (.t 104), none⟩,
    ⟨some 106, .fadd 0 (.t 10), none⟩,
    ⟨some 107, .loadn 5 (.t 106), none⟩,
    ⟨some 108, .fadd 0 (.t 15), none⟩,
    ⟨some 109, .loadn 5 (.t 108), none⟩,
    ⟨some 110, .call (.k (.fn 84 [])) [(.t 103), (.t 105), (.t 107), (.t 109)], none⟩,
    ⟨some 111, .loadn 4 (.t 11), none⟩,
    ⟨some 112, .build [.c (.int .i64 0), .c (.str []), .c (.int .i64 0), .csl [], .c (.int .i64 0), .c (.nilp), .c (.int .i64 0), .c (.str []), .c (.int .i64 0), .c (.int .i64 0)] [(0, 5, (.t 110)), (5, 1, (.t 12)), (6, 4, (.t 111))], none⟩,
    ⟨none, .store 10 (.t 10) (.t 112), none⟩]
    [⟨⟨some 103, .loadn 3 (.t 12), none⟩, false, 0⟩,
    ⟨⟨some 104, .fadd 3 (.t 11), none⟩, false, 0⟩,
    ⟨⟨some 105, .load1 (.t 104), none⟩, false, 0⟩,
    ⟨⟨some 106, .fadd 0 (.t 10), none⟩, false, 0⟩,
    ⟨⟨some 107, .loadn 5 (.t 106), none⟩, false, 0⟩,
    ⟨⟨some 108, .fadd 0 (.t 15), none⟩, false, 0⟩,
    ⟨⟨some 109, .loadn 5 (.t 108), none⟩, false, 0⟩,
    ⟨⟨some 110, .call (.k (.fn 84 [])) [(.t 103), (.t 105), (.t 107), (.t 109)], none⟩, true, 0⟩,
    ⟨⟨some 111, .loadn 4 (.t 11), none⟩, false, 0⟩,
    ⟨⟨some 112, .build [.c (.int .i64 0), .c (.str []), .c (.int .i64 0), .csl [], .c (.int .i64 0), .c (.nilp), .c (.int .i64 0), .c (.str []), .c (.int .i64 0), .c (.int .i64 0)] [(0, 5, (.t 110)), (5, 1, (.t 12)), (6, 4, (.t 111))], none⟩, false, 1⟩,
    ⟨⟨none, .store 10 (.t 10) (.t 112), none⟩, true, 1⟩]))))))))))))))
  (.seq (.dreg [⟨some 113, .loadn 10 (.t 10), none⟩,
    ⟨some 114, .loadn 2 (.t 9), none⟩,
    ⟨none, .store 10 (.t 6) (.t 113), none⟩,
    ⟨none, .store 2 (.t 7) (.t 114), none⟩]
    [⟨⟨some 113, .loadn 10 (.t 10), none⟩, false, 0⟩,
    ⟨⟨none, .store 10 (.t 6) (.t 113), none⟩, true, 0⟩,
    ⟨⟨some 114, .loadn 2 (.t 9), none⟩, false, 0⟩,
    ⟨⟨none, .store 2 (.t 7) (.t 114), none⟩, true, 1⟩])
  (.ret))))))
def r36 : List ResV := [.celln 10 6, .celln 2 7]
theorem tr36 : tr Tryz.prog Tryz.f36.ntmps (Tryz.f36.body.getD .skip) = some c36 := by kernel_rfl
theorem tre36 : trRes Tryz.prog Tryz.f36.results.toList = some r36 := by kernel_rfl
theorem en36 : Enters Tryz.prog 36 := enters_fn Tryz.func36 (by kernel_rfl) rfl
theorem go36 {w0 : World} {args : List V} {σ : H} {R : V → H → Prop} (ha : args.length = 3) (h : H.ok σ → (∀ x ∈ args, V.Sz x) → W Tryz.prog w0 σ.length (Fin r36 σ.length R) [.code c36] ⟨argEnv args, σ⟩) : DC Tryz.prog w0 36 args σ R :=
  DC.of_code (by kernel_rfl) Tryz.func36 rfl tr36 tre36 (by rw [ha]; exact by decide) en36 h
/-- read.Read -/
def c15 : AC :=
  .seq (.reg [⟨some 6, .box (.k (.agg [.c (.int .i64 0), .c (.str []), .c (.int .i64 0), .csl [], .c (.int .i64 0)])), none⟩,
    ⟨some 7, .mov (.k (.c (.int .i64 0))), none⟩,
    ⟨some 8, .mov (.k (.c (.int .i64 0))), none⟩,
    ⟨some 9, .mov (.k (.c (.int .i64 0))), none⟩])
  (.seq (.reg [⟨some 13, .mov (.t 0), none⟩,
    ⟨some 14, .mov (.t 1), none⟩,
    ⟨some 15, .mov (.t 2), none⟩,
    ⟨some 16, .build [.csl [], .csl [], .c (.int .i64 0)] [(0, 1, (.t 13)), (1, 1, (.t 14)), (2, 1, (.t 15))], none⟩,
    ⟨some 17, .box (.t 16), none⟩,
    ⟨some 10, .mov (.t 17), none⟩])
  (.seq (.reg [⟨some 19, .mov (.t 10), none⟩,
    ⟨some 20, .call (.k (.fn 36 [])) [(.t 19), (.k (.c (.int .i64 0))), (.k (.c (.int .i64 0)))], none⟩,
    ⟨some 18, .mov (.t 20), none⟩,
    ⟨some 21, .ext (.t 18) 0, none⟩,
    ⟨some 22, .ext (.t 18) 1, none⟩,
    ⟨some 11, .box (.k (.agg [.c (.int .i64 0), .c (.str []), .c (.int .i64 0), .csl [], .c (.int .i64 0), .c (.nilp), .c (.int .i64 0), .c (.str []), .c (.int .i64 0), .c (.int .i64 0)])), none⟩,
    ⟨some 12, .box (.k (.agg [.c (.int .i64 0), .c (.int .i64 0)])), none⟩,
    ⟨none, .store 10 (.t 11) (.t 21), none⟩,
    ⟨none, .store 2 (.t 12) (.t 22), none⟩])
  (.seq (.seq (.reg [⟨some 23, .loadn 2 (.t 12), none⟩,
    ⟨some 24, .call (.k (.fn 37 [])) [(.t 23)], none⟩,
    ⟨some 25, .un .not (.t 24), none⟩])
  (.cond (.t 25)
  (.seq (.dreg [⟨some 26, .build [.c (.int .i64 0), .c (.str []), .c (.int .i64 0), .csl [], .c (.int .i64 0)] [], none⟩,
    ⟨some 27, .mov (.t 2), none⟩,
    ⟨some 28, .fadd 0 (.t 12), none⟩,
    ⟨some 29, .load1 (.t 28), none⟩,
    ⟨some 30, .fadd 1 (.t 12), none⟩,
    ⟨some 31, .load1 (.t 30), none⟩,
    ⟨none, .store 5 (.t 6) (.t 26), none⟩,
    ⟨some 7, .mov (.t 27), none⟩,
    ⟨some 8, .mov (.t 29), none⟩,
    ⟨some 9, .mov (.t 31), none⟩]
    [⟨⟨some 26, .build [.c (.int .i64 0), .c (.str []), .c (.int .i64 0), .csl [], .c (.int .i64 0)] [], none⟩, false, 0⟩,
    ⟨⟨none, .store 5 (.t 6) (.t 26), none⟩, true, 0⟩,
    ⟨⟨some 27, .mov (.t 2), none⟩, false, 0⟩,
    ⟨⟨some 28, .fadd 0 (.t 12), none⟩, false, 0⟩,
    ⟨⟨some 29, .load1 (.t 28), none⟩, false, 0⟩,
    ⟨⟨some 30, .fadd 1 (.t 12), none⟩, false, 0⟩,
    ⟨⟨some 31, .load1 (.t 30), none⟩, false, 0⟩,
    ⟨⟨some 7, .mov (.t 27), none⟩, false, 1⟩,
    ⟨⟨some 8, .mov (.t 29), none⟩, false, 1⟩,
    ⟨⟨some 9, .mov (.t 31), none⟩, false, 1⟩])
  (.ret))
  (.skip)))
  (.seq (.dreg [⟨some 32, .fadd 0 (.t 11), none⟩,
    ⟨some 33, .loadn 5 (.t 32), none⟩,
    ⟨some 34, .mov (.t 10), none⟩,
    ⟨some 35, .nilck (.t 34), none⟩,
    ⟨some 36, .fadd 2 (.t 35), none⟩,
    ⟨some 37, .load1 (.t 36), none⟩,
    ⟨none, .store 5 (.t 6) (.t 33), none⟩,
    ⟨some 7, .mov (.t 37), none⟩,
    ⟨some 8, .mov (.k (.c (.int .i64 0))), none⟩,
    ⟨some 9, .mov (.k (.c (.int .i64 0))), none⟩]
    [⟨⟨some 32, .fadd 0 (.t 11), none⟩, false, 0⟩,
    ⟨⟨some 33, .loadn 5 (.t 32), none⟩, false, 0⟩,
    ⟨⟨none, .store 5 (.t 6) (.t 33), none⟩, true, 0⟩,
    ⟨⟨some 34, .mov (.t 10), none⟩, false, 0⟩,
    ⟨⟨some 35, .nilck (.t 34), none⟩, false, 0⟩,
    ⟨⟨some 36, .fadd 2 (.t 35), none⟩, false, 0⟩,
    ⟨⟨some 37, .load1 (.t 36), none⟩, false, 0⟩,
    ⟨⟨some 7, .mov (.t 37), none⟩, false, 1⟩,
    ⟨⟨some 8, .mov (.k (.c (.int .i64 0))), none⟩, false, 1⟩,
    ⟨⟨some 9, .mov (.k (.c (.int .i64 0))), none⟩, false, 1⟩])
  (.ret)))))
def r15 : List ResV := [.celln 5 6, .tmp 7, .tmp 8, .tmp 9]
theorem tr15 : tr Tryz.prog Tryz.f15.ntmps (Tryz.f15.body.getD .skip) = some c15 := by kernel_rfl
theorem tre15 : trRes Tryz.prog Tryz.f15.results.toList = some r15 := by kernel_rfl
theorem en15 : Enters Tryz.prog 15 := enters_fn Tryz.func15 (by kernel_rfl) rfl
theorem go15 {w0 : World} {args : List V} {σ : H} {R : V → H → Prop} (ha : args.length = 3) (h : H.ok σ → (∀ x ∈ args, V.Sz x) → W Tryz.prog w0 σ.length (Fin r15 σ.length R) [.code c15] ⟨argEnv args, σ⟩) : DC Tryz.prog w0 15 args σ R :=
  DC.of_code (by kernel_rfl) Tryz.func15 rfl tr15 tre15 (by rw [ha]; exact by decide) en15 h
end Go.Proofs.YtpgkhkojjklakaaGreatDoor
namespace Go.Proofs.YtpgkhkojjklakaaGreatDoor
open Go.RowKit Go.Lamb
attribute [local go_sem] advO_skip advO_reg advO_seq advO_block advO_exit advO_endb advO_opsNil advO_ops advG_yes advG_no advG_none advS_some advS_none advO_cond advO_loop advO_dreg advO_ret advO_bad advO_inv advO_nil advO_zero wantedV Lamb.step ev_t ev_k put_some put_none argEnv popTo cellsAt V.cellsV V.rows V.toC toCs fillV rowsV boundV boundL binV binInt binStr eqC eqL V.isNil leaves V.leaf Ins.quiet Ins.pure List.getD_cons_zero List.getD_cons_succ List.getD_nil List.all_cons List.all_nil List.length_cons List.length_nil List.take_succ_cons List.take_zero List.drop_succ_cons List.drop_zero List.cons_append List.nil_append List.append_nil List.append_assoc List.map_cons List.map_nil List.getElem?_cons_zero List.getElem?_cons_succ List.length_append List.length_set hget0 hget hset0 hset hsets hgs0 hgs hss0 hss List.set_cons_zero List.set_cons_succ List.forall_mem_cons List.not_mem_nil false_implies implies_true Option.map_some Bool.and_true Bool.true_and Bool.not_not Bool.not_true Bool.not_false Bool.and_self Bool.or_true Bool.true_or Bool.or_false Bool.false_or Bool.and_false Bool.false_and Bool.false_eq_true beq_self_eq_true and_self and_true true_and if_true if_false Nat.zero_add Nat.add_zero Nat.le_refl Int.toNat_natCast decide_true decide_false beq_t beq_f List.length_map List.getElem?_map I S B opsC toksC OpT.v OpT.cs OpT.zero Tok.v Tok.cs Pre.v Pre.cs_eq k_mk name_mk n_mk l_mk pos_mk Pre.app applyL natCast0 natCast1 natCast2

/-- The reader's block. -/
def rdr (l : List OpT) (t : List Tok) (i : Nat) : Blk := .cells [.c (opsC l), .c (toksC t), I i]
theorem wrap_nat {n : Nat} (h : n ≤ 9223372036854775807) : IntKind.i64.wrap (n : Int) = (n : Int) := wrap_in (by omega) (by omega)
theorem wrap_add {a b : Nat} (h : a + b ≤ 9223372036854775807) : IntKind.i64.wrap ((a : Int) + (b : Int)) = ((a + b : Nat) : Int) := by rw [← Int.natCast_add]; exact wrap_nat h
theorem tokL_in {t : List Tok} {i : Nat} (h : i < t.length) : tokL t i = t[i] := by rw [tokL, List.getElem?_eq_getElem h]; rfl
theorem tokL_out {t : List Tok} {i : Nat} (h : t.length ≤ i) : tokL t i = ⟨0, [], 0, lastPos t⟩ := by rw [tokL, List.getElem?_eq_none h]; rfl
theorem lastPos_at {t : List Tok} (h : 0 < t.length) : ∃ x, t[t.length - 1]? = some x ∧ lastPos t = x.pos := by
  refine ⟨t[t.length - 1], List.getElem?_eq_getElem (by omega), ?_⟩
  rw [lastPos, List.getLast?_eq_getElem?, List.getElem?_eq_getElem (by omega)]
  rfl
theorem read_tok (w0 : World) (l : List OpT) (t : List Tok) (i k : Nat) (σ : H) (b : Nat) (hb : σ[b]? = some (rdr l t i)) (hk : i + k ≤ 4000000) (ht : t.length ≤ 1000000) :
    DC Tryz.prog w0 79 [.ptr b 0, I k] σ (Same (tokL t (i + k)).v σ) := by
  have hlt := (List.getElem?_eq_some_iff.1 hb).1
  have hg := fun L => hgetb (σ := σ) L hlt
  refine go79 rfl (fun hok hsz => ?_)
  rw [rdr] at hb
  have hw : IntKind.i64.wrap ((i : Int) + (k : Int)) = ((i + k : Nat) : Int) := wrap_add (by omega)
  by_cases h : i + k < t.length
  · have h1 : (((i + k : Nat) : Int) < (t.length : Int)) := by omega
    have hx : t[i + k]? = some t[i + k] := List.getElem?_eq_getElem h
    ((first | refine W.advO 5000 _ _ ?_ | skip); simp only [go_sem, ↓reduceIte, Nat.reduceEqDiff, Nat.reduceAdd, Nat.reduceSub, Nat.reduceMul, Nat.reduceLeDiff, Nat.reduceBEq, reduceCtorEq, Int.reduceLT, Int.reduceLE, Int.reduceToNat, Int.reduceAdd, Int.reduceSub, Int.reduceBEq, Int.reduceBNe, c79, hg, hb, toksC, hw, nat0, h1, hx])
    refine W.yes rfl ?_
    ((first | refine W.advO 5000 _ _ ?_ | skip); simp only [go_sem, ↓reduceIte, Nat.reduceEqDiff, Nat.reduceAdd, Nat.reduceSub, Nat.reduceMul, Nat.reduceLeDiff, Nat.reduceBEq, reduceCtorEq, Int.reduceLT, Int.reduceLE, Int.reduceToNat, Int.reduceAdd, Int.reduceSub, Int.reduceBEq, Int.reduceBNe, hg, hb, nat0, h1, hx])
    (refine W.ret (Fin.same hok (by simp only [resEval, r79, go_sem, ↓reduceIte, Nat.reduceEqDiff, Nat.reduceAdd, Nat.reduceSub, Nat.reduceMul, Nat.reduceLeDiff, Nat.reduceBEq, reduceCtorEq, Int.reduceLT, Int.reduceLE, Int.reduceToNat, Int.reduceAdd, Int.reduceSub, Int.reduceBEq, Int.reduceBNe]; rfl) ?_ (by first | exact .c _ | (simp only [I, S, B, opsC, toksC, Pre.v, Tok.v, OpT.v, low_c, low_void, low_any, low_csl, low_nilf, low_ptr, low_osl, low_agg, low_tup, low_fn, List.forall_mem_cons, List.not_mem_nil, false_implies, implies_true, and_self, and_true, true_and]; done)) (by first | exact ⟨[], (List.append_nil _).symm⟩ | exact ⟨_, rfl⟩)); simp only [resV])
    rw [tokL_in h]
  · have h1 : ¬ (((i + k : Nat) : Int) < (t.length : Int)) := by omega
    ((first | refine W.advO 5000 _ _ ?_ | skip); simp only [go_sem, ↓reduceIte, Nat.reduceEqDiff, Nat.reduceAdd, Nat.reduceSub, Nat.reduceMul, Nat.reduceLeDiff, Nat.reduceBEq, reduceCtorEq, Int.reduceLT, Int.reduceLE, Int.reduceToNat, Int.reduceAdd, Int.reduceSub, Int.reduceBEq, Int.reduceBNe, c79, hg, hb, toksC, hw, nat0, h1])
    refine W.no rfl ?_
    ((first | refine W.advO 5000 _ _ ?_ | skip); simp only [go_sem, ↓reduceIte, Nat.reduceEqDiff, Nat.reduceAdd, Nat.reduceSub, Nat.reduceMul, Nat.reduceLeDiff, Nat.reduceBEq, reduceCtorEq, Int.reduceLT, Int.reduceLE, Int.reduceToNat, Int.reduceAdd, Int.reduceSub, Int.reduceBEq, Int.reduceBNe, hg, hb])
    by_cases h0 : 0 < t.length
    · have h2 : ((t.length : Int) > 0) := by omega
      have hw2 : IntKind.i64.wrap ((t.length : Int) - 1) = ((t.length - 1 : Nat) : Int) := by rw [wrap_in] <;> omega
      obtain ⟨x, hx, hp⟩ := lastPos_at h0
      have h3 : (((t.length - 1 : Nat) : Int) < (t.length : Int)) := by omega
      ((first | refine W.advO 5000 _ _ ?_ | skip); simp only [go_sem, ↓reduceIte, Nat.reduceEqDiff, Nat.reduceAdd, Nat.reduceSub, Nat.reduceMul, Nat.reduceLeDiff, Nat.reduceBEq, reduceCtorEq, Int.reduceLT, Int.reduceLE, Int.reduceToNat, Int.reduceAdd, Int.reduceSub, Int.reduceBEq, Int.reduceBNe, h2])
      refine W.yes rfl ?_
      ((first | refine W.advO 5000 _ _ ?_ | skip); simp only [go_sem, ↓reduceIte, Nat.reduceEqDiff, Nat.reduceAdd, Nat.reduceSub, Nat.reduceMul, Nat.reduceLeDiff, Nat.reduceBEq, reduceCtorEq, Int.reduceLT, Int.reduceLE, Int.reduceToNat, Int.reduceAdd, Int.reduceSub, Int.reduceBEq, Int.reduceBNe])
      (apply W.dregE (List.cons_ne_nil _ _); case hc => ((apply CanonE.advPO; simp only [advPO_nil, advPO_loud, advPO_quiet, pL_yes, pL_no, pLS_some, pLS_none, pQ_yes, pQ_no, pQS_some, pQS_loud, eq_self, Nat.sub_zero, go_sem, ↓reduceIte, Nat.reduceEqDiff, Nat.reduceAdd, Nat.reduceSub, Nat.reduceMul, Nat.reduceLeDiff, Nat.reduceBEq, reduceCtorEq, Int.reduceLT, Int.reduceLE, Int.reduceToNat, Int.reduceAdd, Int.reduceSub, Int.reduceBEq, Int.reduceBNe, hg, hb, hw2, nat0, h3, hx]); exact CanonE.nil))
      ((first | refine W.advO 5000 _ _ ?_ | skip); simp only [go_sem, ↓reduceIte, Nat.reduceEqDiff, Nat.reduceAdd, Nat.reduceSub, Nat.reduceMul, Nat.reduceLeDiff, Nat.reduceBEq, reduceCtorEq, Int.reduceLT, Int.reduceLE, Int.reduceToNat, Int.reduceAdd, Int.reduceSub, Int.reduceBEq, Int.reduceBNe])
      (refine W.ret (Fin.same hok (by simp only [resEval, r79, go_sem, ↓reduceIte, Nat.reduceEqDiff, Nat.reduceAdd, Nat.reduceSub, Nat.reduceMul, Nat.reduceLeDiff, Nat.reduceBEq, reduceCtorEq, Int.reduceLT, Int.reduceLE, Int.reduceToNat, Int.reduceAdd, Int.reduceSub, Int.reduceBEq, Int.reduceBNe]; rfl) ?_ (by first | exact .c _ | (simp only [I, S, B, opsC, toksC, Pre.v, Tok.v, OpT.v, low_c, low_void, low_any, low_csl, low_nilf, low_ptr, low_osl, low_agg, low_tup, low_fn, List.forall_mem_cons, List.not_mem_nil, false_implies, implies_true, and_self, and_true, true_and]; done)) (by first | exact ⟨[], (List.append_nil _).symm⟩ | exact ⟨_, rfl⟩)); simp only [resV])
      rw [tokL_out (by omega), hp]
    · have h2 : ¬ ((t.length : Int) > 0) := by omega
      ((first | refine W.advO 5000 _ _ ?_ | skip); simp only [go_sem, ↓reduceIte, Nat.reduceEqDiff, Nat.reduceAdd, Nat.reduceSub, Nat.reduceMul, Nat.reduceLeDiff, Nat.reduceBEq, reduceCtorEq, Int.reduceLT, Int.reduceLE, Int.reduceToNat, Int.reduceAdd, Int.reduceSub, Int.reduceBEq, Int.reduceBNe, h2])
      refine W.no rfl ?_
      ((first | refine W.advO 5000 _ _ ?_ | skip); simp only [go_sem, ↓reduceIte, Nat.reduceEqDiff, Nat.reduceAdd, Nat.reduceSub, Nat.reduceMul, Nat.reduceLeDiff, Nat.reduceBEq, reduceCtorEq, Int.reduceLT, Int.reduceLE, Int.reduceToNat, Int.reduceAdd, Int.reduceSub, Int.reduceBEq, Int.reduceBNe])
      (refine W.ret (Fin.same hok (by simp only [resEval, r79, go_sem, ↓reduceIte, Nat.reduceEqDiff, Nat.reduceAdd, Nat.reduceSub, Nat.reduceMul, Nat.reduceLeDiff, Nat.reduceBEq, reduceCtorEq, Int.reduceLT, Int.reduceLE, Int.reduceToNat, Int.reduceAdd, Int.reduceSub, Int.reduceBEq, Int.reduceBNe]; rfl) ?_ (by first | exact .c _ | (simp only [I, S, B, opsC, toksC, Pre.v, Tok.v, OpT.v, low_c, low_void, low_any, low_csl, low_nilf, low_ptr, low_osl, low_agg, low_tup, low_fn, List.forall_mem_cons, List.not_mem_nil, false_implies, implies_true, and_self, and_true, true_and]; done)) (by first | exact ⟨[], (List.append_nil _).symm⟩ | exact ⟨_, rfl⟩)); simp only [resV])
      have : t = [] := List.eq_nil_of_length_eq_zero (by omega)
      subst this
      rw [tokL_out (by omega)]; rfl
end Go.Proofs.YtpgkhkojjklakaaGreatDoor
namespace Go.Proofs.YtpgkhkojjklakaaGreatDoor
open Go.RowKit Go.Lamb
attribute [local go_sem] advO_skip advO_reg advO_seq advO_block advO_exit advO_endb advO_opsNil advO_ops advG_yes advG_no advG_none advS_some advS_none advO_cond advO_loop advO_dreg advO_ret advO_bad advO_inv advO_nil advO_zero wantedV Lamb.step ev_t ev_k put_some put_none argEnv popTo cellsAt V.cellsV V.rows V.toC toCs fillV rowsV boundV boundL binV binInt binStr eqC eqL V.isNil leaves V.leaf Ins.quiet Ins.pure List.getD_cons_zero List.getD_cons_succ List.getD_nil List.all_cons List.all_nil List.length_cons List.length_nil List.take_succ_cons List.take_zero List.drop_succ_cons List.drop_zero List.cons_append List.nil_append List.append_nil List.append_assoc List.map_cons List.map_nil List.getElem?_cons_zero List.getElem?_cons_succ List.length_append List.length_set hget0 hget hset0 hset hsets hgs0 hgs hss0 hss List.set_cons_zero List.set_cons_succ List.forall_mem_cons List.not_mem_nil false_implies implies_true Option.map_some Bool.and_true Bool.true_and Bool.not_not Bool.not_true Bool.not_false Bool.and_self Bool.or_true Bool.true_or Bool.or_false Bool.false_or Bool.and_false Bool.false_and Bool.false_eq_true beq_self_eq_true and_self and_true true_and if_true if_false Nat.zero_add Nat.add_zero Nat.le_refl Int.toNat_natCast decide_true decide_false beq_t beq_f List.length_map List.getElem?_map I S B opsC toksC OpT.v OpT.cs OpT.zero Tok.v Tok.cs Pre.v Pre.cs_eq k_mk name_mk n_mk l_mk pos_mk Pre.app applyL natCast0 natCast1 natCast2

theorem read_operator (w0 : World) (l : List OpT) (t : List Tok) (i : Nat) (x : Tok) (σ : H) (b : Nat) (hb : σ[b]? = some (rdr l t i)) :
    DC Tryz.prog w0 80 [.ptr b 0, x.v] σ (Same (foundV (opOf l x)) σ) := by
  have hlt := (List.getElem?_eq_some_iff.1 hb).1
  have hg := fun L => hgetb (σ := σ) L hlt
  refine go80 rfl (fun hok hsz => ?_)
  rw [rdr] at hb
  ((first | refine W.advO 5000 _ _ ?_ | skip); simp only [go_sem, ↓reduceIte, Nat.reduceEqDiff, Nat.reduceAdd, Nat.reduceSub, Nat.reduceMul, Nat.reduceLeDiff, Nat.reduceBEq, reduceCtorEq, Int.reduceLT, Int.reduceLE, Int.reduceToNat, Int.reduceAdd, Int.reduceSub, Int.reduceBEq, Int.reduceBNe, c80, hg, hb])
  apply W.dregE (List.cons_ne_nil _ _)
  case hc =>
    (apply CanonE.advPO; simp only [advPO_nil, advPO_loud, advPO_quiet, pL_yes, pL_no, pLS_some, pLS_none, pQ_yes, pQ_no, pQS_some, pQS_loud, eq_self, Nat.sub_zero, go_sem, ↓reduceIte, Nat.reduceEqDiff, Nat.reduceAdd, Nat.reduceSub, Nat.reduceMul, Nat.reduceLeDiff, Nat.reduceBEq, reduceCtorEq, Int.reduceLT, Int.reduceLE, Int.reduceToNat, Int.reduceAdd, Int.reduceSub, Int.reduceBEq, Int.reduceBNe, hg, hb])
    (apply CanonE.call (ops_Is w0 l x _); (case hg => rfl); (case hf => rfl); (case ha => first | rfl | simp))
    (apply CanonE.advPO; simp only [advPO_nil, advPO_loud, advPO_quiet, pL_yes, pL_no, pLS_some, pLS_none, pQ_yes, pQ_no, pQS_some, pQS_loud, eq_self, Nat.sub_zero, go_sem, ↓reduceIte, Nat.reduceEqDiff, Nat.reduceAdd, Nat.reduceSub, Nat.reduceMul, Nat.reduceLeDiff, Nat.reduceBEq, reduceCtorEq, Int.reduceLT, Int.reduceLE, Int.reduceToNat, Int.reduceAdd, Int.reduceSub, Int.reduceBEq, Int.reduceBNe, foundV])
    exact CanonE.nil
  ((first | refine W.advO 5000 _ _ ?_ | skip); simp only [go_sem, ↓reduceIte, Nat.reduceEqDiff, Nat.reduceAdd, Nat.reduceSub, Nat.reduceMul, Nat.reduceLeDiff, Nat.reduceBEq, reduceCtorEq, Int.reduceLT, Int.reduceLE, Int.reduceToNat, Int.reduceAdd, Int.reduceSub, Int.reduceBEq, Int.reduceBNe])
  (refine W.ret (Fin.same hok (by simp only [resEval, r80, go_sem, ↓reduceIte, Nat.reduceEqDiff, Nat.reduceAdd, Nat.reduceSub, Nat.reduceMul, Nat.reduceLeDiff, Nat.reduceBEq, reduceCtorEq, Int.reduceLT, Int.reduceLE, Int.reduceToNat, Int.reduceAdd, Int.reduceSub, Int.reduceBEq, Int.reduceBNe]; rfl) ?_ (by first | exact .c _ | (simp only [I, S, B, opsC, toksC, Pre.v, Tok.v, OpT.v, low_c, low_void, low_any, low_csl, low_nilf, low_ptr, low_osl, low_agg, low_tup, low_fn, List.forall_mem_cons, List.not_mem_nil, false_implies, implies_true, and_self, and_true, true_and, foundV, OpT.v]; done)) (by first | exact ⟨[], (List.append_nil _).symm⟩ | exact ⟨_, rfl⟩)); simp only [resV, foundV, OpT.v])
  rfl
theorem read_begins (w0 : World) (l : List OpT) (t : List Tok) (i : Nat) (σ : H) (b : Nat) (hb : σ[b]? = some (rdr l t i)) (hi : i ≤ 2000000) (ht : t.length ≤ 1000000) :
    DC Tryz.prog w0 121 [.ptr b 0] σ (Same (B (beginsL l (tokL t i))) σ) := by
  have hlt := (List.getElem?_eq_some_iff.1 hb).1
  have hg := fun L => hgetb (σ := σ) L hlt
  refine go121 rfl (fun hok hsz => ?_)
  ((first | refine W.advO 5000 _ _ ?_ | skip); simp only [go_sem, ↓reduceIte, Nat.reduceEqDiff, Nat.reduceAdd, Nat.reduceSub, Nat.reduceMul, Nat.reduceLeDiff, Nat.reduceBEq, reduceCtorEq, Int.reduceLT, Int.reduceLE, Int.reduceToNat, Int.reduceAdd, Int.reduceSub, Int.reduceBEq, Int.reduceBNe, c121])
  (refine W.call1 (read_tok w0 l t i 0 _ b hb (by omega) ht) rfl rfl (by first | rfl | simp) ?_; refine W.advO 5000 _ _ ?_; simp only [go_sem, ↓reduceIte, Nat.reduceEqDiff, Nat.reduceAdd, Nat.reduceSub, Nat.reduceMul, Nat.reduceLeDiff, Nat.reduceBEq, reduceCtorEq, Int.reduceLT, Int.reduceLE, Int.reduceToNat, Int.reduceAdd, Int.reduceSub, Int.reduceBEq, Int.reduceBNe])
  generalize tokL t i = x
  cases h1 : (x.kind == 1)
  · ((first | refine W.advO 5000 _ _ ?_ | skip); simp only [go_sem, ↓reduceIte, Nat.reduceEqDiff, Nat.reduceAdd, Nat.reduceSub, Nat.reduceMul, Nat.reduceLeDiff, Nat.reduceBEq, reduceCtorEq, Int.reduceLT, Int.reduceLE, Int.reduceToNat, Int.reduceAdd, Int.reduceSub, Int.reduceBEq, Int.reduceBNe, h1])
    refine W.no rfl ?_
    cases h4 : (x.kind == 4)
    · have hk : ¬ (x.kind = 1 ∨ x.kind = 4) := by
        simp only [beq_eq_false_iff_ne] at h1 h4
        rintro (h | h)
        · exact h1 h
        · exact h4 h
      ((first | refine W.advO 5000 _ _ ?_ | skip); simp only [go_sem, ↓reduceIte, Nat.reduceEqDiff, Nat.reduceAdd, Nat.reduceSub, Nat.reduceMul, Nat.reduceLeDiff, Nat.reduceBEq, reduceCtorEq, Int.reduceLT, Int.reduceLE, Int.reduceToNat, Int.reduceAdd, Int.reduceSub, Int.reduceBEq, Int.reduceBNe, h4])
      refine W.no rfl ?_
      cases h2 : (x.kind == 2)
      · ((first | refine W.advO 5000 _ _ ?_ | skip); simp only [go_sem, ↓reduceIte, Nat.reduceEqDiff, Nat.reduceAdd, Nat.reduceSub, Nat.reduceMul, Nat.reduceLeDiff, Nat.reduceBEq, reduceCtorEq, Int.reduceLT, Int.reduceLE, Int.reduceToNat, Int.reduceAdd, Int.reduceSub, Int.reduceBEq, Int.reduceBNe, h2])
        refine W.no rfl ?_
        cases h3 : (x.kind == 3)
        · ((first | refine W.advO 5000 _ _ ?_ | skip); simp only [go_sem, ↓reduceIte, Nat.reduceEqDiff, Nat.reduceAdd, Nat.reduceSub, Nat.reduceMul, Nat.reduceLeDiff, Nat.reduceBEq, reduceCtorEq, Int.reduceLT, Int.reduceLE, Int.reduceToNat, Int.reduceAdd, Int.reduceSub, Int.reduceBEq, Int.reduceBNe, h3])
          refine W.no rfl ?_
          cases h5 : (x.kind == 5)
          · ((first | refine W.advO 5000 _ _ ?_ | skip); simp only [go_sem, ↓reduceIte, Nat.reduceEqDiff, Nat.reduceAdd, Nat.reduceSub, Nat.reduceMul, Nat.reduceLeDiff, Nat.reduceBEq, reduceCtorEq, Int.reduceLT, Int.reduceLE, Int.reduceToNat, Int.reduceAdd, Int.reduceSub, Int.reduceBEq, Int.reduceBNe, h5])
            refine W.no rfl ?_
            ((first | refine W.advO 5000 _ _ ?_ | skip); simp only [go_sem, ↓reduceIte, Nat.reduceEqDiff, Nat.reduceAdd, Nat.reduceSub, Nat.reduceMul, Nat.reduceLeDiff, Nat.reduceBEq, reduceCtorEq, Int.reduceLT, Int.reduceLE, Int.reduceToNat, Int.reduceAdd, Int.reduceSub, Int.reduceBEq, Int.reduceBNe])
            (refine W.ret (Fin.same hok (by simp only [resEval, r121, go_sem, ↓reduceIte, Nat.reduceEqDiff, Nat.reduceAdd, Nat.reduceSub, Nat.reduceMul, Nat.reduceLeDiff, Nat.reduceBEq, reduceCtorEq, Int.reduceLT, Int.reduceLE, Int.reduceToNat, Int.reduceAdd, Int.reduceSub, Int.reduceBEq, Int.reduceBNe]; rfl) ?_ (by first | exact .c _ | (simp only [I, S, B, opsC, toksC, Pre.v, Tok.v, OpT.v, low_c, low_void, low_any, low_csl, low_nilf, low_ptr, low_osl, low_agg, low_tup, low_fn, List.forall_mem_cons, List.not_mem_nil, false_implies, implies_true, and_self, and_true, true_and]; done)) (by first | exact ⟨[], (List.append_nil _).symm⟩ | exact ⟨_, rfl⟩)); simp only [resV])
            rw [beginsL, if_neg hk]; simp_all
          · ((first | refine W.advO 5000 _ _ ?_ | skip); simp only [go_sem, ↓reduceIte, Nat.reduceEqDiff, Nat.reduceAdd, Nat.reduceSub, Nat.reduceMul, Nat.reduceLeDiff, Nat.reduceBEq, reduceCtorEq, Int.reduceLT, Int.reduceLE, Int.reduceToNat, Int.reduceAdd, Int.reduceSub, Int.reduceBEq, Int.reduceBNe, h5])
            refine W.yes rfl ?_
            ((first | refine W.advO 5000 _ _ ?_ | skip); simp only [go_sem, ↓reduceIte, Nat.reduceEqDiff, Nat.reduceAdd, Nat.reduceSub, Nat.reduceMul, Nat.reduceLeDiff, Nat.reduceBEq, reduceCtorEq, Int.reduceLT, Int.reduceLE, Int.reduceToNat, Int.reduceAdd, Int.reduceSub, Int.reduceBEq, Int.reduceBNe])
            (refine W.ret (Fin.same hok (by simp only [resEval, r121, go_sem, ↓reduceIte, Nat.reduceEqDiff, Nat.reduceAdd, Nat.reduceSub, Nat.reduceMul, Nat.reduceLeDiff, Nat.reduceBEq, reduceCtorEq, Int.reduceLT, Int.reduceLE, Int.reduceToNat, Int.reduceAdd, Int.reduceSub, Int.reduceBEq, Int.reduceBNe]; rfl) ?_ (by first | exact .c _ | (simp only [I, S, B, opsC, toksC, Pre.v, Tok.v, OpT.v, low_c, low_void, low_any, low_csl, low_nilf, low_ptr, low_osl, low_agg, low_tup, low_fn, List.forall_mem_cons, List.not_mem_nil, false_implies, implies_true, and_self, and_true, true_and]; done)) (by first | exact ⟨[], (List.append_nil _).symm⟩ | exact ⟨_, rfl⟩)); simp only [resV])
            rw [beginsL, if_neg hk]; simp_all
        · ((first | refine W.advO 5000 _ _ ?_ | skip); simp only [go_sem, ↓reduceIte, Nat.reduceEqDiff, Nat.reduceAdd, Nat.reduceSub, Nat.reduceMul, Nat.reduceLeDiff, Nat.reduceBEq, reduceCtorEq, Int.reduceLT, Int.reduceLE, Int.reduceToNat, Int.reduceAdd, Int.reduceSub, Int.reduceBEq, Int.reduceBNe, h3])
          refine W.yes rfl ?_
          ((first | refine W.advO 5000 _ _ ?_ | skip); simp only [go_sem, ↓reduceIte, Nat.reduceEqDiff, Nat.reduceAdd, Nat.reduceSub, Nat.reduceMul, Nat.reduceLeDiff, Nat.reduceBEq, reduceCtorEq, Int.reduceLT, Int.reduceLE, Int.reduceToNat, Int.reduceAdd, Int.reduceSub, Int.reduceBEq, Int.reduceBNe])
          refine W.yes rfl ?_
          ((first | refine W.advO 5000 _ _ ?_ | skip); simp only [go_sem, ↓reduceIte, Nat.reduceEqDiff, Nat.reduceAdd, Nat.reduceSub, Nat.reduceMul, Nat.reduceLeDiff, Nat.reduceBEq, reduceCtorEq, Int.reduceLT, Int.reduceLE, Int.reduceToNat, Int.reduceAdd, Int.reduceSub, Int.reduceBEq, Int.reduceBNe])
          (refine W.ret (Fin.same hok (by simp only [resEval, r121, go_sem, ↓reduceIte, Nat.reduceEqDiff, Nat.reduceAdd, Nat.reduceSub, Nat.reduceMul, Nat.reduceLeDiff, Nat.reduceBEq, reduceCtorEq, Int.reduceLT, Int.reduceLE, Int.reduceToNat, Int.reduceAdd, Int.reduceSub, Int.reduceBEq, Int.reduceBNe]; rfl) ?_ (by first | exact .c _ | (simp only [I, S, B, opsC, toksC, Pre.v, Tok.v, OpT.v, low_c, low_void, low_any, low_csl, low_nilf, low_ptr, low_osl, low_agg, low_tup, low_fn, List.forall_mem_cons, List.not_mem_nil, false_implies, implies_true, and_self, and_true, true_and]; done)) (by first | exact ⟨[], (List.append_nil _).symm⟩ | exact ⟨_, rfl⟩)); simp only [resV])
          rw [beginsL, if_neg hk]; simp_all
      · ((first | refine W.advO 5000 _ _ ?_ | skip); simp only [go_sem, ↓reduceIte, Nat.reduceEqDiff, Nat.reduceAdd, Nat.reduceSub, Nat.reduceMul, Nat.reduceLeDiff, Nat.reduceBEq, reduceCtorEq, Int.reduceLT, Int.reduceLE, Int.reduceToNat, Int.reduceAdd, Int.reduceSub, Int.reduceBEq, Int.reduceBNe, h2])
        refine W.yes rfl ?_
        ((first | refine W.advO 5000 _ _ ?_ | skip); simp only [go_sem, ↓reduceIte, Nat.reduceEqDiff, Nat.reduceAdd, Nat.reduceSub, Nat.reduceMul, Nat.reduceLeDiff, Nat.reduceBEq, reduceCtorEq, Int.reduceLT, Int.reduceLE, Int.reduceToNat, Int.reduceAdd, Int.reduceSub, Int.reduceBEq, Int.reduceBNe])
        refine W.yes rfl ?_
        ((first | refine W.advO 5000 _ _ ?_ | skip); simp only [go_sem, ↓reduceIte, Nat.reduceEqDiff, Nat.reduceAdd, Nat.reduceSub, Nat.reduceMul, Nat.reduceLeDiff, Nat.reduceBEq, reduceCtorEq, Int.reduceLT, Int.reduceLE, Int.reduceToNat, Int.reduceAdd, Int.reduceSub, Int.reduceBEq, Int.reduceBNe])
        (refine W.ret (Fin.same hok (by simp only [resEval, r121, go_sem, ↓reduceIte, Nat.reduceEqDiff, Nat.reduceAdd, Nat.reduceSub, Nat.reduceMul, Nat.reduceLeDiff, Nat.reduceBEq, reduceCtorEq, Int.reduceLT, Int.reduceLE, Int.reduceToNat, Int.reduceAdd, Int.reduceSub, Int.reduceBEq, Int.reduceBNe]; rfl) ?_ (by first | exact .c _ | (simp only [I, S, B, opsC, toksC, Pre.v, Tok.v, OpT.v, low_c, low_void, low_any, low_csl, low_nilf, low_ptr, low_osl, low_agg, low_tup, low_fn, List.forall_mem_cons, List.not_mem_nil, false_implies, implies_true, and_self, and_true, true_and]; done)) (by first | exact ⟨[], (List.append_nil _).symm⟩ | exact ⟨_, rfl⟩)); simp only [resV])
        rw [beginsL, if_neg hk]; simp_all
    · have hk : x.kind = 1 ∨ x.kind = 4 := .inr (by simpa using h4)
      ((first | refine W.advO 5000 _ _ ?_ | skip); simp only [go_sem, ↓reduceIte, Nat.reduceEqDiff, Nat.reduceAdd, Nat.reduceSub, Nat.reduceMul, Nat.reduceLeDiff, Nat.reduceBEq, reduceCtorEq, Int.reduceLT, Int.reduceLE, Int.reduceToNat, Int.reduceAdd, Int.reduceSub, Int.reduceBEq, Int.reduceBNe, h4])
      refine W.yes rfl ?_
      ((first | refine W.advO 5000 _ _ ?_ | skip); simp only [go_sem, ↓reduceIte, Nat.reduceEqDiff, Nat.reduceAdd, Nat.reduceSub, Nat.reduceMul, Nat.reduceLeDiff, Nat.reduceBEq, reduceCtorEq, Int.reduceLT, Int.reduceLE, Int.reduceToNat, Int.reduceAdd, Int.reduceSub, Int.reduceBEq, Int.reduceBNe])
      (refine W.call1 (read_operator w0 l t i x _ b ((hg _).trans hb)) rfl rfl (by first | rfl | simp) ?_; refine W.advO 5000 _ _ ?_; simp only [go_sem, ↓reduceIte, Nat.reduceEqDiff, Nat.reduceAdd, Nat.reduceSub, Nat.reduceMul, Nat.reduceLeDiff, Nat.reduceBEq, reduceCtorEq, Int.reduceLT, Int.reduceLE, Int.reduceToNat, Int.reduceAdd, Int.reduceSub, Int.reduceBEq, Int.reduceBNe, foundV])
      (refine W.ret (Fin.same hok (by simp only [resEval, r121, go_sem, ↓reduceIte, Nat.reduceEqDiff, Nat.reduceAdd, Nat.reduceSub, Nat.reduceMul, Nat.reduceLeDiff, Nat.reduceBEq, reduceCtorEq, Int.reduceLT, Int.reduceLE, Int.reduceToNat, Int.reduceAdd, Int.reduceSub, Int.reduceBEq, Int.reduceBNe]; rfl) ?_ (by first | exact .c _ | (simp only [I, S, B, opsC, toksC, Pre.v, Tok.v, OpT.v, low_c, low_void, low_any, low_csl, low_nilf, low_ptr, low_osl, low_agg, low_tup, low_fn, List.forall_mem_cons, List.not_mem_nil, false_implies, implies_true, and_self, and_true, true_and]; done)) (by first | exact ⟨[], (List.append_nil _).symm⟩ | exact ⟨_, rfl⟩)); simp only [resV])
      rw [beginsL, if_pos hk]; cases opOf l x <;> rfl
  · have hk : x.kind = 1 ∨ x.kind = 4 := .inl (by simpa using h1)
    ((first | refine W.advO 5000 _ _ ?_ | skip); simp only [go_sem, ↓reduceIte, Nat.reduceEqDiff, Nat.reduceAdd, Nat.reduceSub, Nat.reduceMul, Nat.reduceLeDiff, Nat.reduceBEq, reduceCtorEq, Int.reduceLT, Int.reduceLE, Int.reduceToNat, Int.reduceAdd, Int.reduceSub, Int.reduceBEq, Int.reduceBNe, h1])
    refine W.yes rfl ?_
    ((first | refine W.advO 5000 _ _ ?_ | skip); simp only [go_sem, ↓reduceIte, Nat.reduceEqDiff, Nat.reduceAdd, Nat.reduceSub, Nat.reduceMul, Nat.reduceLeDiff, Nat.reduceBEq, reduceCtorEq, Int.reduceLT, Int.reduceLE, Int.reduceToNat, Int.reduceAdd, Int.reduceSub, Int.reduceBEq, Int.reduceBNe])
    refine W.yes rfl ?_
    ((first | refine W.advO 5000 _ _ ?_ | skip); simp only [go_sem, ↓reduceIte, Nat.reduceEqDiff, Nat.reduceAdd, Nat.reduceSub, Nat.reduceMul, Nat.reduceLeDiff, Nat.reduceBEq, reduceCtorEq, Int.reduceLT, Int.reduceLE, Int.reduceToNat, Int.reduceAdd, Int.reduceSub, Int.reduceBEq, Int.reduceBNe])
    (refine W.call1 (read_operator w0 l t i x _ b ((hg _).trans hb)) rfl rfl (by first | rfl | simp) ?_; refine W.advO 5000 _ _ ?_; simp only [go_sem, ↓reduceIte, Nat.reduceEqDiff, Nat.reduceAdd, Nat.reduceSub, Nat.reduceMul, Nat.reduceLeDiff, Nat.reduceBEq, reduceCtorEq, Int.reduceLT, Int.reduceLE, Int.reduceToNat, Int.reduceAdd, Int.reduceSub, Int.reduceBEq, Int.reduceBNe, foundV])
    (refine W.ret (Fin.same hok (by simp only [resEval, r121, go_sem, ↓reduceIte, Nat.reduceEqDiff, Nat.reduceAdd, Nat.reduceSub, Nat.reduceMul, Nat.reduceLeDiff, Nat.reduceBEq, reduceCtorEq, Int.reduceLT, Int.reduceLE, Int.reduceToNat, Int.reduceAdd, Int.reduceSub, Int.reduceBEq, Int.reduceBNe]; rfl) ?_ (by first | exact .c _ | (simp only [I, S, B, opsC, toksC, Pre.v, Tok.v, OpT.v, low_c, low_void, low_any, low_csl, low_nilf, low_ptr, low_osl, low_agg, low_tup, low_fn, List.forall_mem_cons, List.not_mem_nil, false_implies, implies_true, and_self, and_true, true_and]; done)) (by first | exact ⟨[], (List.append_nil _).symm⟩ | exact ⟨_, rfl⟩)); simp only [resV])
    rw [beginsL, if_pos hk]; cases opOf l x <;> rfl
theorem read_lambda (w0 : World) (l : List OpT) (t : List Tok) (i : Nat) (σ : H) (b : Nat) (hb : σ[b]? = some (rdr l t i)) (hi : i ≤ 2000000) (ht : t.length ≤ 1000000) :
    DC Tryz.prog w0 119 [.ptr b 0] σ (Same (B (lamAt t i)) σ) := by
  refine go119 rfl (fun hok hsz => ?_)
  ((first | refine W.advO 5000 _ _ ?_ | skip); simp only [go_sem, ↓reduceIte, Nat.reduceEqDiff, Nat.reduceAdd, Nat.reduceSub, Nat.reduceMul, Nat.reduceLeDiff, Nat.reduceBEq, reduceCtorEq, Int.reduceLT, Int.reduceLE, Int.reduceToNat, Int.reduceAdd, Int.reduceSub, Int.reduceBEq, Int.reduceBNe, c119])
  cases h1 : ((tokL t i).kind == 1) <;> cases h2 : ((tokL t i).kind == 2)
  · (refine W.call1 (read_tok w0 l t i 0 _ b hb (by omega) ht) rfl rfl (by first | rfl | simp) ?_; refine W.advO 5000 _ _ ?_; simp only [go_sem, ↓reduceIte, Nat.reduceEqDiff, Nat.reduceAdd, Nat.reduceSub, Nat.reduceMul, Nat.reduceLeDiff, Nat.reduceBEq, reduceCtorEq, Int.reduceLT, Int.reduceLE, Int.reduceToNat, Int.reduceAdd, Int.reduceSub, Int.reduceBEq, Int.reduceBNe, h1, h2])
    (refine W.ret (Fin.same hok (by simp only [resEval, r119, go_sem, ↓reduceIte, Nat.reduceEqDiff, Nat.reduceAdd, Nat.reduceSub, Nat.reduceMul, Nat.reduceLeDiff, Nat.reduceBEq, reduceCtorEq, Int.reduceLT, Int.reduceLE, Int.reduceToNat, Int.reduceAdd, Int.reduceSub, Int.reduceBEq, Int.reduceBNe]; rfl) ?_ (by first | exact .c _ | (simp only [I, S, B, opsC, toksC, Pre.v, Tok.v, OpT.v, low_c, low_void, low_any, low_csl, low_nilf, low_ptr, low_osl, low_agg, low_tup, low_fn, List.forall_mem_cons, List.not_mem_nil, false_implies, implies_true, and_self, and_true, true_and]; done)) (by first | exact ⟨[], (List.append_nil _).symm⟩ | exact ⟨_, rfl⟩)); simp only [resV])
    first | (simp_all [lamAt]; done) | (simp_all [lamAt]; rfl)
  all_goals
    (refine W.call1 (read_tok w0 l t i 0 _ b hb (by omega) ht) rfl rfl (by first | rfl | simp) ?_; refine W.advO 5000 _ _ ?_; simp only [go_sem, ↓reduceIte, Nat.reduceEqDiff, Nat.reduceAdd, Nat.reduceSub, Nat.reduceMul, Nat.reduceLeDiff, Nat.reduceBEq, reduceCtorEq, Int.reduceLT, Int.reduceLE, Int.reduceToNat, Int.reduceAdd, Int.reduceSub, Int.reduceBEq, Int.reduceBNe, h1, h2])
    (refine W.call1 (read_tok w0 l t i 1 _ b hb (by omega) ht) rfl rfl (by first | rfl | simp) ?_; refine W.advO 5000 _ _ ?_; simp only [go_sem, ↓reduceIte, Nat.reduceEqDiff, Nat.reduceAdd, Nat.reduceSub, Nat.reduceMul, Nat.reduceLeDiff, Nat.reduceBEq, reduceCtorEq, Int.reduceLT, Int.reduceLE, Int.reduceToNat, Int.reduceAdd, Int.reduceSub, Int.reduceBEq, Int.reduceBNe, h1, h2])
    (refine W.ret (Fin.same hok (by simp only [resEval, r119, go_sem, ↓reduceIte, Nat.reduceEqDiff, Nat.reduceAdd, Nat.reduceSub, Nat.reduceMul, Nat.reduceLeDiff, Nat.reduceBEq, reduceCtorEq, Int.reduceLT, Int.reduceLE, Int.reduceToNat, Int.reduceAdd, Int.reduceSub, Int.reduceBEq, Int.reduceBNe]; rfl) ?_ (by first | exact .c _ | (simp only [I, S, B, opsC, toksC, Pre.v, Tok.v, OpT.v, low_c, low_void, low_any, low_csl, low_nilf, low_ptr, low_osl, low_agg, low_tup, low_fn, List.forall_mem_cons, List.not_mem_nil, false_implies, implies_true, and_self, and_true, true_and]; done)) (by first | exact ⟨[], (List.append_nil _).symm⟩ | exact ⟨_, rfl⟩)); simp only [resV])
    first | (simp_all [lamAt]; done) | (simp_all [lamAt]; rfl)
theorem wrong_ok (w0 : World) (e p : Int) (σ : H) : DC Tryz.prog w0 37 [.agg [I e, I p]] σ (Same (B (e == 0)) σ) := by
  refine go37 rfl (fun hok hsz => ?_)
  ((first | refine W.advO 5000 _ _ ?_ | skip); simp only [go_sem, ↓reduceIte, Nat.reduceEqDiff, Nat.reduceAdd, Nat.reduceSub, Nat.reduceMul, Nat.reduceLeDiff, Nat.reduceBEq, reduceCtorEq, Int.reduceLT, Int.reduceLE, Int.reduceToNat, Int.reduceAdd, Int.reduceSub, Int.reduceBEq, Int.reduceBNe, c37])
  (refine W.ret (Fin.same hok (by simp only [resEval, r37, go_sem, ↓reduceIte, Nat.reduceEqDiff, Nat.reduceAdd, Nat.reduceSub, Nat.reduceMul, Nat.reduceLeDiff, Nat.reduceBEq, reduceCtorEq, Int.reduceLT, Int.reduceLE, Int.reduceToNat, Int.reduceAdd, Int.reduceSub, Int.reduceBEq, Int.reduceBNe]; rfl) ?_ (by first | exact .c _ | (simp only [I, S, B, opsC, toksC, Pre.v, Tok.v, OpT.v, low_c, low_void, low_any, low_csl, low_nilf, low_ptr, low_osl, low_agg, low_tup, low_fn, List.forall_mem_cons, List.not_mem_nil, false_implies, implies_true, and_self, and_true, true_and]; done)) (by first | exact ⟨[], (List.append_nil _).symm⟩ | exact ⟨_, rfl⟩)); simp only [resV])
end Go.Proofs.YtpgkhkojjklakaaGreatDoor
namespace Go.Proofs.YtpgkhkojjklakaaGreatDoor
open Go.RowKit Go.Lamb
attribute [local go_sem] advO_skip advO_reg advO_seq advO_block advO_exit advO_endb advO_opsNil advO_ops advG_yes advG_no advG_none advS_some advS_none advO_cond advO_loop advO_dreg advO_ret advO_bad advO_inv advO_nil advO_zero wantedV Lamb.step ev_t ev_k put_some put_none argEnv popTo cellsAt V.cellsV V.rows V.toC toCs fillV rowsV boundV boundL binV binInt binStr eqC eqL V.isNil leaves V.leaf Ins.quiet Ins.pure List.getD_cons_zero List.getD_cons_succ List.getD_nil List.all_cons List.all_nil List.length_cons List.length_nil List.take_succ_cons List.take_zero List.drop_succ_cons List.drop_zero List.cons_append List.nil_append List.append_nil List.append_assoc List.map_cons List.map_nil List.getElem?_cons_zero List.getElem?_cons_succ List.length_append List.length_set hget0 hget hset0 hset hsets hgs0 hgs hss0 hss List.set_cons_zero List.set_cons_succ List.forall_mem_cons List.not_mem_nil false_implies implies_true Option.map_some Bool.and_true Bool.true_and Bool.not_not Bool.not_true Bool.not_false Bool.and_self Bool.or_true Bool.true_or Bool.or_false Bool.false_or Bool.and_false Bool.false_and Bool.false_eq_true beq_self_eq_true and_self and_true true_and if_true if_false Nat.zero_add Nat.add_zero Nat.le_refl Int.toNat_natCast decide_true decide_false beq_t beq_f List.length_map List.getElem?_map I S B opsC toksC OpT.v OpT.cs OpT.zero Tok.v Tok.cs Pre.v Pre.cs_eq k_mk name_mk n_mk l_mk pos_mk Pre.app applyL natCast0 natCast1 natCast2

/-- A tree's cells, its row without room. -/
def preN (p : Pre) : List V := [I p.k, S p.name, I p.n, .csl (p.l.map Pre.cs), I p.pos]
def applyAt (o : OpT) (pos : Int) (a b : Pre) : Nat → Pre
  | 0 => .mk 0 o.name 0 [] pos
  | 1 => Pre.app (.mk 0 o.name 0 [] pos) a pos
  | _ => applyL o pos a b
theorem applyAt_0 (o : OpT) (pos : Int) (a b : Pre) : applyAt o pos a b 0 = .mk 0 o.name 0 [] pos := rfl
theorem applyAt_1 (o : OpT) (pos : Int) (a b : Pre) : applyAt o pos a b 1 = Pre.app (.mk 0 o.name 0 [] pos) a pos := rfl
theorem applyAt_2 (o : OpT) (pos : Int) (a b : Pre) : applyAt o pos a b 2 = applyL o pos a b := rfl
theorem read_apply (w0 : World) (o : OpT) (pos : Int) (a b : Pre) (σ : H) : DC Tryz.prog w0 84 [o.v, I pos, a.v, b.v] σ (Same (applyL o pos a b).v σ) := by
  refine go84 rfl (fun hok hsz => ?_)
  ((first | refine W.advO 5000 _ _ ?_ | skip); simp only [go_sem, ↓reduceIte, Nat.reduceEqDiff, Nat.reduceAdd, Nat.reduceSub, Nat.reduceMul, Nat.reduceLeDiff, Nat.reduceBEq, reduceCtorEq, Int.reduceLT, Int.reduceLE, Int.reduceToNat, Int.reduceAdd, Int.reduceSub, Int.reduceBEq, Int.reduceBNe, c84])
  refine W.loopP (fun i => i ≤ 2)
    (fun i => ⟨((((((base.put (some 1) (I pos)).put (some 8) (.ptr (σ.length + 3) 0)).put (some 9) (.ptr (σ.length + 4) 0)).put (some 18) (.csl [a.cs, b.cs])).put (some 19) (I 2)).put (some 20) (I (i : Nat))), σ ++ [.cells o.v.cellsV, .cells a.v.cellsV, .cells b.v.cellsV, .cells [I 0, S [], I 0, .csl [], I 0], .cells (preN (applyAt o pos a b i))]⟩) (fun i => 2 - i) 0 (by omega) ?_ (fun i hi => ?_)
  · simp only [go_sem, ↓reduceIte, Nat.reduceEqDiff, Nat.reduceAdd, Nat.reduceSub, Nat.reduceMul, Nat.reduceLeDiff, Nat.reduceBEq, reduceCtorEq, Int.reduceLT, Int.reduceLE, Int.reduceToNat, Int.reduceAdd, Int.reduceSub, Int.reduceBEq, Int.reduceBNe, preN, applyAt_0]
    (refine Lew.env ?_; (repeat' (first | exact LeE.base _ | (refine LeE.put ?_ (by first | exact V.wk.rfl _ | exact V.wk.osl _ _ | exact V.wk.csl _)))))
  · have h3 : i = 0 ∨ i = 1 ∨ i = 2 := by omega
    rcases h3 with rfl | rfl | rfl
    · ((first | refine W.advO 5000 _ _ ?_ | skip); simp only [go_sem, ↓reduceIte, Nat.reduceEqDiff, Nat.reduceAdd, Nat.reduceSub, Nat.reduceMul, Nat.reduceLeDiff, Nat.reduceBEq, reduceCtorEq, Int.reduceLT, Int.reduceLE, Int.reduceToNat, Int.reduceAdd, Int.reduceSub, Int.reduceBEq, Int.reduceBNe, preN, applyAt_0])
      refine W.yes (by rfl) ?_
      ((first | refine W.advO 5000 _ _ ?_ | skip); simp only [go_sem, ↓reduceIte, Nat.reduceEqDiff, Nat.reduceAdd, Nat.reduceSub, Nat.reduceMul, Nat.reduceLeDiff, Nat.reduceBEq, reduceCtorEq, Int.reduceLT, Int.reduceLE, Int.reduceToNat, Int.reduceAdd, Int.reduceSub, Int.reduceBEq, Int.reduceBNe, show IntKind.i64.wrap 1 = 1 from rfl])
      refine .inv ⟨1, by omega, by omega, ?_⟩
      simp only [go_sem, ↓reduceIte, Nat.reduceEqDiff, Nat.reduceAdd, Nat.reduceSub, Nat.reduceMul, Nat.reduceLeDiff, Nat.reduceBEq, reduceCtorEq, Int.reduceLT, Int.reduceLE, Int.reduceToNat, Int.reduceAdd, Int.reduceSub, Int.reduceBEq, Int.reduceBNe, preN, applyAt_1]
      (refine Lew.cutL (hok) ?_ (by simp) (by simp) ?_ ?_ ?_; (repeat' (first | exact LeE.base _ | (refine LeE.put ?_ (by first | exact V.wk.rfl _ | exact V.wk.osl _ _ | exact V.wk.csl _)))); ((try simp only [List.length_cons, List.length_nil, List.length_set, List.length_append, Nat.reduceAdd, List.take_succ_cons, List.take_zero, okB, wkB, I, S, B, opsC, toksC, Pre.v, Tok.v, OpT.v, low_c, low_void, low_any, low_csl, low_nilf, low_ptr, low_osl, low_agg, low_tup, low_fn, List.forall_mem_cons, List.not_mem_nil, false_implies, implies_true, and_self, and_true, true_and]) <;> omega); (simp only [List.length_cons, List.length_nil, Nat.reduceAdd, List.take_succ_cons, List.take_zero, wkB, and_true]; (repeat' (refine And.intro ?_ ?_)) <;> (first | exact Blk.wk.rfl _ | (refine Blk.wk_cells ?_ rfl; (repeat' (first | exact V.wk.rfl _ | exact V.wk.csl _ | exact V.wk.osl _ _ | exact wk_agg_nil | exact wk_tup_nil | refine wk_agg_cons ?_ ?_ | refine wk_tup_cons ?_ ?_))))); (repeat' (first | exact LowE.base _ | (refine LowE.put ?_ (by first | exact .c _ | ((try simp only [List.length_cons, List.length_nil, List.length_set, List.length_append, Nat.reduceAdd, List.take_succ_cons, List.take_zero, okB, wkB, I, S, B, opsC, toksC, Pre.v, Tok.v, OpT.v, low_c, low_void, low_any, low_csl, low_nilf, low_ptr, low_osl, low_agg, low_tup, low_fn, List.forall_mem_cons, List.not_mem_nil, false_implies, implies_true, and_self, and_true, true_and]) <;> omega))))))
    · ((first | refine W.advO 5000 _ _ ?_ | skip); simp only [go_sem, ↓reduceIte, Nat.reduceEqDiff, Nat.reduceAdd, Nat.reduceSub, Nat.reduceMul, Nat.reduceLeDiff, Nat.reduceBEq, reduceCtorEq, Int.reduceLT, Int.reduceLE, Int.reduceToNat, Int.reduceAdd, Int.reduceSub, Int.reduceBEq, Int.reduceBNe, preN, applyAt_1])
      refine W.yes (by rfl) ?_
      ((first | refine W.advO 5000 _ _ ?_ | skip); simp only [go_sem, ↓reduceIte, Nat.reduceEqDiff, Nat.reduceAdd, Nat.reduceSub, Nat.reduceMul, Nat.reduceLeDiff, Nat.reduceBEq, reduceCtorEq, Int.reduceLT, Int.reduceLE, Int.reduceToNat, Int.reduceAdd, Int.reduceSub, Int.reduceBEq, Int.reduceBNe, show IntKind.i64.wrap 2 = 2 from rfl])
      refine .inv ⟨2, by omega, by omega, ?_⟩
      simp only [go_sem, ↓reduceIte, Nat.reduceEqDiff, Nat.reduceAdd, Nat.reduceSub, Nat.reduceMul, Nat.reduceLeDiff, Nat.reduceBEq, reduceCtorEq, Int.reduceLT, Int.reduceLE, Int.reduceToNat, Int.reduceAdd, Int.reduceSub, Int.reduceBEq, Int.reduceBNe, preN, applyAt_2]
      (refine Lew.cutL (hok) ?_ (by simp) (by simp) ?_ ?_ ?_; (repeat' (first | exact LeE.base _ | (refine LeE.put ?_ (by first | exact V.wk.rfl _ | exact V.wk.osl _ _ | exact V.wk.csl _)))); ((try simp only [List.length_cons, List.length_nil, List.length_set, List.length_append, Nat.reduceAdd, List.take_succ_cons, List.take_zero, okB, wkB, I, S, B, opsC, toksC, Pre.v, Tok.v, OpT.v, low_c, low_void, low_any, low_csl, low_nilf, low_ptr, low_osl, low_agg, low_tup, low_fn, List.forall_mem_cons, List.not_mem_nil, false_implies, implies_true, and_self, and_true, true_and]) <;> omega); (simp only [List.length_cons, List.length_nil, Nat.reduceAdd, List.take_succ_cons, List.take_zero, wkB, and_true]; (repeat' (refine And.intro ?_ ?_)) <;> (first | exact Blk.wk.rfl _ | (refine Blk.wk_cells ?_ rfl; (repeat' (first | exact V.wk.rfl _ | exact V.wk.csl _ | exact V.wk.osl _ _ | exact wk_agg_nil | exact wk_tup_nil | refine wk_agg_cons ?_ ?_ | refine wk_tup_cons ?_ ?_))))); (repeat' (first | exact LowE.base _ | (refine LowE.put ?_ (by first | exact .c _ | ((try simp only [List.length_cons, List.length_nil, List.length_set, List.length_append, Nat.reduceAdd, List.take_succ_cons, List.take_zero, okB, wkB, I, S, B, opsC, toksC, Pre.v, Tok.v, OpT.v, low_c, low_void, low_any, low_csl, low_nilf, low_ptr, low_osl, low_agg, low_tup, low_fn, List.forall_mem_cons, List.not_mem_nil, false_implies, implies_true, and_self, and_true, true_and]) <;> omega))))))
    · ((first | refine W.advO 5000 _ _ ?_ | skip); simp only [go_sem, ↓reduceIte, Nat.reduceEqDiff, Nat.reduceAdd, Nat.reduceSub, Nat.reduceMul, Nat.reduceLeDiff, Nat.reduceBEq, reduceCtorEq, Int.reduceLT, Int.reduceLE, Int.reduceToNat, Int.reduceAdd, Int.reduceSub, Int.reduceBEq, Int.reduceBNe, preN, applyAt_2])
      refine W.no (by rfl) ?_
      ((first | refine W.advO 5000 _ _ ?_ | skip); simp only [go_sem, ↓reduceIte, Nat.reduceEqDiff, Nat.reduceAdd, Nat.reduceSub, Nat.reduceMul, Nat.reduceLeDiff, Nat.reduceBEq, reduceCtorEq, Int.reduceLT, Int.reduceLE, Int.reduceToNat, Int.reduceAdd, Int.reduceSub, Int.reduceBEq, Int.reduceBNe])
      (refine W.ret (Fin.sameW (hok) (by (first | rfl | exact List.length_set .. | simp)) (by simp only [resEval, r84, go_sem, ↓reduceIte, Nat.reduceEqDiff, Nat.reduceAdd, Nat.reduceSub, Nat.reduceMul, Nat.reduceLeDiff, Nat.reduceBEq, reduceCtorEq, Int.reduceLT, Int.reduceLE, Int.reduceToNat, Int.reduceAdd, Int.reduceSub, Int.reduceBEq, Int.reduceBNe]; rfl) ?_ (by (first | exact .c _ | (simp only [I, S, B, opsC, toksC, Pre.v, Tok.v, OpT.v, low_c, low_void, low_any, low_csl, low_nilf, low_ptr, low_osl, low_agg, low_tup, low_fn, List.forall_mem_cons, List.not_mem_nil, false_implies, implies_true, and_self, and_true, true_and]; done))) (by (first | rfl | exact (List.append_nil _).symm))); simp only [resV]; try exact V.wk.rfl _)
      (repeat' (first | exact V.wk.rfl _ | exact V.wk.csl _ | exact V.wk.osl _ _ | exact wk_agg_nil | exact wk_tup_nil | refine wk_agg_cons ?_ ?_ | refine wk_tup_cons ?_ ?_))
end Go.Proofs.YtpgkhkojjklakaaGreatDoor
namespace Go.Proofs.YtpgkhkojjklakaaGreatDoor
open Go.RowKit Go.Lamb
attribute [local go_sem] advO_skip advO_reg advO_seq advO_block advO_exit advO_endb advO_opsNil advO_ops advG_yes advG_no advG_none advS_some advS_none advO_cond advO_loop advO_dreg advO_ret advO_bad advO_inv advO_nil advO_zero wantedV Lamb.step ev_t ev_k put_some put_none argEnv popTo cellsAt V.cellsV V.rows V.toC toCs fillV rowsV boundV boundL binV binInt binStr eqC eqL V.isNil leaves V.leaf Ins.quiet Ins.pure List.getD_cons_zero List.getD_cons_succ List.getD_nil List.all_cons List.all_nil List.length_cons List.length_nil List.take_succ_cons List.take_zero List.drop_succ_cons List.drop_zero List.cons_append List.nil_append List.append_nil List.append_assoc List.map_cons List.map_nil List.getElem?_cons_zero List.getElem?_cons_succ List.length_append List.length_set hget0 hget hset0 hset hsets hgs0 hgs hss0 hss List.set_cons_zero List.set_cons_succ List.forall_mem_cons List.not_mem_nil false_implies implies_true Option.map_some Bool.and_true Bool.true_and Bool.not_not Bool.not_true Bool.not_false Bool.and_self Bool.or_true Bool.true_or Bool.or_false Bool.false_or Bool.and_false Bool.false_and Bool.false_eq_true beq_self_eq_true and_self and_true true_and if_true if_false Nat.zero_add Nat.add_zero Nat.le_refl Int.toNat_natCast decide_true decide_false beq_t beq_f List.length_map List.getElem?_map I S B opsC toksC OpT.v OpT.cs OpT.zero Tok.v Tok.cs Pre.v Pre.cs_eq k_mk name_mk n_mk l_mk pos_mk Pre.app applyL natCast0 natCast1 natCast2

def wrongV (e p : Int) : V := .agg [I e, I p]
def byC (m : Made) : C := match m.by_ with
  | none => .nilp
  | some (o, _) => .ref o.cs 0
def madeV (m : Made) (k : Tok) : V := .agg [I m.p.k, S m.p.name, I m.p.n, .c (.sl (m.p.l.map Pre.cs)), I m.p.pos, .c (byC m), I k.kind, S k.text, I k.n, I k.pos]
def fitsK (m : Made) (k : Tok) : Prop := ∀ o p, m.by_ = some (o, p) → k.pos = p
def RAtom (l : List OpT) (t : List Tok) (σ : H) (b : Nat) (r : Except Bad (Pre × Nat)) : V → H → Prop := fun d σ' => match r with
  | .ok (p, j) => d = .tup [p.v, wrongV 0 0] ∧ σ' = σ.set b (rdr l t j)
  | .error x => (x.e == 0) = false ∧ ∃ (q : Pre) (j : Nat), d = .tup [q.v, wrongV x.e x.pos] ∧ σ' = σ.set b (rdr l t j)
def RExpr (l : List OpT) (t : List Tok) (σ : H) (b : Nat) (r : Except Bad (Made × Nat)) : V → H → Prop := fun d σ' => match r with
  | .ok (m, j) => ∃ k, fitsK m k ∧ d = .tup [madeV m k, wrongV 0 0] ∧ σ' = σ.set b (rdr l t j)
  | .error x => (x.e == 0) = false ∧ ∃ m k j, d = .tup [madeV m k, wrongV x.e x.pos] ∧ σ' = σ.set b (rdr l t j)
def ExprOK (w0 : World) (f : Nat) : Prop := ∀ (l : List OpT) (t : List Tok) (least : Int) (depth i : Nat) (r : Except Bad (Made × Nat)) (σ : H) (b : Nat), exprF f l t least depth i = some r → σ[b]? = some (rdr l t i) → i ≤ t.length → t.length ≤ 1000000 → depth ≤ 200 →
  DC Tryz.prog w0 36 [.ptr b 0, I least, I depth] σ (RExpr l t σ b r)
def AtomOK (w0 : World) (f : Nat) : Prop := ∀ (l : List OpT) (t : List Tok) (depth i : Nat) (r : Except Bad (Pre × Nat)) (σ : H) (b : Nat), atomF f l t depth i = some r → σ[b]? = some (rdr l t i) → i ≤ t.length → t.length ≤ 1000000 → depth ≤ 200 →
  DC Tryz.prog w0 120 [.ptr b 0, I depth] σ (RAtom l t σ b r)
theorem rdr_ok {σ : H} (h : H.ok σ) (b : Nat) (l : List OpT) (t : List Tok) (j : Nat) : H.ok (σ.set b (rdr l t j)) := H.ok_set h fun x hx => by
  simp only [List.mem_cons, List.not_mem_nil, or_false] at hx
  rcases hx with rfl | rfl | rfl <;> exact .c _
def innerF (f : Nat) (l : List OpT) (t : List Tok) (least : Int) (depth i : Nat) (pos : Int) : Option (Except Bad (Made × Nat)) := if 200 ≤ depth then some (.error ⟨31, pos⟩) else exprF f l t least (depth + 1) i
def Tok.zero : Tok := ⟨0, [], 0, 0⟩
theorem read_inner {w0 : World} {f : Nat} (hE : ExprOK w0 f) (l : List OpT) (t : List Tok) (least : Int) (depth i : Nat) (k : Tok) (r : Except Bad (Made × Nat)) (σ : H) (b : Nat) (h : innerF f l t least depth i k.pos = some r) (hb : σ[b]? = some (rdr l t i)) (hi : i ≤ t.length) (ht : t.length ≤ 1000000) (hd : depth ≤ 200) :
    DC Tryz.prog w0 82 [.ptr b 0, I least, I depth, k.v] σ (RExpr l t σ b r) := by
  have hlt := (List.getElem?_eq_some_iff.1 hb).1
  refine go82 rfl (fun hok hsz => ?_)
  rw [innerF] at h
  split at h
  · rename_i hc
    injection h with h
    subst h
    have h1 : (depth : Int) ≥ 200 := by omega
    ((first | refine W.advO 5000 _ _ ?_ | skip); simp only [go_sem, ↓reduceIte, Nat.reduceEqDiff, Nat.reduceAdd, Nat.reduceSub, Nat.reduceMul, Nat.reduceLeDiff, Nat.reduceBEq, reduceCtorEq, Int.reduceLT, Int.reduceLE, Int.reduceToNat, Int.reduceAdd, Int.reduceSub, Int.reduceBEq, Int.reduceBNe, c82, h1])
    refine W.yes rfl ?_
    ((first | refine W.advO 5000 _ _ ?_ | skip); simp only [go_sem, ↓reduceIte, Nat.reduceEqDiff, Nat.reduceAdd, Nat.reduceSub, Nat.reduceMul, Nat.reduceLeDiff, Nat.reduceBEq, reduceCtorEq, Int.reduceLT, Int.reduceLE, Int.reduceToNat, Int.reduceAdd, Int.reduceSub, Int.reduceBEq, Int.reduceBNe])
    (apply W.dregE (List.cons_ne_nil _ _); case hc => ((apply CanonE.advPO; simp only [advPO_nil, advPO_loud, advPO_quiet, pL_yes, pL_no, pLS_some, pLS_none, pQ_yes, pQ_no, pQS_some, pQS_loud, eq_self, Nat.sub_zero, go_sem, ↓reduceIte, Nat.reduceEqDiff, Nat.reduceAdd, Nat.reduceSub, Nat.reduceMul, Nat.reduceLeDiff, Nat.reduceBEq, reduceCtorEq, Int.reduceLT, Int.reduceLE, Int.reduceToNat, Int.reduceAdd, Int.reduceSub, Int.reduceBEq, Int.reduceBNe]); exact CanonE.nil))
    ((first | refine W.advO 5000 _ _ ?_ | skip); simp only [go_sem, ↓reduceIte, Nat.reduceEqDiff, Nat.reduceAdd, Nat.reduceSub, Nat.reduceMul, Nat.reduceLeDiff, Nat.reduceBEq, reduceCtorEq, Int.reduceLT, Int.reduceLE, Int.reduceToNat, Int.reduceAdd, Int.reduceSub, Int.reduceBEq, Int.reduceBNe])
    (refine W.ret (Fin.gen (d := .tup [madeV ⟨Pre.none, none⟩ Tok.zero, wrongV 31 k.pos]) (hok) (by (first | rfl | exact List.length_set .. | simp)) (by simp only [resEval, r82, go_sem, ↓reduceIte, Nat.reduceEqDiff, Nat.reduceAdd, Nat.reduceSub, Nat.reduceMul, Nat.reduceLeDiff, Nat.reduceBEq, reduceCtorEq, Int.reduceLT, Int.reduceLE, Int.reduceToNat, Int.reduceAdd, Int.reduceSub, Int.reduceBEq, Int.reduceBNe, madeV, wrongV, byC, Pre.none, Tok.zero, List.map_nil]; rfl) (by simp only [resV, I, S, B, Pre.v, OpT.v, Tok.v, k_mk, name_mk, n_mk, l_mk, pos_mk, Pre.app, List.map_cons, List.map_nil, Pre.cs_eq, madeV, wrongV, byC, Pre.none, Tok.zero, List.map_nil]; (repeat' (first | exact V.wk.rfl _ | exact V.wk.csl _ | exact V.wk.osl _ _ | exact wk_agg_nil | exact wk_tup_nil | refine wk_agg_cons ?_ ?_ | refine wk_tup_cons ?_ ?_))) (by (first | exact .c _ | (simp only [I, S, B, opsC, toksC, Pre.v, Tok.v, OpT.v, low_c, low_void, low_any, low_csl, low_nilf, low_ptr, low_osl, low_agg, low_tup, low_fn, List.forall_mem_cons, List.not_mem_nil, false_implies, implies_true, and_self, and_true, true_and, madeV, wrongV, byC, Pre.none, Tok.zero, List.map_nil]; done))) (by (first | rfl | exact (List.append_nil _).symm)) ?_))
    exact ⟨rfl, ⟨Pre.none, none⟩, Tok.zero, i, rfl, (set_here hb).symm⟩
  · rename_i hc
    have h1 : ¬ (depth : Int) ≥ 200 := by omega
    have hw : IntKind.i64.wrap ((depth : Int) + 1) = ((depth + 1 : Nat) : Int) := wrap_next (n := 201) (by omega) (by omega)
    ((first | refine W.advO 5000 _ _ ?_ | skip); simp only [go_sem, ↓reduceIte, Nat.reduceEqDiff, Nat.reduceAdd, Nat.reduceSub, Nat.reduceMul, Nat.reduceLeDiff, Nat.reduceBEq, reduceCtorEq, Int.reduceLT, Int.reduceLE, Int.reduceToNat, Int.reduceAdd, Int.reduceSub, Int.reduceBEq, Int.reduceBNe, c82, h1])
    refine W.no rfl ?_
    ((first | refine W.advO 5000 _ _ ?_ | skip); simp only [go_sem, ↓reduceIte, Nat.reduceEqDiff, Nat.reduceAdd, Nat.reduceSub, Nat.reduceMul, Nat.reduceLeDiff, Nat.reduceBEq, reduceCtorEq, Int.reduceLT, Int.reduceLE, Int.reduceToNat, Int.reduceAdd, Int.reduceSub, Int.reduceBEq, Int.reduceBNe, hw])
    (refine W.call (hE l t least (depth + 1) i r _ b h (hG hb _) hi ht (by omega)) rfl rfl (by first | rfl | simp) ?_)
    intro v σ1 hR
    cases r with
    | ok x =>
      obtain ⟨k', hk, rfl, rfl⟩ := hR
      ((first | refine W.advO 5000 _ _ ?_ | skip); simp only [go_sem, ↓reduceIte, Nat.reduceEqDiff, Nat.reduceAdd, Nat.reduceSub, Nat.reduceMul, Nat.reduceLeDiff, Nat.reduceBEq, reduceCtorEq, Int.reduceLT, Int.reduceLE, Int.reduceToNat, Int.reduceAdd, Int.reduceSub, Int.reduceBEq, Int.reduceBNe, hS hb, madeV, wrongV])
      (refine W.ret (Fin.gen (d := .tup [madeV x.1 k', wrongV 0 0]) (rdr_ok hok b l t x.2) (by (first | rfl | exact List.length_set .. | simp)) (by simp only [resEval, r82, go_sem, ↓reduceIte, Nat.reduceEqDiff, Nat.reduceAdd, Nat.reduceSub, Nat.reduceMul, Nat.reduceLeDiff, Nat.reduceBEq, reduceCtorEq, Int.reduceLT, Int.reduceLE, Int.reduceToNat, Int.reduceAdd, Int.reduceSub, Int.reduceBEq, Int.reduceBNe, madeV, wrongV]; rfl) (by simp only [resV, I, S, B, Pre.v, OpT.v, Tok.v, k_mk, name_mk, n_mk, l_mk, pos_mk, Pre.app, List.map_cons, List.map_nil, Pre.cs_eq, madeV, wrongV]; (repeat' (first | exact V.wk.rfl _ | exact V.wk.csl _ | exact V.wk.osl _ _ | exact wk_agg_nil | exact wk_tup_nil | refine wk_agg_cons ?_ ?_ | refine wk_tup_cons ?_ ?_))) (by (first | exact .c _ | (simp only [I, S, B, opsC, toksC, Pre.v, Tok.v, OpT.v, low_c, low_void, low_any, low_csl, low_nilf, low_ptr, low_osl, low_agg, low_tup, low_fn, List.forall_mem_cons, List.not_mem_nil, false_implies, implies_true, and_self, and_true, true_and, madeV, wrongV]; done))) (by (first | rfl | exact (List.append_nil _).symm)) ?_))
      exact ⟨k', hk, rfl, rfl⟩
    | error x =>
      obtain ⟨he, m, k', j, rfl, rfl⟩ := hR
      ((first | refine W.advO 5000 _ _ ?_ | skip); simp only [go_sem, ↓reduceIte, Nat.reduceEqDiff, Nat.reduceAdd, Nat.reduceSub, Nat.reduceMul, Nat.reduceLeDiff, Nat.reduceBEq, reduceCtorEq, Int.reduceLT, Int.reduceLE, Int.reduceToNat, Int.reduceAdd, Int.reduceSub, Int.reduceBEq, Int.reduceBNe, hS hb, madeV, wrongV])
      (refine W.ret (Fin.gen (d := .tup [madeV m k', wrongV x.e x.pos]) (rdr_ok hok b l t j) (by (first | rfl | exact List.length_set .. | simp)) (by simp only [resEval, r82, go_sem, ↓reduceIte, Nat.reduceEqDiff, Nat.reduceAdd, Nat.reduceSub, Nat.reduceMul, Nat.reduceLeDiff, Nat.reduceBEq, reduceCtorEq, Int.reduceLT, Int.reduceLE, Int.reduceToNat, Int.reduceAdd, Int.reduceSub, Int.reduceBEq, Int.reduceBNe, madeV, wrongV]; rfl) (by simp only [resV, I, S, B, Pre.v, OpT.v, Tok.v, k_mk, name_mk, n_mk, l_mk, pos_mk, Pre.app, List.map_cons, List.map_nil, Pre.cs_eq, madeV, wrongV]; (repeat' (first | exact V.wk.rfl _ | exact V.wk.csl _ | exact V.wk.osl _ _ | exact wk_agg_nil | exact wk_tup_nil | refine wk_agg_cons ?_ ?_ | refine wk_tup_cons ?_ ?_))) (by (first | exact .c _ | (simp only [I, S, B, opsC, toksC, Pre.v, Tok.v, OpT.v, low_c, low_void, low_any, low_csl, low_nilf, low_ptr, low_osl, low_agg, low_tup, low_fn, List.forall_mem_cons, List.not_mem_nil, false_implies, implies_true, and_self, and_true, true_and, madeV, wrongV]; done))) (by (first | rfl | exact (List.append_nil _).symm)) ?_))
      exact ⟨he, m, k', j, rfl, rfl⟩
end Go.Proofs.YtpgkhkojjklakaaGreatDoor
namespace Go.Proofs.YtpgkhkojjklakaaGreatDoor
open Go.RowKit Go.Lamb
attribute [local go_sem] advO_skip advO_reg advO_seq advO_block advO_exit advO_endb advO_opsNil advO_ops advG_yes advG_no advG_none advS_some advS_none advO_cond advO_loop advO_dreg advO_ret advO_bad advO_inv advO_nil advO_zero wantedV Lamb.step ev_t ev_k put_some put_none argEnv popTo cellsAt V.cellsV V.rows V.toC toCs fillV rowsV boundV boundL binV binInt binStr eqC eqL V.isNil leaves V.leaf Ins.quiet Ins.pure List.getD_cons_zero List.getD_cons_succ List.getD_nil List.all_cons List.all_nil List.length_cons List.length_nil List.take_succ_cons List.take_zero List.drop_succ_cons List.drop_zero List.cons_append List.nil_append List.append_nil List.append_assoc List.map_cons List.map_nil List.getElem?_cons_zero List.getElem?_cons_succ List.length_append List.length_set hget0 hget hset0 hset hsets hgs0 hgs hss0 hss List.set_cons_zero List.set_cons_succ List.forall_mem_cons List.not_mem_nil false_implies implies_true Option.map_some Bool.and_true Bool.true_and Bool.not_not Bool.not_true Bool.not_false Bool.and_self Bool.or_true Bool.true_or Bool.or_false Bool.false_or Bool.and_false Bool.false_and Bool.false_eq_true beq_self_eq_true and_self and_true true_and if_true if_false Nat.zero_add Nat.add_zero Nat.le_refl Int.toNat_natCast decide_true decide_false beq_t beq_f List.length_map List.getElem?_map I S B opsC toksC OpT.v OpT.cs OpT.zero Tok.v Tok.cs Pre.v Pre.cs_eq k_mk name_mk n_mk l_mk pos_mk Pre.app applyL natCast0 natCast1 natCast2

def bracketsF (f : Nat) (l : List OpT) (t : List Tok) (depth i : Nat) : Option (Except Bad (Pre × Nat)) :=
  if (opOf l (tokL t (i + 1))).isSome ∧ (tokL t (i + 2)).kind = 6 then some (.ok (.mk 0 (tokL t (i + 1)).text 0 [] (tokL t (i + 1)).pos, i + 3))
  else match innerF f l t 0 depth (i + 1) (tokL t i).pos with
    | none => none
    | some (.error b) => some (.error b)
    | some (.ok (m, j)) => if (tokL t j).kind = 6 then some (.ok (m.p, j + 1)) else some (.error ⟨30, (tokL t j).pos⟩)
theorem innerF_bound {f : Nat} {l : List OpT} {t : List Tok} {least : Int} {depth i : Nat} {pos : Int} {m : Made} {j : Nat} (h : innerF f l t least depth i pos = some (.ok (m, j))) : i < j ∧ j ≤ t.length := by
  rw [innerF] at h
  split at h
  · cases h
  · exact (fuel_bounds f).2.2.1 _ _ _ _ _ _ _ h
theorem read_brackets {w0 : World} {f : Nat} (hE : ExprOK w0 f) (l : List OpT) (t : List Tok) (depth i : Nat) (r : Except Bad (Pre × Nat)) (σ : H) (b : Nat) (h : bracketsF f l t depth i = some r) (hb : σ[b]? = some (rdr l t i)) (hi : i < t.length) (ht : t.length ≤ 1000000) (hd : depth ≤ 200) :
    DC Tryz.prog w0 140 [.ptr b 0, I depth] σ (RAtom l t σ b r) := by
  have hlt := (List.getElem?_eq_some_iff.1 hb).1
  refine go140 rfl (fun hok hsz => ?_)
  have hbe : σ[b]? = some (.cells [.c (opsC l), .c (toksC t), I i]) := hb
  ((first | refine W.advO 5000 _ _ ?_ | skip); simp only [go_sem, ↓reduceIte, Nat.reduceEqDiff, Nat.reduceAdd, Nat.reduceSub, Nat.reduceMul, Nat.reduceLeDiff, Nat.reduceBEq, reduceCtorEq, Int.reduceLT, Int.reduceLE, Int.reduceToNat, Int.reduceAdd, Int.reduceSub, Int.reduceBEq, Int.reduceBNe, c140])
  (refine W.call1 (read_tok w0 l t i 0 _ b (hG hb _) (by omega) ht) rfl rfl (by first | rfl | simp) ?_; refine W.advO 5000 _ _ ?_; simp only [go_sem, ↓reduceIte, Nat.reduceEqDiff, Nat.reduceAdd, Nat.reduceSub, Nat.reduceMul, Nat.reduceLeDiff, Nat.reduceBEq, reduceCtorEq, Int.reduceLT, Int.reduceLE, Int.reduceToNat, Int.reduceAdd, Int.reduceSub, Int.reduceBEq, Int.reduceBNe])
  (refine W.call1 (read_tok w0 l t i 1 _ b (hG hb _) (by omega) ht) rfl rfl (by first | rfl | simp) ?_; refine W.advO 5000 _ _ ?_; simp only [go_sem, ↓reduceIte, Nat.reduceEqDiff, Nat.reduceAdd, Nat.reduceSub, Nat.reduceMul, Nat.reduceLeDiff, Nat.reduceBEq, reduceCtorEq, Int.reduceLT, Int.reduceLE, Int.reduceToNat, Int.reduceAdd, Int.reduceSub, Int.reduceBEq, Int.reduceBNe])
  rw [bracketsF] at h
  by_cases hc : (opOf l (tokL t (i + 1))).isSome ∧ (tokL t (i + 2)).kind = 6
  · rw [if_pos hc] at h
    injection h with h
    subst h
    obtain ⟨hc1, hc2⟩ := hc
    have hw : IntKind.i64.wrap ((i : Int) + 3) = ((i + 3 : Nat) : Int) := by rw [wrap_in] <;> omega
    (refine W.call1 (read_operator w0 l t i (tokL t (i + 1)) _ b (hG hb _)) rfl rfl (by first | rfl | simp) ?_; refine W.advO 5000 _ _ ?_; simp only [go_sem, ↓reduceIte, Nat.reduceEqDiff, Nat.reduceAdd, Nat.reduceSub, Nat.reduceMul, Nat.reduceLeDiff, Nat.reduceBEq, reduceCtorEq, Int.reduceLT, Int.reduceLE, Int.reduceToNat, Int.reduceAdd, Int.reduceSub, Int.reduceBEq, Int.reduceBNe, foundV, hc1])
    (refine W.call1 (read_tok w0 l t i 2 _ b (hG hb _) (by omega) ht) rfl rfl (by first | rfl | simp) ?_; refine W.advO 5000 _ _ ?_; simp only [go_sem, ↓reduceIte, Nat.reduceEqDiff, Nat.reduceAdd, Nat.reduceSub, Nat.reduceMul, Nat.reduceLeDiff, Nat.reduceBEq, reduceCtorEq, Int.reduceLT, Int.reduceLE, Int.reduceToNat, Int.reduceAdd, Int.reduceSub, Int.reduceBEq, Int.reduceBNe, hc2])
    refine W.yes rfl ?_
    ((first | refine W.advO 5000 _ _ ?_ | skip); simp only [go_sem, ↓reduceIte, Nat.reduceEqDiff, Nat.reduceAdd, Nat.reduceSub, Nat.reduceMul, Nat.reduceLeDiff, Nat.reduceBEq, reduceCtorEq, Int.reduceLT, Int.reduceLE, Int.reduceToNat, Int.reduceAdd, Int.reduceSub, Int.reduceBEq, Int.reduceBNe, hG hbe, hS hb, hw])
    (refine W.ret (Fin.gen (d := .tup [(Pre.mk 0 (tokL t (i + 1)).text 0 [] (tokL t (i + 1)).pos).v, wrongV 0 0]) (rdr_ok hok b l t (i + 3)) (by (first | rfl | exact List.length_set .. | simp)) (by simp only [resEval, r140, go_sem, ↓reduceIte, Nat.reduceEqDiff, Nat.reduceAdd, Nat.reduceSub, Nat.reduceMul, Nat.reduceLeDiff, Nat.reduceBEq, reduceCtorEq, Int.reduceLT, Int.reduceLE, Int.reduceToNat, Int.reduceAdd, Int.reduceSub, Int.reduceBEq, Int.reduceBNe, wrongV]; rfl) (by simp only [resV, I, S, B, Pre.v, OpT.v, Tok.v, k_mk, name_mk, n_mk, l_mk, pos_mk, Pre.app, List.map_cons, List.map_nil, Pre.cs_eq, wrongV]; (repeat' (first | exact V.wk.rfl _ | exact V.wk.csl _ | exact V.wk.osl _ _ | exact wk_agg_nil | exact wk_tup_nil | refine wk_agg_cons ?_ ?_ | refine wk_tup_cons ?_ ?_))) (by (first | exact .c _ | (simp only [I, S, B, opsC, toksC, Pre.v, Tok.v, OpT.v, low_c, low_void, low_any, low_csl, low_nilf, low_ptr, low_osl, low_agg, low_tup, low_fn, List.forall_mem_cons, List.not_mem_nil, false_implies, implies_true, and_self, and_true, true_and, wrongV]; done))) (by (first | rfl | exact (List.append_nil _).symm)) ?_))
    exact ⟨rfl, rfl⟩
  · rw [if_neg hc] at h
    have hw : IntKind.i64.wrap ((i : Int) + 1) = ((i + 1 : Nat) : Int) := by rw [wrap_in] <;> omega
    have two : (opOf l (tokL t (i + 1))).isSome = false ∨ ((opOf l (tokL t (i + 1))).isSome = true ∧ ((tokL t (i + 2)).kind == 6) = false) := by
      cases ho : (opOf l (tokL t (i + 1))).isSome
      · exact .inl rfl
      · refine .inr ⟨rfl, ?_⟩
        cases h6 : ((tokL t (i + 2)).kind == 6)
        · rfl
        · exact absurd ⟨ho, by simpa using h6⟩ hc
    rcases two with ho | ⟨ho, h6⟩
    all_goals first
      | ((refine W.call1 (read_operator w0 l t i (tokL t (i + 1)) _ b (hG hb _)) rfl rfl (by first | rfl | simp) ?_; refine W.advO 5000 _ _ ?_; simp only [go_sem, ↓reduceIte, Nat.reduceEqDiff, Nat.reduceAdd, Nat.reduceSub, Nat.reduceMul, Nat.reduceLeDiff, Nat.reduceBEq, reduceCtorEq, Int.reduceLT, Int.reduceLE, Int.reduceToNat, Int.reduceAdd, Int.reduceSub, Int.reduceBEq, Int.reduceBNe, foundV, ho])
         (refine W.call1 (read_tok w0 l t i 2 _ b (hG hb _) (by omega) ht) rfl rfl (by first | rfl | simp) ?_; refine W.advO 5000 _ _ ?_; simp only [go_sem, ↓reduceIte, Nat.reduceEqDiff, Nat.reduceAdd, Nat.reduceSub, Nat.reduceMul, Nat.reduceLeDiff, Nat.reduceBEq, reduceCtorEq, Int.reduceLT, Int.reduceLE, Int.reduceToNat, Int.reduceAdd, Int.reduceSub, Int.reduceBEq, Int.reduceBNe, h6])
         refine W.no rfl ?_)
      | ((refine W.call1 (read_operator w0 l t i (tokL t (i + 1)) _ b (hG hb _)) rfl rfl (by first | rfl | simp) ?_; refine W.advO 5000 _ _ ?_; simp only [go_sem, ↓reduceIte, Nat.reduceEqDiff, Nat.reduceAdd, Nat.reduceSub, Nat.reduceMul, Nat.reduceLeDiff, Nat.reduceBEq, reduceCtorEq, Int.reduceLT, Int.reduceLE, Int.reduceToNat, Int.reduceAdd, Int.reduceSub, Int.reduceBEq, Int.reduceBNe, foundV, ho])
         refine W.no rfl ?_)
    all_goals
      ((first | refine W.advO 5000 _ _ ?_ | skip); simp only [go_sem, ↓reduceIte, Nat.reduceEqDiff, Nat.reduceAdd, Nat.reduceSub, Nat.reduceMul, Nat.reduceLeDiff, Nat.reduceBEq, reduceCtorEq, Int.reduceLT, Int.reduceLE, Int.reduceToNat, Int.reduceAdd, Int.reduceSub, Int.reduceBEq, Int.reduceBNe, hG hbe, hS hb, hw])
      cases hr : innerF f l t 0 depth (i + 1) (tokL t i).pos with
      | none => rw [hr] at h; cases h
      | some y =>
        rw [hr] at h
        (refine W.call (read_inner hE l t 0 depth (i + 1) (tokL t i) y _ b hr (hG' hb _ _) (by omega) ht hd) rfl rfl (by first | rfl | simp) ?_)
        intro v σ1 hR
        cases y with
        | error x =>
          injection h with h
          subst h
          obtain ⟨he, m, k', j, rfl, rfl⟩ := hR
          ((first | refine W.advO 5000 _ _ ?_ | skip); simp only [go_sem, ↓reduceIte, Nat.reduceEqDiff, Nat.reduceAdd, Nat.reduceSub, Nat.reduceMul, Nat.reduceLeDiff, Nat.reduceBEq, reduceCtorEq, Int.reduceLT, Int.reduceLE, Int.reduceToNat, Int.reduceAdd, Int.reduceSub, Int.reduceBEq, Int.reduceBNe, hS' hb, madeV, wrongV])
          (refine W.call1 (wrong_ok w0 x.e x.pos _) rfl rfl (by first | rfl | simp) ?_; refine W.advO 5000 _ _ ?_; simp only [go_sem, ↓reduceIte, Nat.reduceEqDiff, Nat.reduceAdd, Nat.reduceSub, Nat.reduceMul, Nat.reduceLeDiff, Nat.reduceBEq, reduceCtorEq, Int.reduceLT, Int.reduceLE, Int.reduceToNat, Int.reduceAdd, Int.reduceSub, Int.reduceBEq, Int.reduceBNe, he])
          refine W.yes rfl ?_
          ((first | refine W.advO 5000 _ _ ?_ | skip); simp only [go_sem, ↓reduceIte, Nat.reduceEqDiff, Nat.reduceAdd, Nat.reduceSub, Nat.reduceMul, Nat.reduceLeDiff, Nat.reduceBEq, reduceCtorEq, Int.reduceLT, Int.reduceLE, Int.reduceToNat, Int.reduceAdd, Int.reduceSub, Int.reduceBEq, Int.reduceBNe])
          (apply W.dregE (List.cons_ne_nil _ _); case hc => ((apply CanonE.advPO; simp only [advPO_nil, advPO_loud, advPO_quiet, pL_yes, pL_no, pLS_some, pLS_none, pQ_yes, pQ_no, pQS_some, pQS_loud, eq_self, Nat.sub_zero, go_sem, ↓reduceIte, Nat.reduceEqDiff, Nat.reduceAdd, Nat.reduceSub, Nat.reduceMul, Nat.reduceLeDiff, Nat.reduceBEq, reduceCtorEq, Int.reduceLT, Int.reduceLE, Int.reduceToNat, Int.reduceAdd, Int.reduceSub, Int.reduceBEq, Int.reduceBNe]); exact CanonE.nil))
          ((first | refine W.advO 5000 _ _ ?_ | skip); simp only [go_sem, ↓reduceIte, Nat.reduceEqDiff, Nat.reduceAdd, Nat.reduceSub, Nat.reduceMul, Nat.reduceLeDiff, Nat.reduceBEq, reduceCtorEq, Int.reduceLT, Int.reduceLE, Int.reduceToNat, Int.reduceAdd, Int.reduceSub, Int.reduceBEq, Int.reduceBNe])
          (refine W.ret (Fin.gen (d := .tup [Pre.none.v, wrongV x.e x.pos]) (rdr_ok hok b l t j) (by (first | rfl | exact List.length_set .. | simp)) (by simp only [resEval, r140, go_sem, ↓reduceIte, Nat.reduceEqDiff, Nat.reduceAdd, Nat.reduceSub, Nat.reduceMul, Nat.reduceLeDiff, Nat.reduceBEq, reduceCtorEq, Int.reduceLT, Int.reduceLE, Int.reduceToNat, Int.reduceAdd, Int.reduceSub, Int.reduceBEq, Int.reduceBNe, wrongV, Pre.none]; rfl) (by simp only [resV, I, S, B, Pre.v, OpT.v, Tok.v, k_mk, name_mk, n_mk, l_mk, pos_mk, Pre.app, List.map_cons, List.map_nil, Pre.cs_eq, wrongV, Pre.none]; (repeat' (first | exact V.wk.rfl _ | exact V.wk.csl _ | exact V.wk.osl _ _ | exact wk_agg_nil | exact wk_tup_nil | refine wk_agg_cons ?_ ?_ | refine wk_tup_cons ?_ ?_))) (by (first | exact .c _ | (simp only [I, S, B, opsC, toksC, Pre.v, Tok.v, OpT.v, low_c, low_void, low_any, low_csl, low_nilf, low_ptr, low_osl, low_agg, low_tup, low_fn, List.forall_mem_cons, List.not_mem_nil, false_implies, implies_true, and_self, and_true, true_and, wrongV, Pre.none]; done))) (by (first | rfl | exact (List.append_nil _).symm)) ?_))
          exact ⟨he, Pre.none, j, rfl, rfl⟩
        | ok y =>
          obtain ⟨m, j⟩ := y
          obtain ⟨k', hk, rfl, rfl⟩ := hR
          have hj := innerF_bound hr
          ((first | refine W.advO 5000 _ _ ?_ | skip); simp only [go_sem, ↓reduceIte, Nat.reduceEqDiff, Nat.reduceAdd, Nat.reduceSub, Nat.reduceMul, Nat.reduceLeDiff, Nat.reduceBEq, reduceCtorEq, Int.reduceLT, Int.reduceLE, Int.reduceToNat, Int.reduceAdd, Int.reduceSub, Int.reduceBEq, Int.reduceBNe, hS' hb, madeV, wrongV])
          (refine W.call1 (wrong_ok w0 0 0 _) rfl rfl (by first | rfl | simp) ?_; refine W.advO 5000 _ _ ?_; simp only [go_sem, ↓reduceIte, Nat.reduceEqDiff, Nat.reduceAdd, Nat.reduceSub, Nat.reduceMul, Nat.reduceLeDiff, Nat.reduceBEq, reduceCtorEq, Int.reduceLT, Int.reduceLE, Int.reduceToNat, Int.reduceAdd, Int.reduceSub, Int.reduceBEq, Int.reduceBNe])
          refine W.no rfl ?_
          ((first | refine W.advO 5000 _ _ ?_ | skip); simp only [go_sem, ↓reduceIte, Nat.reduceEqDiff, Nat.reduceAdd, Nat.reduceSub, Nat.reduceMul, Nat.reduceLeDiff, Nat.reduceBEq, reduceCtorEq, Int.reduceLT, Int.reduceLE, Int.reduceToNat, Int.reduceAdd, Int.reduceSub, Int.reduceBEq, Int.reduceBNe])
          (refine W.call1 (read_tok w0 l t j 0 _ b (hG' hb _ _) (by omega) ht) rfl rfl (by first | rfl | simp) ?_; refine W.advO 5000 _ _ ?_; simp only [go_sem, ↓reduceIte, Nat.reduceEqDiff, Nat.reduceAdd, Nat.reduceSub, Nat.reduceMul, Nat.reduceLeDiff, Nat.reduceBEq, reduceCtorEq, Int.reduceLT, Int.reduceLE, Int.reduceToNat, Int.reduceAdd, Int.reduceSub, Int.reduceBEq, Int.reduceBNe])
          simp only at h
          cases h6 : ((tokL t j).kind == 6)
          · have h6' : ¬ (tokL t j).kind = 6 := by simpa using h6
            have h6n : ((tokL t j).kind != 6) = true := by simpa using h6
            rw [if_neg h6'] at h
            injection h with h
            subst h
            ((first | refine W.advO 5000 _ _ ?_ | skip); simp only [go_sem, ↓reduceIte, Nat.reduceEqDiff, Nat.reduceAdd, Nat.reduceSub, Nat.reduceMul, Nat.reduceLeDiff, Nat.reduceBEq, reduceCtorEq, Int.reduceLT, Int.reduceLE, Int.reduceToNat, Int.reduceAdd, Int.reduceSub, Int.reduceBEq, Int.reduceBNe, h6n])
            refine W.yes rfl ?_
            ((first | refine W.advO 5000 _ _ ?_ | skip); simp only [go_sem, ↓reduceIte, Nat.reduceEqDiff, Nat.reduceAdd, Nat.reduceSub, Nat.reduceMul, Nat.reduceLeDiff, Nat.reduceBEq, reduceCtorEq, Int.reduceLT, Int.reduceLE, Int.reduceToNat, Int.reduceAdd, Int.reduceSub, Int.reduceBEq, Int.reduceBNe])
            (apply W.dregE (List.cons_ne_nil _ _); case hc => ((apply CanonE.advPO; simp only [advPO_nil, advPO_loud, advPO_quiet, pL_yes, pL_no, pLS_some, pLS_none, pQ_yes, pQ_no, pQS_some, pQS_loud, eq_self, Nat.sub_zero, go_sem, ↓reduceIte, Nat.reduceEqDiff, Nat.reduceAdd, Nat.reduceSub, Nat.reduceMul, Nat.reduceLeDiff, Nat.reduceBEq, reduceCtorEq, Int.reduceLT, Int.reduceLE, Int.reduceToNat, Int.reduceAdd, Int.reduceSub, Int.reduceBEq, Int.reduceBNe]); exact CanonE.nil))
            ((first | refine W.advO 5000 _ _ ?_ | skip); simp only [go_sem, ↓reduceIte, Nat.reduceEqDiff, Nat.reduceAdd, Nat.reduceSub, Nat.reduceMul, Nat.reduceLeDiff, Nat.reduceBEq, reduceCtorEq, Int.reduceLT, Int.reduceLE, Int.reduceToNat, Int.reduceAdd, Int.reduceSub, Int.reduceBEq, Int.reduceBNe])
            (refine W.ret (Fin.gen (d := .tup [Pre.none.v, wrongV 30 (tokL t j).pos]) (rdr_ok hok b l t j) (by (first | rfl | exact List.length_set .. | simp)) (by simp only [resEval, r140, go_sem, ↓reduceIte, Nat.reduceEqDiff, Nat.reduceAdd, Nat.reduceSub, Nat.reduceMul, Nat.reduceLeDiff, Nat.reduceBEq, reduceCtorEq, Int.reduceLT, Int.reduceLE, Int.reduceToNat, Int.reduceAdd, Int.reduceSub, Int.reduceBEq, Int.reduceBNe, wrongV, Pre.none]; rfl) (by simp only [resV, I, S, B, Pre.v, OpT.v, Tok.v, k_mk, name_mk, n_mk, l_mk, pos_mk, Pre.app, List.map_cons, List.map_nil, Pre.cs_eq, wrongV, Pre.none]; (repeat' (first | exact V.wk.rfl _ | exact V.wk.csl _ | exact V.wk.osl _ _ | exact wk_agg_nil | exact wk_tup_nil | refine wk_agg_cons ?_ ?_ | refine wk_tup_cons ?_ ?_))) (by (first | exact .c _ | (simp only [I, S, B, opsC, toksC, Pre.v, Tok.v, OpT.v, low_c, low_void, low_any, low_csl, low_nilf, low_ptr, low_osl, low_agg, low_tup, low_fn, List.forall_mem_cons, List.not_mem_nil, false_implies, implies_true, and_self, and_true, true_and, wrongV, Pre.none]; done))) (by (first | rfl | exact (List.append_nil _).symm)) ?_))
            exact ⟨rfl, Pre.none, j, rfl, rfl⟩
          · have h6' : (tokL t j).kind = 6 := by simpa using h6
            have h6n : ((tokL t j).kind != 6) = false := by rw [h6']; rfl
            rw [if_pos h6'] at h
            injection h with h
            subst h
            have hw2 : IntKind.i64.wrap ((j : Int) + 1) = ((j + 1 : Nat) : Int) := by rw [wrap_in] <;> omega
            ((first | refine W.advO 5000 _ _ ?_ | skip); simp only [go_sem, ↓reduceIte, Nat.reduceEqDiff, Nat.reduceAdd, Nat.reduceSub, Nat.reduceMul, Nat.reduceLeDiff, Nat.reduceBEq, reduceCtorEq, Int.reduceLT, Int.reduceLE, Int.reduceToNat, Int.reduceAdd, Int.reduceSub, Int.reduceBEq, Int.reduceBNe, h6n])
            refine W.no rfl ?_
            ((first | refine W.advO 5000 _ _ ?_ | skip); simp only [go_sem, ↓reduceIte, Nat.reduceEqDiff, Nat.reduceAdd, Nat.reduceSub, Nat.reduceMul, Nat.reduceLeDiff, Nat.reduceBEq, reduceCtorEq, Int.reduceLT, Int.reduceLE, Int.reduceToNat, Int.reduceAdd, Int.reduceSub, Int.reduceBEq, Int.reduceBNe, hG' hb, hS' hb, rdr, hw2])
            (refine W.ret (Fin.gen (d := .tup [m.p.v, wrongV 0 0]) (rdr_ok hok b l t (j + 1)) (by (first | rfl | exact List.length_set .. | simp)) (by simp only [resEval, r140, go_sem, ↓reduceIte, Nat.reduceEqDiff, Nat.reduceAdd, Nat.reduceSub, Nat.reduceMul, Nat.reduceLeDiff, Nat.reduceBEq, reduceCtorEq, Int.reduceLT, Int.reduceLE, Int.reduceToNat, Int.reduceAdd, Int.reduceSub, Int.reduceBEq, Int.reduceBNe, wrongV]; rfl) (by simp only [resV, I, S, B, Pre.v, OpT.v, Tok.v, k_mk, name_mk, n_mk, l_mk, pos_mk, Pre.app, List.map_cons, List.map_nil, Pre.cs_eq, wrongV]; (repeat' (first | exact V.wk.rfl _ | exact V.wk.csl _ | exact V.wk.osl _ _ | exact wk_agg_nil | exact wk_tup_nil | refine wk_agg_cons ?_ ?_ | refine wk_tup_cons ?_ ?_))) (by (first | exact .c _ | (simp only [I, S, B, opsC, toksC, Pre.v, Tok.v, OpT.v, low_c, low_void, low_any, low_csl, low_nilf, low_ptr, low_osl, low_agg, low_tup, low_fn, List.forall_mem_cons, List.not_mem_nil, false_implies, implies_true, and_self, and_true, true_and, wrongV]; done))) (by (first | rfl | exact (List.append_nil _).symm)) ?_))
            exact ⟨rfl, rfl⟩
end Go.Proofs.YtpgkhkojjklakaaGreatDoor

/-
  Walks: a sentence.
  The code of some functions, without addresses.
  Walks: the first operators.
  Walks: rows of operators, one behind the other.
  Walks: the first operators, all of them.
  Walks: source.Read, source.Query.
  Walks: source.Query.
  The code of some functions, without addresses.
  Walks: a tree is the same as itself.
  Walks: the document's examples of sentences; which operators are the same.
-/
import Derived.Test.YtlogjjnimlnpkaaGreatDoorQJ26
import Derived.Test.YtlogjjnimlnpkaaGreatDoorChecked
import Derived.Test.YtlogjjnimlnpkaaGreatDoorQJ10
import Derived.Test.YtlogjjnimlnpkaaGreatDoorQGrow
import Derived.Test.YtlogjjnimlnpkaaGreatDoorQLxD
import Derived.Test.YtlogjjnimlnpkaaGreatDoorQLexGl
import Derived.Test.YtlogjjnimlnpkaaGreatDoorQLexBk
import Derived.Test.YtlogjjnimlnpkaaGreatDoorQJ11
set_option linter.unusedSimpArgs false
set_option linter.unusedVariables false
set_option maxHeartbeats 8000000
set_option maxRecDepth 20000
namespace Go.Proofs.YtlogjjnimlnpkaaGreatDoor
open Go.RowKit Go.Lamb
attribute [local go_sem] advO_skip advO_reg advO_seq advO_block advO_exit advO_endb advO_opsNil advO_ops advG_yes advG_no advG_none advS_some advS_none advO_cond advO_loop advO_dreg advO_ret advO_bad advO_inv advO_nil advO_zero wantedV Lamb.step ev_t ev_k put_some put_none argEnv popTo cellsAt V.cellsV V.rows V.toC toCs fillV bytesC byteRows appV rowsV boundV boundL binV binInt binStr eqC eqL V.isNil leaves V.leaf Ins.quiet Ins.pure List.getD_cons_zero List.getD_cons_succ List.getD_nil List.all_cons List.all_nil List.length_cons List.length_nil List.take_succ_cons List.take_zero List.drop_succ_cons List.drop_zero List.cons_append List.nil_append List.append_nil List.append_assoc List.map_cons List.map_nil List.getElem?_cons_zero List.getElem?_cons_succ List.length_append List.length_set hget0 hget hset0 hset hsets hgs0 hgs hss0 hss List.set_cons_zero List.set_cons_succ List.forall_mem_cons List.not_mem_nil false_implies implies_true Option.map_some Bool.and_true Bool.true_and Bool.not_not Bool.not_true Bool.not_false Bool.and_self Bool.or_true Bool.true_or Bool.or_false Bool.false_or Bool.and_false Bool.false_and Bool.false_eq_true beq_self_eq_true and_self and_true true_and if_true if_false Nat.zero_add Nat.add_zero Nat.le_refl Int.toNat_natCast decide_true decide_false beq_t beq_f List.length_map List.getElem?_map I S B opsC toksC OpT.v OpT.cs OpT.zero Tok.v Tok.cs Pre.v Pre.cs_eq k_mk name_mk n_mk l_mk pos_mk Pre.app applyL natCast0 natCast1 natCast2
attribute [local go_sem] strsC sdX rz_len rz_g0 rz_g rz_s0 rz_s rz_sb zeroB

def words5 : List Str := [[107, 105, 110, 100], [116, 121, 112, 101], [105, 110, 102, 105, 120], [105, 110, 102, 105, 120, 108], [105, 110, 102, 105, 120, 114]]
/-- A sentence ahead of its dot. -/
noncomputable def beforeP (t : List Tok) (l : List OpT) (i : Nat) : SoR :=
  if (tokL t i).kind = 1 ∧ (tokL t i).text = [107, 105, 110, 100] then kindP t (i + 1) l
  else if (tokL t i).kind = 1 ∧ (tokL t i).text = [116, 121, 112, 101] then typeP t (i + 1) l
  else if (tokL t i).kind = 1 ∧ (tokL t i).text = [105, 110, 102, 105, 120] then opP t (i + 1) 0 l
  else if (tokL t i).kind = 1 ∧ (tokL t i).text = [105, 110, 102, 105, 120, 108] then opP t (i + 1) 1 l
  else if (tokL t i).kind = 1 ∧ (tokL t i).text = [105, 110, 102, 105, 120, 114] then opP t (i + 1) 2 l
  else clauseP t i l
def sentAt (s : Sent) (pos : Int) : Sent := ⟨s.k, s.names, s.n, s.ty, s.op, s.body, pos⟩
def dotP (t : List Tok) (pos : Int) : SoR → SoR
  | .error b => .error b
  | .ok (s, k, l') => if s.k = 2 then .ok (sentAt s pos, k, l') else endS t (sentAt s pos) k l'
theorem kind_dot (t : List Tok) (i : Nat) (pos : Int) (l : List OpT) : kindSent t i pos l = dotP t pos (kindP t i l) := by
  unfold kindSent kindP
  cases namesS t false i [] with
  | error b => rfl
  | ok x =>
    obtain ⟨ns, j⟩ := x
    simp only
    cases kindS t j 0 with
    | error b => rfl
    | ok y => obtain ⟨n, k⟩ := y; rfl
theorem type_dot (t : List Tok) (i : Nat) (pos : Int) (l : List OpT) : typeSent t i pos l = dotP t pos (typeP t i l) := by
  unfold typeSent typeP
  cases namesS t true i [] with
  | error b => rfl
  | ok x =>
    obtain ⟨ns, j⟩ := x
    simp only
    cases tyT t j with
    | error b => rfl
    | ok y => obtain ⟨u, k, ws⟩ := y; rfl
theorem op_dot2 (t : List Tok) (i : Nat) (pos fix : Int) (l : List OpT) : opSent t i pos fix l = dotP t pos (opP t i fix l) := by
  unfold opSent opP
  cases namesS t true i [] with
  | error b => rfl
  | ok x =>
    obtain ⟨ns, j⟩ := x
    simp only
    by_cases h3 : (tokL t j).kind = 3
    · rw [if_pos h3, if_pos h3]
      by_cases h7 : (tokL t (j + 1)).kind = 7
      · rw [if_pos h7, if_pos h7]
        cases declL (tokL t j).n fix l ns with
        | error b => rfl
        | ok l' => rfl
      · rw [if_neg h7, if_neg h7]; rfl
    · rw [if_neg h3, if_neg h3]; rfl
theorem clause_dot (t : List Tok) (i : Nat) (pos : Int) (l : List OpT) : clauseSent t i pos l = dotP t pos (clauseP t i l) := by
  unfold clauseSent clauseP
  cases exprT l t i with
  | error b => rfl
  | ok y => obtain ⟨m, k⟩ := y; rfl
theorem sentS_dot (t : List Tok) (l : List OpT) (i : Nat) : sentS t l i = dotP t (tokL t i).pos (beforeP t l i) := by
  unfold sentS beforeP
  simp only [kind_dot, type_dot, op_dot2, clause_dot]
  by_cases c1 : (tokL t i).kind = 1 ∧ (tokL t i).text = [107, 105, 110, 100]
  · simp only [if_pos c1]
  simp only [if_neg c1]
  by_cases c2 : (tokL t i).kind = 1 ∧ (tokL t i).text = [116, 121, 112, 101]
  · simp only [if_pos c2]
  simp only [if_neg c2]
  by_cases c3 : (tokL t i).kind = 1 ∧ (tokL t i).text = [105, 110, 102, 105, 120]
  · simp only [if_pos c3]
  simp only [if_neg c3]
  by_cases c4 : (tokL t i).kind = 1 ∧ (tokL t i).text = [105, 110, 102, 105, 120, 108]
  · simp only [if_pos c4]
  simp only [if_neg c4]
  by_cases c5 : (tokL t i).kind = 1 ∧ (tokL t i).text = [105, 110, 102, 105, 120, 114]
  · simp only [if_pos c5]
  simp only [if_neg c5]
theorem rsen_out {t : List Tok} {σ : H} {b : Nat} {r : SoR} {d : V} {σ' : H} (h : RSen t σ b r d σ') : ∃ (s : Sent) (j : Int) (l' : List OpT) (e p : Int), d = s.v ∧ σ' = srd σ b t j l' e p ∧ ((e = 0 ∧ p = 0 ∧ ∃ k : Nat, j = k ∧ r = .ok (s, k, l')) ∨ ((e == 0) = false ∧ r = .error ⟨e, p⟩)) := by
  cases r with
  | ok x =>
    obtain ⟨s, k, l'⟩ := x
    obtain ⟨rfl, rfl⟩ := h
    exact ⟨s, k, l', 0, 0, rfl, rfl, .inl ⟨rfl, rfl, k, rfl, rfl⟩⟩
  | error x =>
    obtain ⟨he, s, j, l', rfl, rfl⟩ := h
    exact ⟨s, j, l', x.e, x.pos, rfl, rfl, .inr ⟨he, rfl⟩⟩
theorem before_far {t : List Tok} {l l' : List OpT} {i k : Nat} {s : Sent} (h : beforeP t l i = .ok (s, k, l')) : k ≤ t.length := by
  have hop : ∀ fix, opP t (i + 1) fix l = .ok (s, k, l') → k ≤ t.length := fun fix h => by
    have := op_dot2 t (i + 1) 0 fix l
    rw [h] at this
    unfold opP at h
    split at h
    · cases h
    · split at h
      · split at h
        · rename_i h7
          have := tokL_lt (t := t) (by rw [h7]; decide)
          split at h
          · cases h
          · injection h with h; injection h with _ h; injection h with h _
            omega
        · cases h
      · cases h
  unfold beforeP at h
  split at h
  · unfold kindP at h
    split at h
    · cases h
    · split at h
      · cases h
      · rename_i hk
        injection h with h; injection h with _ h; injection h with h _
        have := kindS_far _ _ _ _ _ (Nat.le_refl _) hk
        omega
  · split at h
    · unfold typeP at h
      split at h
      · cases h
      · split at h
        · cases h
        · rename_i hk
          injection h with h; injection h with _ h; injection h with h _
          have := tyT_far hk
          omega
    · split at h
      · exact hop _ h
      · split at h
        · exact hop _ h
        · split at h
          · exact hop _ h
          · unfold clauseP at h
            split at h
            · cases h
            · rename_i hk
              injection h with h; injection h with _ h; injection h with h _
              have := exprT_far hk
              omega
theorem source_Words (w0 : World) (σ : H) : DC Tryz.prog w0 55 [] σ (Same (.csl (strsR words5)) σ) := by
  refine go55 rfl (fun hok hsz => ?_)
  ((first | refine W.advO 5000 _ _ ?_ | skip); simp only [go_sem, seval, ↓reduceIte, reduceCtorEq, c55])
  (refine W.ret (Fin.sameW (hok) (by (first | rfl | exact List.length_set .. | simp)) (by simp only [resEval, r55, go_sem, seval, ↓reduceIte, reduceCtorEq]; rfl) ?_ (by (first | exact .c _ | (simp only [I, S, B, opsC, toksC, Pre.v, Tok.v, OpT.v, low_c, low_void, low_any, low_csl, low_nilf, low_ptr, low_osl, low_agg, low_tup, low_fn, List.forall_mem_cons, List.not_mem_nil, false_implies, implies_true, and_self, and_true, true_and]; done))) (by (first | rfl | exact (List.append_nil _).symm))); simp only [resV]; try exact V.wk.rfl _)
theorem sr_sentence (w0 : World) (t : List Tok) (hT : TEnd t) (i : Nat) (hi : i ≤ t.length) (l : List OpT) (hl : l.length ≤ 64) (hne : l ≠ []) (σ : H) (b : Nat) (D : b < σ.length) :
    DC Tryz.prog w0 99 [.ptr b 0] (srd σ b t i l 0 0) (RSen t σ b (sentS t l i)) := by
  refine go99 rfl (fun hok hsz => ?_)
  have hle := hT.le
  have hwi : IntKind.i64.wrap ((i : Int) + 1) = ((i + 1 : Nat) : Int) := by rw [wrap_in] <;> omega
  rw [sentS_dot]
  generalize hr0 : beforeP t l i = r
  have hr := hr0
  unfold beforeP at hr
  ((first | refine W.advO 5000 _ _ ?_ | skip); simp only [go_sem, seval, ↓reduceIte, reduceCtorEq, c99, rz_b D, rz_bL D, rz_sbL D, rz_app D])
  (refine W.call1 (DC.lift1 D (fun D' => sr_tok w0 t hT i (by omega) l 0 0 _ b D')) rfl rfl (by first | rfl | simp) ?_; refine W.advO 5000 _ _ ?_; simp only [go_sem, seval, ↓reduceIte, reduceCtorEq, rz_b D, rz_bL D, rz_sbL D, rz_app D])
  by_cases hk1 : (tokL t i).kind = 1
  · have n1 : ((tokL t i).kind == 1) = true := by simpa using hk1
    have hil : i + 1 ≤ t.length := tokL_lt (by rw [hk1]; decide)
    simp only [hk1, true_and] at hr
    by_cases e1 : (tokL t i).text = [107, 105, 110, 100]
    · rw [if_pos e1] at hr
      have hw : words5.contains (tokL t i).text = true := by rw [e1]; rfl
      have b1 : ((tokL t i).text == [107, 105, 110, 100]) = true := by simpa using e1
      apply W.dregE (List.cons_ne_nil _ _)
      case hc =>
        (apply CanonE.advPO; simp only [advPO_nil, advPO_loud, advPO_quiet, pL_yes, pL_no, pLS_some, pLS_none, pQ_yes, pQ_no, pQS_some, pQS_loud, eq_self, Nat.sub_zero, go_sem, seval, ↓reduceIte, reduceCtorEq, rz_b D, rz_bL D, rz_sbL D, rz_app D, n1])
        (apply CanonE.call (source_Words w0 _); (case hg => rfl); (case hf => rfl); (case ha => first | rfl | simp))
        (apply CanonE.advPO; simp only [advPO_nil, advPO_loud, advPO_quiet, pL_yes, pL_no, pLS_some, pLS_none, pQ_yes, pQ_no, pQS_some, pQS_loud, eq_self, Nat.sub_zero, go_sem, seval, ↓reduceIte, reduceCtorEq, rz_b D, rz_bL D, rz_sbL D, rz_app D, n1])
        (apply CanonE.callw (str_contains w0 words5 (tokL t i).text _); (case hg => rfl); (case hf => rfl); (case ha => rfl); (case hw => ((repeat' (first | exact V.wk.rfl _ | exact V.wk.csl _ | exact V.wk.osl _ _ | exact wk_agg_nil | exact wk_tup_nil | refine wk_agg_cons ?_ ?_ | refine wk_tup_cons ?_ ?_)))))
        (apply CanonE.advPO; simp only [advPO_nil, advPO_loud, advPO_quiet, pL_yes, pL_no, pLS_some, pLS_none, pQ_yes, pQ_no, pQS_some, pQS_loud, eq_self, Nat.sub_zero, go_sem, seval, ↓reduceIte, reduceCtorEq, rz_b D, rz_bL D, rz_sbL D, rz_app D, n1, hw])
        exact CanonE.nil
      ((first | refine W.advO 5000 _ _ ?_ | skip); simp only [go_sem, seval, ↓reduceIte, reduceCtorEq, rz_b D, rz_bL D, rz_sbL D, rz_app D])
      refine W.yes rfl ?_
      ((first | refine W.advO 5000 _ _ ?_ | skip); simp only [go_sem, seval, ↓reduceIte, reduceCtorEq, rz_b D, rz_bL D, rz_sbL D, rz_app D, hwi, b1])
      refine W.yes rfl ?_
      ((first | refine W.advO 5000 _ _ ?_ | skip); simp only [go_sem, seval, ↓reduceIte, reduceCtorEq, rz_b D, rz_bL D, rz_sbL D, rz_app D])
      (refine W.call (DC.lift1R D (fun D' => sr_kind w0 t hT (i + 1) hil l _ b D')) rfl rfl (by first | rfl | simp) ?_)
      intro d σ1 hR
      rw [hr] at hR
      obtain ⟨s, j, l', e, p, rfl, rfl, hst⟩ := rsen_out hR
      ((first | refine W.advO 5000 _ _ ?_ | skip); simp only [go_sem, seval, ↓reduceIte, reduceCtorEq, rz_b D, rz_bL D, rz_sbL D, rz_app D, sent_v])
      rcases hst with ⟨rfl, rfl, k, rfl, hr'⟩ | ⟨he, hr'⟩
      · subst hr'
        have hkf := before_far hr0
        simp only [dotP]
        by_cases hs2 : s.k = 2
        · have ns2 : (s.k != 2) = false := by simpa using hs2
          rw [if_pos hs2]
          ((first | refine W.advO 5000 _ _ ?_ | skip); simp only [go_sem, seval, ↓reduceIte, reduceCtorEq, rz_b D, rz_bL D, rz_sbL D, rz_app D, ns2])
          refine W.no rfl ?_
          ((first | refine W.advO 5000 _ _ ?_ | skip); simp only [go_sem, seval, ↓reduceIte, reduceCtorEq, rz_b D, rz_bL D, rz_sbL D, rz_app D])
          (refine W.ret (Fin.gen (d := (sentAt s (tokL t i).pos).v) (srd_ok D hok t (k : Nat) l' 0 0) (by (first | rfl | exact List.length_set .. | simp)) (by simp only [resEval, r99, go_sem, seval, ↓reduceIte, reduceCtorEq, sent_v, sentAt, strsC]; rfl) (by simp only [resV, I, S, B, Pre.v, OpT.v, Tok.v, k_mk, name_mk, n_mk, l_mk, pos_mk, Pre.app, List.map_cons, List.map_nil, Pre.cs_eq, sent_v, sentAt, strsC]; (repeat' (first | exact V.wk.rfl _ | exact V.wk.csl _ | exact V.wk.osl _ _ | exact wk_agg_nil | exact wk_tup_nil | refine wk_agg_cons ?_ ?_ | refine wk_tup_cons ?_ ?_))) (by (first | exact .c _ | (simp only [I, S, B, opsC, toksC, Pre.v, Tok.v, OpT.v, low_c, low_void, low_any, low_csl, low_nilf, low_ptr, low_osl, low_agg, low_tup, low_fn, List.forall_mem_cons, List.not_mem_nil, false_implies, implies_true, and_self, and_true, true_and, sent_v, sentAt, strsC]; done))) (by (first | rfl | exact (List.append_nil _).symm)) ?_))
          exact ⟨rfl, rfl⟩
        · have ns2 : (s.k != 2) = true := by simpa using hs2
          rw [if_neg hs2]
          ((first | refine W.advO 5000 _ _ ?_ | skip); simp only [go_sem, seval, ↓reduceIte, reduceCtorEq, rz_b D, rz_bL D, rz_sbL D, rz_app D, ns2])
          refine W.yes rfl ?_
          ((first | refine W.advO 5000 _ _ ?_ | skip); simp only [go_sem, seval, ↓reduceIte, reduceCtorEq, rz_b D, rz_bL D, rz_sbL D, rz_app D])
          (refine W.call1 (DC.lift1 D (fun D' => sr_end0 w0 t hT k (by omega) l' _ b D')) rfl rfl (by first | rfl | simp) ?_; refine W.advO 5000 _ _ ?_; simp only [go_sem, seval, ↓reduceIte, reduceCtorEq, rz_b D, rz_bL D, rz_sbL D, rz_app D])
          unfold endS
          by_cases h7 : (tokL t k).kind = 7
          · simp only [if_pos h7]
            (refine W.ret (Fin.gen (d := (sentAt s (tokL t i).pos).v) (srd_ok D hok t ((k + 1 : Nat) : Int) l' 0 0) (by (first | rfl | exact List.length_set .. | simp)) (by simp only [resEval, r99, go_sem, seval, ↓reduceIte, reduceCtorEq, sent_v, sentAt, strsC]; rfl) (by simp only [resV, I, S, B, Pre.v, OpT.v, Tok.v, k_mk, name_mk, n_mk, l_mk, pos_mk, Pre.app, List.map_cons, List.map_nil, Pre.cs_eq, sent_v, sentAt, strsC]; (repeat' (first | exact V.wk.rfl _ | exact V.wk.csl _ | exact V.wk.osl _ _ | exact wk_agg_nil | exact wk_tup_nil | refine wk_agg_cons ?_ ?_ | refine wk_tup_cons ?_ ?_))) (by (first | exact .c _ | (simp only [I, S, B, opsC, toksC, Pre.v, Tok.v, OpT.v, low_c, low_void, low_any, low_csl, low_nilf, low_ptr, low_osl, low_agg, low_tup, low_fn, List.forall_mem_cons, List.not_mem_nil, false_implies, implies_true, and_self, and_true, true_and, sent_v, sentAt, strsC]; done))) (by (first | rfl | exact (List.append_nil _).symm)) ?_))
            exact ⟨rfl, rfl⟩
          · simp only [if_neg h7]
            (refine W.ret (Fin.gen (d := (sentAt s (tokL t i).pos).v) (srd_ok D hok t ((k + 1 : Nat) : Int) l' 101 (tokL t k).pos) (by (first | rfl | exact List.length_set .. | simp)) (by simp only [resEval, r99, go_sem, seval, ↓reduceIte, reduceCtorEq, sent_v, sentAt, strsC]; rfl) (by simp only [resV, I, S, B, Pre.v, OpT.v, Tok.v, k_mk, name_mk, n_mk, l_mk, pos_mk, Pre.app, List.map_cons, List.map_nil, Pre.cs_eq, sent_v, sentAt, strsC]; (repeat' (first | exact V.wk.rfl _ | exact V.wk.csl _ | exact V.wk.osl _ _ | exact wk_agg_nil | exact wk_tup_nil | refine wk_agg_cons ?_ ?_ | refine wk_tup_cons ?_ ?_))) (by (first | exact .c _ | (simp only [I, S, B, opsC, toksC, Pre.v, Tok.v, OpT.v, low_c, low_void, low_any, low_csl, low_nilf, low_ptr, low_osl, low_agg, low_tup, low_fn, List.forall_mem_cons, List.not_mem_nil, false_implies, implies_true, and_self, and_true, true_and, sent_v, sentAt, strsC]; done))) (by (first | rfl | exact (List.append_nil _).symm)) ?_))
            exact ⟨rfl, _, _, _, rfl, rfl⟩
      · subst hr'
        simp only [dotP]
        by_cases hs2 : s.k = 2
        · have ns2 : (s.k != 2) = false := by simpa using hs2
          ((first | refine W.advO 5000 _ _ ?_ | skip); simp only [go_sem, seval, ↓reduceIte, reduceCtorEq, rz_b D, rz_bL D, rz_sbL D, rz_app D, ns2])
          refine W.no rfl ?_
          ((first | refine W.advO 5000 _ _ ?_ | skip); simp only [go_sem, seval, ↓reduceIte, reduceCtorEq, rz_b D, rz_bL D, rz_sbL D, rz_app D])
          (refine W.ret (Fin.gen (d := (sentAt s (tokL t i).pos).v) (srd_ok D hok t j l' e p) (by (first | rfl | exact List.length_set .. | simp)) (by simp only [resEval, r99, go_sem, seval, ↓reduceIte, reduceCtorEq, sent_v, sentAt, strsC]; rfl) (by simp only [resV, I, S, B, Pre.v, OpT.v, Tok.v, k_mk, name_mk, n_mk, l_mk, pos_mk, Pre.app, List.map_cons, List.map_nil, Pre.cs_eq, sent_v, sentAt, strsC]; (repeat' (first | exact V.wk.rfl _ | exact V.wk.csl _ | exact V.wk.osl _ _ | exact wk_agg_nil | exact wk_tup_nil | refine wk_agg_cons ?_ ?_ | refine wk_tup_cons ?_ ?_))) (by (first | exact .c _ | (simp only [I, S, B, opsC, toksC, Pre.v, Tok.v, OpT.v, low_c, low_void, low_any, low_csl, low_nilf, low_ptr, low_osl, low_agg, low_tup, low_fn, List.forall_mem_cons, List.not_mem_nil, false_implies, implies_true, and_self, and_true, true_and, sent_v, sentAt, strsC]; done))) (by (first | rfl | exact (List.append_nil _).symm)) ?_))
          exact ⟨he, _, _, _, rfl, rfl⟩
        · have ns2 : (s.k != 2) = true := by simpa using hs2
          ((first | refine W.advO 5000 _ _ ?_ | skip); simp only [go_sem, seval, ↓reduceIte, reduceCtorEq, rz_b D, rz_bL D, rz_sbL D, rz_app D, ns2])
          refine W.yes rfl ?_
          ((first | refine W.advO 5000 _ _ ?_ | skip); simp only [go_sem, seval, ↓reduceIte, reduceCtorEq, rz_b D, rz_bL D, rz_sbL D, rz_app D])
          (refine W.call1 (DC.lift1 D (fun D' => sr_end1 w0 t j l' e p he _ b D')) rfl rfl (by first | rfl | simp) ?_; refine W.advO 5000 _ _ ?_; simp only [go_sem, seval, ↓reduceIte, reduceCtorEq, rz_b D, rz_bL D, rz_sbL D, rz_app D])
          (refine W.ret (Fin.gen (d := (sentAt s (tokL t i).pos).v) (srd_ok D hok t j l' e p) (by (first | rfl | exact List.length_set .. | simp)) (by simp only [resEval, r99, go_sem, seval, ↓reduceIte, reduceCtorEq, sent_v, sentAt, strsC]; rfl) (by simp only [resV, I, S, B, Pre.v, OpT.v, Tok.v, k_mk, name_mk, n_mk, l_mk, pos_mk, Pre.app, List.map_cons, List.map_nil, Pre.cs_eq, sent_v, sentAt, strsC]; (repeat' (first | exact V.wk.rfl _ | exact V.wk.csl _ | exact V.wk.osl _ _ | exact wk_agg_nil | exact wk_tup_nil | refine wk_agg_cons ?_ ?_ | refine wk_tup_cons ?_ ?_))) (by (first | exact .c _ | (simp only [I, S, B, opsC, toksC, Pre.v, Tok.v, OpT.v, low_c, low_void, low_any, low_csl, low_nilf, low_ptr, low_osl, low_agg, low_tup, low_fn, List.forall_mem_cons, List.not_mem_nil, false_implies, implies_true, and_self, and_true, true_and, sent_v, sentAt, strsC]; done))) (by (first | rfl | exact (List.append_nil _).symm)) ?_))
          exact ⟨he, _, _, _, rfl, rfl⟩
    rw [if_neg e1] at hr
    by_cases e2 : (tokL t i).text = [116, 121, 112, 101]
    · rw [if_pos e2] at hr
      have hw : words5.contains (tokL t i).text = true := by rw [e2]; rfl
      have b1 : ((tokL t i).text == [107, 105, 110, 100]) = false := by simpa using e1
      have b2 : ((tokL t i).text == [116, 121, 112, 101]) = true := by simpa using e2
      apply W.dregE (List.cons_ne_nil _ _)
      case hc =>
        (apply CanonE.advPO; simp only [advPO_nil, advPO_loud, advPO_quiet, pL_yes, pL_no, pLS_some, pLS_none, pQ_yes, pQ_no, pQS_some, pQS_loud, eq_self, Nat.sub_zero, go_sem, seval, ↓reduceIte, reduceCtorEq, rz_b D, rz_bL D, rz_sbL D, rz_app D, n1])
        (apply CanonE.call (source_Words w0 _); (case hg => rfl); (case hf => rfl); (case ha => first | rfl | simp))
        (apply CanonE.advPO; simp only [advPO_nil, advPO_loud, advPO_quiet, pL_yes, pL_no, pLS_some, pLS_none, pQ_yes, pQ_no, pQS_some, pQS_loud, eq_self, Nat.sub_zero, go_sem, seval, ↓reduceIte, reduceCtorEq, rz_b D, rz_bL D, rz_sbL D, rz_app D, n1])
        (apply CanonE.callw (str_contains w0 words5 (tokL t i).text _); (case hg => rfl); (case hf => rfl); (case ha => rfl); (case hw => ((repeat' (first | exact V.wk.rfl _ | exact V.wk.csl _ | exact V.wk.osl _ _ | exact wk_agg_nil | exact wk_tup_nil | refine wk_agg_cons ?_ ?_ | refine wk_tup_cons ?_ ?_)))))
        (apply CanonE.advPO; simp only [advPO_nil, advPO_loud, advPO_quiet, pL_yes, pL_no, pLS_some, pLS_none, pQ_yes, pQ_no, pQS_some, pQS_loud, eq_self, Nat.sub_zero, go_sem, seval, ↓reduceIte, reduceCtorEq, rz_b D, rz_bL D, rz_sbL D, rz_app D, n1, hw])
        exact CanonE.nil
      ((first | refine W.advO 5000 _ _ ?_ | skip); simp only [go_sem, seval, ↓reduceIte, reduceCtorEq, rz_b D, rz_bL D, rz_sbL D, rz_app D])
      refine W.yes rfl ?_
      ((first | refine W.advO 5000 _ _ ?_ | skip); simp only [go_sem, seval, ↓reduceIte, reduceCtorEq, rz_b D, rz_bL D, rz_sbL D, rz_app D, hwi, b1, b2])
      refine W.no rfl ?_
      ((first | refine W.advO 5000 _ _ ?_ | skip); simp only [go_sem, seval, ↓reduceIte, reduceCtorEq, rz_b D, rz_bL D, rz_sbL D, rz_app D, b1, b2])
      refine W.yes rfl ?_
      ((first | refine W.advO 5000 _ _ ?_ | skip); simp only [go_sem, seval, ↓reduceIte, reduceCtorEq, rz_b D, rz_bL D, rz_sbL D, rz_app D])
      (refine W.call (DC.lift1R D (fun D' => sr_typed w0 t hT (i + 1) hil l _ b D')) rfl rfl (by first | rfl | simp) ?_)
      intro d σ1 hR
      rw [hr] at hR
      obtain ⟨s, j, l', e, p, rfl, rfl, hst⟩ := rsen_out hR
      ((first | refine W.advO 5000 _ _ ?_ | skip); simp only [go_sem, seval, ↓reduceIte, reduceCtorEq, rz_b D, rz_bL D, rz_sbL D, rz_app D, sent_v])
      rcases hst with ⟨rfl, rfl, k, rfl, hr'⟩ | ⟨he, hr'⟩
      · subst hr'
        have hkf := before_far hr0
        simp only [dotP]
        by_cases hs2 : s.k = 2
        · have ns2 : (s.k != 2) = false := by simpa using hs2
          rw [if_pos hs2]
          ((first | refine W.advO 5000 _ _ ?_ | skip); simp only [go_sem, seval, ↓reduceIte, reduceCtorEq, rz_b D, rz_bL D, rz_sbL D, rz_app D, ns2])
          refine W.no rfl ?_
          ((first | refine W.advO 5000 _ _ ?_ | skip); simp only [go_sem, seval, ↓reduceIte, reduceCtorEq, rz_b D, rz_bL D, rz_sbL D, rz_app D])
          (refine W.ret (Fin.gen (d := (sentAt s (tokL t i).pos).v) (srd_ok D hok t (k : Nat) l' 0 0) (by (first | rfl | exact List.length_set .. | simp)) (by simp only [resEval, r99, go_sem, seval, ↓reduceIte, reduceCtorEq, sent_v, sentAt, strsC]; rfl) (by simp only [resV, I, S, B, Pre.v, OpT.v, Tok.v, k_mk, name_mk, n_mk, l_mk, pos_mk, Pre.app, List.map_cons, List.map_nil, Pre.cs_eq, sent_v, sentAt, strsC]; (repeat' (first | exact V.wk.rfl _ | exact V.wk.csl _ | exact V.wk.osl _ _ | exact wk_agg_nil | exact wk_tup_nil | refine wk_agg_cons ?_ ?_ | refine wk_tup_cons ?_ ?_))) (by (first | exact .c _ | (simp only [I, S, B, opsC, toksC, Pre.v, Tok.v, OpT.v, low_c, low_void, low_any, low_csl, low_nilf, low_ptr, low_osl, low_agg, low_tup, low_fn, List.forall_mem_cons, List.not_mem_nil, false_implies, implies_true, and_self, and_true, true_and, sent_v, sentAt, strsC]; done))) (by (first | rfl | exact (List.append_nil _).symm)) ?_))
          exact ⟨rfl, rfl⟩
        · have ns2 : (s.k != 2) = true := by simpa using hs2
          rw [if_neg hs2]
          ((first | refine W.advO 5000 _ _ ?_ | skip); simp only [go_sem, seval, ↓reduceIte, reduceCtorEq, rz_b D, rz_bL D, rz_sbL D, rz_app D, ns2])
          refine W.yes rfl ?_
          ((first | refine W.advO 5000 _ _ ?_ | skip); simp only [go_sem, seval, ↓reduceIte, reduceCtorEq, rz_b D, rz_bL D, rz_sbL D, rz_app D])
          (refine W.call1 (DC.lift1 D (fun D' => sr_end0 w0 t hT k (by omega) l' _ b D')) rfl rfl (by first | rfl | simp) ?_; refine W.advO 5000 _ _ ?_; simp only [go_sem, seval, ↓reduceIte, reduceCtorEq, rz_b D, rz_bL D, rz_sbL D, rz_app D])
          unfold endS
          by_cases h7 : (tokL t k).kind = 7
          · simp only [if_pos h7]
            (refine W.ret (Fin.gen (d := (sentAt s (tokL t i).pos).v) (srd_ok D hok t ((k + 1 : Nat) : Int) l' 0 0) (by (first | rfl | exact List.length_set .. | simp)) (by simp only [resEval, r99, go_sem, seval, ↓reduceIte, reduceCtorEq, sent_v, sentAt, strsC]; rfl) (by simp only [resV, I, S, B, Pre.v, OpT.v, Tok.v, k_mk, name_mk, n_mk, l_mk, pos_mk, Pre.app, List.map_cons, List.map_nil, Pre.cs_eq, sent_v, sentAt, strsC]; (repeat' (first | exact V.wk.rfl _ | exact V.wk.csl _ | exact V.wk.osl _ _ | exact wk_agg_nil | exact wk_tup_nil | refine wk_agg_cons ?_ ?_ | refine wk_tup_cons ?_ ?_))) (by (first | exact .c _ | (simp only [I, S, B, opsC, toksC, Pre.v, Tok.v, OpT.v, low_c, low_void, low_any, low_csl, low_nilf, low_ptr, low_osl, low_agg, low_tup, low_fn, List.forall_mem_cons, List.not_mem_nil, false_implies, implies_true, and_self, and_true, true_and, sent_v, sentAt, strsC]; done))) (by (first | rfl | exact (List.append_nil _).symm)) ?_))
            exact ⟨rfl, rfl⟩
          · simp only [if_neg h7]
            (refine W.ret (Fin.gen (d := (sentAt s (tokL t i).pos).v) (srd_ok D hok t ((k + 1 : Nat) : Int) l' 101 (tokL t k).pos) (by (first | rfl | exact List.length_set .. | simp)) (by simp only [resEval, r99, go_sem, seval, ↓reduceIte, reduceCtorEq, sent_v, sentAt, strsC]; rfl) (by simp only [resV, I, S, B, Pre.v, OpT.v, Tok.v, k_mk, name_mk, n_mk, l_mk, pos_mk, Pre.app, List.map_cons, List.map_nil, Pre.cs_eq, sent_v, sentAt, strsC]; (repeat' (first | exact V.wk.rfl _ | exact V.wk.csl _ | exact V.wk.osl _ _ | exact wk_agg_nil | exact wk_tup_nil | refine wk_agg_cons ?_ ?_ | refine wk_tup_cons ?_ ?_))) (by (first | exact .c _ | (simp only [I, S, B, opsC, toksC, Pre.v, Tok.v, OpT.v, low_c, low_void, low_any, low_csl, low_nilf, low_ptr, low_osl, low_agg, low_tup, low_fn, List.forall_mem_cons, List.not_mem_nil, false_implies, implies_true, and_self, and_true, true_and, sent_v, sentAt, strsC]; done))) (by (first | rfl | exact (List.append_nil _).symm)) ?_))
            exact ⟨rfl, _, _, _, rfl, rfl⟩
      · subst hr'
        simp only [dotP]
        by_cases hs2 : s.k = 2
        · have ns2 : (s.k != 2) = false := by simpa using hs2
          ((first | refine W.advO 5000 _ _ ?_ | skip); simp only [go_sem, seval, ↓reduceIte, reduceCtorEq, rz_b D, rz_bL D, rz_sbL D, rz_app D, ns2])
          refine W.no rfl ?_
          ((first | refine W.advO 5000 _ _ ?_ | skip); simp only [go_sem, seval, ↓reduceIte, reduceCtorEq, rz_b D, rz_bL D, rz_sbL D, rz_app D])
          (refine W.ret (Fin.gen (d := (sentAt s (tokL t i).pos).v) (srd_ok D hok t j l' e p) (by (first | rfl | exact List.length_set .. | simp)) (by simp only [resEval, r99, go_sem, seval, ↓reduceIte, reduceCtorEq, sent_v, sentAt, strsC]; rfl) (by simp only [resV, I, S, B, Pre.v, OpT.v, Tok.v, k_mk, name_mk, n_mk, l_mk, pos_mk, Pre.app, List.map_cons, List.map_nil, Pre.cs_eq, sent_v, sentAt, strsC]; (repeat' (first | exact V.wk.rfl _ | exact V.wk.csl _ | exact V.wk.osl _ _ | exact wk_agg_nil | exact wk_tup_nil | refine wk_agg_cons ?_ ?_ | refine wk_tup_cons ?_ ?_))) (by (first | exact .c _ | (simp only [I, S, B, opsC, toksC, Pre.v, Tok.v, OpT.v, low_c, low_void, low_any, low_csl, low_nilf, low_ptr, low_osl, low_agg, low_tup, low_fn, List.forall_mem_cons, List.not_mem_nil, false_implies, implies_true, and_self, and_true, true_and, sent_v, sentAt, strsC]; done))) (by (first | rfl | exact (List.append_nil _).symm)) ?_))
          exact ⟨he, _, _, _, rfl, rfl⟩
        · have ns2 : (s.k != 2) = true := by simpa using hs2
          ((first | refine W.advO 5000 _ _ ?_ | skip); simp only [go_sem, seval, ↓reduceIte, reduceCtorEq, rz_b D, rz_bL D, rz_sbL D, rz_app D, ns2])
          refine W.yes rfl ?_
          ((first | refine W.advO 5000 _ _ ?_ | skip); simp only [go_sem, seval, ↓reduceIte, reduceCtorEq, rz_b D, rz_bL D, rz_sbL D, rz_app D])
          (refine W.call1 (DC.lift1 D (fun D' => sr_end1 w0 t j l' e p he _ b D')) rfl rfl (by first | rfl | simp) ?_; refine W.advO 5000 _ _ ?_; simp only [go_sem, seval, ↓reduceIte, reduceCtorEq, rz_b D, rz_bL D, rz_sbL D, rz_app D])
          (refine W.ret (Fin.gen (d := (sentAt s (tokL t i).pos).v) (srd_ok D hok t j l' e p) (by (first | rfl | exact List.length_set .. | simp)) (by simp only [resEval, r99, go_sem, seval, ↓reduceIte, reduceCtorEq, sent_v, sentAt, strsC]; rfl) (by simp only [resV, I, S, B, Pre.v, OpT.v, Tok.v, k_mk, name_mk, n_mk, l_mk, pos_mk, Pre.app, List.map_cons, List.map_nil, Pre.cs_eq, sent_v, sentAt, strsC]; (repeat' (first | exact V.wk.rfl _ | exact V.wk.csl _ | exact V.wk.osl _ _ | exact wk_agg_nil | exact wk_tup_nil | refine wk_agg_cons ?_ ?_ | refine wk_tup_cons ?_ ?_))) (by (first | exact .c _ | (simp only [I, S, B, opsC, toksC, Pre.v, Tok.v, OpT.v, low_c, low_void, low_any, low_csl, low_nilf, low_ptr, low_osl, low_agg, low_tup, low_fn, List.forall_mem_cons, List.not_mem_nil, false_implies, implies_true, and_self, and_true, true_and, sent_v, sentAt, strsC]; done))) (by (first | rfl | exact (List.append_nil _).symm)) ?_))
          exact ⟨he, _, _, _, rfl, rfl⟩
    rw [if_neg e2] at hr
    by_cases e3 : (tokL t i).text = [105, 110, 102, 105, 120]
    · rw [if_pos e3] at hr
      have hw : words5.contains (tokL t i).text = true := by rw [e3]; rfl
      have b1 : ((tokL t i).text == [107, 105, 110, 100]) = false := by simpa using e1
      have b2 : ((tokL t i).text == [116, 121, 112, 101]) = false := by simpa using e2
      have b3 : ((tokL t i).text == [105, 110, 102, 105, 120]) = true := by simpa using e3
      apply W.dregE (List.cons_ne_nil _ _)
      case hc =>
        (apply CanonE.advPO; simp only [advPO_nil, advPO_loud, advPO_quiet, pL_yes, pL_no, pLS_some, pLS_none, pQ_yes, pQ_no, pQS_some, pQS_loud, eq_self, Nat.sub_zero, go_sem, seval, ↓reduceIte, reduceCtorEq, rz_b D, rz_bL D, rz_sbL D, rz_app D, n1])
        (apply CanonE.call (source_Words w0 _); (case hg => rfl); (case hf => rfl); (case ha => first | rfl | simp))
        (apply CanonE.advPO; simp only [advPO_nil, advPO_loud, advPO_quiet, pL_yes, pL_no, pLS_some, pLS_none, pQ_yes, pQ_no, pQS_some, pQS_loud, eq_self, Nat.sub_zero, go_sem, seval, ↓reduceIte, reduceCtorEq, rz_b D, rz_bL D, rz_sbL D, rz_app D, n1])
        (apply CanonE.callw (str_contains w0 words5 (tokL t i).text _); (case hg => rfl); (case hf => rfl); (case ha => rfl); (case hw => ((repeat' (first | exact V.wk.rfl _ | exact V.wk.csl _ | exact V.wk.osl _ _ | exact wk_agg_nil | exact wk_tup_nil | refine wk_agg_cons ?_ ?_ | refine wk_tup_cons ?_ ?_)))))
        (apply CanonE.advPO; simp only [advPO_nil, advPO_loud, advPO_quiet, pL_yes, pL_no, pLS_some, pLS_none, pQ_yes, pQ_no, pQS_some, pQS_loud, eq_self, Nat.sub_zero, go_sem, seval, ↓reduceIte, reduceCtorEq, rz_b D, rz_bL D, rz_sbL D, rz_app D, n1, hw])
        exact CanonE.nil
      ((first | refine W.advO 5000 _ _ ?_ | skip); simp only [go_sem, seval, ↓reduceIte, reduceCtorEq, rz_b D, rz_bL D, rz_sbL D, rz_app D])
      refine W.yes rfl ?_
      ((first | refine W.advO 5000 _ _ ?_ | skip); simp only [go_sem, seval, ↓reduceIte, reduceCtorEq, rz_b D, rz_bL D, rz_sbL D, rz_app D, hwi, b1, b2, b3])
      refine W.no rfl ?_
      ((first | refine W.advO 5000 _ _ ?_ | skip); simp only [go_sem, seval, ↓reduceIte, reduceCtorEq, rz_b D, rz_bL D, rz_sbL D, rz_app D, b1, b2, b3])
      refine W.no rfl ?_
      ((first | refine W.advO 5000 _ _ ?_ | skip); simp only [go_sem, seval, ↓reduceIte, reduceCtorEq, rz_b D, rz_bL D, rz_sbL D, rz_app D, b1, b2, b3])
      refine W.yes rfl ?_
      ((first | refine W.advO 5000 _ _ ?_ | skip); simp only [go_sem, seval, ↓reduceIte, reduceCtorEq, rz_b D, rz_bL D, rz_sbL D, rz_app D])
      (refine W.call (DC.lift1R D (fun D' => sr_operator w0 t hT (i + 1) hil 0 l hl hne _ b D')) rfl rfl (by first | rfl | simp) ?_)
      intro d σ1 hR
      rw [hr] at hR
      obtain ⟨s, j, l', e, p, rfl, rfl, hst⟩ := rsen_out hR
      ((first | refine W.advO 5000 _ _ ?_ | skip); simp only [go_sem, seval, ↓reduceIte, reduceCtorEq, rz_b D, rz_bL D, rz_sbL D, rz_app D, sent_v])
      rcases hst with ⟨rfl, rfl, k, rfl, hr'⟩ | ⟨he, hr'⟩
      · subst hr'
        have hkf := before_far hr0
        simp only [dotP]
        by_cases hs2 : s.k = 2
        · have ns2 : (s.k != 2) = false := by simpa using hs2
          rw [if_pos hs2]
          ((first | refine W.advO 5000 _ _ ?_ | skip); simp only [go_sem, seval, ↓reduceIte, reduceCtorEq, rz_b D, rz_bL D, rz_sbL D, rz_app D, ns2])
          refine W.no rfl ?_
          ((first | refine W.advO 5000 _ _ ?_ | skip); simp only [go_sem, seval, ↓reduceIte, reduceCtorEq, rz_b D, rz_bL D, rz_sbL D, rz_app D])
          (refine W.ret (Fin.gen (d := (sentAt s (tokL t i).pos).v) (srd_ok D hok t (k : Nat) l' 0 0) (by (first | rfl | exact List.length_set .. | simp)) (by simp only [resEval, r99, go_sem, seval, ↓reduceIte, reduceCtorEq, sent_v, sentAt, strsC]; rfl) (by simp only [resV, I, S, B, Pre.v, OpT.v, Tok.v, k_mk, name_mk, n_mk, l_mk, pos_mk, Pre.app, List.map_cons, List.map_nil, Pre.cs_eq, sent_v, sentAt, strsC]; (repeat' (first | exact V.wk.rfl _ | exact V.wk.csl _ | exact V.wk.osl _ _ | exact wk_agg_nil | exact wk_tup_nil | refine wk_agg_cons ?_ ?_ | refine wk_tup_cons ?_ ?_))) (by (first | exact .c _ | (simp only [I, S, B, opsC, toksC, Pre.v, Tok.v, OpT.v, low_c, low_void, low_any, low_csl, low_nilf, low_ptr, low_osl, low_agg, low_tup, low_fn, List.forall_mem_cons, List.not_mem_nil, false_implies, implies_true, and_self, and_true, true_and, sent_v, sentAt, strsC]; done))) (by (first | rfl | exact (List.append_nil _).symm)) ?_))
          exact ⟨rfl, rfl⟩
        · have ns2 : (s.k != 2) = true := by simpa using hs2
          rw [if_neg hs2]
          ((first | refine W.advO 5000 _ _ ?_ | skip); simp only [go_sem, seval, ↓reduceIte, reduceCtorEq, rz_b D, rz_bL D, rz_sbL D, rz_app D, ns2])
          refine W.yes rfl ?_
          ((first | refine W.advO 5000 _ _ ?_ | skip); simp only [go_sem, seval, ↓reduceIte, reduceCtorEq, rz_b D, rz_bL D, rz_sbL D, rz_app D])
          (refine W.call1 (DC.lift1 D (fun D' => sr_end0 w0 t hT k (by omega) l' _ b D')) rfl rfl (by first | rfl | simp) ?_; refine W.advO 5000 _ _ ?_; simp only [go_sem, seval, ↓reduceIte, reduceCtorEq, rz_b D, rz_bL D, rz_sbL D, rz_app D])
          unfold endS
          by_cases h7 : (tokL t k).kind = 7
          · simp only [if_pos h7]
            (refine W.ret (Fin.gen (d := (sentAt s (tokL t i).pos).v) (srd_ok D hok t ((k + 1 : Nat) : Int) l' 0 0) (by (first | rfl | exact List.length_set .. | simp)) (by simp only [resEval, r99, go_sem, seval, ↓reduceIte, reduceCtorEq, sent_v, sentAt, strsC]; rfl) (by simp only [resV, I, S, B, Pre.v, OpT.v, Tok.v, k_mk, name_mk, n_mk, l_mk, pos_mk, Pre.app, List.map_cons, List.map_nil, Pre.cs_eq, sent_v, sentAt, strsC]; (repeat' (first | exact V.wk.rfl _ | exact V.wk.csl _ | exact V.wk.osl _ _ | exact wk_agg_nil | exact wk_tup_nil | refine wk_agg_cons ?_ ?_ | refine wk_tup_cons ?_ ?_))) (by (first | exact .c _ | (simp only [I, S, B, opsC, toksC, Pre.v, Tok.v, OpT.v, low_c, low_void, low_any, low_csl, low_nilf, low_ptr, low_osl, low_agg, low_tup, low_fn, List.forall_mem_cons, List.not_mem_nil, false_implies, implies_true, and_self, and_true, true_and, sent_v, sentAt, strsC]; done))) (by (first | rfl | exact (List.append_nil _).symm)) ?_))
            exact ⟨rfl, rfl⟩
          · simp only [if_neg h7]
            (refine W.ret (Fin.gen (d := (sentAt s (tokL t i).pos).v) (srd_ok D hok t ((k + 1 : Nat) : Int) l' 101 (tokL t k).pos) (by (first | rfl | exact List.length_set .. | simp)) (by simp only [resEval, r99, go_sem, seval, ↓reduceIte, reduceCtorEq, sent_v, sentAt, strsC]; rfl) (by simp only [resV, I, S, B, Pre.v, OpT.v, Tok.v, k_mk, name_mk, n_mk, l_mk, pos_mk, Pre.app, List.map_cons, List.map_nil, Pre.cs_eq, sent_v, sentAt, strsC]; (repeat' (first | exact V.wk.rfl _ | exact V.wk.csl _ | exact V.wk.osl _ _ | exact wk_agg_nil | exact wk_tup_nil | refine wk_agg_cons ?_ ?_ | refine wk_tup_cons ?_ ?_))) (by (first | exact .c _ | (simp only [I, S, B, opsC, toksC, Pre.v, Tok.v, OpT.v, low_c, low_void, low_any, low_csl, low_nilf, low_ptr, low_osl, low_agg, low_tup, low_fn, List.forall_mem_cons, List.not_mem_nil, false_implies, implies_true, and_self, and_true, true_and, sent_v, sentAt, strsC]; done))) (by (first | rfl | exact (List.append_nil _).symm)) ?_))
            exact ⟨rfl, _, _, _, rfl, rfl⟩
      · subst hr'
        simp only [dotP]
        by_cases hs2 : s.k = 2
        · have ns2 : (s.k != 2) = false := by simpa using hs2
          ((first | refine W.advO 5000 _ _ ?_ | skip); simp only [go_sem, seval, ↓reduceIte, reduceCtorEq, rz_b D, rz_bL D, rz_sbL D, rz_app D, ns2])
          refine W.no rfl ?_
          ((first | refine W.advO 5000 _ _ ?_ | skip); simp only [go_sem, seval, ↓reduceIte, reduceCtorEq, rz_b D, rz_bL D, rz_sbL D, rz_app D])
          (refine W.ret (Fin.gen (d := (sentAt s (tokL t i).pos).v) (srd_ok D hok t j l' e p) (by (first | rfl | exact List.length_set .. | simp)) (by simp only [resEval, r99, go_sem, seval, ↓reduceIte, reduceCtorEq, sent_v, sentAt, strsC]; rfl) (by simp only [resV, I, S, B, Pre.v, OpT.v, Tok.v, k_mk, name_mk, n_mk, l_mk, pos_mk, Pre.app, List.map_cons, List.map_nil, Pre.cs_eq, sent_v, sentAt, strsC]; (repeat' (first | exact V.wk.rfl _ | exact V.wk.csl _ | exact V.wk.osl _ _ | exact wk_agg_nil | exact wk_tup_nil | refine wk_agg_cons ?_ ?_ | refine wk_tup_cons ?_ ?_))) (by (first | exact .c _ | (simp only [I, S, B, opsC, toksC, Pre.v, Tok.v, OpT.v, low_c, low_void, low_any, low_csl, low_nilf, low_ptr, low_osl, low_agg, low_tup, low_fn, List.forall_mem_cons, List.not_mem_nil, false_implies, implies_true, and_self, and_true, true_and, sent_v, sentAt, strsC]; done))) (by (first | rfl | exact (List.append_nil _).symm)) ?_))
          exact ⟨he, _, _, _, rfl, rfl⟩
        · have ns2 : (s.k != 2) = true := by simpa using hs2
          ((first | refine W.advO 5000 _ _ ?_ | skip); simp only [go_sem, seval, ↓reduceIte, reduceCtorEq, rz_b D, rz_bL D, rz_sbL D, rz_app D, ns2])
          refine W.yes rfl ?_
          ((first | refine W.advO 5000 _ _ ?_ | skip); simp only [go_sem, seval, ↓reduceIte, reduceCtorEq, rz_b D, rz_bL D, rz_sbL D, rz_app D])
          (refine W.call1 (DC.lift1 D (fun D' => sr_end1 w0 t j l' e p he _ b D')) rfl rfl (by first | rfl | simp) ?_; refine W.advO 5000 _ _ ?_; simp only [go_sem, seval, ↓reduceIte, reduceCtorEq, rz_b D, rz_bL D, rz_sbL D, rz_app D])
          (refine W.ret (Fin.gen (d := (sentAt s (tokL t i).pos).v) (srd_ok D hok t j l' e p) (by (first | rfl | exact List.length_set .. | simp)) (by simp only [resEval, r99, go_sem, seval, ↓reduceIte, reduceCtorEq, sent_v, sentAt, strsC]; rfl) (by simp only [resV, I, S, B, Pre.v, OpT.v, Tok.v, k_mk, name_mk, n_mk, l_mk, pos_mk, Pre.app, List.map_cons, List.map_nil, Pre.cs_eq, sent_v, sentAt, strsC]; (repeat' (first | exact V.wk.rfl _ | exact V.wk.csl _ | exact V.wk.osl _ _ | exact wk_agg_nil | exact wk_tup_nil | refine wk_agg_cons ?_ ?_ | refine wk_tup_cons ?_ ?_))) (by (first | exact .c _ | (simp only [I, S, B, opsC, toksC, Pre.v, Tok.v, OpT.v, low_c, low_void, low_any, low_csl, low_nilf, low_ptr, low_osl, low_agg, low_tup, low_fn, List.forall_mem_cons, List.not_mem_nil, false_implies, implies_true, and_self, and_true, true_and, sent_v, sentAt, strsC]; done))) (by (first | rfl | exact (List.append_nil _).symm)) ?_))
          exact ⟨he, _, _, _, rfl, rfl⟩
    rw [if_neg e3] at hr
    by_cases e4 : (tokL t i).text = [105, 110, 102, 105, 120, 108]
    · rw [if_pos e4] at hr
      have hw : words5.contains (tokL t i).text = true := by rw [e4]; rfl
      have b1 : ((tokL t i).text == [107, 105, 110, 100]) = false := by simpa using e1
      have b2 : ((tokL t i).text == [116, 121, 112, 101]) = false := by simpa using e2
      have b3 : ((tokL t i).text == [105, 110, 102, 105, 120]) = false := by simpa using e3
      have b4 : ((tokL t i).text == [105, 110, 102, 105, 120, 108]) = true := by simpa using e4
      apply W.dregE (List.cons_ne_nil _ _)
      case hc =>
        (apply CanonE.advPO; simp only [advPO_nil, advPO_loud, advPO_quiet, pL_yes, pL_no, pLS_some, pLS_none, pQ_yes, pQ_no, pQS_some, pQS_loud, eq_self, Nat.sub_zero, go_sem, seval, ↓reduceIte, reduceCtorEq, rz_b D, rz_bL D, rz_sbL D, rz_app D, n1])
        (apply CanonE.call (source_Words w0 _); (case hg => rfl); (case hf => rfl); (case ha => first | rfl | simp))
        (apply CanonE.advPO; simp only [advPO_nil, advPO_loud, advPO_quiet, pL_yes, pL_no, pLS_some, pLS_none, pQ_yes, pQ_no, pQS_some, pQS_loud, eq_self, Nat.sub_zero, go_sem, seval, ↓reduceIte, reduceCtorEq, rz_b D, rz_bL D, rz_sbL D, rz_app D, n1])
        (apply CanonE.callw (str_contains w0 words5 (tokL t i).text _); (case hg => rfl); (case hf => rfl); (case ha => rfl); (case hw => ((repeat' (first | exact V.wk.rfl _ | exact V.wk.csl _ | exact V.wk.osl _ _ | exact wk_agg_nil | exact wk_tup_nil | refine wk_agg_cons ?_ ?_ | refine wk_tup_cons ?_ ?_)))))
        (apply CanonE.advPO; simp only [advPO_nil, advPO_loud, advPO_quiet, pL_yes, pL_no, pLS_some, pLS_none, pQ_yes, pQ_no, pQS_some, pQS_loud, eq_self, Nat.sub_zero, go_sem, seval, ↓reduceIte, reduceCtorEq, rz_b D, rz_bL D, rz_sbL D, rz_app D, n1, hw])
        exact CanonE.nil
      ((first | refine W.advO 5000 _ _ ?_ | skip); simp only [go_sem, seval, ↓reduceIte, reduceCtorEq, rz_b D, rz_bL D, rz_sbL D, rz_app D])
      refine W.yes rfl ?_
      ((first | refine W.advO 5000 _ _ ?_ | skip); simp only [go_sem, seval, ↓reduceIte, reduceCtorEq, rz_b D, rz_bL D, rz_sbL D, rz_app D, hwi, b1, b2, b3, b4])
      refine W.no rfl ?_
      ((first | refine W.advO 5000 _ _ ?_ | skip); simp only [go_sem, seval, ↓reduceIte, reduceCtorEq, rz_b D, rz_bL D, rz_sbL D, rz_app D, b1, b2, b3, b4])
      refine W.no rfl ?_
      ((first | refine W.advO 5000 _ _ ?_ | skip); simp only [go_sem, seval, ↓reduceIte, reduceCtorEq, rz_b D, rz_bL D, rz_sbL D, rz_app D, b1, b2, b3, b4])
      refine W.no rfl ?_
      ((first | refine W.advO 5000 _ _ ?_ | skip); simp only [go_sem, seval, ↓reduceIte, reduceCtorEq, rz_b D, rz_bL D, rz_sbL D, rz_app D, b1, b2, b3, b4])
      refine W.yes rfl ?_
      ((first | refine W.advO 5000 _ _ ?_ | skip); simp only [go_sem, seval, ↓reduceIte, reduceCtorEq, rz_b D, rz_bL D, rz_sbL D, rz_app D])
      (refine W.call (DC.lift1R D (fun D' => sr_operator w0 t hT (i + 1) hil 1 l hl hne _ b D')) rfl rfl (by first | rfl | simp) ?_)
      intro d σ1 hR
      rw [hr] at hR
      obtain ⟨s, j, l', e, p, rfl, rfl, hst⟩ := rsen_out hR
      ((first | refine W.advO 5000 _ _ ?_ | skip); simp only [go_sem, seval, ↓reduceIte, reduceCtorEq, rz_b D, rz_bL D, rz_sbL D, rz_app D, sent_v])
      rcases hst with ⟨rfl, rfl, k, rfl, hr'⟩ | ⟨he, hr'⟩
      · subst hr'
        have hkf := before_far hr0
        simp only [dotP]
        by_cases hs2 : s.k = 2
        · have ns2 : (s.k != 2) = false := by simpa using hs2
          rw [if_pos hs2]
          ((first | refine W.advO 5000 _ _ ?_ | skip); simp only [go_sem, seval, ↓reduceIte, reduceCtorEq, rz_b D, rz_bL D, rz_sbL D, rz_app D, ns2])
          refine W.no rfl ?_
          ((first | refine W.advO 5000 _ _ ?_ | skip); simp only [go_sem, seval, ↓reduceIte, reduceCtorEq, rz_b D, rz_bL D, rz_sbL D, rz_app D])
          (refine W.ret (Fin.gen (d := (sentAt s (tokL t i).pos).v) (srd_ok D hok t (k : Nat) l' 0 0) (by (first | rfl | exact List.length_set .. | simp)) (by simp only [resEval, r99, go_sem, seval, ↓reduceIte, reduceCtorEq, sent_v, sentAt, strsC]; rfl) (by simp only [resV, I, S, B, Pre.v, OpT.v, Tok.v, k_mk, name_mk, n_mk, l_mk, pos_mk, Pre.app, List.map_cons, List.map_nil, Pre.cs_eq, sent_v, sentAt, strsC]; (repeat' (first | exact V.wk.rfl _ | exact V.wk.csl _ | exact V.wk.osl _ _ | exact wk_agg_nil | exact wk_tup_nil | refine wk_agg_cons ?_ ?_ | refine wk_tup_cons ?_ ?_))) (by (first | exact .c _ | (simp only [I, S, B, opsC, toksC, Pre.v, Tok.v, OpT.v, low_c, low_void, low_any, low_csl, low_nilf, low_ptr, low_osl, low_agg, low_tup, low_fn, List.forall_mem_cons, List.not_mem_nil, false_implies, implies_true, and_self, and_true, true_and, sent_v, sentAt, strsC]; done))) (by (first | rfl | exact (List.append_nil _).symm)) ?_))
          exact ⟨rfl, rfl⟩
        · have ns2 : (s.k != 2) = true := by simpa using hs2
          rw [if_neg hs2]
          ((first | refine W.advO 5000 _ _ ?_ | skip); simp only [go_sem, seval, ↓reduceIte, reduceCtorEq, rz_b D, rz_bL D, rz_sbL D, rz_app D, ns2])
          refine W.yes rfl ?_
          ((first | refine W.advO 5000 _ _ ?_ | skip); simp only [go_sem, seval, ↓reduceIte, reduceCtorEq, rz_b D, rz_bL D, rz_sbL D, rz_app D])
          (refine W.call1 (DC.lift1 D (fun D' => sr_end0 w0 t hT k (by omega) l' _ b D')) rfl rfl (by first | rfl | simp) ?_; refine W.advO 5000 _ _ ?_; simp only [go_sem, seval, ↓reduceIte, reduceCtorEq, rz_b D, rz_bL D, rz_sbL D, rz_app D])
          unfold endS
          by_cases h7 : (tokL t k).kind = 7
          · simp only [if_pos h7]
            (refine W.ret (Fin.gen (d := (sentAt s (tokL t i).pos).v) (srd_ok D hok t ((k + 1 : Nat) : Int) l' 0 0) (by (first | rfl | exact List.length_set .. | simp)) (by simp only [resEval, r99, go_sem, seval, ↓reduceIte, reduceCtorEq, sent_v, sentAt, strsC]; rfl) (by simp only [resV, I, S, B, Pre.v, OpT.v, Tok.v, k_mk, name_mk, n_mk, l_mk, pos_mk, Pre.app, List.map_cons, List.map_nil, Pre.cs_eq, sent_v, sentAt, strsC]; (repeat' (first | exact V.wk.rfl _ | exact V.wk.csl _ | exact V.wk.osl _ _ | exact wk_agg_nil | exact wk_tup_nil | refine wk_agg_cons ?_ ?_ | refine wk_tup_cons ?_ ?_))) (by (first | exact .c _ | (simp only [I, S, B, opsC, toksC, Pre.v, Tok.v, OpT.v, low_c, low_void, low_any, low_csl, low_nilf, low_ptr, low_osl, low_agg, low_tup, low_fn, List.forall_mem_cons, List.not_mem_nil, false_implies, implies_true, and_self, and_true, true_and, sent_v, sentAt, strsC]; done))) (by (first | rfl | exact (List.append_nil _).symm)) ?_))
            exact ⟨rfl, rfl⟩
          · simp only [if_neg h7]
            (refine W.ret (Fin.gen (d := (sentAt s (tokL t i).pos).v) (srd_ok D hok t ((k + 1 : Nat) : Int) l' 101 (tokL t k).pos) (by (first | rfl | exact List.length_set .. | simp)) (by simp only [resEval, r99, go_sem, seval, ↓reduceIte, reduceCtorEq, sent_v, sentAt, strsC]; rfl) (by simp only [resV, I, S, B, Pre.v, OpT.v, Tok.v, k_mk, name_mk, n_mk, l_mk, pos_mk, Pre.app, List.map_cons, List.map_nil, Pre.cs_eq, sent_v, sentAt, strsC]; (repeat' (first | exact V.wk.rfl _ | exact V.wk.csl _ | exact V.wk.osl _ _ | exact wk_agg_nil | exact wk_tup_nil | refine wk_agg_cons ?_ ?_ | refine wk_tup_cons ?_ ?_))) (by (first | exact .c _ | (simp only [I, S, B, opsC, toksC, Pre.v, Tok.v, OpT.v, low_c, low_void, low_any, low_csl, low_nilf, low_ptr, low_osl, low_agg, low_tup, low_fn, List.forall_mem_cons, List.not_mem_nil, false_implies, implies_true, and_self, and_true, true_and, sent_v, sentAt, strsC]; done))) (by (first | rfl | exact (List.append_nil _).symm)) ?_))
            exact ⟨rfl, _, _, _, rfl, rfl⟩
      · subst hr'
        simp only [dotP]
        by_cases hs2 : s.k = 2
        · have ns2 : (s.k != 2) = false := by simpa using hs2
          ((first | refine W.advO 5000 _ _ ?_ | skip); simp only [go_sem, seval, ↓reduceIte, reduceCtorEq, rz_b D, rz_bL D, rz_sbL D, rz_app D, ns2])
          refine W.no rfl ?_
          ((first | refine W.advO 5000 _ _ ?_ | skip); simp only [go_sem, seval, ↓reduceIte, reduceCtorEq, rz_b D, rz_bL D, rz_sbL D, rz_app D])
          (refine W.ret (Fin.gen (d := (sentAt s (tokL t i).pos).v) (srd_ok D hok t j l' e p) (by (first | rfl | exact List.length_set .. | simp)) (by simp only [resEval, r99, go_sem, seval, ↓reduceIte, reduceCtorEq, sent_v, sentAt, strsC]; rfl) (by simp only [resV, I, S, B, Pre.v, OpT.v, Tok.v, k_mk, name_mk, n_mk, l_mk, pos_mk, Pre.app, List.map_cons, List.map_nil, Pre.cs_eq, sent_v, sentAt, strsC]; (repeat' (first | exact V.wk.rfl _ | exact V.wk.csl _ | exact V.wk.osl _ _ | exact wk_agg_nil | exact wk_tup_nil | refine wk_agg_cons ?_ ?_ | refine wk_tup_cons ?_ ?_))) (by (first | exact .c _ | (simp only [I, S, B, opsC, toksC, Pre.v, Tok.v, OpT.v, low_c, low_void, low_any, low_csl, low_nilf, low_ptr, low_osl, low_agg, low_tup, low_fn, List.forall_mem_cons, List.not_mem_nil, false_implies, implies_true, and_self, and_true, true_and, sent_v, sentAt, strsC]; done))) (by (first | rfl | exact (List.append_nil _).symm)) ?_))
          exact ⟨he, _, _, _, rfl, rfl⟩
        · have ns2 : (s.k != 2) = true := by simpa using hs2
          ((first | refine W.advO 5000 _ _ ?_ | skip); simp only [go_sem, seval, ↓reduceIte, reduceCtorEq, rz_b D, rz_bL D, rz_sbL D, rz_app D, ns2])
          refine W.yes rfl ?_
          ((first | refine W.advO 5000 _ _ ?_ | skip); simp only [go_sem, seval, ↓reduceIte, reduceCtorEq, rz_b D, rz_bL D, rz_sbL D, rz_app D])
          (refine W.call1 (DC.lift1 D (fun D' => sr_end1 w0 t j l' e p he _ b D')) rfl rfl (by first | rfl | simp) ?_; refine W.advO 5000 _ _ ?_; simp only [go_sem, seval, ↓reduceIte, reduceCtorEq, rz_b D, rz_bL D, rz_sbL D, rz_app D])
          (refine W.ret (Fin.gen (d := (sentAt s (tokL t i).pos).v) (srd_ok D hok t j l' e p) (by (first | rfl | exact List.length_set .. | simp)) (by simp only [resEval, r99, go_sem, seval, ↓reduceIte, reduceCtorEq, sent_v, sentAt, strsC]; rfl) (by simp only [resV, I, S, B, Pre.v, OpT.v, Tok.v, k_mk, name_mk, n_mk, l_mk, pos_mk, Pre.app, List.map_cons, List.map_nil, Pre.cs_eq, sent_v, sentAt, strsC]; (repeat' (first | exact V.wk.rfl _ | exact V.wk.csl _ | exact V.wk.osl _ _ | exact wk_agg_nil | exact wk_tup_nil | refine wk_agg_cons ?_ ?_ | refine wk_tup_cons ?_ ?_))) (by (first | exact .c _ | (simp only [I, S, B, opsC, toksC, Pre.v, Tok.v, OpT.v, low_c, low_void, low_any, low_csl, low_nilf, low_ptr, low_osl, low_agg, low_tup, low_fn, List.forall_mem_cons, List.not_mem_nil, false_implies, implies_true, and_self, and_true, true_and, sent_v, sentAt, strsC]; done))) (by (first | rfl | exact (List.append_nil _).symm)) ?_))
          exact ⟨he, _, _, _, rfl, rfl⟩
    rw [if_neg e4] at hr
    by_cases e5 : (tokL t i).text = [105, 110, 102, 105, 120, 114]
    · rw [if_pos e5] at hr
      have hw : words5.contains (tokL t i).text = true := by rw [e5]; rfl
      have b1 : ((tokL t i).text == [107, 105, 110, 100]) = false := by simpa using e1
      have b2 : ((tokL t i).text == [116, 121, 112, 101]) = false := by simpa using e2
      have b3 : ((tokL t i).text == [105, 110, 102, 105, 120]) = false := by simpa using e3
      have b4 : ((tokL t i).text == [105, 110, 102, 105, 120, 108]) = false := by simpa using e4
      have b5 : ((tokL t i).text == [105, 110, 102, 105, 120, 114]) = true := by simpa using e5
      apply W.dregE (List.cons_ne_nil _ _)
      case hc =>
        (apply CanonE.advPO; simp only [advPO_nil, advPO_loud, advPO_quiet, pL_yes, pL_no, pLS_some, pLS_none, pQ_yes, pQ_no, pQS_some, pQS_loud, eq_self, Nat.sub_zero, go_sem, seval, ↓reduceIte, reduceCtorEq, rz_b D, rz_bL D, rz_sbL D, rz_app D, n1])
        (apply CanonE.call (source_Words w0 _); (case hg => rfl); (case hf => rfl); (case ha => first | rfl | simp))
        (apply CanonE.advPO; simp only [advPO_nil, advPO_loud, advPO_quiet, pL_yes, pL_no, pLS_some, pLS_none, pQ_yes, pQ_no, pQS_some, pQS_loud, eq_self, Nat.sub_zero, go_sem, seval, ↓reduceIte, reduceCtorEq, rz_b D, rz_bL D, rz_sbL D, rz_app D, n1])
        (apply CanonE.callw (str_contains w0 words5 (tokL t i).text _); (case hg => rfl); (case hf => rfl); (case ha => rfl); (case hw => ((repeat' (first | exact V.wk.rfl _ | exact V.wk.csl _ | exact V.wk.osl _ _ | exact wk_agg_nil | exact wk_tup_nil | refine wk_agg_cons ?_ ?_ | refine wk_tup_cons ?_ ?_)))))
        (apply CanonE.advPO; simp only [advPO_nil, advPO_loud, advPO_quiet, pL_yes, pL_no, pLS_some, pLS_none, pQ_yes, pQ_no, pQS_some, pQS_loud, eq_self, Nat.sub_zero, go_sem, seval, ↓reduceIte, reduceCtorEq, rz_b D, rz_bL D, rz_sbL D, rz_app D, n1, hw])
        exact CanonE.nil
      ((first | refine W.advO 5000 _ _ ?_ | skip); simp only [go_sem, seval, ↓reduceIte, reduceCtorEq, rz_b D, rz_bL D, rz_sbL D, rz_app D])
      refine W.yes rfl ?_
      ((first | refine W.advO 5000 _ _ ?_ | skip); simp only [go_sem, seval, ↓reduceIte, reduceCtorEq, rz_b D, rz_bL D, rz_sbL D, rz_app D, hwi, b1, b2, b3, b4, b5])
      refine W.no rfl ?_
      ((first | refine W.advO 5000 _ _ ?_ | skip); simp only [go_sem, seval, ↓reduceIte, reduceCtorEq, rz_b D, rz_bL D, rz_sbL D, rz_app D, b1, b2, b3, b4, b5])
      refine W.no rfl ?_
      ((first | refine W.advO 5000 _ _ ?_ | skip); simp only [go_sem, seval, ↓reduceIte, reduceCtorEq, rz_b D, rz_bL D, rz_sbL D, rz_app D, b1, b2, b3, b4, b5])
      refine W.no rfl ?_
      ((first | refine W.advO 5000 _ _ ?_ | skip); simp only [go_sem, seval, ↓reduceIte, reduceCtorEq, rz_b D, rz_bL D, rz_sbL D, rz_app D, b1, b2, b3, b4, b5])
      refine W.no rfl ?_
      ((first | refine W.advO 5000 _ _ ?_ | skip); simp only [go_sem, seval, ↓reduceIte, reduceCtorEq, rz_b D, rz_bL D, rz_sbL D, rz_app D, b1, b2, b3, b4, b5])
      refine W.yes rfl ?_
      ((first | refine W.advO 5000 _ _ ?_ | skip); simp only [go_sem, seval, ↓reduceIte, reduceCtorEq, rz_b D, rz_bL D, rz_sbL D, rz_app D])
      (refine W.call (DC.lift1R D (fun D' => sr_operator w0 t hT (i + 1) hil 2 l hl hne _ b D')) rfl rfl (by first | rfl | simp) ?_)
      intro d σ1 hR
      rw [hr] at hR
      obtain ⟨s, j, l', e, p, rfl, rfl, hst⟩ := rsen_out hR
      ((first | refine W.advO 5000 _ _ ?_ | skip); simp only [go_sem, seval, ↓reduceIte, reduceCtorEq, rz_b D, rz_bL D, rz_sbL D, rz_app D, sent_v])
      rcases hst with ⟨rfl, rfl, k, rfl, hr'⟩ | ⟨he, hr'⟩
      · subst hr'
        have hkf := before_far hr0
        simp only [dotP]
        by_cases hs2 : s.k = 2
        · have ns2 : (s.k != 2) = false := by simpa using hs2
          rw [if_pos hs2]
          ((first | refine W.advO 5000 _ _ ?_ | skip); simp only [go_sem, seval, ↓reduceIte, reduceCtorEq, rz_b D, rz_bL D, rz_sbL D, rz_app D, ns2])
          refine W.no rfl ?_
          ((first | refine W.advO 5000 _ _ ?_ | skip); simp only [go_sem, seval, ↓reduceIte, reduceCtorEq, rz_b D, rz_bL D, rz_sbL D, rz_app D])
          (refine W.ret (Fin.gen (d := (sentAt s (tokL t i).pos).v) (srd_ok D hok t (k : Nat) l' 0 0) (by (first | rfl | exact List.length_set .. | simp)) (by simp only [resEval, r99, go_sem, seval, ↓reduceIte, reduceCtorEq, sent_v, sentAt, strsC]; rfl) (by simp only [resV, I, S, B, Pre.v, OpT.v, Tok.v, k_mk, name_mk, n_mk, l_mk, pos_mk, Pre.app, List.map_cons, List.map_nil, Pre.cs_eq, sent_v, sentAt, strsC]; (repeat' (first | exact V.wk.rfl _ | exact V.wk.csl _ | exact V.wk.osl _ _ | exact wk_agg_nil | exact wk_tup_nil | refine wk_agg_cons ?_ ?_ | refine wk_tup_cons ?_ ?_))) (by (first | exact .c _ | (simp only [I, S, B, opsC, toksC, Pre.v, Tok.v, OpT.v, low_c, low_void, low_any, low_csl, low_nilf, low_ptr, low_osl, low_agg, low_tup, low_fn, List.forall_mem_cons, List.not_mem_nil, false_implies, implies_true, and_self, and_true, true_and, sent_v, sentAt, strsC]; done))) (by (first | rfl | exact (List.append_nil _).symm)) ?_))
          exact ⟨rfl, rfl⟩
        · have ns2 : (s.k != 2) = true := by simpa using hs2
          rw [if_neg hs2]
          ((first | refine W.advO 5000 _ _ ?_ | skip); simp only [go_sem, seval, ↓reduceIte, reduceCtorEq, rz_b D, rz_bL D, rz_sbL D, rz_app D, ns2])
          refine W.yes rfl ?_
          ((first | refine W.advO 5000 _ _ ?_ | skip); simp only [go_sem, seval, ↓reduceIte, reduceCtorEq, rz_b D, rz_bL D, rz_sbL D, rz_app D])
          (refine W.call1 (DC.lift1 D (fun D' => sr_end0 w0 t hT k (by omega) l' _ b D')) rfl rfl (by first | rfl | simp) ?_; refine W.advO 5000 _ _ ?_; simp only [go_sem, seval, ↓reduceIte, reduceCtorEq, rz_b D, rz_bL D, rz_sbL D, rz_app D])
          unfold endS
          by_cases h7 : (tokL t k).kind = 7
          · simp only [if_pos h7]
            (refine W.ret (Fin.gen (d := (sentAt s (tokL t i).pos).v) (srd_ok D hok t ((k + 1 : Nat) : Int) l' 0 0) (by (first | rfl | exact List.length_set .. | simp)) (by simp only [resEval, r99, go_sem, seval, ↓reduceIte, reduceCtorEq, sent_v, sentAt, strsC]; rfl) (by simp only [resV, I, S, B, Pre.v, OpT.v, Tok.v, k_mk, name_mk, n_mk, l_mk, pos_mk, Pre.app, List.map_cons, List.map_nil, Pre.cs_eq, sent_v, sentAt, strsC]; (repeat' (first | exact V.wk.rfl _ | exact V.wk.csl _ | exact V.wk.osl _ _ | exact wk_agg_nil | exact wk_tup_nil | refine wk_agg_cons ?_ ?_ | refine wk_tup_cons ?_ ?_))) (by (first | exact .c _ | (simp only [I, S, B, opsC, toksC, Pre.v, Tok.v, OpT.v, low_c, low_void, low_any, low_csl, low_nilf, low_ptr, low_osl, low_agg, low_tup, low_fn, List.forall_mem_cons, List.not_mem_nil, false_implies, implies_true, and_self, and_true, true_and, sent_v, sentAt, strsC]; done))) (by (first | rfl | exact (List.append_nil _).symm)) ?_))
            exact ⟨rfl, rfl⟩
          · simp only [if_neg h7]
            (refine W.ret (Fin.gen (d := (sentAt s (tokL t i).pos).v) (srd_ok D hok t ((k + 1 : Nat) : Int) l' 101 (tokL t k).pos) (by (first | rfl | exact List.length_set .. | simp)) (by simp only [resEval, r99, go_sem, seval, ↓reduceIte, reduceCtorEq, sent_v, sentAt, strsC]; rfl) (by simp only [resV, I, S, B, Pre.v, OpT.v, Tok.v, k_mk, name_mk, n_mk, l_mk, pos_mk, Pre.app, List.map_cons, List.map_nil, Pre.cs_eq, sent_v, sentAt, strsC]; (repeat' (first | exact V.wk.rfl _ | exact V.wk.csl _ | exact V.wk.osl _ _ | exact wk_agg_nil | exact wk_tup_nil | refine wk_agg_cons ?_ ?_ | refine wk_tup_cons ?_ ?_))) (by (first | exact .c _ | (simp only [I, S, B, opsC, toksC, Pre.v, Tok.v, OpT.v, low_c, low_void, low_any, low_csl, low_nilf, low_ptr, low_osl, low_agg, low_tup, low_fn, List.forall_mem_cons, List.not_mem_nil, false_implies, implies_true, and_self, and_true, true_and, sent_v, sentAt, strsC]; done))) (by (first | rfl | exact (List.append_nil _).symm)) ?_))
            exact ⟨rfl, _, _, _, rfl, rfl⟩
      · subst hr'
        simp only [dotP]
        by_cases hs2 : s.k = 2
        · have ns2 : (s.k != 2) = false := by simpa using hs2
          ((first | refine W.advO 5000 _ _ ?_ | skip); simp only [go_sem, seval, ↓reduceIte, reduceCtorEq, rz_b D, rz_bL D, rz_sbL D, rz_app D, ns2])
          refine W.no rfl ?_
          ((first | refine W.advO 5000 _ _ ?_ | skip); simp only [go_sem, seval, ↓reduceIte, reduceCtorEq, rz_b D, rz_bL D, rz_sbL D, rz_app D])
          (refine W.ret (Fin.gen (d := (sentAt s (tokL t i).pos).v) (srd_ok D hok t j l' e p) (by (first | rfl | exact List.length_set .. | simp)) (by simp only [resEval, r99, go_sem, seval, ↓reduceIte, reduceCtorEq, sent_v, sentAt, strsC]; rfl) (by simp only [resV, I, S, B, Pre.v, OpT.v, Tok.v, k_mk, name_mk, n_mk, l_mk, pos_mk, Pre.app, List.map_cons, List.map_nil, Pre.cs_eq, sent_v, sentAt, strsC]; (repeat' (first | exact V.wk.rfl _ | exact V.wk.csl _ | exact V.wk.osl _ _ | exact wk_agg_nil | exact wk_tup_nil | refine wk_agg_cons ?_ ?_ | refine wk_tup_cons ?_ ?_))) (by (first | exact .c _ | (simp only [I, S, B, opsC, toksC, Pre.v, Tok.v, OpT.v, low_c, low_void, low_any, low_csl, low_nilf, low_ptr, low_osl, low_agg, low_tup, low_fn, List.forall_mem_cons, List.not_mem_nil, false_implies, implies_true, and_self, and_true, true_and, sent_v, sentAt, strsC]; done))) (by (first | rfl | exact (List.append_nil _).symm)) ?_))
          exact ⟨he, _, _, _, rfl, rfl⟩
        · have ns2 : (s.k != 2) = true := by simpa using hs2
          ((first | refine W.advO 5000 _ _ ?_ | skip); simp only [go_sem, seval, ↓reduceIte, reduceCtorEq, rz_b D, rz_bL D, rz_sbL D, rz_app D, ns2])
          refine W.yes rfl ?_
          ((first | refine W.advO 5000 _ _ ?_ | skip); simp only [go_sem, seval, ↓reduceIte, reduceCtorEq, rz_b D, rz_bL D, rz_sbL D, rz_app D])
          (refine W.call1 (DC.lift1 D (fun D' => sr_end1 w0 t j l' e p he _ b D')) rfl rfl (by first | rfl | simp) ?_; refine W.advO 5000 _ _ ?_; simp only [go_sem, seval, ↓reduceIte, reduceCtorEq, rz_b D, rz_bL D, rz_sbL D, rz_app D])
          (refine W.ret (Fin.gen (d := (sentAt s (tokL t i).pos).v) (srd_ok D hok t j l' e p) (by (first | rfl | exact List.length_set .. | simp)) (by simp only [resEval, r99, go_sem, seval, ↓reduceIte, reduceCtorEq, sent_v, sentAt, strsC]; rfl) (by simp only [resV, I, S, B, Pre.v, OpT.v, Tok.v, k_mk, name_mk, n_mk, l_mk, pos_mk, Pre.app, List.map_cons, List.map_nil, Pre.cs_eq, sent_v, sentAt, strsC]; (repeat' (first | exact V.wk.rfl _ | exact V.wk.csl _ | exact V.wk.osl _ _ | exact wk_agg_nil | exact wk_tup_nil | refine wk_agg_cons ?_ ?_ | refine wk_tup_cons ?_ ?_))) (by (first | exact .c _ | (simp only [I, S, B, opsC, toksC, Pre.v, Tok.v, OpT.v, low_c, low_void, low_any, low_csl, low_nilf, low_ptr, low_osl, low_agg, low_tup, low_fn, List.forall_mem_cons, List.not_mem_nil, false_implies, implies_true, and_self, and_true, true_and, sent_v, sentAt, strsC]; done))) (by (first | rfl | exact (List.append_nil _).symm)) ?_))
          exact ⟨he, _, _, _, rfl, rfl⟩
    rw [if_neg e5] at hr
    have hw : words5.contains (tokL t i).text = false := by
      cases h : words5.contains (tokL t i).text
      · rfl
      · rw [List.contains_iff_mem] at h
        simp only [words5, List.mem_cons, List.not_mem_nil, or_false] at h
        rcases h with h | h | h | h | h
        · exact absurd h e1
        · exact absurd h e2
        · exact absurd h e3
        · exact absurd h e4
        · exact absurd h e5
    apply W.dregE (List.cons_ne_nil _ _)
    case hc =>
      (apply CanonE.advPO; simp only [advPO_nil, advPO_loud, advPO_quiet, pL_yes, pL_no, pLS_some, pLS_none, pQ_yes, pQ_no, pQS_some, pQS_loud, eq_self, Nat.sub_zero, go_sem, seval, ↓reduceIte, reduceCtorEq, rz_b D, rz_bL D, rz_sbL D, rz_app D, n1])
      (apply CanonE.call (source_Words w0 _); (case hg => rfl); (case hf => rfl); (case ha => first | rfl | simp))
      (apply CanonE.advPO; simp only [advPO_nil, advPO_loud, advPO_quiet, pL_yes, pL_no, pLS_some, pLS_none, pQ_yes, pQ_no, pQS_some, pQS_loud, eq_self, Nat.sub_zero, go_sem, seval, ↓reduceIte, reduceCtorEq, rz_b D, rz_bL D, rz_sbL D, rz_app D, n1])
      (apply CanonE.callw (str_contains w0 words5 (tokL t i).text _); (case hg => rfl); (case hf => rfl); (case ha => rfl); (case hw => ((repeat' (first | exact V.wk.rfl _ | exact V.wk.csl _ | exact V.wk.osl _ _ | exact wk_agg_nil | exact wk_tup_nil | refine wk_agg_cons ?_ ?_ | refine wk_tup_cons ?_ ?_)))))
      (apply CanonE.advPO; simp only [advPO_nil, advPO_loud, advPO_quiet, pL_yes, pL_no, pLS_some, pLS_none, pQ_yes, pQ_no, pQS_some, pQS_loud, eq_self, Nat.sub_zero, go_sem, seval, ↓reduceIte, reduceCtorEq, rz_b D, rz_bL D, rz_sbL D, rz_app D, n1, hw])
      exact CanonE.nil
    ((first | refine W.advO 5000 _ _ ?_ | skip); simp only [go_sem, seval, ↓reduceIte, reduceCtorEq, rz_b D, rz_bL D, rz_sbL D, rz_app D])
    refine W.no rfl ?_
    ((first | refine W.advO 5000 _ _ ?_ | skip); simp only [go_sem, seval, ↓reduceIte, reduceCtorEq, rz_b D, rz_bL D, rz_sbL D, rz_app D])
    refine W.no rfl ?_
    ((first | refine W.advO 5000 _ _ ?_ | skip); simp only [go_sem, seval, ↓reduceIte, reduceCtorEq, rz_b D, rz_bL D, rz_sbL D, rz_app D])
    refine W.no rfl ?_
    ((first | refine W.advO 5000 _ _ ?_ | skip); simp only [go_sem, seval, ↓reduceIte, reduceCtorEq, rz_b D, rz_bL D, rz_sbL D, rz_app D])
    refine W.no rfl ?_
    ((first | refine W.advO 5000 _ _ ?_ | skip); simp only [go_sem, seval, ↓reduceIte, reduceCtorEq, rz_b D, rz_bL D, rz_sbL D, rz_app D])
    refine W.no rfl ?_
    ((first | refine W.advO 5000 _ _ ?_ | skip); simp only [go_sem, seval, ↓reduceIte, reduceCtorEq, rz_b D, rz_bL D, rz_sbL D, rz_app D])
    refine W.no rfl ?_
    ((first | refine W.advO 5000 _ _ ?_ | skip); simp only [go_sem, seval, ↓reduceIte, reduceCtorEq, rz_b D, rz_bL D, rz_sbL D, rz_app D])
    (refine W.call (DC.lift1R D (fun D' => sr_clause w0 t hT i hi l _ b D')) rfl rfl (by first | rfl | simp) ?_)
    intro d σ1 hR
    rw [hr] at hR
    obtain ⟨s, j, l', e, p, rfl, rfl, hst⟩ := rsen_out hR
    ((first | refine W.advO 5000 _ _ ?_ | skip); simp only [go_sem, seval, ↓reduceIte, reduceCtorEq, rz_b D, rz_bL D, rz_sbL D, rz_app D, sent_v])
    rcases hst with ⟨rfl, rfl, k, rfl, hr'⟩ | ⟨he, hr'⟩
    · subst hr'
      have hkf := before_far hr0
      simp only [dotP]
      by_cases hs2 : s.k = 2
      · have ns2 : (s.k != 2) = false := by simpa using hs2
        rw [if_pos hs2]
        ((first | refine W.advO 5000 _ _ ?_ | skip); simp only [go_sem, seval, ↓reduceIte, reduceCtorEq, rz_b D, rz_bL D, rz_sbL D, rz_app D, ns2])
        refine W.no rfl ?_
        ((first | refine W.advO 5000 _ _ ?_ | skip); simp only [go_sem, seval, ↓reduceIte, reduceCtorEq, rz_b D, rz_bL D, rz_sbL D, rz_app D])
        (refine W.ret (Fin.gen (d := (sentAt s (tokL t i).pos).v) (srd_ok D hok t (k : Nat) l' 0 0) (by (first | rfl | exact List.length_set .. | simp)) (by simp only [resEval, r99, go_sem, seval, ↓reduceIte, reduceCtorEq, sent_v, sentAt, strsC]; rfl) (by simp only [resV, I, S, B, Pre.v, OpT.v, Tok.v, k_mk, name_mk, n_mk, l_mk, pos_mk, Pre.app, List.map_cons, List.map_nil, Pre.cs_eq, sent_v, sentAt, strsC]; (repeat' (first | exact V.wk.rfl _ | exact V.wk.csl _ | exact V.wk.osl _ _ | exact wk_agg_nil | exact wk_tup_nil | refine wk_agg_cons ?_ ?_ | refine wk_tup_cons ?_ ?_))) (by (first | exact .c _ | (simp only [I, S, B, opsC, toksC, Pre.v, Tok.v, OpT.v, low_c, low_void, low_any, low_csl, low_nilf, low_ptr, low_osl, low_agg, low_tup, low_fn, List.forall_mem_cons, List.not_mem_nil, false_implies, implies_true, and_self, and_true, true_and, sent_v, sentAt, strsC]; done))) (by (first | rfl | exact (List.append_nil _).symm)) ?_))
        exact ⟨rfl, rfl⟩
      · have ns2 : (s.k != 2) = true := by simpa using hs2
        rw [if_neg hs2]
        ((first | refine W.advO 5000 _ _ ?_ | skip); simp only [go_sem, seval, ↓reduceIte, reduceCtorEq, rz_b D, rz_bL D, rz_sbL D, rz_app D, ns2])
        refine W.yes rfl ?_
        ((first | refine W.advO 5000 _ _ ?_ | skip); simp only [go_sem, seval, ↓reduceIte, reduceCtorEq, rz_b D, rz_bL D, rz_sbL D, rz_app D])
        (refine W.call1 (DC.lift1 D (fun D' => sr_end0 w0 t hT k (by omega) l' _ b D')) rfl rfl (by first | rfl | simp) ?_; refine W.advO 5000 _ _ ?_; simp only [go_sem, seval, ↓reduceIte, reduceCtorEq, rz_b D, rz_bL D, rz_sbL D, rz_app D])
        unfold endS
        by_cases h7 : (tokL t k).kind = 7
        · simp only [if_pos h7]
          (refine W.ret (Fin.gen (d := (sentAt s (tokL t i).pos).v) (srd_ok D hok t ((k + 1 : Nat) : Int) l' 0 0) (by (first | rfl | exact List.length_set .. | simp)) (by simp only [resEval, r99, go_sem, seval, ↓reduceIte, reduceCtorEq, sent_v, sentAt, strsC]; rfl) (by simp only [resV, I, S, B, Pre.v, OpT.v, Tok.v, k_mk, name_mk, n_mk, l_mk, pos_mk, Pre.app, List.map_cons, List.map_nil, Pre.cs_eq, sent_v, sentAt, strsC]; (repeat' (first | exact V.wk.rfl _ | exact V.wk.csl _ | exact V.wk.osl _ _ | exact wk_agg_nil | exact wk_tup_nil | refine wk_agg_cons ?_ ?_ | refine wk_tup_cons ?_ ?_))) (by (first | exact .c _ | (simp only [I, S, B, opsC, toksC, Pre.v, Tok.v, OpT.v, low_c, low_void, low_any, low_csl, low_nilf, low_ptr, low_osl, low_agg, low_tup, low_fn, List.forall_mem_cons, List.not_mem_nil, false_implies, implies_true, and_self, and_true, true_and, sent_v, sentAt, strsC]; done))) (by (first | rfl | exact (List.append_nil _).symm)) ?_))
          exact ⟨rfl, rfl⟩
        · simp only [if_neg h7]
          (refine W.ret (Fin.gen (d := (sentAt s (tokL t i).pos).v) (srd_ok D hok t ((k + 1 : Nat) : Int) l' 101 (tokL t k).pos) (by (first | rfl | exact List.length_set .. | simp)) (by simp only [resEval, r99, go_sem, seval, ↓reduceIte, reduceCtorEq, sent_v, sentAt, strsC]; rfl) (by simp only [resV, I, S, B, Pre.v, OpT.v, Tok.v, k_mk, name_mk, n_mk, l_mk, pos_mk, Pre.app, List.map_cons, List.map_nil, Pre.cs_eq, sent_v, sentAt, strsC]; (repeat' (first | exact V.wk.rfl _ | exact V.wk.csl _ | exact V.wk.osl _ _ | exact wk_agg_nil | exact wk_tup_nil | refine wk_agg_cons ?_ ?_ | refine wk_tup_cons ?_ ?_))) (by (first | exact .c _ | (simp only [I, S, B, opsC, toksC, Pre.v, Tok.v, OpT.v, low_c, low_void, low_any, low_csl, low_nilf, low_ptr, low_osl, low_agg, low_tup, low_fn, List.forall_mem_cons, List.not_mem_nil, false_implies, implies_true, and_self, and_true, true_and, sent_v, sentAt, strsC]; done))) (by (first | rfl | exact (List.append_nil _).symm)) ?_))
          exact ⟨rfl, _, _, _, rfl, rfl⟩
    · subst hr'
      simp only [dotP]
      by_cases hs2 : s.k = 2
      · have ns2 : (s.k != 2) = false := by simpa using hs2
        ((first | refine W.advO 5000 _ _ ?_ | skip); simp only [go_sem, seval, ↓reduceIte, reduceCtorEq, rz_b D, rz_bL D, rz_sbL D, rz_app D, ns2])
        refine W.no rfl ?_
        ((first | refine W.advO 5000 _ _ ?_ | skip); simp only [go_sem, seval, ↓reduceIte, reduceCtorEq, rz_b D, rz_bL D, rz_sbL D, rz_app D])
        (refine W.ret (Fin.gen (d := (sentAt s (tokL t i).pos).v) (srd_ok D hok t j l' e p) (by (first | rfl | exact List.length_set .. | simp)) (by simp only [resEval, r99, go_sem, seval, ↓reduceIte, reduceCtorEq, sent_v, sentAt, strsC]; rfl) (by simp only [resV, I, S, B, Pre.v, OpT.v, Tok.v, k_mk, name_mk, n_mk, l_mk, pos_mk, Pre.app, List.map_cons, List.map_nil, Pre.cs_eq, sent_v, sentAt, strsC]; (repeat' (first | exact V.wk.rfl _ | exact V.wk.csl _ | exact V.wk.osl _ _ | exact wk_agg_nil | exact wk_tup_nil | refine wk_agg_cons ?_ ?_ | refine wk_tup_cons ?_ ?_))) (by (first | exact .c _ | (simp only [I, S, B, opsC, toksC, Pre.v, Tok.v, OpT.v, low_c, low_void, low_any, low_csl, low_nilf, low_ptr, low_osl, low_agg, low_tup, low_fn, List.forall_mem_cons, List.not_mem_nil, false_implies, implies_true, and_self, and_true, true_and, sent_v, sentAt, strsC]; done))) (by (first | rfl | exact (List.append_nil _).symm)) ?_))
        exact ⟨he, _, _, _, rfl, rfl⟩
      · have ns2 : (s.k != 2) = true := by simpa using hs2
        ((first | refine W.advO 5000 _ _ ?_ | skip); simp only [go_sem, seval, ↓reduceIte, reduceCtorEq, rz_b D, rz_bL D, rz_sbL D, rz_app D, ns2])
        refine W.yes rfl ?_
        ((first | refine W.advO 5000 _ _ ?_ | skip); simp only [go_sem, seval, ↓reduceIte, reduceCtorEq, rz_b D, rz_bL D, rz_sbL D, rz_app D])
        (refine W.call1 (DC.lift1 D (fun D' => sr_end1 w0 t j l' e p he _ b D')) rfl rfl (by first | rfl | simp) ?_; refine W.advO 5000 _ _ ?_; simp only [go_sem, seval, ↓reduceIte, reduceCtorEq, rz_b D, rz_bL D, rz_sbL D, rz_app D])
        (refine W.ret (Fin.gen (d := (sentAt s (tokL t i).pos).v) (srd_ok D hok t j l' e p) (by (first | rfl | exact List.length_set .. | simp)) (by simp only [resEval, r99, go_sem, seval, ↓reduceIte, reduceCtorEq, sent_v, sentAt, strsC]; rfl) (by simp only [resV, I, S, B, Pre.v, OpT.v, Tok.v, k_mk, name_mk, n_mk, l_mk, pos_mk, Pre.app, List.map_cons, List.map_nil, Pre.cs_eq, sent_v, sentAt, strsC]; (repeat' (first | exact V.wk.rfl _ | exact V.wk.csl _ | exact V.wk.osl _ _ | exact wk_agg_nil | exact wk_tup_nil | refine wk_agg_cons ?_ ?_ | refine wk_tup_cons ?_ ?_))) (by (first | exact .c _ | (simp only [I, S, B, opsC, toksC, Pre.v, Tok.v, OpT.v, low_c, low_void, low_any, low_csl, low_nilf, low_ptr, low_osl, low_agg, low_tup, low_fn, List.forall_mem_cons, List.not_mem_nil, false_implies, implies_true, and_self, and_true, true_and, sent_v, sentAt, strsC]; done))) (by (first | rfl | exact (List.append_nil _).symm)) ?_))
        exact ⟨he, _, _, _, rfl, rfl⟩
  · have n1 : ((tokL t i).kind == 1) = false := by simpa using hk1
    simp only [hk1, false_and, if_false] at hr
    apply W.dregE (List.cons_ne_nil _ _)
    case hc =>
      (apply CanonE.advPO; simp only [advPO_nil, advPO_loud, advPO_quiet, pL_yes, pL_no, pLS_some, pLS_none, pQ_yes, pQ_no, pQS_some, pQS_loud, eq_self, Nat.sub_zero, go_sem, seval, ↓reduceIte, reduceCtorEq, rz_b D, rz_bL D, rz_sbL D, rz_app D, n1])
      exact CanonE.nil
    ((first | refine W.advO 5000 _ _ ?_ | skip); simp only [go_sem, seval, ↓reduceIte, reduceCtorEq, rz_b D, rz_bL D, rz_sbL D, rz_app D])
    refine W.no rfl ?_
    ((first | refine W.advO 5000 _ _ ?_ | skip); simp only [go_sem, seval, ↓reduceIte, reduceCtorEq, rz_b D, rz_bL D, rz_sbL D, rz_app D])
    refine W.no rfl ?_
    ((first | refine W.advO 5000 _ _ ?_ | skip); simp only [go_sem, seval, ↓reduceIte, reduceCtorEq, rz_b D, rz_bL D, rz_sbL D, rz_app D])
    refine W.no rfl ?_
    ((first | refine W.advO 5000 _ _ ?_ | skip); simp only [go_sem, seval, ↓reduceIte, reduceCtorEq, rz_b D, rz_bL D, rz_sbL D, rz_app D])
    refine W.no rfl ?_
    ((first | refine W.advO 5000 _ _ ?_ | skip); simp only [go_sem, seval, ↓reduceIte, reduceCtorEq, rz_b D, rz_bL D, rz_sbL D, rz_app D])
    refine W.no rfl ?_
    ((first | refine W.advO 5000 _ _ ?_ | skip); simp only [go_sem, seval, ↓reduceIte, reduceCtorEq, rz_b D, rz_bL D, rz_sbL D, rz_app D])
    refine W.no rfl ?_
    ((first | refine W.advO 5000 _ _ ?_ | skip); simp only [go_sem, seval, ↓reduceIte, reduceCtorEq, rz_b D, rz_bL D, rz_sbL D, rz_app D])
    (refine W.call (DC.lift1R D (fun D' => sr_clause w0 t hT i hi l _ b D')) rfl rfl (by first | rfl | simp) ?_)
    intro d σ1 hR
    rw [hr] at hR
    obtain ⟨s, j, l', e, p, rfl, rfl, hst⟩ := rsen_out hR
    ((first | refine W.advO 5000 _ _ ?_ | skip); simp only [go_sem, seval, ↓reduceIte, reduceCtorEq, rz_b D, rz_bL D, rz_sbL D, rz_app D, sent_v])
    rcases hst with ⟨rfl, rfl, k, rfl, hr'⟩ | ⟨he, hr'⟩
    · subst hr'
      have hkf := before_far hr0
      simp only [dotP]
      by_cases hs2 : s.k = 2
      · have ns2 : (s.k != 2) = false := by simpa using hs2
        rw [if_pos hs2]
        ((first | refine W.advO 5000 _ _ ?_ | skip); simp only [go_sem, seval, ↓reduceIte, reduceCtorEq, rz_b D, rz_bL D, rz_sbL D, rz_app D, ns2])
        refine W.no rfl ?_
        ((first | refine W.advO 5000 _ _ ?_ | skip); simp only [go_sem, seval, ↓reduceIte, reduceCtorEq, rz_b D, rz_bL D, rz_sbL D, rz_app D])
        (refine W.ret (Fin.gen (d := (sentAt s (tokL t i).pos).v) (srd_ok D hok t (k : Nat) l' 0 0) (by (first | rfl | exact List.length_set .. | simp)) (by simp only [resEval, r99, go_sem, seval, ↓reduceIte, reduceCtorEq, sent_v, sentAt, strsC]; rfl) (by simp only [resV, I, S, B, Pre.v, OpT.v, Tok.v, k_mk, name_mk, n_mk, l_mk, pos_mk, Pre.app, List.map_cons, List.map_nil, Pre.cs_eq, sent_v, sentAt, strsC]; (repeat' (first | exact V.wk.rfl _ | exact V.wk.csl _ | exact V.wk.osl _ _ | exact wk_agg_nil | exact wk_tup_nil | refine wk_agg_cons ?_ ?_ | refine wk_tup_cons ?_ ?_))) (by (first | exact .c _ | (simp only [I, S, B, opsC, toksC, Pre.v, Tok.v, OpT.v, low_c, low_void, low_any, low_csl, low_nilf, low_ptr, low_osl, low_agg, low_tup, low_fn, List.forall_mem_cons, List.not_mem_nil, false_implies, implies_true, and_self, and_true, true_and, sent_v, sentAt, strsC]; done))) (by (first | rfl | exact (List.append_nil _).symm)) ?_))
        exact ⟨rfl, rfl⟩
      · have ns2 : (s.k != 2) = true := by simpa using hs2
        rw [if_neg hs2]
        ((first | refine W.advO 5000 _ _ ?_ | skip); simp only [go_sem, seval, ↓reduceIte, reduceCtorEq, rz_b D, rz_bL D, rz_sbL D, rz_app D, ns2])
        refine W.yes rfl ?_
        ((first | refine W.advO 5000 _ _ ?_ | skip); simp only [go_sem, seval, ↓reduceIte, reduceCtorEq, rz_b D, rz_bL D, rz_sbL D, rz_app D])
        (refine W.call1 (DC.lift1 D (fun D' => sr_end0 w0 t hT k (by omega) l' _ b D')) rfl rfl (by first | rfl | simp) ?_; refine W.advO 5000 _ _ ?_; simp only [go_sem, seval, ↓reduceIte, reduceCtorEq, rz_b D, rz_bL D, rz_sbL D, rz_app D])
        unfold endS
        by_cases h7 : (tokL t k).kind = 7
        · simp only [if_pos h7]
          (refine W.ret (Fin.gen (d := (sentAt s (tokL t i).pos).v) (srd_ok D hok t ((k + 1 : Nat) : Int) l' 0 0) (by (first | rfl | exact List.length_set .. | simp)) (by simp only [resEval, r99, go_sem, seval, ↓reduceIte, reduceCtorEq, sent_v, sentAt, strsC]; rfl) (by simp only [resV, I, S, B, Pre.v, OpT.v, Tok.v, k_mk, name_mk, n_mk, l_mk, pos_mk, Pre.app, List.map_cons, List.map_nil, Pre.cs_eq, sent_v, sentAt, strsC]; (repeat' (first | exact V.wk.rfl _ | exact V.wk.csl _ | exact V.wk.osl _ _ | exact wk_agg_nil | exact wk_tup_nil | refine wk_agg_cons ?_ ?_ | refine wk_tup_cons ?_ ?_))) (by (first | exact .c _ | (simp only [I, S, B, opsC, toksC, Pre.v, Tok.v, OpT.v, low_c, low_void, low_any, low_csl, low_nilf, low_ptr, low_osl, low_agg, low_tup, low_fn, List.forall_mem_cons, List.not_mem_nil, false_implies, implies_true, and_self, and_true, true_and, sent_v, sentAt, strsC]; done))) (by (first | rfl | exact (List.append_nil _).symm)) ?_))
          exact ⟨rfl, rfl⟩
        · simp only [if_neg h7]
          (refine W.ret (Fin.gen (d := (sentAt s (tokL t i).pos).v) (srd_ok D hok t ((k + 1 : Nat) : Int) l' 101 (tokL t k).pos) (by (first | rfl | exact List.length_set .. | simp)) (by simp only [resEval, r99, go_sem, seval, ↓reduceIte, reduceCtorEq, sent_v, sentAt, strsC]; rfl) (by simp only [resV, I, S, B, Pre.v, OpT.v, Tok.v, k_mk, name_mk, n_mk, l_mk, pos_mk, Pre.app, List.map_cons, List.map_nil, Pre.cs_eq, sent_v, sentAt, strsC]; (repeat' (first | exact V.wk.rfl _ | exact V.wk.csl _ | exact V.wk.osl _ _ | exact wk_agg_nil | exact wk_tup_nil | refine wk_agg_cons ?_ ?_ | refine wk_tup_cons ?_ ?_))) (by (first | exact .c _ | (simp only [I, S, B, opsC, toksC, Pre.v, Tok.v, OpT.v, low_c, low_void, low_any, low_csl, low_nilf, low_ptr, low_osl, low_agg, low_tup, low_fn, List.forall_mem_cons, List.not_mem_nil, false_implies, implies_true, and_self, and_true, true_and, sent_v, sentAt, strsC]; done))) (by (first | rfl | exact (List.append_nil _).symm)) ?_))
          exact ⟨rfl, _, _, _, rfl, rfl⟩
    · subst hr'
      simp only [dotP]
      by_cases hs2 : s.k = 2
      · have ns2 : (s.k != 2) = false := by simpa using hs2
        ((first | refine W.advO 5000 _ _ ?_ | skip); simp only [go_sem, seval, ↓reduceIte, reduceCtorEq, rz_b D, rz_bL D, rz_sbL D, rz_app D, ns2])
        refine W.no rfl ?_
        ((first | refine W.advO 5000 _ _ ?_ | skip); simp only [go_sem, seval, ↓reduceIte, reduceCtorEq, rz_b D, rz_bL D, rz_sbL D, rz_app D])
        (refine W.ret (Fin.gen (d := (sentAt s (tokL t i).pos).v) (srd_ok D hok t j l' e p) (by (first | rfl | exact List.length_set .. | simp)) (by simp only [resEval, r99, go_sem, seval, ↓reduceIte, reduceCtorEq, sent_v, sentAt, strsC]; rfl) (by simp only [resV, I, S, B, Pre.v, OpT.v, Tok.v, k_mk, name_mk, n_mk, l_mk, pos_mk, Pre.app, List.map_cons, List.map_nil, Pre.cs_eq, sent_v, sentAt, strsC]; (repeat' (first | exact V.wk.rfl _ | exact V.wk.csl _ | exact V.wk.osl _ _ | exact wk_agg_nil | exact wk_tup_nil | refine wk_agg_cons ?_ ?_ | refine wk_tup_cons ?_ ?_))) (by (first | exact .c _ | (simp only [I, S, B, opsC, toksC, Pre.v, Tok.v, OpT.v, low_c, low_void, low_any, low_csl, low_nilf, low_ptr, low_osl, low_agg, low_tup, low_fn, List.forall_mem_cons, List.not_mem_nil, false_implies, implies_true, and_self, and_true, true_and, sent_v, sentAt, strsC]; done))) (by (first | rfl | exact (List.append_nil _).symm)) ?_))
        exact ⟨he, _, _, _, rfl, rfl⟩
      · have ns2 : (s.k != 2) = true := by simpa using hs2
        ((first | refine W.advO 5000 _ _ ?_ | skip); simp only [go_sem, seval, ↓reduceIte, reduceCtorEq, rz_b D, rz_bL D, rz_sbL D, rz_app D, ns2])
        refine W.yes rfl ?_
        ((first | refine W.advO 5000 _ _ ?_ | skip); simp only [go_sem, seval, ↓reduceIte, reduceCtorEq, rz_b D, rz_bL D, rz_sbL D, rz_app D])
        (refine W.call1 (DC.lift1 D (fun D' => sr_end1 w0 t j l' e p he _ b D')) rfl rfl (by first | rfl | simp) ?_; refine W.advO 5000 _ _ ?_; simp only [go_sem, seval, ↓reduceIte, reduceCtorEq, rz_b D, rz_bL D, rz_sbL D, rz_app D])
        (refine W.ret (Fin.gen (d := (sentAt s (tokL t i).pos).v) (srd_ok D hok t j l' e p) (by (first | rfl | exact List.length_set .. | simp)) (by simp only [resEval, r99, go_sem, seval, ↓reduceIte, reduceCtorEq, sent_v, sentAt, strsC]; rfl) (by simp only [resV, I, S, B, Pre.v, OpT.v, Tok.v, k_mk, name_mk, n_mk, l_mk, pos_mk, Pre.app, List.map_cons, List.map_nil, Pre.cs_eq, sent_v, sentAt, strsC]; (repeat' (first | exact V.wk.rfl _ | exact V.wk.csl _ | exact V.wk.osl _ _ | exact wk_agg_nil | exact wk_tup_nil | refine wk_agg_cons ?_ ?_ | refine wk_tup_cons ?_ ?_))) (by (first | exact .c _ | (simp only [I, S, B, opsC, toksC, Pre.v, Tok.v, OpT.v, low_c, low_void, low_any, low_csl, low_nilf, low_ptr, low_osl, low_agg, low_tup, low_fn, List.forall_mem_cons, List.not_mem_nil, false_implies, implies_true, and_self, and_true, true_and, sent_v, sentAt, strsC]; done))) (by (first | rfl | exact (List.append_nil _).symm)) ?_))
        exact ⟨he, _, _, _, rfl, rfl⟩
end Go.Proofs.YtlogjjnimlnpkaaGreatDoor
namespace Go.Proofs.YtlogjjnimlnpkaaGreatDoor
open Go.RowKit Go.Lamb
/-- ops.row -/
def c107 : AC :=
  .seq (.reg [⟨some 6, .mov (.k (.csl [])), none⟩])
  (.seq (.reg [⟨some 7, .mov (.k (.csl [])), none⟩])
  (.seq (.seq (.reg [⟨some 10, .mov (.t 2), none⟩, ⟨some 11, .lenr (.t 10), none⟩, ⟨some 12, .mov (.k (.c (.int .i64 0))), none⟩])
  (.block 0 (.loop (.seq (.reg [⟨some 13, .bin .lss (.t 12) (.t 11), none⟩])
  (.seq (.cond (.t 13)
  (.skip)
  (.exit 0))
  (.seq (.block 1 (.seq (.reg [⟨some 14, .iadd 1 (.t 10) (.t 12), none⟩, ⟨some 15, .load1 (.t 14), none⟩, ⟨some 9, .mov (.t 15), none⟩])
  (.reg [⟨some 16, .mov (.t 7), none⟩, ⟨some 17, .mov (.t 9), none⟩, ⟨some 18, .mov (.t 0), none⟩, ⟨some 19, .mov (.t 1), none⟩, ⟨some 20, .build [.c (.str []), .c (.int .i64 0), .c (.int .i64 0)] [(0, 1, (.t 17)), (1, 1, (.t 18)), (2, 1, (.t 19))], none⟩, ⟨some 21, .bsl 3 [(.t 20)], none⟩, ⟨some 22, .app 35 3 32 (.t 16) (.t 21), none⟩, ⟨some 7, .mov (.t 22), none⟩])))
  (.reg [⟨some 23, .bin .add (.t 12) (.k (.c (.int .i64 1))), none⟩, ⟨some 12, .mov (.t 23), none⟩])))))))
  (.seq (.reg [⟨some 24, .mov (.t 7), none⟩, ⟨some 6, .mov (.t 24), none⟩])
  (.ret))))
def r107 : List ResV := [.tmp 6]
theorem tr107 : tr Tryz.prog Tryz.f107.ntmps (Tryz.f107.body.getD .skip) = some c107 := by kernel_rfl
theorem tre107 : trRes Tryz.prog Tryz.f107.results.toList = some r107 := by kernel_rfl
theorem en107 : Enters Tryz.prog 107 := enters_fn Tryz.func107 (by kernel_rfl) rfl
theorem go107 {w0 : World} {args : List V} {σ : H} {R : V → H → Prop} (ha : args.length = 3) (h : H.ok σ → (∀ x ∈ args, V.Sz x) → W Tryz.prog w0 σ.length (Fin r107 σ.length R) [.code c107] ⟨argEnv args, σ⟩) : DC Tryz.prog w0 107 args σ R :=
  DC.of_code (by kernel_rfl) Tryz.func107 rfl tr107 tre107 (by rw [ha]; exact by decide) en107 h
/-- slices.Concat[[]api.Op,api.Op] -/
def c106 : AC :=
  .seq (.reg [⟨some 2, .mov (.k (.csl [])), none⟩])
  (.seq (.reg [⟨some 3, .mov (.k (.c (.int .i64 0))), none⟩])
  (.seq (.seq (.reg [⟨some 9, .mov (.t 0), none⟩, ⟨some 10, .lenr (.t 9), none⟩, ⟨some 11, .mov (.k (.c (.int .i64 0))), none⟩])
  (.block 0 (.loop (.seq (.reg [⟨some 12, .bin .lss (.t 11) (.t 10), none⟩])
  (.seq (.cond (.t 12)
  (.skip)
  (.exit 0))
  (.seq (.block 1 (.seq (.reg [⟨some 13, .iadd 1 (.t 9) (.t 11), none⟩, ⟨some 14, .load1 (.t 13), none⟩, ⟨some 5, .mov (.t 14), none⟩])
  (.seq (.reg [⟨some 15, .mov (.t 3), none⟩, ⟨some 16, .mov (.t 5), none⟩, ⟨some 17, .lenr (.t 16), none⟩, ⟨some 18, .bin .add (.t 15) (.t 17), none⟩, ⟨some 3, .mov (.t 18), none⟩])
  (.seq (.reg [⟨some 19, .mov (.t 3), none⟩, ⟨some 20, .bin .lss (.t 19) (.k (.c (.int .i64 0))), none⟩])
  (.cond (.t 20)
  (.reg [⟨some 21, .bad, none⟩, ⟨none, .bad, none⟩])
  (.skip))))))
  (.reg [⟨some 22, .bin .add (.t 11) (.k (.c (.int .i64 1))), none⟩, ⟨some 11, .mov (.t 22), none⟩])))))))
  (.seq (.reg [⟨some 23, .mov (.t 3), none⟩, ⟨some 24, .call (.k (.fn 175 [])) [(.k (.csl [])), (.t 23)], none⟩, ⟨some 6, .mov (.t 24), none⟩])
  (.seq (.seq (.reg [⟨some 25, .mov (.t 0), none⟩, ⟨some 26, .lenr (.t 25), none⟩, ⟨some 27, .mov (.k (.c (.int .i64 0))), none⟩])
  (.block 2 (.loop (.seq (.reg [⟨some 28, .bin .lss (.t 27) (.t 26), none⟩])
  (.seq (.cond (.t 28)
  (.skip)
  (.exit 2))
  (.seq (.block 3 (.seq (.reg [⟨some 29, .iadd 1 (.t 25) (.t 27), none⟩, ⟨some 30, .load1 (.t 29), none⟩, ⟨some 8, .mov (.t 30), none⟩])
  (.reg [⟨some 31, .mov (.t 6), none⟩, ⟨some 32, .mov (.t 8), none⟩, ⟨some 33, .app 35 3 32 (.t 31) (.t 32), none⟩, ⟨some 6, .mov (.t 33), none⟩])))
  (.reg [⟨some 34, .bin .add (.t 27) (.k (.c (.int .i64 1))), none⟩, ⟨some 27, .mov (.t 34), none⟩])))))))
  (.seq (.reg [⟨some 35, .mov (.t 6), none⟩, ⟨some 2, .mov (.t 35), none⟩])
  (.ret))))))
def r106 : List ResV := [.tmp 2]
theorem tr106 : tr Tryz.prog Tryz.f106.ntmps (Tryz.f106.body.getD .skip) = some c106 := by kernel_rfl
theorem tre106 : trRes Tryz.prog Tryz.f106.results.toList = some r106 := by kernel_rfl
theorem en106 : Enters Tryz.prog 106 := enters_fn Tryz.func106 (by kernel_rfl) rfl
theorem go106 {w0 : World} {args : List V} {σ : H} {R : V → H → Prop} (ha : args.length = 1) (h : H.ok σ → (∀ x ∈ args, V.Sz x) → W Tryz.prog w0 σ.length (Fin r106 σ.length R) [.code c106] ⟨argEnv args, σ⟩) : DC Tryz.prog w0 106 args σ R :=
  DC.of_code (by kernel_rfl) Tryz.func106 rfl tr106 tre106 (by rw [ha]; exact by decide) en106 h
/-- ops.Default -/
def c54 : AC :=
  .seq (.reg [⟨some 0, .mov (.k (.csl [])), none⟩])
  (.seq (.reg [⟨some 1, .bsl 1 [(.k (.c (.str [58, 45])))], none⟩, ⟨some 2, .call (.k (.fn 107 [])) [(.k (.c (.int .i64 10))), (.k (.c (.int .i64 0))), (.t 1)], none⟩, ⟨some 3, .bsl 1 [(.k (.c (.str [59])))], none⟩, ⟨some 4, .call (.k (.fn 107 [])) [(.k (.c (.int .i64 20))), (.k (.c (.int .i64 2))), (.t 3)], none⟩, ⟨some 5, .bsl 1 [(.k (.c (.str [44])))], none⟩, ⟨some 6, .call (.k (.fn 107 [])) [(.k (.c (.int .i64 30))), (.k (.c (.int .i64 2))), (.t 5)], none⟩, ⟨some 7, .bsl 1 [(.k (.c (.str [61, 62])))], none⟩, ⟨some 8, .call (.k (.fn 107 [])) [(.k (.c (.int .i64 40))), (.k (.c (.int .i64 2))), (.t 7)], none⟩, ⟨some 9, .bsl 1 [(.k (.c (.str [61]))), (.k (.c (.str [105, 115]))), (.k (.c (.str [60]))), (.k (.c (.str [61, 60]))), (.k (.c (.str [62]))), (.k (.c (.str [62, 61])))], none⟩, ⟨some 10, .call (.k (.fn 107 [])) [(.k (.c (.int .i64 60))), (.k (.c (.int .i64 0))), (.t 9)], none⟩, ⟨some 11, .bsl 1 [(.k (.c (.str [43]))), (.k (.c (.str [45])))], none⟩, ⟨some 12, .call (.k (.fn 107 [])) [(.k (.c (.int .i64 80))), (.k (.c (.int .i64 1))), (.t 11)], none⟩, ⟨some 13, .bsl 1 [(.k (.c (.str [42]))), (.k (.c (.str [100, 105, 118]))), (.k (.c (.str [109, 111, 100])))], none⟩, ⟨some 14, .call (.k (.fn 107 [])) [(.k (.c (.int .i64 90))), (.k (.c (.int .i64 1))), (.t 13)], none⟩, ⟨some 15, .bsl 1 [(.t 2), (.t 4), (.t 6), (.t 8), (.t 10), (.t 12), (.t 14)], none⟩, ⟨some 16, .call (.k (.fn 106 [])) [(.t 15)], none⟩, ⟨some 0, .mov (.t 16), none⟩])
  (.ret))
def r54 : List ResV := [.tmp 0]
theorem tr54 : tr Tryz.prog Tryz.f54.ntmps (Tryz.f54.body.getD .skip) = some c54 := by kernel_rfl
theorem tre54 : trRes Tryz.prog Tryz.f54.results.toList = some r54 := by kernel_rfl
theorem en54 : Enters Tryz.prog 54 := enters_fn Tryz.func54 (by kernel_rfl) rfl
theorem go54 {w0 : World} {args : List V} {σ : H} {R : V → H → Prop} (ha : args.length = 0) (h : H.ok σ → (∀ x ∈ args, V.Sz x) → W Tryz.prog w0 σ.length (Fin r54 σ.length R) [.code c54] ⟨argEnv args, σ⟩) : DC Tryz.prog w0 54 args σ R :=
  DC.of_code (by kernel_rfl) Tryz.func54 rfl tr54 tre54 (by rw [ha]; exact by decide) en54 h
/-- lambentref03.Exact -/
def c56 : AC :=
  .seq (.reg [⟨some 2, .box (.t 0), none⟩, ⟨some 3, .box (.t 1), none⟩, ⟨some 4, .mov (.k (.c (.bool false))), none⟩])
  (.seq (.seq (.reg [⟨some 7, .fadd 0 (.t 2), none⟩, ⟨some 8, .load1 (.t 7), none⟩, ⟨some 9, .fadd 0 (.t 3), none⟩, ⟨some 10, .load1 (.t 9), none⟩, ⟨some 11, .bin .neq (.t 8) (.t 10), none⟩, ⟨some 12, .mov (.t 11), none⟩, ⟨some 13, .fadd 1 (.t 2), some (12, false)⟩, ⟨some 14, .load1 (.t 13), some (12, false)⟩, ⟨some 15, .fadd 1 (.t 3), some (12, false)⟩, ⟨some 16, .load1 (.t 15), some (12, false)⟩, ⟨some 17, .bin .neq (.t 14) (.t 16), some (12, false)⟩, ⟨some 18, .pick (.t 12) (.k (.c (.bool true))) (.t 17), none⟩, ⟨some 19, .mov (.t 18), none⟩, ⟨some 20, .fadd 2 (.t 2), some (19, false)⟩, ⟨some 21, .load1 (.t 20), some (19, false)⟩, ⟨some 22, .fadd 2 (.t 3), some (19, false)⟩, ⟨some 23, .load1 (.t 22), some (19, false)⟩, ⟨some 24, .bin .neq (.t 21) (.t 23), some (19, false)⟩, ⟨some 25, .pick (.t 19) (.k (.c (.bool true))) (.t 24), none⟩, ⟨some 26, .mov (.t 25), none⟩, ⟨some 27, .fadd 4 (.t 2), some (26, false)⟩, ⟨some 28, .load1 (.t 27), some (26, false)⟩, ⟨some 29, .fadd 4 (.t 3), some (26, false)⟩, ⟨some 30, .load1 (.t 29), some (26, false)⟩, ⟨some 31, .bin .neq (.t 28) (.t 30), some (26, false)⟩, ⟨some 32, .pick (.t 26) (.k (.c (.bool true))) (.t 31), none⟩, ⟨some 33, .mov (.t 32), none⟩, ⟨some 34, .fadd 3 (.t 2), some (33, false)⟩, ⟨some 35, .load1 (.t 34), some (33, false)⟩, ⟨some 36, .lenr (.t 35), some (33, false)⟩, ⟨some 37, .fadd 3 (.t 3), some (33, false)⟩, ⟨some 38, .load1 (.t 37), some (33, false)⟩, ⟨some 39, .lenr (.t 38), some (33, false)⟩, ⟨some 40, .bin .neq (.t 36) (.t 39), some (33, false)⟩, ⟨some 41, .pick (.t 33) (.k (.c (.bool true))) (.t 40), none⟩])
  (.cond (.t 41)
  (.seq (.reg [⟨some 4, .mov (.k (.c (.bool false))), none⟩])
  (.ret))
  (.skip)))
  (.seq (.seq (.reg [⟨some 5, .mov (.k (.c (.int .i64 0))), none⟩])
  (.block 0 (.loop (.seq (.seq (.reg [⟨some 42, .mov (.t 5), none⟩, ⟨some 43, .fadd 3 (.t 2), none⟩, ⟨some 44, .load1 (.t 43), none⟩, ⟨some 45, .lenr (.t 44), none⟩, ⟨some 46, .bin .lss (.t 42) (.t 45), none⟩])
  (.cond (.t 46)
  (.skip)
  (.exit 0)))
  (.seq (.block 1 (.seq (.dreg [⟨some 49, .fadd 3 (.t 2), none⟩, ⟨some 50, .load1 (.t 49), none⟩, ⟨some 51, .mov (.t 5), none⟩, ⟨some 52, .iadd 5 (.t 50) (.t 51), none⟩, ⟨some 53, .loadn 5 (.t 52), none⟩, ⟨some 54, .fadd 3 (.t 3), none⟩, ⟨some 55, .load1 (.t 54), none⟩, ⟨some 56, .mov (.t 5), none⟩, ⟨some 57, .iadd 5 (.t 55) (.t 56), none⟩, ⟨some 58, .loadn 5 (.t 57), none⟩, ⟨some 59, .call (.k (.fn 56 [])) [(.t 53), (.t 58)], none⟩, ⟨some 6, .mov (.t 59), none⟩]
    [⟨⟨some 49, .fadd 3 (.t 2), none⟩, false, 0⟩, ⟨⟨some 50, .load1 (.t 49), none⟩, false, 0⟩, ⟨⟨some 51, .mov (.t 5), none⟩, false, 0⟩, ⟨⟨some 52, .iadd 5 (.t 50) (.t 51), none⟩, false, 0⟩, ⟨⟨some 53, .loadn 5 (.t 52), none⟩, false, 0⟩, ⟨⟨some 54, .fadd 3 (.t 3), none⟩, false, 0⟩, ⟨⟨some 55, .load1 (.t 54), none⟩, false, 0⟩, ⟨⟨some 56, .mov (.t 5), none⟩, false, 0⟩, ⟨⟨some 57, .iadd 5 (.t 55) (.t 56), none⟩, false, 0⟩, ⟨⟨some 58, .loadn 5 (.t 57), none⟩, false, 0⟩, ⟨⟨some 59, .call (.k (.fn 56 [])) [(.t 53), (.t 58)], none⟩, true, 0⟩, ⟨⟨some 6, .mov (.t 59), none⟩, false, 1⟩])
  (.seq (.reg [⟨some 60, .mov (.t 6), none⟩, ⟨some 61, .un .not (.t 60), none⟩])
  (.cond (.t 61)
  (.seq (.reg [⟨some 4, .mov (.k (.c (.bool false))), none⟩])
  (.ret))
  (.skip)))))
  (.reg [⟨some 47, .mov (.t 5), none⟩, ⟨some 48, .bin .add (.t 47) (.k (.c (.int .i64 1))), none⟩, ⟨some 5, .mov (.t 48), none⟩]))))))
  (.seq (.reg [⟨some 4, .mov (.k (.c (.bool true))), none⟩])
  (.ret))))
def r56 : List ResV := [.tmp 4]
theorem tr56 : tr Tryz.prog Tryz.f56.ntmps (Tryz.f56.body.getD .skip) = some c56 := by kernel_rfl
theorem tre56 : trRes Tryz.prog Tryz.f56.results.toList = some r56 := by kernel_rfl
theorem en56 : Enters Tryz.prog 56 := enters_fn Tryz.func56 (by kernel_rfl) rfl
theorem go56 {w0 : World} {args : List V} {σ : H} {R : V → H → Prop} (ha : args.length = 2) (h : H.ok σ → (∀ x ∈ args, V.Sz x) → W Tryz.prog w0 σ.length (Fin r56 σ.length R) [.code c56] ⟨argEnv args, σ⟩) : DC Tryz.prog w0 56 args σ R :=
  DC.of_code (by kernel_rfl) Tryz.func56 rfl tr56 tre56 (by rw [ha]; exact by decide) en56 h
end Go.Proofs.YtlogjjnimlnpkaaGreatDoor
namespace Go.Proofs.YtlogjjnimlnpkaaGreatDoor
open Go.RowKit Go.Lamb
attribute [local go_sem] advO_skip advO_reg advO_seq advO_block advO_exit advO_endb advO_opsNil advO_ops advG_yes advG_no advG_none advS_some advS_none advO_cond advO_loop advO_dreg advO_ret advO_bad advO_inv advO_nil advO_zero wantedV Lamb.step ev_t ev_k put_some put_none argEnv popTo cellsAt V.cellsV V.rows V.toC toCs fillV bytesC byteRows appV rowsV boundV boundL binV binInt binStr eqC eqL V.isNil leaves V.leaf Ins.quiet Ins.pure List.getD_cons_zero List.getD_cons_succ List.getD_nil List.all_cons List.all_nil List.length_cons List.length_nil List.take_succ_cons List.take_zero List.drop_succ_cons List.drop_zero List.cons_append List.nil_append List.append_nil List.append_assoc List.map_cons List.map_nil List.getElem?_cons_zero List.getElem?_cons_succ List.length_append List.length_set hget0 hget hset0 hset hsets hgs0 hgs hss0 hss List.set_cons_zero List.set_cons_succ List.forall_mem_cons List.not_mem_nil false_implies implies_true Option.map_some Bool.and_true Bool.true_and Bool.not_not Bool.not_true Bool.not_false Bool.and_self Bool.or_true Bool.true_or Bool.or_false Bool.false_or Bool.and_false Bool.false_and Bool.false_eq_true beq_self_eq_true and_self and_true true_and if_true if_false Nat.zero_add Nat.add_zero Nat.le_refl Int.toNat_natCast decide_true decide_false beq_t beq_f List.length_map List.getElem?_map I S B opsC toksC OpT.v OpT.cs OpT.zero Tok.v Tok.cs Pre.v Pre.cs_eq k_mk name_mk n_mk l_mk pos_mk Pre.app applyL natCast0 natCast1 natCast2
section

def rowOf (prec fix : Int) (names : List (List UInt8)) : List OpT := names.map fun n => ⟨n, prec, fix⟩
theorem ops_row (w0 : World) (prec fix : Int) (names : List (List UInt8)) (hn : names.length ≤ 1000) (σ : H) :
    DC Tryz.prog w0 107 [I prec, I fix, .csl (names.map fun n => [.str n])] σ (Same (.c (opsC (rowOf prec fix names))) σ) := by
  refine go107 rfl (fun hok hsz => ?_)
  ((first | refine W.advO 5000 _ _ ?_ | skip); simp only [go_sem, seval, ↓reduceIte, reduceCtorEq, c107])
  refine W.own 7 35 3 rfl ?_
  refine W.loopP (fun i => i ≤ names.length) (fun i => ⟨((((((base.put (some 0) (I prec)).put (some 1) (I fix)).put (some 7) (.osl σ.length ((rowOf prec fix (names.take i)).map OpT.cs))).put (some 10) (.csl (names.map fun n => [.str n]))).put (some 11) (I names.length)).put (some 12) (I i)), σ ++ [.spare 35 3 i]⟩) (fun i => names.length - i) 0 (Nat.zero_le _) ?_ (fun i hi => ?_)
  · (refine Lew.env ?_; (repeat' (first | exact LeE.base _ | (refine LeE.put ?_ (by first | exact V.wk.rfl _ | exact V.wk.osl _ _ | exact V.wk.csl _)))))
  · by_cases hlt : i < names.length
    · have h1 : ((i : Int) < (names.length : Int)) := by omega
      have hx : names[i]? = some names[i] := List.getElem?_eq_getElem hlt
      have hl : (rowOf prec fix (names.take i)).length = i := by simp [rowOf, hi]
      have hb1 : (i + 1) * 32 ≤ 140737488355328 := by omega
      have hb2 : i + 1 ≤ 140737488355328 := by omega
      have hta : (rowOf prec fix (names.take (i + 1))).map OpT.cs = (rowOf prec fix (names.take i)).map OpT.cs ++ [OpT.cs ⟨names[i], prec, fix⟩] := by
        unfold rowOf
        rw [List.take_add_one, hx, List.map_append, List.map_append]; rfl
      have hw : IntKind.i64.wrap ((i : Int) + 1) = ((i + 1 : Nat) : Int) := by rw [wrap_in] <;> omega
      ((first | refine W.advO 5000 _ _ ?_ | skip); simp only [go_sem, seval, ↓reduceIte, reduceCtorEq, h1])
      refine W.yes rfl ?_
      ((first | refine W.advO 5000 _ _ ?_ | skip); simp only [go_sem, seval, ↓reduceIte, reduceCtorEq, h1, nat0, hx, hl, hb1, hb2, eq_self, hw])
      refine .inv ⟨i + 1, hlt, by omega, ?_⟩
      simp only [go_sem, seval, ↓reduceIte, reduceCtorEq, hta]
      (refine Lew.env ?_; (repeat' (first | exact LeE.base _ | (refine LeE.put ?_ (by first | exact V.wk.rfl _ | exact V.wk.osl _ _ | exact V.wk.csl _)))))
    · have h1 : ¬ ((i : Int) < (names.length : Int)) := by omega
      have hi' : i = names.length := by omega
      subst hi'
      ((first | refine W.advO 5000 _ _ ?_ | skip); simp only [go_sem, seval, ↓reduceIte, reduceCtorEq, h1])
      refine W.no rfl ?_
      ((first | refine W.advO 5000 _ _ ?_ | skip); simp only [go_sem, seval, ↓reduceIte, reduceCtorEq, List.take_length])
      (refine W.ret (Fin.sameW (hok) (by (first | rfl | exact List.length_set .. | simp)) (by simp only [resEval, r107, go_sem, seval, ↓reduceIte, reduceCtorEq]; rfl) ?_ (by (first | exact .c _ | (simp only [I, S, B, opsC, toksC, Pre.v, Tok.v, OpT.v, low_c, low_void, low_any, low_csl, low_nilf, low_ptr, low_osl, low_agg, low_tup, low_fn, List.forall_mem_cons, List.not_mem_nil, false_implies, implies_true, and_self, and_true, true_and]; done))) (by (first | rfl | exact (List.append_nil _).symm))); simp only [resV]; try exact V.wk.rfl _)
      (repeat' (first | exact V.wk.rfl _ | exact V.wk.csl _ | exact V.wk.osl _ _ | exact wk_agg_nil | exact wk_tup_nil | refine wk_agg_cons ?_ ?_ | refine wk_tup_cons ?_ ?_))
end
section

theorem flat_take {α : Type} {ls : List (List α)} {i : Nat} (h : i < ls.length) : (ls.take (i + 1)).flatten = (ls.take i).flatten ++ ls[i] := by
  rw [List.take_add_one, List.getElem?_eq_getElem h, List.flatten_append]
  congr 1
  exact List.append_nil _
theorem flat_le {α : Type} {ls : List (List α)} (i : Nat) : (ls.take i).flatten.length ≤ ls.flatten.length := by
  have : ls.flatten = (ls.take i).flatten ++ (ls.drop i).flatten := by rw [← List.flatten_append, List.take_append_drop]
  rw [this, List.length_append]
  omega
theorem slices_Concat (w0 : World) (ls : List (List OpT)) (hn : ls.flatten.length ≤ 100000) (hls : ls.length ≤ 100000) (σ : H) :
    DC Tryz.prog w0 106 [.csl (ls.map fun r => [opsC r])] σ (Same (.c (opsC ls.flatten)) σ) := by
  refine go106 rfl (fun hok hsz => ?_)
  ((first | refine W.advO 5000 _ _ ?_ | skip); simp only [go_sem, seval, ↓reduceIte, reduceCtorEq, c106])
  refine W.loopP (fun i => i ≤ ls.length) (fun i => ⟨(((((base.put (some 0) (.csl (ls.map fun r => [opsC r]))).put (some 3) (I (ls.take i).flatten.length)).put (some 9) (.csl (ls.map fun r => [opsC r]))).put (some 10) (I ls.length)).put (some 11) (I i)), σ⟩) (fun i => ls.length - i) 0 (Nat.zero_le _) ?_ (fun i hi => ?_)
  · (refine Lew.env ?_; (repeat' (first | exact LeE.base _ | (refine LeE.put ?_ (by first | exact V.wk.rfl _ | exact V.wk.osl _ _ | exact V.wk.csl _)))))
  · by_cases hlt : i < ls.length
    · have h1 : ((i : Int) < (ls.length : Int)) := by omega
      have hx : ls[i]? = some ls[i] := List.getElem?_eq_getElem hlt
      have hft := flat_take hlt
      have hfl : (ls.take (i + 1)).flatten.length = (ls.take i).flatten.length + ls[i].length := by rw [hft, List.length_append]
      have hle := flat_le (ls := ls) (i + 1)
      have hw : IntKind.i64.wrap ((i : Int) + 1) = ((i + 1 : Nat) : Int) := by rw [wrap_in] <;> omega
      have hw2 : IntKind.i64.wrap (((ls.take i).flatten.length : Int) + (ls[i].length : Int)) = (((ls.take (i + 1)).flatten.length : Nat) : Int) := by rw [wrap_in] <;> omega
      have hneg : ¬ ((((ls.take (i + 1)).flatten.length : Nat) : Int) < 0) := by omega
      ((first | refine W.advO 5000 _ _ ?_ | skip); simp only [go_sem, seval, ↓reduceIte, reduceCtorEq, h1])
      refine W.yes rfl ?_
      ((first | refine W.advO 5000 _ _ ?_ | skip); simp only [go_sem, seval, ↓reduceIte, reduceCtorEq, h1, nat0, hx, hw2, hneg])
      refine W.no rfl ?_
      ((first | refine W.advO 5000 _ _ ?_ | skip); simp only [go_sem, seval, ↓reduceIte, reduceCtorEq, hw])
      refine .inv ⟨i + 1, hlt, by omega, ?_⟩
      (refine Lew.env ?_; (repeat' (first | exact LeE.base _ | (refine LeE.put ?_ (by first | exact V.wk.rfl _ | exact V.wk.osl _ _ | exact V.wk.csl _)))))
    · have h1 : ¬ ((i : Int) < (ls.length : Int)) := by omega
      have hi' : i = ls.length := by omega
      subst hi'
      ((first | refine W.advO 5000 _ _ ?_ | skip); simp only [go_sem, seval, ↓reduceIte, reduceCtorEq, h1])
      refine W.no rfl ?_
      ((first | refine W.advO 5000 _ _ ?_ | skip); simp only [go_sem, seval, ↓reduceIte, reduceCtorEq, List.take_length])
      (refine W.call1 (slices_Grow w0 ls.flatten.length (by omega) _) rfl rfl (by first | rfl | simp) ?_; refine W.advO 5000 _ _ ?_; simp only [go_sem, seval, ↓reduceIte, reduceCtorEq])
      refine W.loopP (fun i => i ≤ ls.length) (fun i => ⟨((((base.put (some 6) (.osl σ.length ((ls.take i).flatten.map OpT.cs))).put (some 25) (.csl (ls.map fun r => [opsC r]))).put (some 26) (I ls.length)).put (some 27) (I i)), σ ++ [.spare 35 3 (ls.take i).flatten.length]⟩) (fun i => ls.length - i) 0 (Nat.zero_le _) ?_ (fun i hi => ?_)
      · (refine Lew.env ?_; (repeat' (first | exact LeE.base _ | (refine LeE.put ?_ (by first | exact V.wk.rfl _ | exact V.wk.osl _ _ | exact V.wk.csl _)))))
      · by_cases hlt : i < ls.length
        · have h1 : ((i : Int) < (ls.length : Int)) := by omega
          have hx : ls[i]? = some ls[i] := List.getElem?_eq_getElem hlt
          have hft := flat_take hlt
          have hfl : (ls.take (i + 1)).flatten.length = (ls.take i).flatten.length + ls[i].length := by rw [hft, List.length_append]
          have hle := flat_le (ls := ls) (i + 1)
          have hb1 : ((ls.take i).flatten.length + ls[i].length) * 32 ≤ 140737488355328 := by omega
          have hb2 : (ls.take i).flatten.length + ls[i].length ≤ 140737488355328 := by omega
          have hb3 : ∀ r ∈ ls[i].map OpT.cs, r.length = 3 := fun r hr => by obtain ⟨o, _, rfl⟩ := List.mem_map.1 hr; rfl
          have hta : (ls.take (i + 1)).flatten.map OpT.cs = (ls.take i).flatten.map OpT.cs ++ ls[i].map OpT.cs := by rw [hft, List.map_append]
          have hw : IntKind.i64.wrap ((i : Int) + 1) = ((i + 1 : Nat) : Int) := by rw [wrap_in] <;> omega
          ((first | refine W.advO 5000 _ _ ?_ | skip); simp only [go_sem, seval, ↓reduceIte, reduceCtorEq, h1])
          refine W.yes rfl ?_
          ((first | refine W.advO 5000 _ _ ?_ | skip); simp only [go_sem, seval, ↓reduceIte, reduceCtorEq, h1, nat0, hx, hb1, hb2, eq_self, hw, eq_true hb3])
          refine .inv ⟨i + 1, hlt, by omega, ?_⟩
          simp only [go_sem, seval, ↓reduceIte, reduceCtorEq, hta, hfl]
          (refine Lew.env ?_; (repeat' (first | exact LeE.base _ | (refine LeE.put ?_ (by first | exact V.wk.rfl _ | exact V.wk.osl _ _ | exact V.wk.csl _)))))
        · have h1 : ¬ ((i : Int) < (ls.length : Int)) := by omega
          have hi' : i = ls.length := by omega
          subst hi'
          ((first | refine W.advO 5000 _ _ ?_ | skip); simp only [go_sem, seval, ↓reduceIte, reduceCtorEq, h1])
          refine W.no rfl ?_
          ((first | refine W.advO 5000 _ _ ?_ | skip); simp only [go_sem, seval, ↓reduceIte, reduceCtorEq, List.take_length])
          (refine W.ret (Fin.sameW (hok) (by (first | rfl | exact List.length_set .. | simp)) (by simp only [resEval, r106, go_sem, seval, ↓reduceIte, reduceCtorEq]; rfl) ?_ (by (first | exact .c _ | (simp only [I, S, B, opsC, toksC, Pre.v, Tok.v, OpT.v, low_c, low_void, low_any, low_csl, low_nilf, low_ptr, low_osl, low_agg, low_tup, low_fn, List.forall_mem_cons, List.not_mem_nil, false_implies, implies_true, and_self, and_true, true_and]; done))) (by (first | rfl | exact (List.append_nil _).symm))); simp only [resV]; try exact V.wk.rfl _)
          (repeat' (first | exact V.wk.rfl _ | exact V.wk.csl _ | exact V.wk.osl _ _ | exact wk_agg_nil | exact wk_tup_nil | refine wk_agg_cons ?_ ?_ | refine wk_tup_cons ?_ ?_))
end
section

def firstRows : List (List OpT) := [rowOf 10 0 [[58, 45]], rowOf 20 2 [[59]], rowOf 30 2 [[44]], rowOf 40 2 [[61, 62]], rowOf 60 0 [[61], [105, 115], [60], [61, 60], [62], [62, 61]], rowOf 80 1 [[43], [45]], rowOf 90 1 [[42], [100, 105, 118], [109, 111, 100]]]
theorem ops_Default (w0 : World) (σ : H) : DC Tryz.prog w0 54 [] σ (Same (.c (opsC firstRows.flatten)) σ) := by
  refine go54 rfl (fun hok hsz => ?_)
  ((first | refine W.advO 5000 _ _ ?_ | skip); simp only [go_sem, seval, ↓reduceIte, reduceCtorEq, c54])
  (refine W.call1 (ops_row w0 10 0 [[58, 45]] (by decide) _) rfl rfl (by first | rfl | simp) ?_; refine W.advO 5000 _ _ ?_; simp only [go_sem, seval, ↓reduceIte, reduceCtorEq])
  (refine W.call1 (ops_row w0 20 2 [[59]] (by decide) _) rfl rfl (by first | rfl | simp) ?_; refine W.advO 5000 _ _ ?_; simp only [go_sem, seval, ↓reduceIte, reduceCtorEq])
  (refine W.call1 (ops_row w0 30 2 [[44]] (by decide) _) rfl rfl (by first | rfl | simp) ?_; refine W.advO 5000 _ _ ?_; simp only [go_sem, seval, ↓reduceIte, reduceCtorEq])
  (refine W.call1 (ops_row w0 40 2 [[61, 62]] (by decide) _) rfl rfl (by first | rfl | simp) ?_; refine W.advO 5000 _ _ ?_; simp only [go_sem, seval, ↓reduceIte, reduceCtorEq])
  (refine W.call1 (ops_row w0 60 0 [[61], [105, 115], [60], [61, 60], [62], [62, 61]] (by decide) _) rfl rfl (by first | rfl | simp) ?_; refine W.advO 5000 _ _ ?_; simp only [go_sem, seval, ↓reduceIte, reduceCtorEq])
  (refine W.call1 (ops_row w0 80 1 [[43], [45]] (by decide) _) rfl rfl (by first | rfl | simp) ?_; refine W.advO 5000 _ _ ?_; simp only [go_sem, seval, ↓reduceIte, reduceCtorEq])
  (refine W.call1 (ops_row w0 90 1 [[42], [100, 105, 118], [109, 111, 100]] (by decide) _) rfl rfl (by first | rfl | simp) ?_; refine W.advO 5000 _ _ ?_; simp only [go_sem, seval, ↓reduceIte, reduceCtorEq])
  (refine W.call1 (slices_Concat w0 firstRows (by decide) (by decide) _) rfl rfl (by first | rfl | simp) ?_; refine W.advO 5000 _ _ ?_; simp only [go_sem, seval, ↓reduceIte, reduceCtorEq])
  (refine W.ret (Fin.sameW (hok) (by (first | rfl | exact List.length_set .. | simp)) (by simp only [resEval, r54, go_sem, seval, ↓reduceIte, reduceCtorEq]; rfl) ?_ (by (first | exact .c _ | (simp only [I, S, B, opsC, toksC, Pre.v, Tok.v, OpT.v, low_c, low_void, low_any, low_csl, low_nilf, low_ptr, low_osl, low_agg, low_tup, low_fn, List.forall_mem_cons, List.not_mem_nil, false_implies, implies_true, and_self, and_true, true_and]; done))) (by (first | rfl | exact (List.append_nil _).symm))); simp only [resV]; try exact V.wk.rfl _)
end
section
attribute [local go_sem] strsC sdX rz_len rz_g0 rz_g rz_s0 rz_s rz_sb zeroB

def ops0 : List OpT := firstRows.flatten
theorem back_end : ∀ {l : List Tok}, BackOk l → ∃ h : l ≠ [], (l.getLast h).key = (0, [], 0)
  | [], h => h.elim
  | t :: l, h => by
    rcases h with ⟨rfl, h⟩ | ⟨_, h⟩
    · exact ⟨by simp, h⟩
    · obtain ⟨hn, hk⟩ := back_end h
      exact ⟨by simp, by rw [List.getLast_cons hn]; exact hk⟩
theorem lex_back {s : List UInt8} (hs : s.length ≤ 2048) (he : (lexL s).err = 0) : BackOk (lexL s).toks := by
  have eS : lexL s = lexAt s.length (skipL false s) := if_neg (by omega)
  have h := (back_ok s.length _ (skipL false s) (Nat.lt_succ_self _) (by rw [eS] at he; exact he)).1
  rwa [show lexF s.length (skipL false s).length.succ (skipL false s) = lexL s from eS.symm] at h
theorem lex_end {s : List UInt8} (hs : s.length ≤ 2048) (he : (lexL s).err = 0) : TEnd (lexL s).toks := by
  obtain ⟨hn, hk⟩ := back_end (lex_back hs he)
  have hc := lexL_count s
  refine ⟨hn, fun h => ?_, by omega⟩
  rw [← List.getLast_eq_getElem hn]
  have hp : lastPos (lexL s).toks = ((lexL s).toks.getLast hn).pos := by
    unfold lastPos
    rw [List.getLast?_eq_some_getLast hn]; rfl
  rw [hp]
  generalize (lexL s).toks.getLast hn = x at hk
  obtain ⟨k, tx, n, ps⟩ := x
  simp only [Tok.key, Prod.mk.injEq] at hk
  obtain ⟨rfl, rfl, rfl⟩ := hk
  rfl
/-- What Read tells of a text. -/
noncomputable def readS (s : List UInt8) : Except Bad (List Sent × List OpT) := if (lexL s).err = 0 then allS (lexL s).toks ops0 0 [] else .error ⟨(lexL s).err, (lexL s).pos⟩
def srcV : Except Bad (List Sent × List OpT) → V
  | .ok (xs, l) => .tup [.c (sentsC xs), .c (opsC l), I 0, I 0]
  | .error x => .tup [.c (.sl []), .c (.sl []), I x.e, I x.pos]
theorem sent_ops {t : List Tok} {l l' : List OpT} {i j : Nat} {s : Sent} (hl : l.length ≤ 64) (hn : l ≠ []) (h : sentS t l i = .ok (s, j, l')) : l'.length ≤ 64 ∧ l' ≠ [] := by
  have hend : ∀ {s0 : Sent} {k : Nat}, endS t s0 k l = .ok (s, j, l') → l'.length ≤ 64 ∧ l' ≠ [] := fun h => by
    unfold endS at h
    split at h
    · injection h with h; injection h with _ h; injection h with _ h
      subst h; exact ⟨hl, hn⟩
    · cases h
  have hop : ∀ fix, opSent t (i + 1) (tokL t i).pos fix l = .ok (s, j, l') → l'.length ≤ 64 ∧ l' ≠ [] := fun fix h => by
    unfold opSent at h
    split at h
    · cases h
    · split at h
      · split at h
        · split at h
          · cases h
          · rename_i hd
            injection h with h; injection h with _ h; injection h with _ h
            subst h
            exact declL_len hl hn hd
        · cases h
      · cases h
  unfold sentS at h
  simp only at h
  split at h
  · unfold kindSent at h
    split at h
    · cases h
    · split at h
      · cases h
      · exact hend h
  · split at h
    · unfold typeSent at h
      split at h
      · cases h
      · split at h
        · cases h
        · exact hend h
    · split at h
      · exact hop _ h
      · split at h
        · exact hop _ h
        · split at h
          · exact hop _ h
          · unfold clauseSent at h
            split at h
            · cases h
            · exact hend h
theorem sent_cs (s : Sent) : s.cs = [.int .i64 s.k, strsC s.names, .int .i64 s.n, .int .i64 s.ty.k, .str s.ty.name, .int .i64 s.ty.n, .sl (s.ty.l.map Typ.cs), .str s.op.name, .int .i64 s.op.prec, .int .i64 s.op.fix, .int .i64 s.body.k, .str s.body.name, .int .i64 s.body.n, .sl (s.body.l.map Pre.cs), .int .i64 s.body.pos, .int .i64 s.pos] := rfl
structure AllSt where
  acc : List Sent
  i : Nat
  l : List OpT
theorem source_Read {w0 : World} (hG : Glob w0) (s : List UInt8) (hs : s.length ≤ 2048) (σ : H) : DC Tryz.prog w0 47 [S s] σ (Same (srcV (readS s)) σ) := by
  refine go47 rfl (fun hok hsz => ?_)
  generalize hr : readS s = r
  unfold readS at hr
  ((first | refine W.advO 5000 _ _ ?_ | skip); simp only [go_sem, seval, ↓reduceIte, reduceCtorEq, c47])
  (refine W.call1 (lex_Lex hG s (by omega) _) rfl rfl (by first | rfl | simp) ?_; refine W.advO 5000 _ _ ?_; simp only [go_sem, seval, ↓reduceIte, reduceCtorEq])
  by_cases he : (lexL s).err = 0
  · have hb : ((lexL s).err != 0) = false := by simpa using he
    rw [if_pos he] at hr
    have hT := lex_end hs he
    have hle := hT.le
    have hlen := lexL_count s
    generalize (lexL s).toks = t at *
    ((first | refine W.advO 5000 _ _ ?_ | skip); simp only [go_sem, seval, ↓reduceIte, reduceCtorEq, hb])
    refine W.no rfl ?_
    ((first | refine W.advO 5000 _ _ ?_ | skip); simp only [go_sem, seval, ↓reduceIte, reduceCtorEq])
    (refine W.call1 (ops_Default w0 _) rfl rfl (by first | rfl | simp) ?_; refine W.advO 5000 _ _ ?_; simp only [go_sem, seval, ↓reduceIte, reduceCtorEq])
    refine W.own 10 41 16 rfl ?_
    obtain ⟨τ, D, hτl, hrz⟩ : ∃ τ : H, σ.length < τ.length ∧ τ.length = σ.length + 1 ∧ ∀ X L, σ ++ X :: L = rz τ σ.length X ++ L := ⟨σ ++ [.gone], by simp, by simp, fun X L => by unfold rz; simp⟩
    have ho : ops0.length ≤ 64 ∧ ops0 ≠ [] := by decide
    have hokz : ∀ (i : Int) (l : List OpT) (e p : Int), H.ok (srd τ σ.length t i l e p) := fun i l e p => by
      have : srd τ σ.length t i l e p = σ ++ [sdX t i l e p] := by
        have := hrz (sdX t i l e p) []
        rw [List.append_nil] at this
        exact this.symm
      rw [this]
      refine H.ok_append hok fun b hb cs tg hc x hx => ?_
      simp only [List.mem_cons, List.not_mem_nil, or_false] at hb
      subst hb
      unfold sdX at hc
      injection hc with hc _
      subst hc
      simp only [List.mem_cons, List.not_mem_nil, or_false] at hx
      rcases hx with rfl | rfl | rfl | rfl | rfl <;> exact .c _
    ((first | refine W.advO 5000 _ _ ?_ | skip); simp only [go_sem, seval, ↓reduceIte, reduceCtorEq, hrz])
    have hstart : ∀ {Q k ρ}, W Tryz.prog w0 σ.length Q k ⟨ρ, srd τ σ.length t (0 : Nat) ops0 0 0 ++ [.spare 41 16 0]⟩ → W Tryz.prog w0 σ.length Q k ⟨ρ, rz τ σ.length (.cells [.c (.sl (t.map Tok.cs)), .c (.int .i64 0), .c (.sl (firstRows.flatten.map OpT.cs)), .c (.int .i64 0), .c (.int .i64 0)]) ++ [.spare 41 16 0]⟩ := fun h => h
    let I0 : AllSt → Prop := fun x => x.acc.length ≤ x.i ∧ x.i ≤ t.length ∧ x.l.length ≤ 64 ∧ x.l ≠ [] ∧ r = allS t x.l x.i x.acc
    let I1 : AllSt × Int × Int → Prop := fun x => (x.2.1 = 0 ∧ x.2.2 = 0 ∧ I0 x.1) ∨ ((x.2.1 == 0) = false ∧ r = .error ⟨x.2.1, x.2.2⟩)
    refine W.loopP (α := AllSt × Int × Int × Int) (fun x => I1 (x.1, x.2.1, x.2.2.1) ∧ (x.2.1 = 0 → x.2.2.2 = x.1.i))
      (fun x => ⟨((base.put (some 9) (.ptr σ.length 0)).put (some 10) (.osl τ.length (x.1.acc.map Sent.cs))), srd τ σ.length t x.2.2.2 x.1.l x.2.1 x.2.2.1 ++ [.spare 41 16 x.1.acc.length]⟩) (fun x => if x.2.1 = 0 then t.length + 1 - x.1.i else 0) (⟨[], 0, ops0⟩, 0, 0, 0) ⟨.inl ⟨rfl, rfl, Nat.zero_le _, Nat.zero_le _, ho.1, ho.2, hr.symm⟩, fun _ => rfl⟩ ?_ (fun x hx => ?_)
    · (refine Lew.env ?_; (repeat' (first | exact LeE.base _ | (refine LeE.put ?_ (by first | exact V.wk.rfl _ | exact V.wk.osl _ _ | exact V.wk.csl _)))))
    · obtain ⟨⟨acc, i, l⟩, e, p, j⟩ := x
      obtain ⟨hx, hj⟩ := hx
      simp only [I1] at hx hj
      rcases hx with ⟨rfl, rfl, h1, h2, h3, h4, h5⟩ | ⟨he1, h1⟩
      · obtain rfl := hj rfl
        simp only at h1 h2 h3 h4 h5
        rw [allS_eq] at h5
        by_cases hk0 : (tokL t i).kind = 0
        · have n0 : ((tokL t i).kind != 0) = false := by simpa using hk0
          rw [if_pos hk0] at h5
          subst h5
          ((first | refine W.advO 5000 _ _ ?_ | skip); simp only [go_sem, seval, ↓reduceIte, reduceCtorEq, rz_b D, rz_bL D, rz_sbL D, rz_app D])
          (refine W.call1 (DC.lift1 D (fun D' => sr_tok w0 t hT i (by omega) l 0 0 _ σ.length D')) rfl rfl (by first | rfl | simp) ?_; refine W.advO 5000 _ _ ?_; simp only [go_sem, seval, ↓reduceIte, reduceCtorEq, rz_b D, rz_bL D, rz_sbL D, rz_app D, n0])
          refine W.no rfl ?_
          ((first | refine W.advO 5000 _ _ ?_ | skip); simp only [go_sem, seval, ↓reduceIte, reduceCtorEq, rz_b D, rz_bL D, rz_sbL D, rz_app D])
          refine W.no rfl ?_
          ((first | refine W.advO 5000 _ _ ?_ | skip); simp only [go_sem, seval, ↓reduceIte, reduceCtorEq, rz_b D, rz_bL D, rz_sbL D, rz_app D])
          (apply W.dregE (List.cons_ne_nil _ _); case hc => ((apply CanonE.advPO; simp only [advPO_nil, advPO_loud, advPO_quiet, pL_yes, pL_no, pLS_some, pLS_none, pQ_yes, pQ_no, pQS_some, pQS_loud, eq_self, Nat.sub_zero, go_sem, seval, ↓reduceIte, reduceCtorEq, rz_b D, rz_bL D, rz_sbL D, rz_app D]); exact CanonE.nil))
          ((first | refine W.advO 5000 _ _ ?_ | skip); simp only [go_sem, seval, ↓reduceIte, reduceCtorEq, rz_b D, rz_bL D, rz_sbL D, rz_app D])
          rw [← hrz]
          (refine W.ret (Fin.sameW (hok) (by (first | rfl | exact List.length_set .. | simp)) (by simp only [resEval, r47, go_sem, seval, ↓reduceIte, reduceCtorEq, srcV, sentsC]; rfl) ?_ (by (first | exact .c _ | (simp only [I, S, B, opsC, toksC, Pre.v, Tok.v, OpT.v, low_c, low_void, low_any, low_csl, low_nilf, low_ptr, low_osl, low_agg, low_tup, low_fn, List.forall_mem_cons, List.not_mem_nil, false_implies, implies_true, and_self, and_true, true_and, srcV, sentsC]; done))) (by (first | rfl | exact (List.append_nil _).symm))); simp only [resV, srcV, sentsC]; try exact V.wk.rfl _)
          (repeat' (first | exact V.wk.rfl _ | exact V.wk.csl _ | exact V.wk.osl _ _ | exact wk_agg_nil | exact wk_tup_nil | refine wk_agg_cons ?_ ?_ | refine wk_tup_cons ?_ ?_))
        · have n0 : ((tokL t i).kind != 0) = true := by simpa using hk0
          rw [if_neg hk0] at h5
          have hil := tokL_lt hk0
          ((first | refine W.advO 5000 _ _ ?_ | skip); simp only [go_sem, seval, ↓reduceIte, reduceCtorEq, rz_b D, rz_bL D, rz_sbL D, rz_app D])
          (refine W.call1 (DC.lift1 D (fun D' => sr_tok w0 t hT i (by omega) l 0 0 _ σ.length D')) rfl rfl (by first | rfl | simp) ?_; refine W.advO 5000 _ _ ?_; simp only [go_sem, seval, ↓reduceIte, reduceCtorEq, rz_b D, rz_bL D, rz_sbL D, rz_app D, n0])
          refine W.yes rfl ?_
          ((first | refine W.advO 5000 _ _ ?_ | skip); simp only [go_sem, seval, ↓reduceIte, reduceCtorEq, rz_b D, rz_bL D, rz_sbL D, rz_app D])
          (refine W.call (DC.lift1R D (fun D' => sr_sentence w0 t hT i h2 l h3 h4 _ σ.length D')) rfl rfl (by first | rfl | simp) ?_)
          intro d σ1 hR
          obtain ⟨s', j, l', e, p, rfl, rfl, hst⟩ := rsen_out hR
          have hb1 : (acc.length + 1) * 200 ≤ 140737488355328 := by omega
          have hb2 : acc.length + 1 ≤ 140737488355328 := by omega
          ((first | refine W.advO 5000 _ _ ?_ | skip); simp only [go_sem, seval, ↓reduceIte, reduceCtorEq, rz_b D, rz_bL D, rz_sbL D, rz_app D, sent_v, hb1, hb2])
          rcases hst with ⟨rfl, rfl, k, rfl, hs'⟩ | ⟨he1, hs'⟩
          · rw [hs'] at h5
            have hf := sentS_far hs'
            have hop := sent_ops h3 h4 hs'
            refine .inv ⟨(⟨acc ++ [s'], k, l'⟩, 0, 0, k), ⟨.inl ⟨rfl, rfl, by simp; omega, hf.2, hop.1, hop.2, h5⟩, fun _ => rfl⟩, by simp only [if_true]; omega, ?_⟩
            simp only [go_sem, seval, ↓reduceIte, reduceCtorEq, List.map_append, List.length_append, sent_cs]
            (refine Lew.env ?_; (repeat' (first | exact LeE.base _ | (refine LeE.put ?_ (by first | exact V.wk.rfl _ | exact V.wk.osl _ _ | exact V.wk.csl _)))))
          · rw [hs'] at h5
            have hne : ¬ e = 0 := by simpa using he1
            refine .inv ⟨(⟨acc ++ [s'], 0, l'⟩, e, p, j), ⟨.inr ⟨he1, h5⟩, fun h => absurd h hne⟩, by simp only [if_neg hne, if_true]; omega, ?_⟩
            simp only [go_sem, seval, ↓reduceIte, reduceCtorEq, List.map_append, List.length_append, sent_cs]
            (refine Lew.env ?_; (repeat' (first | exact LeE.base _ | (refine LeE.put ?_ (by first | exact V.wk.rfl _ | exact V.wk.osl _ _ | exact V.wk.csl _)))))
      · subst h1
        have hb1 : (e != 0) = true := by rw [bne, he1]; rfl
        ((first | refine W.advO 5000 _ _ ?_ | skip); simp only [go_sem, seval, ↓reduceIte, reduceCtorEq, rz_b D, rz_bL D, rz_sbL D, rz_app D, he1])
        refine W.no rfl ?_
        ((first | refine W.advO 5000 _ _ ?_ | skip); simp only [go_sem, seval, ↓reduceIte, reduceCtorEq, rz_b D, rz_bL D, rz_sbL D, rz_app D, hb1])
        refine W.yes rfl ?_
        ((first | refine W.advO 5000 _ _ ?_ | skip); simp only [go_sem, seval, ↓reduceIte, reduceCtorEq, rz_b D, rz_bL D, rz_sbL D, rz_app D])
        (apply W.dregE (List.cons_ne_nil _ _); case hc => ((apply CanonE.advPO; simp only [advPO_nil, advPO_loud, advPO_quiet, pL_yes, pL_no, pLS_some, pLS_none, pQ_yes, pQ_no, pQS_some, pQS_loud, eq_self, Nat.sub_zero, go_sem, seval, ↓reduceIte, reduceCtorEq, rz_b D, rz_bL D, rz_sbL D, rz_app D]); exact CanonE.nil))
        ((first | refine W.advO 5000 _ _ ?_ | skip); simp only [go_sem, seval, ↓reduceIte, reduceCtorEq, rz_b D, rz_bL D, rz_sbL D, rz_app D])
        rw [← hrz]
        (refine W.ret (Fin.sameW (hok) (by (first | rfl | exact List.length_set .. | simp)) (by simp only [resEval, r47, go_sem, seval, ↓reduceIte, reduceCtorEq, srcV]; rfl) ?_ (by (first | exact .c _ | (simp only [I, S, B, opsC, toksC, Pre.v, Tok.v, OpT.v, low_c, low_void, low_any, low_csl, low_nilf, low_ptr, low_osl, low_agg, low_tup, low_fn, List.forall_mem_cons, List.not_mem_nil, false_implies, implies_true, and_self, and_true, true_and, srcV]; done))) (by (first | rfl | exact (List.append_nil _).symm))); simp only [resV, srcV]; try exact V.wk.rfl _)
        (repeat' (first | exact V.wk.rfl _ | exact V.wk.csl _ | exact V.wk.osl _ _ | exact wk_agg_nil | exact wk_tup_nil | refine wk_agg_cons ?_ ?_ | refine wk_tup_cons ?_ ?_))
  · have hb : ((lexL s).err != 0) = true := by simpa using he
    rw [if_neg he] at hr
    subst hr
    ((first | refine W.advO 5000 _ _ ?_ | skip); simp only [go_sem, seval, ↓reduceIte, reduceCtorEq, hb])
    refine W.yes rfl ?_
    ((first | refine W.advO 5000 _ _ ?_ | skip); simp only [go_sem, seval, ↓reduceIte, reduceCtorEq])
    (refine W.ret (Fin.sameW (hok) (by (first | rfl | exact List.length_set .. | simp)) (by simp only [resEval, r47, go_sem, seval, ↓reduceIte, reduceCtorEq, srcV]; rfl) ?_ (by (first | exact .c _ | (simp only [I, S, B, opsC, toksC, Pre.v, Tok.v, OpT.v, low_c, low_void, low_any, low_csl, low_nilf, low_ptr, low_osl, low_agg, low_tup, low_fn, List.forall_mem_cons, List.not_mem_nil, false_implies, implies_true, and_self, and_true, true_and, srcV]; done))) (by (first | rfl | exact (List.append_nil _).symm))); simp only [resV, srcV]; try exact V.wk.rfl _)
    (repeat' (first | exact V.wk.rfl _ | exact V.wk.csl _ | exact V.wk.osl _ _ | exact wk_agg_nil | exact wk_tup_nil | refine wk_agg_cons ?_ ?_ | refine wk_tup_cons ?_ ?_))
end
section
attribute [local go_sem] strsC rz_len rz_g0 rz_g rz_s0 rz_s rz_sb

theorem sr_tokC (w0 : World) (t : List Tok) (hT : TEnd t) (i : Nat) (hi : i ≤ 1000000) (c : V) (e p : Int) (σ : H) (b : Nat) (hb : σ[b]? = some (.cells [.c (toksC t), I i, c, I e, I p])) :
    DC Tryz.prog w0 98 [.ptr b 0] σ (Same (tokL t i).v σ) := by
  refine go98 rfl (fun hok hsz => ?_)
  have hp := hT.pos
  have hle := hT.le
  have hw2 : IntKind.i64.wrap ((t.length : Int) - 1) = ((t.length - 1 : Nat) : Int) := by rw [wrap_in] <;> omega
  have hmn : (if ((t.length - 1 : Nat) : Int) < (i : Int) then ((t.length - 1 : Nat) : Int) else (i : Int)) = ((min i (t.length - 1) : Nat) : Int) := by
    split <;> omega
  have hlt : ((min i (t.length - 1) : Nat) : Int) < (t.length : Int) := by omega
  have hx := hT.tok i
  ((first | refine W.advO 5000 _ _ ?_ | skip); simp only [go_sem, seval, ↓reduceIte, reduceCtorEq, c98, hG hb, hb])
  (apply W.dregE (List.cons_ne_nil _ _); case hc => ((apply CanonE.advPO; simp only [advPO_nil, advPO_loud, advPO_quiet, pL_yes, pL_no, pLS_some, pLS_none, pQ_yes, pQ_no, pQS_some, pQS_loud, eq_self, Nat.sub_zero, go_sem, seval, ↓reduceIte, reduceCtorEq, hG hb, hb, hw2, hmn, nat0, hlt, hx]); exact CanonE.nil))
  ((first | refine W.advO 5000 _ _ ?_ | skip); simp only [go_sem, seval, ↓reduceIte, reduceCtorEq])
  (refine W.ret (Fin.sameW (hok) (by (first | rfl | exact List.length_set .. | simp)) (by simp only [resEval, r98, go_sem, seval, ↓reduceIte, reduceCtorEq]; rfl) ?_ (by (first | exact .c _ | (simp only [I, S, B, opsC, toksC, Pre.v, Tok.v, OpT.v, low_c, low_void, low_any, low_csl, low_nilf, low_ptr, low_osl, low_agg, low_tup, low_fn, List.forall_mem_cons, List.not_mem_nil, false_implies, implies_true, and_self, and_true, true_and]; done))) (by (first | rfl | exact (List.append_nil _).symm))); simp only [resV]; try exact V.wk.rfl _)
  (repeat' (first | exact V.wk.rfl _ | exact V.wk.csl _ | exact V.wk.osl _ _ | exact wk_agg_nil | exact wk_tup_nil | refine wk_agg_cons ?_ ?_ | refine wk_tup_cons ?_ ?_))
/-- What Query tells. -/
noncomputable def queryS (l : List OpT) (s : List UInt8) : Except Bad Pre := if (lexL s).err = 0 then (match exprT l (lexL s).toks 0 with
    | .error b => .error b
    | .ok (m, j) => if (tokL (lexL s).toks (if (tokL (lexL s).toks j).kind = 7 then j + 1 else j)).kind = 0 then .ok m.p else .error ⟨101, (tokL (lexL s).toks (if (tokL (lexL s).toks j).kind = 7 then j + 1 else j)).pos⟩)
  else .error ⟨(lexL s).err, (lexL s).pos⟩
def queryV : Except Bad Pre → V
  | .ok p => .tup [p.v, I 0, I 0]
  | .error x => .tup [Pre.none.v, I x.e, I x.pos]
theorem source_Query {w0 : World} (hG : Glob w0) (l : List OpT) (s : List UInt8) (hs : s.length ≤ 2048) (σ : H) : DC Tryz.prog w0 53 [.c (opsC l), S s] σ (Same (queryV (queryS l s)) σ) := by
  refine go53 rfl (fun hok hsz => ?_)
  generalize hr : queryS l s = r
  unfold queryS at hr
  ((first | refine W.advO 5000 _ _ ?_ | skip); simp only [go_sem, seval, ↓reduceIte, reduceCtorEq, c53])
  (refine W.call1 (lex_Lex hG s (by omega) _) rfl rfl (by first | rfl | simp) ?_; refine W.advO 5000 _ _ ?_; simp only [go_sem, seval, ↓reduceIte, reduceCtorEq])
  by_cases he : (lexL s).err = 0
  · have hb : ((lexL s).err != 0) = false := by simpa using he
    rw [if_pos he] at hr
    have hT := lex_end hs he
    have hle := hT.le
    generalize (lexL s).toks = t at *
    have hE := exprT_is l t 0
    have hrd := fun (r : Except Bad (Made × Nat)) (h : Lamb.Expr l t 0 0 0 r) σ => (read_Read w0 l t 0 r σ h (Nat.zero_le _) (by omega) : DC Tryz.prog w0 105 [.c (opsC l), .c (toksC t), I 0] σ (Same (readV 0 r) σ))
    ((first | refine W.advO 5000 _ _ ?_ | skip); simp only [go_sem, seval, ↓reduceIte, reduceCtorEq, hb])
    refine W.no rfl ?_
    ((first | refine W.advO 5000 _ _ ?_ | skip); simp only [go_sem, seval, ↓reduceIte, reduceCtorEq])
    cases hx : exprT l t 0 with
    | error x =>
      rw [hx] at hr hE
      subst hr
      have hxn := Lamb.Expr.err hE
      (refine W.call1 (hrd _ hE _) rfl rfl (by first | rfl | simp) ?_; refine W.advO 5000 _ _ ?_; simp only [go_sem, seval, ↓reduceIte, reduceCtorEq, readV, Pre.none, hxn])
      refine W.yes rfl ?_
      ((first | refine W.advO 5000 _ _ ?_ | skip); simp only [go_sem, seval, ↓reduceIte, reduceCtorEq])
      (refine W.ret (Fin.sameW (hok) (by (first | rfl | exact List.length_set .. | simp)) (by simp only [resEval, r53, go_sem, seval, ↓reduceIte, reduceCtorEq, queryV, Pre.none]; rfl) ?_ (by (first | exact .c _ | (simp only [I, S, B, opsC, toksC, Pre.v, Tok.v, OpT.v, low_c, low_void, low_any, low_csl, low_nilf, low_ptr, low_osl, low_agg, low_tup, low_fn, List.forall_mem_cons, List.not_mem_nil, false_implies, implies_true, and_self, and_true, true_and, queryV, Pre.none]; done))) (by (first | rfl | exact (List.append_nil _).symm))); simp only [resV, queryV, Pre.none]; try exact V.wk.rfl _)
      (repeat' (first | exact V.wk.rfl _ | exact V.wk.csl _ | exact V.wk.osl _ _ | exact wk_agg_nil | exact wk_tup_nil | refine wk_agg_cons ?_ ?_ | refine wk_tup_cons ?_ ?_))
    | ok x =>
      obtain ⟨m, j⟩ := x
      rw [hx] at hr hE
      simp only at hr
      have hj := (exprT_far hx).2
      have hwj : IntKind.i64.wrap ((j : Int) + 1) = ((j + 1 : Nat) : Int) := by rw [wrap_in] <;> omega
      (refine W.call1 (hrd _ hE _) rfl rfl (by first | rfl | simp) ?_; refine W.advO 5000 _ _ ?_; simp only [go_sem, seval, ↓reduceIte, reduceCtorEq, readV])
      refine W.no rfl ?_
      ((first | refine W.advO 5000 _ _ ?_ | skip); simp only [go_sem, seval, ↓reduceIte, reduceCtorEq])
      by_cases h7 : (tokL t j).kind = 7
      · have n7 : ((tokL t j).kind == 7) = true := by simpa using h7
        simp only [if_pos h7] at hr
        (refine W.call1 (sr_tokC w0 t hT j (by omega) (.csl []) 0 0 _ (σ.length + 2) (hget σ _ 2)) rfl rfl (by first | rfl | simp) ?_; refine W.advO 5000 _ _ ?_; simp only [go_sem, seval, ↓reduceIte, reduceCtorEq, n7])
        refine W.yes rfl ?_
        ((first | refine W.advO 5000 _ _ ?_ | skip); simp only [go_sem, seval, ↓reduceIte, reduceCtorEq, hwj])
        (refine W.call1 (sr_tokC w0 t hT (j + 1) (by omega) (.csl []) 0 0 _ (σ.length + 2) (hget σ _ 2)) rfl rfl (by first | rfl | simp) ?_; refine W.advO 5000 _ _ ?_; simp only [go_sem, seval, ↓reduceIte, reduceCtorEq])
        by_cases h0 : (tokL t (j + 1)).kind = 0
        · have n0 : ((tokL t (j + 1)).kind != 0) = false := by simpa using h0
          rw [if_pos h0] at hr
          subst hr
          ((first | refine W.advO 5000 _ _ ?_ | skip); simp only [go_sem, seval, ↓reduceIte, reduceCtorEq, n0])
          refine W.no rfl ?_
          ((first | refine W.advO 5000 _ _ ?_ | skip); simp only [go_sem, seval, ↓reduceIte, reduceCtorEq])
          (refine W.ret (Fin.sameW (hok) (by (first | rfl | exact List.length_set .. | simp)) (by simp only [resEval, r53, go_sem, seval, ↓reduceIte, reduceCtorEq, queryV]; rfl) ?_ (by (first | exact .c _ | (simp only [I, S, B, opsC, toksC, Pre.v, Tok.v, OpT.v, low_c, low_void, low_any, low_csl, low_nilf, low_ptr, low_osl, low_agg, low_tup, low_fn, List.forall_mem_cons, List.not_mem_nil, false_implies, implies_true, and_self, and_true, true_and, queryV]; done))) (by (first | rfl | exact (List.append_nil _).symm))); simp only [resV, queryV]; try exact V.wk.rfl _)
          (repeat' (first | exact V.wk.rfl _ | exact V.wk.csl _ | exact V.wk.osl _ _ | exact wk_agg_nil | exact wk_tup_nil | refine wk_agg_cons ?_ ?_ | refine wk_tup_cons ?_ ?_))
        · have n0 : ((tokL t (j + 1)).kind != 0) = true := by simpa using h0
          rw [if_neg h0] at hr
          subst hr
          ((first | refine W.advO 5000 _ _ ?_ | skip); simp only [go_sem, seval, ↓reduceIte, reduceCtorEq, n0])
          refine W.yes rfl ?_
          ((first | refine W.advO 5000 _ _ ?_ | skip); simp only [go_sem, seval, ↓reduceIte, reduceCtorEq])
          (apply W.dregE (List.cons_ne_nil _ _); case hc => ((apply CanonE.advPO; simp only [advPO_nil, advPO_loud, advPO_quiet, pL_yes, pL_no, pLS_some, pLS_none, pQ_yes, pQ_no, pQS_some, pQS_loud, eq_self, Nat.sub_zero, go_sem, seval, ↓reduceIte, reduceCtorEq]); exact CanonE.nil))
          ((first | refine W.advO 5000 _ _ ?_ | skip); simp only [go_sem, seval, ↓reduceIte, reduceCtorEq])
          (refine W.ret (Fin.sameW (hok) (by (first | rfl | exact List.length_set .. | simp)) (by simp only [resEval, r53, go_sem, seval, ↓reduceIte, reduceCtorEq, queryV, Pre.none]; rfl) ?_ (by (first | exact .c _ | (simp only [I, S, B, opsC, toksC, Pre.v, Tok.v, OpT.v, low_c, low_void, low_any, low_csl, low_nilf, low_ptr, low_osl, low_agg, low_tup, low_fn, List.forall_mem_cons, List.not_mem_nil, false_implies, implies_true, and_self, and_true, true_and, queryV, Pre.none]; done))) (by (first | rfl | exact (List.append_nil _).symm))); simp only [resV, queryV, Pre.none]; try exact V.wk.rfl _)
          (repeat' (first | exact V.wk.rfl _ | exact V.wk.csl _ | exact V.wk.osl _ _ | exact wk_agg_nil | exact wk_tup_nil | refine wk_agg_cons ?_ ?_ | refine wk_tup_cons ?_ ?_))
      · have n7 : ((tokL t j).kind == 7) = false := by simpa using h7
        simp only [if_neg h7] at hr
        (refine W.call1 (sr_tokC w0 t hT j (by omega) (.csl []) 0 0 _ (σ.length + 2) (hget σ _ 2)) rfl rfl (by first | rfl | simp) ?_; refine W.advO 5000 _ _ ?_; simp only [go_sem, seval, ↓reduceIte, reduceCtorEq, n7])
        refine W.no rfl ?_
        ((first | refine W.advO 5000 _ _ ?_ | skip); simp only [go_sem, seval, ↓reduceIte, reduceCtorEq])
        (refine W.call1 (sr_tokC w0 t hT j (by omega) (.csl []) 0 0 _ (σ.length + 2) (hget σ _ 2)) rfl rfl (by first | rfl | simp) ?_; refine W.advO 5000 _ _ ?_; simp only [go_sem, seval, ↓reduceIte, reduceCtorEq])
        by_cases h0 : (tokL t j).kind = 0
        · have n0 : ((tokL t j).kind != 0) = false := by simpa using h0
          rw [if_pos h0] at hr
          subst hr
          ((first | refine W.advO 5000 _ _ ?_ | skip); simp only [go_sem, seval, ↓reduceIte, reduceCtorEq, n0])
          refine W.no rfl ?_
          ((first | refine W.advO 5000 _ _ ?_ | skip); simp only [go_sem, seval, ↓reduceIte, reduceCtorEq])
          (refine W.ret (Fin.sameW (hok) (by (first | rfl | exact List.length_set .. | simp)) (by simp only [resEval, r53, go_sem, seval, ↓reduceIte, reduceCtorEq, queryV]; rfl) ?_ (by (first | exact .c _ | (simp only [I, S, B, opsC, toksC, Pre.v, Tok.v, OpT.v, low_c, low_void, low_any, low_csl, low_nilf, low_ptr, low_osl, low_agg, low_tup, low_fn, List.forall_mem_cons, List.not_mem_nil, false_implies, implies_true, and_self, and_true, true_and, queryV]; done))) (by (first | rfl | exact (List.append_nil _).symm))); simp only [resV, queryV]; try exact V.wk.rfl _)
          (repeat' (first | exact V.wk.rfl _ | exact V.wk.csl _ | exact V.wk.osl _ _ | exact wk_agg_nil | exact wk_tup_nil | refine wk_agg_cons ?_ ?_ | refine wk_tup_cons ?_ ?_))
        · have n0 : ((tokL t j).kind != 0) = true := by simpa using h0
          rw [if_neg h0] at hr
          subst hr
          ((first | refine W.advO 5000 _ _ ?_ | skip); simp only [go_sem, seval, ↓reduceIte, reduceCtorEq, n0])
          refine W.yes rfl ?_
          ((first | refine W.advO 5000 _ _ ?_ | skip); simp only [go_sem, seval, ↓reduceIte, reduceCtorEq])
          (apply W.dregE (List.cons_ne_nil _ _); case hc => ((apply CanonE.advPO; simp only [advPO_nil, advPO_loud, advPO_quiet, pL_yes, pL_no, pLS_some, pLS_none, pQ_yes, pQ_no, pQS_some, pQS_loud, eq_self, Nat.sub_zero, go_sem, seval, ↓reduceIte, reduceCtorEq]); exact CanonE.nil))
          ((first | refine W.advO 5000 _ _ ?_ | skip); simp only [go_sem, seval, ↓reduceIte, reduceCtorEq])
          (refine W.ret (Fin.sameW (hok) (by (first | rfl | exact List.length_set .. | simp)) (by simp only [resEval, r53, go_sem, seval, ↓reduceIte, reduceCtorEq, queryV, Pre.none]; rfl) ?_ (by (first | exact .c _ | (simp only [I, S, B, opsC, toksC, Pre.v, Tok.v, OpT.v, low_c, low_void, low_any, low_csl, low_nilf, low_ptr, low_osl, low_agg, low_tup, low_fn, List.forall_mem_cons, List.not_mem_nil, false_implies, implies_true, and_self, and_true, true_and, queryV, Pre.none]; done))) (by (first | rfl | exact (List.append_nil _).symm))); simp only [resV, queryV, Pre.none]; try exact V.wk.rfl _)
          (repeat' (first | exact V.wk.rfl _ | exact V.wk.csl _ | exact V.wk.osl _ _ | exact wk_agg_nil | exact wk_tup_nil | refine wk_agg_cons ?_ ?_ | refine wk_tup_cons ?_ ?_))
  · have hb : ((lexL s).err != 0) = true := by simpa using he
    rw [if_neg he] at hr
    subst hr
    ((first | refine W.advO 5000 _ _ ?_ | skip); simp only [go_sem, seval, ↓reduceIte, reduceCtorEq, hb])
    refine W.yes rfl ?_
    ((first | refine W.advO 5000 _ _ ?_ | skip); simp only [go_sem, seval, ↓reduceIte, reduceCtorEq])
    (refine W.ret (Fin.sameW (hok) (by (first | rfl | exact List.length_set .. | simp)) (by simp only [resEval, r53, go_sem, seval, ↓reduceIte, reduceCtorEq, queryV, Pre.none]; rfl) ?_ (by (first | exact .c _ | (simp only [I, S, B, opsC, toksC, Pre.v, Tok.v, OpT.v, low_c, low_void, low_any, low_csl, low_nilf, low_ptr, low_osl, low_agg, low_tup, low_fn, List.forall_mem_cons, List.not_mem_nil, false_implies, implies_true, and_self, and_true, true_and, queryV, Pre.none]; done))) (by (first | rfl | exact (List.append_nil _).symm))); simp only [resV, queryV, Pre.none]; try exact V.wk.rfl _)
    (repeat' (first | exact V.wk.rfl _ | exact V.wk.csl _ | exact V.wk.osl _ _ | exact wk_agg_nil | exact wk_tup_nil | refine wk_agg_cons ?_ ?_ | refine wk_tup_cons ?_ ?_))
end
end Go.Proofs.YtlogjjnimlnpkaaGreatDoor
namespace Go.Proofs.YtlogjjnimlnpkaaGreatDoor
open Go.RowKit Go.Lamb
/-- (*lambentref10.State).word -/
def c210 : AC :=
  .seq (.reg [⟨some 6, .mov (.k (.c (.bool false))), none⟩])
  (.seq (.reg [⟨some 8, .mov (.t 0), none⟩, ⟨some 9, .call (.k (.fn 102 [])) [(.t 8)], none⟩, ⟨some 7, .box (.k (.agg [.c (.int .i64 0), .c (.str []), .c (.int .i64 0), .c (.int .i64 0)])), none⟩, ⟨none, .store 4 (.t 7) (.t 9), none⟩])
  (.seq (.seq (.reg [⟨some 10, .fadd 0 (.t 7), none⟩, ⟨some 11, .load1 (.t 10), none⟩, ⟨some 12, .mov (.t 1), none⟩, ⟨some 13, .bin .neq (.t 11) (.t 12), none⟩, ⟨some 14, .mov (.t 13), none⟩, ⟨some 15, .fadd 1 (.t 7), some (14, false)⟩, ⟨some 16, .load1 (.t 15), some (14, false)⟩, ⟨some 17, .mov (.t 2), some (14, false)⟩, ⟨some 18, .bin .neq (.t 16) (.t 17), some (14, false)⟩, ⟨some 19, .pick (.t 14) (.k (.c (.bool true))) (.t 18), none⟩])
  (.cond (.t 19)
  (.seq (.reg [⟨some 6, .mov (.k (.c (.bool false))), none⟩])
  (.ret))
  (.skip)))
  (.seq (.reg [⟨some 20, .mov (.t 0), none⟩, ⟨some 21, .nilck (.t 20), none⟩, ⟨some 22, .fadd 1 (.t 21), none⟩, ⟨some 23, .load1 (.t 22), none⟩, ⟨some 24, .bin .add (.t 23) (.k (.c (.int .i64 1))), none⟩, ⟨some 25, .nilck (.t 20), none⟩, ⟨some 26, .fadd 1 (.t 25), none⟩, ⟨none, .store 1 (.t 26) (.t 24), none⟩])
  (.seq (.reg [⟨some 6, .mov (.k (.c (.bool true))), none⟩])
  (.ret)))))
/-- (*lambentref10.State).end -/
def c212 : AC :=
  .seq (.reg [⟨some 3, .mov (.t 0), none⟩, ⟨some 4, .call (.k (.fn 102 [])) [(.t 3)], none⟩, ⟨some 2, .box (.k (.agg [.c (.int .i64 0), .c (.str []), .c (.int .i64 0), .c (.int .i64 0)])), none⟩, ⟨none, .store 4 (.t 2) (.t 4), none⟩])
  (.seq (.seq (.reg [⟨some 5, .fadd 0 (.t 2), none⟩, ⟨some 6, .load1 (.t 5), none⟩, ⟨some 7, .bin .neq (.t 6) (.k (.c (.int .i64 7))), none⟩])
  (.cond (.t 7)
  (.seq (.reg [⟨some 8, .mov (.t 0), none⟩, ⟨some 9, .fadd 3 (.t 2), none⟩, ⟨some 10, .load1 (.t 9), none⟩, ⟨some 11, .call (.k (.fn 211 [])) [(.t 8), (.k (.c (.int .i64 101))), (.t 10)], none⟩])
  (.ret))
  (.skip)))
  (.reg [⟨some 12, .mov (.t 0), none⟩, ⟨some 13, .nilck (.t 12), none⟩, ⟨some 14, .fadd 1 (.t 13), none⟩, ⟨some 15, .load1 (.t 14), none⟩, ⟨some 16, .bin .add (.t 15) (.k (.c (.int .i64 1))), none⟩, ⟨some 17, .nilck (.t 12), none⟩, ⟨some 18, .fadd 1 (.t 17), none⟩, ⟨none, .store 1 (.t 18) (.t 16), none⟩]))
/-- (*lambentref10.State).op -/
def c171 : AC :=
  .seq (.reg [⟨some 6, .box (.k (.agg [.c (.int .i64 0), .csl [], .c (.int .i64 0), .c (.int .i64 0), .c (.str []), .c (.int .i64 0), .csl [], .c (.str []), .c (.int .i64 0), .c (.int .i64 0), .c (.int .i64 0), .c (.str []), .c (.int .i64 0), .csl [], .c (.int .i64 0), .c (.int .i64 0)])), none⟩])
  (.seq (.reg [⟨some 14, .mov (.t 0), none⟩, ⟨some 15, .call (.k (.fn 209 [])) [(.t 14), (.k (.c (.bool true)))], none⟩, ⟨some 13, .mov (.t 15), none⟩, ⟨some 16, .ext (.t 13) 0, none⟩, ⟨some 17, .ext (.t 13) 1, none⟩, ⟨some 7, .mov (.t 16), none⟩, ⟨some 8, .mov (.t 17), none⟩])
  (.seq (.seq (.reg [⟨some 18, .mov (.t 0), none⟩, ⟨some 19, .nilck (.t 18), none⟩, ⟨some 20, .fadd 2 (.t 19), none⟩, ⟨some 21, .load1 (.t 20), none⟩, ⟨some 22, .bin .neq (.t 21) (.k (.c (.int .i64 0))), none⟩])
  (.cond (.t 22)
  (.seq (.reg [⟨some 23, .build [.c (.int .i64 0), .csl [], .c (.int .i64 0), .c (.int .i64 0), .c (.str []), .c (.int .i64 0), .csl [], .c (.str []), .c (.int .i64 0), .c (.int .i64 0), .c (.int .i64 0), .c (.str []), .c (.int .i64 0), .csl [], .c (.int .i64 0), .c (.int .i64 0)] [], none⟩, ⟨none, .store 16 (.t 6) (.t 23), none⟩])
  (.ret))
  (.skip)))
  (.seq (.reg [⟨some 24, .mov (.t 0), none⟩, ⟨some 25, .call (.k (.fn 102 [])) [(.t 24)], none⟩, ⟨some 9, .box (.k (.agg [.c (.int .i64 0), .c (.str []), .c (.int .i64 0), .c (.int .i64 0)])), none⟩, ⟨none, .store 4 (.t 9) (.t 25), none⟩])
  (.seq (.seq (.reg [⟨some 26, .fadd 0 (.t 9), none⟩, ⟨some 27, .load1 (.t 26), none⟩, ⟨some 28, .bin .neq (.t 27) (.k (.c (.int .i64 3))), none⟩])
  (.cond (.t 28)
  (.seq (.reg [⟨some 29, .mov (.t 0), none⟩, ⟨some 30, .fadd 3 (.t 9), none⟩, ⟨some 31, .load1 (.t 30), none⟩, ⟨some 32, .call (.k (.fn 211 [])) [(.t 29), (.k (.c (.int .i64 100))), (.t 31)], none⟩])
  (.seq (.reg [⟨some 33, .build [.c (.int .i64 0), .csl [], .c (.int .i64 0), .c (.int .i64 0), .c (.str []), .c (.int .i64 0), .csl [], .c (.str []), .c (.int .i64 0), .c (.int .i64 0), .c (.int .i64 0), .c (.str []), .c (.int .i64 0), .csl [], .c (.int .i64 0), .c (.int .i64 0)] [], none⟩, ⟨none, .store 16 (.t 6) (.t 33), none⟩])
  (.ret)))
  (.skip)))
  (.seq (.reg [⟨some 34, .mov (.t 0), none⟩, ⟨some 35, .nilck (.t 34), none⟩, ⟨some 36, .fadd 1 (.t 35), none⟩, ⟨some 37, .load1 (.t 36), none⟩, ⟨some 38, .bin .add (.t 37) (.k (.c (.int .i64 1))), none⟩, ⟨some 39, .nilck (.t 34), none⟩, ⟨some 40, .fadd 1 (.t 39), none⟩, ⟨none, .store 1 (.t 40) (.t 38), none⟩])
  (.seq (.reg [⟨some 41, .mov (.t 0), none⟩, ⟨some 42, .call (.k (.fn 212 [])) [(.t 41)], none⟩])
  (.seq (.seq (.reg [⟨some 10, .mov (.k (.c (.int .i64 0))), none⟩])
  (.block 0 (.loop (.seq (.seq (.reg [⟨some 43, .mov (.t 10), none⟩, ⟨some 44, .mov (.t 7), none⟩, ⟨some 45, .lenr (.t 44), none⟩, ⟨some 46, .bin .lss (.t 43) (.t 45), none⟩, ⟨some 47, .mov (.t 46), none⟩, ⟨some 48, .mov (.t 0), some (47, true)⟩, ⟨some 49, .nilck (.t 48), some (47, true)⟩, ⟨some 50, .fadd 2 (.t 49), some (47, true)⟩, ⟨some 51, .load1 (.t 50), some (47, true)⟩, ⟨some 52, .bin .eql (.t 51) (.k (.c (.int .i64 0))), some (47, true)⟩, ⟨some 53, .pick (.t 47) (.t 52) (.k (.c (.bool false))), none⟩])
  (.cond (.t 53)
  (.skip)
  (.exit 0)))
  (.seq (.block 1 (.seq (.dreg [⟨some 56, .mov (.t 7), none⟩, ⟨some 57, .mov (.t 10), none⟩, ⟨some 58, .iadd 1 (.t 56) (.t 57), none⟩, ⟨some 59, .load1 (.t 58), none⟩, ⟨some 60, .fadd 2 (.t 9), none⟩, ⟨some 61, .load1 (.t 60), none⟩, ⟨some 62, .mov (.t 2), none⟩, ⟨some 63, .build [.c (.str []), .c (.int .i64 0), .c (.int .i64 0)] [(0, 1, (.t 59)), (1, 1, (.t 61)), (2, 1, (.t 62))], none⟩, ⟨some 11, .box (.k (.agg [.c (.str []), .c (.int .i64 0), .c (.int .i64 0)])), none⟩, ⟨none, .store 3 (.t 11) (.t 63), none⟩]
    [⟨⟨some 11, .box (.k (.agg [.c (.str []), .c (.int .i64 0), .c (.int .i64 0)])), none⟩, true, 0⟩, ⟨⟨some 56, .mov (.t 7), none⟩, false, 0⟩, ⟨⟨some 57, .mov (.t 10), none⟩, false, 0⟩, ⟨⟨some 58, .iadd 1 (.t 56) (.t 57), none⟩, false, 0⟩, ⟨⟨some 59, .load1 (.t 58), none⟩, false, 0⟩, ⟨⟨some 60, .fadd 2 (.t 9), none⟩, false, 0⟩, ⟨⟨some 61, .load1 (.t 60), none⟩, false, 0⟩, ⟨⟨some 62, .mov (.t 2), none⟩, false, 0⟩, ⟨⟨some 63, .build [.c (.str []), .c (.int .i64 0), .c (.int .i64 0)] [(0, 1, (.t 59)), (1, 1, (.t 61)), (2, 1, (.t 62))], none⟩, false, 0⟩, ⟨⟨none, .store 3 (.t 11) (.t 63), none⟩, true, 1⟩])
  (.seq (.dreg [⟨some 64, .mov (.t 0), none⟩, ⟨some 65, .nilck (.t 64), none⟩, ⟨some 66, .fadd 4 (.t 65), none⟩, ⟨some 67, .load1 (.t 66), none⟩, ⟨some 68, .loadn 3 (.t 11), none⟩, ⟨some 69, .call (.k (.fn 128 [])) [(.t 67), (.t 68)], none⟩, ⟨some 12, .mov (.t 69), none⟩]
    [⟨⟨some 64, .mov (.t 0), none⟩, false, 0⟩, ⟨⟨some 65, .nilck (.t 64), none⟩, false, 0⟩, ⟨⟨some 66, .fadd 4 (.t 65), none⟩, false, 0⟩, ⟨⟨some 67, .load1 (.t 66), none⟩, false, 0⟩, ⟨⟨some 68, .loadn 3 (.t 11), none⟩, false, 0⟩, ⟨⟨some 69, .call (.k (.fn 128 [])) [(.t 67), (.t 68)], none⟩, true, 0⟩, ⟨⟨some 12, .mov (.t 69), none⟩, false, 1⟩])
  (.seq (.seq (.reg [⟨some 70, .mov (.t 12), none⟩, ⟨some 71, .bin .neq (.t 70) (.k (.c (.int .i64 0))), none⟩])
  (.cond (.t 71)
  (.reg [⟨some 72, .mov (.t 0), none⟩, ⟨some 73, .mov (.t 12), none⟩, ⟨some 74, .mov (.t 8), none⟩, ⟨some 75, .mov (.t 10), none⟩, ⟨some 76, .iadd 1 (.t 74) (.t 75), none⟩, ⟨some 77, .load1 (.t 76), none⟩, ⟨some 78, .call (.k (.fn 211 [])) [(.t 72), (.t 73), (.t 77)], none⟩])
  (.skip)))
  (.dreg [⟨some 79, .mov (.t 0), none⟩, ⟨some 80, .mov (.t 0), none⟩, ⟨some 81, .nilck (.t 80), none⟩, ⟨some 82, .fadd 4 (.t 81), none⟩, ⟨some 83, .load1 (.t 82), none⟩, ⟨some 84, .loadn 3 (.t 11), none⟩, ⟨some 85, .bsl 3 [(.t 84)], none⟩, ⟨some 86, .app 35 3 32 (.t 83) (.t 85), none⟩, ⟨some 87, .nilck (.t 79), none⟩, ⟨some 88, .fadd 4 (.t 87), none⟩, ⟨none, .store 1 (.t 88) (.t 86), none⟩]
    [⟨⟨some 80, .mov (.t 0), none⟩, false, 0⟩, ⟨⟨some 81, .nilck (.t 80), none⟩, false, 0⟩, ⟨⟨some 82, .fadd 4 (.t 81), none⟩, false, 0⟩, ⟨⟨some 83, .load1 (.t 82), none⟩, false, 0⟩, ⟨⟨some 84, .loadn 3 (.t 11), none⟩, false, 0⟩, ⟨⟨some 85, .bsl 3 [(.t 84)], none⟩, false, 0⟩, ⟨⟨some 86, .app 35 3 32 (.t 83) (.t 85), none⟩, true, 0⟩, ⟨⟨some 79, .mov (.t 0), none⟩, false, 0⟩, ⟨⟨some 87, .nilck (.t 79), none⟩, false, 1⟩, ⟨⟨some 88, .fadd 4 (.t 87), none⟩, false, 1⟩, ⟨⟨none, .store 1 (.t 88) (.t 86), none⟩, true, 1⟩])))))
  (.reg [⟨some 54, .mov (.t 10), none⟩, ⟨some 55, .bin .add (.t 54) (.k (.c (.int .i64 1))), none⟩, ⟨some 10, .mov (.t 55), none⟩]))))))
  (.seq (.reg [⟨some 89, .mov (.t 7), none⟩, ⟨some 90, .fadd 2 (.t 9), none⟩, ⟨some 91, .load1 (.t 90), none⟩, ⟨some 92, .mov (.t 2), none⟩, ⟨some 93, .build [.c (.str []), .c (.int .i64 0), .c (.int .i64 0)] [(1, 1, (.t 91)), (2, 1, (.t 92))], none⟩, ⟨some 94, .mov (.t 1), none⟩, ⟨some 95, .build [.c (.int .i64 0), .csl [], .c (.int .i64 0), .c (.int .i64 0), .c (.str []), .c (.int .i64 0), .csl [], .c (.str []), .c (.int .i64 0), .c (.int .i64 0), .c (.int .i64 0), .c (.str []), .c (.int .i64 0), .csl [], .c (.int .i64 0), .c (.int .i64 0)] [(0, 1, (.k (.c (.int .i64 2)))), (1, 1, (.t 89)), (7, 3, (.t 93)), (15, 1, (.t 94))], none⟩, ⟨none, .store 16 (.t 6) (.t 95), none⟩])
  (.ret)))))))))
/-- lambentref02.one -/
def c168 : AC :=
  .seq (.reg [⟨some 6, .box (.k (.agg [.c (.str []), .c (.int .i64 0), .c (.int .i64 0)])), none⟩])
  (.seq (.reg [⟨some 7, .mov (.t 0), none⟩, ⟨some 8, .mov (.t 1), none⟩, ⟨some 9, .mov (.t 2), none⟩, ⟨some 10, .build [.c (.str []), .c (.int .i64 0), .c (.int .i64 0)] [(0, 1, (.t 7)), (1, 1, (.t 8)), (2, 1, (.t 9))], none⟩, ⟨none, .store 3 (.t 6) (.t 10), none⟩])
  (.ret))
/-- lambentref10.Same -/
def c51 : AC :=
  .seq (.reg [⟨some 2, .box (.t 0), none⟩, ⟨some 3, .box (.t 1), none⟩, ⟨some 4, .mov (.k (.c (.bool false))), none⟩])
  (.seq (.seq (.reg [⟨some 8, .fadd 0 (.t 2), none⟩, ⟨some 9, .load1 (.t 8), none⟩, ⟨some 10, .fadd 0 (.t 3), none⟩, ⟨some 11, .load1 (.t 10), none⟩, ⟨some 12, .bin .neq (.t 9) (.t 11), none⟩, ⟨some 13, .mov (.t 12), none⟩, ⟨some 14, .fadd 1 (.t 2), some (13, false)⟩, ⟨some 15, .load1 (.t 14), some (13, false)⟩, ⟨some 16, .lenr (.t 15), some (13, false)⟩, ⟨some 17, .fadd 1 (.t 3), some (13, false)⟩, ⟨some 18, .load1 (.t 17), some (13, false)⟩, ⟨some 19, .lenr (.t 18), some (13, false)⟩, ⟨some 20, .bin .neq (.t 16) (.t 19), some (13, false)⟩, ⟨some 21, .pick (.t 13) (.k (.c (.bool true))) (.t 20), none⟩, ⟨some 22, .mov (.t 21), none⟩, ⟨some 23, .fadd 2 (.t 2), some (22, false)⟩, ⟨some 24, .load1 (.t 23), some (22, false)⟩, ⟨some 25, .fadd 2 (.t 3), some (22, false)⟩, ⟨some 26, .load1 (.t 25), some (22, false)⟩, ⟨some 27, .bin .neq (.t 24) (.t 26), some (22, false)⟩, ⟨some 28, .pick (.t 22) (.k (.c (.bool true))) (.t 27), none⟩, ⟨some 29, .mov (.t 28), none⟩, ⟨some 30, .fadd 7 (.t 2), some (29, false)⟩, ⟨some 31, .loadn 3 (.t 30), some (29, false)⟩, ⟨some 32, .fadd 7 (.t 3), some (29, false)⟩, ⟨some 33, .loadn 3 (.t 32), some (29, false)⟩, ⟨some 34, .eqs true [2, 1, 1] (.t 31) (.t 33), some (29, false)⟩, ⟨some 35, .pick (.t 29) (.k (.c (.bool true))) (.t 34), none⟩, ⟨some 36, .mov (.t 35), none⟩, ⟨some 37, .fadd 15 (.t 2), some (36, false)⟩, ⟨some 38, .load1 (.t 37), some (36, false)⟩, ⟨some 39, .fadd 15 (.t 3), some (36, false)⟩, ⟨some 40, .load1 (.t 39), some (36, false)⟩, ⟨some 41, .bin .neq (.t 38) (.t 40), some (36, false)⟩, ⟨some 42, .pick (.t 36) (.k (.c (.bool true))) (.t 41), none⟩])
  (.cond (.t 42)
  (.seq (.reg [⟨some 4, .mov (.k (.c (.bool false))), none⟩])
  (.ret))
  (.skip)))
  (.seq (.seq (.reg [⟨some 5, .mov (.k (.c (.int .i64 0))), none⟩])
  (.block 0 (.loop (.seq (.seq (.reg [⟨some 43, .mov (.t 5), none⟩, ⟨some 44, .fadd 1 (.t 2), none⟩, ⟨some 45, .load1 (.t 44), none⟩, ⟨some 46, .lenr (.t 45), none⟩, ⟨some 47, .bin .lss (.t 43) (.t 46), none⟩])
  (.cond (.t 47)
  (.skip)
  (.exit 0)))
  (.seq (.block 1 (.seq (.dreg [⟨some 50, .fadd 1 (.t 2), none⟩, ⟨some 51, .load1 (.t 50), none⟩, ⟨some 52, .mov (.t 5), none⟩, ⟨some 53, .iadd 1 (.t 51) (.t 52), none⟩, ⟨some 54, .load1 (.t 53), none⟩, ⟨some 55, .fadd 1 (.t 3), none⟩, ⟨some 56, .load1 (.t 55), none⟩, ⟨some 57, .mov (.t 5), none⟩, ⟨some 58, .iadd 1 (.t 56) (.t 57), none⟩, ⟨some 59, .load1 (.t 58), none⟩, ⟨some 60, .bin .neq (.t 54) (.t 59), none⟩]
    [⟨⟨some 50, .fadd 1 (.t 2), none⟩, false, 0⟩, ⟨⟨some 51, .load1 (.t 50), none⟩, false, 0⟩, ⟨⟨some 52, .mov (.t 5), none⟩, false, 0⟩, ⟨⟨some 53, .iadd 1 (.t 51) (.t 52), none⟩, false, 0⟩, ⟨⟨some 54, .load1 (.t 53), none⟩, false, 0⟩, ⟨⟨some 55, .fadd 1 (.t 3), none⟩, false, 0⟩, ⟨⟨some 56, .load1 (.t 55), none⟩, false, 0⟩, ⟨⟨some 57, .mov (.t 5), none⟩, false, 0⟩, ⟨⟨some 58, .iadd 1 (.t 56) (.t 57), none⟩, false, 0⟩, ⟨⟨some 59, .load1 (.t 58), none⟩, false, 0⟩, ⟨⟨some 60, .bin .neq (.t 54) (.t 59), none⟩, false, 0⟩])
  (.cond (.t 60)
  (.seq (.reg [⟨some 4, .mov (.k (.c (.bool false))), none⟩])
  (.ret))
  (.skip))))
  (.reg [⟨some 48, .mov (.t 5), none⟩, ⟨some 49, .bin .add (.t 48) (.k (.c (.int .i64 1))), none⟩, ⟨some 5, .mov (.t 49), none⟩]))))))
  (.seq (.reg [⟨some 61, .fadd 3 (.t 2), none⟩, ⟨some 62, .loadn 4 (.t 61), none⟩, ⟨some 63, .fadd 3 (.t 3), none⟩, ⟨some 64, .loadn 4 (.t 63), none⟩, ⟨some 65, .call (.k (.fn 26 [])) [(.t 62), (.t 64)], none⟩, ⟨some 6, .mov (.t 65), none⟩])
  (.seq (.reg [⟨some 66, .fadd 10 (.t 2), none⟩, ⟨some 67, .loadn 5 (.t 66), none⟩, ⟨some 68, .fadd 10 (.t 3), none⟩, ⟨some 69, .loadn 5 (.t 68), none⟩, ⟨some 70, .call (.k (.fn 56 [])) [(.t 67), (.t 69)], none⟩, ⟨some 7, .mov (.t 70), none⟩])
  (.seq (.reg [⟨some 71, .mov (.t 6), none⟩, ⟨some 72, .mov (.t 71), none⟩, ⟨some 73, .mov (.t 7), some (72, true)⟩, ⟨some 74, .pick (.t 72) (.t 73) (.k (.c (.bool false))), none⟩, ⟨some 4, .mov (.t 74), none⟩])
  (.ret))))))
def r51 : List ResV := [.tmp 4]
theorem tr51 : tr Tryz.prog Tryz.f51.ntmps (Tryz.f51.body.getD .skip) = some c51 := by kernel_rfl
theorem tre51 : trRes Tryz.prog Tryz.f51.results.toList = some r51 := by kernel_rfl
theorem en51 : Enters Tryz.prog 51 := enters_fn Tryz.func51 (by kernel_rfl) rfl
theorem go51 {w0 : World} {args : List V} {σ : H} {R : V → H → Prop} (ha : args.length = 2) (h : H.ok σ → (∀ x ∈ args, V.Sz x) → W Tryz.prog w0 σ.length (Fin r51 σ.length R) [.code c51] ⟨argEnv args, σ⟩) : DC Tryz.prog w0 51 args σ R :=
  DC.of_code (by kernel_rfl) Tryz.func51 rfl tr51 tre51 (by rw [ha]; exact by decide) en51 h
/-- lambentlaw10.works -/
def c46 : AC :=
  .seq (.reg [⟨some 0, .mov (.k (.c (.bool false))), none⟩])
  (.seq (.reg [⟨some 14, .call (.k (.fn 47 [])) [(.k (.c (.str [107, 105, 110, 100, 32, 108, 105, 115, 116, 32, 116, 121, 112, 101, 32, 45, 62, 32, 116, 121, 112, 101, 46, 32, 116, 121, 112, 101, 32, 110, 105, 108, 44, 32, 110, 111, 110, 101, 32, 108, 105, 115, 116, 32, 65, 46, 32, 105, 110, 102, 105, 120, 114, 32, 99, 111, 110, 115, 32, 49, 50, 48, 46, 32, 112, 32, 40, 97, 32, 99, 111, 110, 115, 32, 88, 41, 32, 58, 45, 32, 113, 46])))], none⟩, ⟨some 13, .mov (.t 14), none⟩, ⟨some 15, .ext (.t 13) 0, none⟩, ⟨some 16, .ext (.t 13) 1, none⟩, ⟨some 17, .ext (.t 13) 2, none⟩, ⟨some 18, .ext (.t 13) 3, none⟩, ⟨some 1, .mov (.t 15), none⟩, ⟨some 2, .mov (.t 16), none⟩, ⟨some 3, .mov (.t 17), none⟩, ⟨some 4, .mov (.t 18), none⟩])
  (.seq (.seq (.reg [⟨some 19, .mov (.t 1), none⟩, ⟨some 20, .lenr (.t 19), none⟩, ⟨some 21, .bin .neq (.t 20) (.k (.c (.int .i64 4))), none⟩])
  (.cond (.t 21)
  (.seq (.reg [⟨some 0, .mov (.k (.c (.bool false))), none⟩])
  (.ret))
  (.skip)))
  (.seq (.reg [⟨some 23, .call (.k (.fn 47 [])) [(.k (.c (.str [112])))], none⟩, ⟨some 22, .mov (.t 23), none⟩, ⟨some 24, .ext (.t 22) 0, none⟩, ⟨some 25, .ext (.t 22) 1, none⟩, ⟨some 26, .ext (.t 22) 2, none⟩, ⟨some 27, .ext (.t 22) 3, none⟩, ⟨some 5, .mov (.t 24), none⟩, ⟨some 6, .mov (.t 25), none⟩, ⟨some 7, .mov (.t 26), none⟩, ⟨some 8, .mov (.t 27), none⟩])
  (.seq (.reg [⟨some 29, .call (.k (.fn 54 [])) [], none⟩, ⟨some 30, .call (.k (.fn 53 [])) [(.t 29), (.k (.c (.str [112, 32, 88, 44, 32, 113, 46])))], none⟩, ⟨some 28, .mov (.t 30), none⟩, ⟨some 31, .ext (.t 28) 0, none⟩, ⟨some 32, .ext (.t 28) 1, none⟩, ⟨some 33, .ext (.t 28) 2, none⟩, ⟨some 9, .box (.k (.agg [.c (.int .i64 0), .c (.str []), .c (.int .i64 0), .csl [], .c (.int .i64 0)])), none⟩, ⟨none, .store 5 (.t 9) (.t 31), none⟩, ⟨some 10, .mov (.t 32), none⟩, ⟨some 11, .mov (.t 33), none⟩])
  (.seq (.reg [⟨some 34, .call (.k (.fn 55 [])) [], none⟩, ⟨some 12, .mov (.t 34), none⟩])
  (.seq (.reg [⟨some 35, .mov (.t 3), none⟩, ⟨some 36, .bin .eql (.t 35) (.k (.c (.int .i64 0))), none⟩, ⟨some 37, .mov (.t 36), none⟩, ⟨some 38, .mov (.t 1), some (37, true)⟩, ⟨some 39, .iadd 16 (.t 38) (.k (.c (.int .i64 0))), some (37, true)⟩, ⟨some 40, .fadd 0 (.t 39), some (37, true)⟩, ⟨some 41, .load1 (.t 40), some (37, true)⟩, ⟨some 42, .bin .eql (.t 41) (.k (.c (.int .i64 0))), some (37, true)⟩, ⟨some 43, .pick (.t 37) (.t 42) (.k (.c (.bool false))), none⟩, ⟨some 44, .mov (.t 43), none⟩, ⟨some 45, .mov (.t 1), some (44, true)⟩, ⟨some 46, .iadd 16 (.t 45) (.k (.c (.int .i64 0))), some (44, true)⟩, ⟨some 47, .fadd 2 (.t 46), some (44, true)⟩, ⟨some 48, .load1 (.t 47), some (44, true)⟩, ⟨some 49, .bin .eql (.t 48) (.k (.c (.int .i64 1))), some (44, true)⟩, ⟨some 50, .pick (.t 44) (.t 49) (.k (.c (.bool false))), none⟩, ⟨some 51, .mov (.t 50), none⟩, ⟨some 52, .mov (.t 1), some (51, true)⟩, ⟨some 53, .iadd 16 (.t 52) (.k (.c (.int .i64 1))), some (51, true)⟩, ⟨some 54, .fadd 1 (.t 53), some (51, true)⟩, ⟨some 55, .load1 (.t 54), some (51, true)⟩, ⟨some 56, .lenr (.t 55), some (51, true)⟩, ⟨some 57, .bin .eql (.t 56) (.k (.c (.int .i64 2))), some (51, true)⟩, ⟨some 58, .pick (.t 51) (.t 57) (.k (.c (.bool false))), none⟩, ⟨some 59, .mov (.t 58), none⟩, ⟨some 60, .mov (.t 1), some (59, true)⟩, ⟨some 61, .iadd 16 (.t 60) (.k (.c (.int .i64 2))), some (59, true)⟩, ⟨some 62, .fadd 7 (.t 61), some (59, true)⟩, ⟨some 63, .fadd 1 (.t 62), some (59, true)⟩, ⟨some 64, .load1 (.t 63), some (59, true)⟩, ⟨some 65, .bin .eql (.t 64) (.k (.c (.int .i64 120))), some (59, true)⟩, ⟨some 66, .pick (.t 59) (.t 65) (.k (.c (.bool false))), none⟩, ⟨some 67, .mov (.t 66), none⟩, ⟨some 68, .mov (.t 1), some (67, true)⟩, ⟨some 69, .iadd 16 (.t 68) (.k (.c (.int .i64 3))), some (67, true)⟩, ⟨some 70, .fadd 0 (.t 69), some (67, true)⟩, ⟨some 71, .load1 (.t 70), some (67, true)⟩, ⟨some 72, .bin .eql (.t 71) (.k (.c (.int .i64 3))), some (67, true)⟩, ⟨some 73, .pick (.t 67) (.t 72) (.k (.c (.bool false))), none⟩, ⟨some 74, .mov (.t 73), none⟩, ⟨some 75, .mov (.t 2), some (74, true)⟩, ⟨some 76, .lenr (.t 75), some (74, true)⟩, ⟨some 77, .bin .eql (.t 76) (.k (.c (.int .i64 16))), some (74, true)⟩, ⟨some 78, .pick (.t 74) (.t 77) (.k (.c (.bool false))), none⟩, ⟨some 79, .mov (.t 78), none⟩, ⟨some 80, .mov (.t 7), some (79, true)⟩, ⟨some 81, .bin .eql (.t 80) (.k (.c (.int .i64 101))), some (79, true)⟩, ⟨some 82, .pick (.t 79) (.t 81) (.k (.c (.bool false))), none⟩, ⟨some 83, .mov (.t 82), none⟩, ⟨some 84, .mov (.t 8), some (83, true)⟩, ⟨some 85, .bin .eql (.t 84) (.k (.c (.int .i64 1))), some (83, true)⟩, ⟨some 86, .pick (.t 83) (.t 85) (.k (.c (.bool false))), none⟩, ⟨some 87, .mov (.t 86), none⟩, ⟨some 88, .fadd 3 (.t 9), some (87, true)⟩, ⟨some 89, .load1 (.t 88), some (87, true)⟩, ⟨some 90, .lenr (.t 89), some (87, true)⟩, ⟨some 91, .bin .eql (.t 90) (.k (.c (.int .i64 2))), some (87, true)⟩, ⟨some 92, .pick (.t 87) (.t 91) (.k (.c (.bool false))), none⟩, ⟨some 93, .mov (.t 92), none⟩, ⟨some 94, .mov (.t 10), some (93, true)⟩, ⟨some 95, .bin .eql (.t 94) (.k (.c (.int .i64 0))), some (93, true)⟩, ⟨some 96, .pick (.t 93) (.t 95) (.k (.c (.bool false))), none⟩, ⟨some 97, .mov (.t 96), none⟩, ⟨some 98, .mov (.t 12), some (97, true)⟩, ⟨some 99, .lenr (.t 98), some (97, true)⟩, ⟨some 100, .bin .eql (.t 99) (.k (.c (.int .i64 5))), some (97, true)⟩, ⟨some 101, .pick (.t 97) (.t 100) (.k (.c (.bool false))), none⟩, ⟨some 0, .mov (.t 101), none⟩])
  (.ret)))))))
def r46 : List ResV := [.tmp 0]
theorem tr46 : tr Tryz.prog Tryz.f46.ntmps (Tryz.f46.body.getD .skip) = some c46 := by kernel_rfl
theorem tre46 : trRes Tryz.prog Tryz.f46.results.toList = some r46 := by kernel_rfl
theorem en46 : Enters Tryz.prog 46 := enters_fn Tryz.func46 (by kernel_rfl) rfl
theorem go46 {w0 : World} {args : List V} {σ : H} {R : V → H → Prop} (ha : args.length = 0) (h : H.ok σ → (∀ x ∈ args, V.Sz x) → W Tryz.prog w0 σ.length (Fin r46 σ.length R) [.code c46] ⟨argEnv args, σ⟩) : DC Tryz.prog w0 46 args σ R :=
  DC.of_code (by kernel_rfl) Tryz.func46 rfl tr46 tre46 (by rw [ha]; exact by decide) en46 h
/-- lambentlaw10.alike -/
def c52 : AC :=
  .seq (.reg [⟨some 2, .box (.t 0), none⟩, ⟨some 3, .box (.t 1), none⟩, ⟨some 4, .mov (.k (.c (.bool false))), none⟩])
  (.seq (.seq (.reg [⟨some 8, .fadd 0 (.t 2), none⟩, ⟨some 9, .load1 (.t 8), none⟩, ⟨some 10, .fadd 0 (.t 3), none⟩, ⟨some 11, .load1 (.t 10), none⟩, ⟨some 12, .bin .neq (.t 9) (.t 11), none⟩, ⟨some 13, .mov (.t 12), none⟩, ⟨some 14, .fadd 1 (.t 2), some (13, false)⟩, ⟨some 15, .load1 (.t 14), some (13, false)⟩, ⟨some 16, .lenr (.t 15), some (13, false)⟩, ⟨some 17, .fadd 1 (.t 3), some (13, false)⟩, ⟨some 18, .load1 (.t 17), some (13, false)⟩, ⟨some 19, .lenr (.t 18), some (13, false)⟩, ⟨some 20, .bin .neq (.t 16) (.t 19), some (13, false)⟩, ⟨some 21, .pick (.t 13) (.k (.c (.bool true))) (.t 20), none⟩, ⟨some 22, .mov (.t 21), none⟩, ⟨some 23, .fadd 2 (.t 2), some (22, false)⟩, ⟨some 24, .load1 (.t 23), some (22, false)⟩, ⟨some 25, .fadd 2 (.t 3), some (22, false)⟩, ⟨some 26, .load1 (.t 25), some (22, false)⟩, ⟨some 27, .bin .neq (.t 24) (.t 26), some (22, false)⟩, ⟨some 28, .pick (.t 22) (.k (.c (.bool true))) (.t 27), none⟩, ⟨some 29, .mov (.t 28), none⟩, ⟨some 30, .fadd 7 (.t 2), some (29, false)⟩, ⟨some 31, .loadn 3 (.t 30), some (29, false)⟩, ⟨some 32, .fadd 7 (.t 3), some (29, false)⟩, ⟨some 33, .loadn 3 (.t 32), some (29, false)⟩, ⟨some 34, .eqs true [2, 1, 1] (.t 31) (.t 33), some (29, false)⟩, ⟨some 35, .pick (.t 29) (.k (.c (.bool true))) (.t 34), none⟩])
  (.cond (.t 35)
  (.seq (.reg [⟨some 4, .mov (.k (.c (.bool false))), none⟩])
  (.ret))
  (.skip)))
  (.seq (.seq (.reg [⟨some 5, .mov (.k (.c (.int .i64 0))), none⟩])
  (.block 0 (.loop (.seq (.seq (.reg [⟨some 36, .mov (.t 5), none⟩, ⟨some 37, .fadd 1 (.t 2), none⟩, ⟨some 38, .load1 (.t 37), none⟩, ⟨some 39, .lenr (.t 38), none⟩, ⟨some 40, .bin .lss (.t 36) (.t 39), none⟩])
  (.cond (.t 40)
  (.skip)
  (.exit 0)))
  (.seq (.block 1 (.seq (.dreg [⟨some 43, .fadd 1 (.t 2), none⟩, ⟨some 44, .load1 (.t 43), none⟩, ⟨some 45, .mov (.t 5), none⟩, ⟨some 46, .iadd 1 (.t 44) (.t 45), none⟩, ⟨some 47, .load1 (.t 46), none⟩, ⟨some 48, .fadd 1 (.t 3), none⟩, ⟨some 49, .load1 (.t 48), none⟩, ⟨some 50, .mov (.t 5), none⟩, ⟨some 51, .iadd 1 (.t 49) (.t 50), none⟩, ⟨some 52, .load1 (.t 51), none⟩, ⟨some 53, .bin .neq (.t 47) (.t 52), none⟩]
    [⟨⟨some 43, .fadd 1 (.t 2), none⟩, false, 0⟩, ⟨⟨some 44, .load1 (.t 43), none⟩, false, 0⟩, ⟨⟨some 45, .mov (.t 5), none⟩, false, 0⟩, ⟨⟨some 46, .iadd 1 (.t 44) (.t 45), none⟩, false, 0⟩, ⟨⟨some 47, .load1 (.t 46), none⟩, false, 0⟩, ⟨⟨some 48, .fadd 1 (.t 3), none⟩, false, 0⟩, ⟨⟨some 49, .load1 (.t 48), none⟩, false, 0⟩, ⟨⟨some 50, .mov (.t 5), none⟩, false, 0⟩, ⟨⟨some 51, .iadd 1 (.t 49) (.t 50), none⟩, false, 0⟩, ⟨⟨some 52, .load1 (.t 51), none⟩, false, 0⟩, ⟨⟨some 53, .bin .neq (.t 47) (.t 52), none⟩, false, 0⟩])
  (.cond (.t 53)
  (.seq (.reg [⟨some 4, .mov (.k (.c (.bool false))), none⟩])
  (.ret))
  (.skip))))
  (.reg [⟨some 41, .mov (.t 5), none⟩, ⟨some 42, .bin .add (.t 41) (.k (.c (.int .i64 1))), none⟩, ⟨some 5, .mov (.t 42), none⟩]))))))
  (.seq (.reg [⟨some 54, .fadd 3 (.t 2), none⟩, ⟨some 55, .loadn 4 (.t 54), none⟩, ⟨some 56, .fadd 3 (.t 3), none⟩, ⟨some 57, .loadn 4 (.t 56), none⟩, ⟨some 58, .call (.k (.fn 26 [])) [(.t 55), (.t 57)], none⟩, ⟨some 6, .mov (.t 58), none⟩])
  (.seq (.reg [⟨some 59, .fadd 10 (.t 2), none⟩, ⟨some 60, .loadn 5 (.t 59), none⟩, ⟨some 61, .fadd 10 (.t 3), none⟩, ⟨some 62, .loadn 5 (.t 61), none⟩, ⟨some 63, .call (.k (.fn 104 [])) [(.t 60), (.t 62)], none⟩, ⟨some 7, .mov (.t 63), none⟩])
  (.seq (.reg [⟨some 64, .mov (.t 6), none⟩, ⟨some 65, .mov (.t 64), none⟩, ⟨some 66, .mov (.t 7), some (65, true)⟩, ⟨some 67, .pick (.t 65) (.t 66) (.k (.c (.bool false))), none⟩, ⟨some 4, .mov (.t 67), none⟩])
  (.ret))))))
def r52 : List ResV := [.tmp 4]
theorem tr52 : tr Tryz.prog Tryz.f52.ntmps (Tryz.f52.body.getD .skip) = some c52 := by kernel_rfl
theorem tre52 : trRes Tryz.prog Tryz.f52.results.toList = some r52 := by kernel_rfl
theorem en52 : Enters Tryz.prog 52 := enters_fn Tryz.func52 (by kernel_rfl) rfl
theorem go52 {w0 : World} {args : List V} {σ : H} {R : V → H → Prop} (ha : args.length = 2) (h : H.ok σ → (∀ x ∈ args, V.Sz x) → W Tryz.prog w0 σ.length (Fin r52 σ.length R) [.code c52] ⟨argEnv args, σ⟩) : DC Tryz.prog w0 52 args σ R :=
  DC.of_code (by kernel_rfl) Tryz.func52 rfl tr52 tre52 (by rw [ha]; exact by decide) en52 h
/-- lambentlaw10.SourceGlue -/
def c11 : AC :=
  .seq (.reg [⟨some 4, .mov (.k (.c (.bool false))), none⟩])
  (.seq (.reg [⟨some 22, .call (.k (.fn 46 [])) [], none⟩, ⟨some 5, .mov (.t 22), none⟩])
  (.seq (.seq (.reg [⟨some 23, .mov (.t 5), none⟩, ⟨some 24, .un .not (.t 23), none⟩])
  (.cond (.t 24)
  (.seq (.reg [⟨some 4, .mov (.k (.c (.bool false))), none⟩])
  (.ret))
  (.skip)))
  (.seq (.seq (.reg [⟨some 25, .mov (.t 0), none⟩, ⟨some 26, .lens (.t 25), none⟩, ⟨some 27, .bin .gtr (.t 26) (.k (.c (.int .i64 600))), none⟩, ⟨some 28, .mov (.t 27), none⟩, ⟨some 29, .mov (.t 1), some (28, false)⟩, ⟨some 30, .lens (.t 29), some (28, false)⟩, ⟨some 31, .bin .gtr (.t 30) (.k (.c (.int .i64 600))), some (28, false)⟩, ⟨some 32, .pick (.t 28) (.k (.c (.bool true))) (.t 31), none⟩])
  (.cond (.t 32)
  (.seq (.reg [⟨some 33, .mov (.t 5), none⟩, ⟨some 4, .mov (.t 33), none⟩])
  (.ret))
  (.skip)))
  (.seq (.reg [⟨some 35, .mov (.t 0), none⟩, ⟨some 36, .call (.k (.fn 47 [])) [(.t 35)], none⟩, ⟨some 34, .mov (.t 36), none⟩, ⟨some 37, .ext (.t 34) 0, none⟩, ⟨some 38, .ext (.t 34) 1, none⟩, ⟨some 39, .ext (.t 34) 2, none⟩, ⟨some 40, .ext (.t 34) 3, none⟩, ⟨some 6, .mov (.t 37), none⟩, ⟨some 7, .mov (.t 38), none⟩, ⟨some 8, .mov (.t 39), none⟩, ⟨some 9, .mov (.t 40), none⟩])
  (.seq (.seq (.reg [⟨some 41, .mov (.t 8), none⟩, ⟨some 42, .bin .neq (.t 41) (.k (.c (.int .i64 0))), none⟩])
  (.cond (.t 42)
  (.seq (.reg [⟨some 43, .mov (.t 5), none⟩, ⟨some 4, .mov (.t 43), none⟩])
  (.ret))
  (.skip)))
  (.seq (.reg [⟨some 45, .mov (.t 0), none⟩, ⟨some 46, .bin .add (.t 45) (.k (.c (.str [10]))), none⟩, ⟨some 47, .mov (.t 1), none⟩, ⟨some 48, .bin .add (.t 46) (.t 47), none⟩, ⟨some 49, .call (.k (.fn 47 [])) [(.t 48)], none⟩, ⟨some 44, .mov (.t 49), none⟩, ⟨some 50, .ext (.t 44) 0, none⟩, ⟨some 51, .ext (.t 44) 1, none⟩, ⟨some 52, .ext (.t 44) 2, none⟩, ⟨some 53, .ext (.t 44) 3, none⟩, ⟨some 10, .mov (.t 50), none⟩, ⟨some 11, .mov (.t 51), none⟩, ⟨some 12, .mov (.t 52), none⟩, ⟨some 13, .mov (.t 53), none⟩])
  (.seq (.seq (.reg [⟨some 54, .mov (.t 12), none⟩, ⟨some 55, .bin .neq (.t 54) (.k (.c (.int .i64 0))), none⟩])
  (.cond (.t 55)
  (.seq (.reg [⟨some 56, .mov (.t 5), none⟩, ⟨some 4, .mov (.t 56), none⟩])
  (.ret))
  (.skip)))
  (.seq (.seq (.reg [⟨some 57, .mov (.t 10), none⟩, ⟨some 58, .lenr (.t 57), none⟩, ⟨some 59, .mov (.t 6), none⟩, ⟨some 60, .lenr (.t 59), none⟩, ⟨some 61, .bin .lss (.t 58) (.t 60), none⟩])
  (.cond (.t 61)
  (.seq (.reg [⟨some 4, .mov (.k (.c (.bool false))), none⟩])
  (.ret))
  (.skip)))
  (.seq (.seq (.reg [⟨some 14, .mov (.k (.c (.int .i64 0))), none⟩])
  (.block 0 (.loop (.seq (.seq (.reg [⟨some 62, .mov (.t 14), none⟩, ⟨some 63, .mov (.t 6), none⟩, ⟨some 64, .lenr (.t 63), none⟩, ⟨some 65, .bin .lss (.t 62) (.t 64), none⟩])
  (.cond (.t 65)
  (.skip)
  (.exit 0)))
  (.seq (.block 1 (.seq (.dreg [⟨some 68, .mov (.t 6), none⟩, ⟨some 69, .mov (.t 14), none⟩, ⟨some 70, .iadd 16 (.t 68) (.t 69), none⟩, ⟨some 71, .loadn 16 (.t 70), none⟩, ⟨some 72, .mov (.t 10), none⟩, ⟨some 73, .mov (.t 14), none⟩, ⟨some 74, .iadd 16 (.t 72) (.t 73), none⟩, ⟨some 75, .loadn 16 (.t 74), none⟩, ⟨some 76, .call (.k (.fn 51 [])) [(.t 71), (.t 75)], none⟩, ⟨some 15, .mov (.t 76), none⟩]
    [⟨⟨some 68, .mov (.t 6), none⟩, false, 0⟩, ⟨⟨some 69, .mov (.t 14), none⟩, false, 0⟩, ⟨⟨some 70, .iadd 16 (.t 68) (.t 69), none⟩, false, 0⟩, ⟨⟨some 71, .loadn 16 (.t 70), none⟩, false, 0⟩, ⟨⟨some 72, .mov (.t 10), none⟩, false, 0⟩, ⟨⟨some 73, .mov (.t 14), none⟩, false, 0⟩, ⟨⟨some 74, .iadd 16 (.t 72) (.t 73), none⟩, false, 0⟩, ⟨⟨some 75, .loadn 16 (.t 74), none⟩, false, 0⟩, ⟨⟨some 76, .call (.k (.fn 51 [])) [(.t 71), (.t 75)], none⟩, true, 0⟩, ⟨⟨some 15, .mov (.t 76), none⟩, false, 1⟩])
  (.seq (.seq (.reg [⟨some 77, .mov (.t 15), none⟩, ⟨some 78, .un .not (.t 77), none⟩])
  (.cond (.t 78)
  (.seq (.reg [⟨some 4, .mov (.k (.c (.bool false))), none⟩])
  (.ret))
  (.skip)))
  (.seq (.reg [⟨some 79, .mov (.t 6), none⟩, ⟨some 80, .mov (.t 14), none⟩, ⟨some 81, .iadd 16 (.t 79) (.t 80), none⟩, ⟨some 82, .fadd 0 (.t 81), none⟩, ⟨some 83, .load1 (.t 82), none⟩, ⟨some 84, .bin .eql (.t 83) (.k (.c (.int .i64 2))), none⟩])
  (.cond (.t 84)
  (.seq (.reg [⟨some 85, .mov (.t 5), none⟩, ⟨some 4, .mov (.t 85), none⟩])
  (.ret))
  (.skip))))))
  (.reg [⟨some 66, .mov (.t 14), none⟩, ⟨some 67, .bin .add (.t 66) (.k (.c (.int .i64 1))), none⟩, ⟨some 14, .mov (.t 67), none⟩]))))))
  (.seq (.reg [⟨some 87, .mov (.t 1), none⟩, ⟨some 88, .call (.k (.fn 47 [])) [(.t 87)], none⟩, ⟨some 86, .mov (.t 88), none⟩, ⟨some 89, .ext (.t 86) 0, none⟩, ⟨some 90, .ext (.t 86) 1, none⟩, ⟨some 91, .ext (.t 86) 2, none⟩, ⟨some 92, .ext (.t 86) 3, none⟩, ⟨some 16, .mov (.t 89), none⟩, ⟨some 17, .mov (.t 90), none⟩, ⟨some 18, .mov (.t 91), none⟩, ⟨some 19, .mov (.t 92), none⟩])
  (.seq (.seq (.reg [⟨some 93, .mov (.t 18), none⟩, ⟨some 94, .bin .neq (.t 93) (.k (.c (.int .i64 0))), none⟩, ⟨some 95, .mov (.t 94), none⟩, ⟨some 96, .mov (.t 10), some (95, false)⟩, ⟨some 97, .lenr (.t 96), some (95, false)⟩, ⟨some 98, .mov (.t 6), some (95, false)⟩, ⟨some 99, .lenr (.t 98), some (95, false)⟩, ⟨some 100, .mov (.t 16), some (95, false)⟩, ⟨some 101, .lenr (.t 100), some (95, false)⟩, ⟨some 102, .bin .add (.t 99) (.t 101), some (95, false)⟩, ⟨some 103, .bin .neq (.t 97) (.t 102), some (95, false)⟩, ⟨some 104, .pick (.t 95) (.k (.c (.bool true))) (.t 103), none⟩])
  (.cond (.t 104)
  (.seq (.reg [⟨some 4, .mov (.k (.c (.bool false))), none⟩])
  (.ret))
  (.skip)))
  (.seq (.seq (.reg [⟨some 20, .mov (.k (.c (.int .i64 0))), none⟩])
  (.block 2 (.loop (.seq (.seq (.reg [⟨some 105, .mov (.t 20), none⟩, ⟨some 106, .mov (.t 16), none⟩, ⟨some 107, .lenr (.t 106), none⟩, ⟨some 108, .bin .lss (.t 105) (.t 107), none⟩])
  (.cond (.t 108)
  (.skip)
  (.exit 2)))
  (.seq (.block 3 (.seq (.dreg [⟨some 111, .mov (.t 16), none⟩, ⟨some 112, .mov (.t 20), none⟩, ⟨some 113, .iadd 16 (.t 111) (.t 112), none⟩, ⟨some 114, .loadn 16 (.t 113), none⟩, ⟨some 115, .mov (.t 10), none⟩, ⟨some 116, .mov (.t 6), none⟩, ⟨some 117, .lenr (.t 116), none⟩, ⟨some 118, .mov (.t 20), none⟩, ⟨some 119, .bin .add (.t 117) (.t 118), none⟩, ⟨some 120, .iadd 16 (.t 115) (.t 119), none⟩, ⟨some 121, .loadn 16 (.t 120), none⟩, ⟨some 122, .call (.k (.fn 52 [])) [(.t 114), (.t 121)], none⟩, ⟨some 21, .mov (.t 122), none⟩]
    [⟨⟨some 111, .mov (.t 16), none⟩, false, 0⟩, ⟨⟨some 112, .mov (.t 20), none⟩, false, 0⟩, ⟨⟨some 113, .iadd 16 (.t 111) (.t 112), none⟩, false, 0⟩, ⟨⟨some 114, .loadn 16 (.t 113), none⟩, false, 0⟩, ⟨⟨some 115, .mov (.t 10), none⟩, false, 0⟩, ⟨⟨some 116, .mov (.t 6), none⟩, false, 0⟩, ⟨⟨some 117, .lenr (.t 116), none⟩, false, 0⟩, ⟨⟨some 118, .mov (.t 20), none⟩, false, 0⟩, ⟨⟨some 119, .bin .add (.t 117) (.t 118), none⟩, false, 0⟩, ⟨⟨some 120, .iadd 16 (.t 115) (.t 119), none⟩, false, 0⟩, ⟨⟨some 121, .loadn 16 (.t 120), none⟩, false, 0⟩, ⟨⟨some 122, .call (.k (.fn 52 [])) [(.t 114), (.t 121)], none⟩, true, 0⟩, ⟨⟨some 21, .mov (.t 122), none⟩, false, 1⟩])
  (.seq (.dreg [⟨some 123, .mov (.t 21), none⟩, ⟨some 124, .un .not (.t 123), none⟩, ⟨some 125, .mov (.t 124), none⟩, ⟨some 126, .mov (.t 10), some (125, false)⟩, ⟨some 127, .mov (.t 6), some (125, false)⟩, ⟨some 128, .lenr (.t 127), some (125, false)⟩, ⟨some 129, .mov (.t 20), some (125, false)⟩, ⟨some 130, .bin .add (.t 128) (.t 129), some (125, false)⟩, ⟨some 131, .iadd 16 (.t 126) (.t 130), some (125, false)⟩, ⟨some 132, .fadd 15 (.t 131), some (125, false)⟩, ⟨some 133, .load1 (.t 132), some (125, false)⟩, ⟨some 134, .mov (.t 16), some (125, false)⟩, ⟨some 135, .mov (.t 20), some (125, false)⟩, ⟨some 136, .iadd 16 (.t 134) (.t 135), some (125, false)⟩, ⟨some 137, .fadd 15 (.t 136), some (125, false)⟩, ⟨some 138, .load1 (.t 137), some (125, false)⟩, ⟨some 139, .mov (.t 0), some (125, false)⟩, ⟨some 140, .lens (.t 139), some (125, false)⟩, ⟨some 141, .bin .add (.t 138) (.t 140), some (125, false)⟩, ⟨some 142, .bin .add (.t 141) (.k (.c (.int .i64 1))), some (125, false)⟩, ⟨some 143, .bin .neq (.t 133) (.t 142), some (125, false)⟩, ⟨some 144, .pick (.t 125) (.k (.c (.bool true))) (.t 143), none⟩]
    [⟨⟨some 123, .mov (.t 21), none⟩, false, 0⟩, ⟨⟨some 124, .un .not (.t 123), none⟩, false, 0⟩, ⟨⟨some 125, .mov (.t 124), none⟩, false, 0⟩, ⟨⟨some 126, .mov (.t 10), some (125, false)⟩, false, 0⟩, ⟨⟨some 127, .mov (.t 6), some (125, false)⟩, false, 0⟩, ⟨⟨some 128, .lenr (.t 127), some (125, false)⟩, false, 0⟩, ⟨⟨some 129, .mov (.t 20), some (125, false)⟩, false, 0⟩, ⟨⟨some 130, .bin .add (.t 128) (.t 129), some (125, false)⟩, false, 0⟩, ⟨⟨some 131, .iadd 16 (.t 126) (.t 130), some (125, false)⟩, false, 0⟩, ⟨⟨some 132, .fadd 15 (.t 131), some (125, false)⟩, false, 0⟩, ⟨⟨some 133, .load1 (.t 132), some (125, false)⟩, false, 0⟩, ⟨⟨some 134, .mov (.t 16), some (125, false)⟩, false, 0⟩, ⟨⟨some 135, .mov (.t 20), some (125, false)⟩, false, 0⟩, ⟨⟨some 136, .iadd 16 (.t 134) (.t 135), some (125, false)⟩, false, 0⟩, ⟨⟨some 137, .fadd 15 (.t 136), some (125, false)⟩, false, 0⟩, ⟨⟨some 138, .load1 (.t 137), some (125, false)⟩, false, 0⟩, ⟨⟨some 139, .mov (.t 0), some (125, false)⟩, false, 0⟩, ⟨⟨some 140, .lens (.t 139), some (125, false)⟩, false, 0⟩, ⟨⟨some 141, .bin .add (.t 138) (.t 140), some (125, false)⟩, false, 0⟩, ⟨⟨some 142, .bin .add (.t 141) (.k (.c (.int .i64 1))), some (125, false)⟩, false, 0⟩, ⟨⟨some 143, .bin .neq (.t 133) (.t 142), some (125, false)⟩, false, 0⟩, ⟨⟨some 144, .pick (.t 125) (.k (.c (.bool true))) (.t 143), none⟩, false, 0⟩])
  (.cond (.t 144)
  (.seq (.reg [⟨some 4, .mov (.k (.c (.bool false))), none⟩])
  (.ret))
  (.skip)))))
  (.reg [⟨some 109, .mov (.t 20), none⟩, ⟨some 110, .bin .add (.t 109) (.k (.c (.int .i64 1))), none⟩, ⟨some 20, .mov (.t 110), none⟩]))))))
  (.seq (.reg [⟨some 145, .mov (.t 5), none⟩, ⟨some 4, .mov (.t 145), none⟩])
  (.ret))))))))))))))
def r11 : List ResV := [.tmp 4]
theorem tr11 : tr Tryz.prog Tryz.f11.ntmps (Tryz.f11.body.getD .skip) = some c11 := by kernel_rfl
theorem tre11 : trRes Tryz.prog Tryz.f11.results.toList = some r11 := by kernel_rfl
theorem en11 : Enters Tryz.prog 11 := enters_fn Tryz.func11 (by kernel_rfl) rfl
theorem go11 {w0 : World} {args : List V} {σ : H} {R : V → H → Prop} (ha : args.length = 2) (h : H.ok σ → (∀ x ∈ args, V.Sz x) → W Tryz.prog w0 σ.length (Fin r11 σ.length R) [.code c11] ⟨argEnv args, σ⟩) : DC Tryz.prog w0 11 args σ R :=
  DC.of_code (by kernel_rfl) Tryz.func11 rfl tr11 tre11 (by rw [ha]; exact by decide) en11 h
end Go.Proofs.YtlogjjnimlnpkaaGreatDoor
namespace Go.Proofs.YtlogjjnimlnpkaaGreatDoor
open Go.RowKit Go.Lamb
attribute [local go_sem] advO_skip advO_reg advO_seq advO_block advO_exit advO_endb advO_opsNil advO_ops advG_yes advG_no advG_none advS_some advS_none advO_cond advO_loop advO_dreg advO_ret advO_bad advO_inv advO_nil advO_zero wantedV Lamb.step ev_t ev_k put_some put_none argEnv popTo cellsAt V.cellsV V.rows V.toC toCs fillV bytesC byteRows appV rowsV boundV boundL binV binInt binStr eqC eqL V.isNil leaves V.leaf Ins.quiet Ins.pure List.getD_cons_zero List.getD_cons_succ List.getD_nil List.all_cons List.all_nil List.length_cons List.length_nil List.take_succ_cons List.take_zero List.drop_succ_cons List.drop_zero List.cons_append List.nil_append List.append_nil List.append_assoc List.map_cons List.map_nil List.getElem?_cons_zero List.getElem?_cons_succ List.length_append List.length_set hget0 hget hset0 hset hsets hgs0 hgs hss0 hss List.set_cons_zero List.set_cons_succ List.forall_mem_cons List.not_mem_nil false_implies implies_true Option.map_some Bool.and_true Bool.true_and Bool.not_not Bool.not_true Bool.not_false Bool.and_self Bool.or_true Bool.true_or Bool.or_false Bool.false_or Bool.and_false Bool.false_and Bool.false_eq_true beq_self_eq_true and_self and_true true_and if_true if_false Nat.zero_add Nat.add_zero Nat.le_refl Int.toNat_natCast decide_true decide_false beq_t beq_f List.length_map List.getElem?_map I S B opsC toksC OpT.v OpT.cs OpT.zero Tok.v Tok.cs Pre.v Pre.cs_eq k_mk name_mk n_mk l_mk pos_mk Pre.app applyL natCast0 natCast1 natCast2
section

theorem ref03_Exact (w0 : World) (p : Pre) : ∀ (σ : H), DC Tryz.prog w0 56 [p.v, p.v] σ (Same (B true) σ) := by
  refine Pre.ind (P := fun p => ∀ (σ : H), DC Tryz.prog w0 56 [p.v, p.v] σ (Same (B true) σ)) (fun p ih σ => ?_) p
  refine go56 rfl (fun hok hsz => ?_)
  have hlen : p.l.length ≤ 9223372036854775807 := by
    have := hsz _ (List.mem_cons_self ..)
    rw [Pre.v, sz_agg] at this
    exact sz_rows (this (.c (.sl (p.l.map Pre.cs))) (by simp))
  have e1 : ∀ a : Int, (a != a) = false := fun a => by simp
  ((first | refine W.advO 5000 _ _ ?_ | skip); simp only [go_sem, seval, ↓reduceIte, reduceCtorEq, c56, e1])
  refine W.no rfl ?_
  ((first | refine W.advO 5000 _ _ ?_ | skip); simp only [go_sem, seval, ↓reduceIte, reduceCtorEq])
  refine W.loopP (fun i => i ≤ p.l.length) (fun i => ⟨((((base.put (some 2) (.ptr σ.length 0)).put (some 3) (.ptr (σ.length + 1) 0)).put (some 4) (B false)).put (some 5) (I (i : Nat))), σ ++ [.cells p.v.cellsV, .cells p.v.cellsV]⟩) (fun i => p.l.length - i) 0 (Nat.zero_le _) ?_ (fun i hi => ?_)
  · (refine Lew.env ?_; (repeat' (first | exact LeE.base _ | (refine LeE.put ?_ (by first | exact V.wk.rfl _ | exact V.wk.osl _ _ | exact V.wk.csl _)))))
  · by_cases hlt : i < p.l.length
    · have h1 : ((i : Int) < (p.l.length : Int)) := by omega
      have hx : p.l[i]? = some p.l[i] := List.getElem?_eq_getElem hlt
      have hw : IntKind.i64.wrap ((i : Int) + 1) = ((i + 1 : Nat) : Int) := wrap_next hlt hlen
      ((first | refine W.advO 5000 _ _ ?_ | skip); simp only [go_sem, seval, ↓reduceIte, reduceCtorEq, h1])
      refine W.yes rfl ?_
      ((first | refine W.advO 5000 _ _ ?_ | skip); simp only [go_sem, seval, ↓reduceIte, reduceCtorEq])
      apply W.dreg
      case hc =>
        (apply Canon.advCO; simp only [advCO_nil, advCO_cons, cG_yes, cG_no, cS_some, cS_loud, go_sem, seval, ↓reduceIte, reduceCtorEq, h1, nat0, hx])
        (apply Canon.call (ih p.l[i] (List.getElem_mem hlt) _); (case hg => rfl); (case hf => rfl); (case ha => first | rfl | simp))
        (apply Canon.advCO; simp only [advCO_nil, advCO_cons, cG_yes, cG_no, cS_some, cS_loud, go_sem, seval, ↓reduceIte, reduceCtorEq])
        exact Canon.nil
      ((first | refine W.advO 5000 _ _ ?_ | skip); simp only [go_sem, seval, ↓reduceIte, reduceCtorEq])
      refine W.no rfl ?_
      ((first | refine W.advO 5000 _ _ ?_ | skip); simp only [go_sem, seval, ↓reduceIte, reduceCtorEq, hw])
      refine .inv ⟨i + 1, hlt, by omega, ?_⟩
      (refine Lew.env ?_; (repeat' (first | exact LeE.base _ | (refine LeE.put ?_ (by first | exact V.wk.rfl _ | exact V.wk.osl _ _ | exact V.wk.csl _)))))
    · have h1 : ¬ ((i : Int) < (p.l.length : Int)) := by omega
      ((first | refine W.advO 5000 _ _ ?_ | skip); simp only [go_sem, seval, ↓reduceIte, reduceCtorEq, h1])
      refine W.no rfl ?_
      ((first | refine W.advO 5000 _ _ ?_ | skip); simp only [go_sem, seval, ↓reduceIte, reduceCtorEq])
      (refine W.ret (Fin.sameW (hok) (by (first | rfl | exact List.length_set .. | simp)) (by simp only [resEval, r56, go_sem, seval, ↓reduceIte, reduceCtorEq]; rfl) ?_ (by (first | exact .c _ | (simp only [I, S, B, opsC, toksC, Pre.v, Tok.v, OpT.v, low_c, low_void, low_any, low_csl, low_nilf, low_ptr, low_osl, low_agg, low_tup, low_fn, List.forall_mem_cons, List.not_mem_nil, false_implies, implies_true, and_self, and_true, true_and]; done))) (by (first | rfl | exact (List.append_nil _).symm))); simp only [resV]; try exact V.wk.rfl _)
end
section

def src0 : List UInt8 := [107, 105, 110, 100, 32, 108, 105, 115, 116, 32, 116, 121, 112, 101, 32, 45, 62, 32, 116, 121, 112, 101, 46, 32, 116, 121, 112, 101, 32, 110, 105, 108, 44, 32, 110, 111, 110, 101, 32, 108, 105, 115, 116, 32, 65, 46, 32, 105, 110, 102, 105, 120, 114, 32, 99, 111, 110, 115, 32, 49, 50, 48, 46, 32, 112, 32, 40, 97, 32, 99, 111, 110, 115, 32, 88, 41, 32, 58, 45, 32, 113, 46]
theorem src0_err : (lexL src0).err = 0 := by kernel_rfl
def facts0 (r : Option (Except Bad (List Sent × List OpT))) : Bool := match r with
  | some (.ok ([x0, x1, x2, x3], l)) => x0.k == 0 && x0.n == 1 && x1.names.length == 2 && x2.op.prec == 120 && x3.k == 3 && l.length == 16
  | _ => false
theorem src0_facts : facts0 (allC 60 (lexL src0).toks 10 ops0 0 []) = true := by kernel_rfl
theorem src0_read : ∃ x0 x1 x2 x3 l, readS src0 = .ok ([x0, x1, x2, x3], l) ∧ x0.k = 0 ∧ x0.n = 1 ∧ x1.names.length = 2 ∧ x2.op.prec = 120 ∧ x3.k = 3 ∧ l.length = 16 := by
  have h := src0_facts
  unfold facts0 at h
  split at h
  · rename_i x0 x1 x2 x3 l he
    simp only [Bool.and_eq_true, beq_iff_eq] at h
    refine ⟨x0, x1, x2, x3, l, ?_, h.1.1.1.1.1, h.1.1.1.1.2, h.1.1.1.2, h.1.1.2, h.1.2, h.2⟩
    unfold readS
    rw [if_pos src0_err]
    exact allC_is he
  · cases h
theorem src1_read : readS [112] = .error ⟨101, 1⟩ := by
  unfold readS
  rw [if_pos (by kernel_rfl)]
  exact allC_is (f := 40) (g := 10) (by kernel_rfl)
def facts2 (r : Option (Except Bad (Made × Nat))) : Bool := match r with
  | some (.ok (m, j)) => j == 4 && m.p.l.length == 2
  | _ => false
theorem src2_facts : facts2 (exprF 60 ops0 (lexL [112, 32, 88, 44, 32, 113, 46]).toks 0 0 0) = true := by kernel_rfl
theorem src2_query : ∃ p : Pre, queryS ops0 [112, 32, 88, 44, 32, 113, 46] = .ok p ∧ p.l.length = 2 := by
  have h := src2_facts
  unfold facts2 at h
  split at h
  · rename_i m j he
    simp only [Bool.and_eq_true, beq_iff_eq] at h
    refine ⟨m.p, ?_, h.2⟩
    unfold queryS
    rw [if_pos (by kernel_rfl), exprT_eq ⟨60, he⟩]
    simp only
    rw [h.1]
    have h7 : (tokL (lexL [112, 32, 88, 44, 32, 113, 46]).toks 4).kind = 7 := by kernel_rfl
    have h0 : (tokL (lexL [112, 32, 88, 44, 32, 113, 46]).toks (4 + 1)).kind = 0 := by kernel_rfl
    rw [if_pos h7, if_pos h0]
  · cases h
theorem law10_works {w0 : World} (hG : Glob w0) (σ : H) : DC Tryz.prog w0 46 [] σ (Same (B true) σ) := by
  refine go46 rfl (fun hok hsz => ?_)
  obtain ⟨x0, x1, x2, x3, l, h0, h1, h2, h3, h4, h5, h6⟩ := src0_read
  obtain ⟨p, h7, h8⟩ := src2_query
  have e0 : DC Tryz.prog w0 47 [S src0] σ (Same (.tup [.c (sentsC [x0, x1, x2, x3]), .c (opsC l), I 0, I 0]) σ) := by
    have := source_Read hG src0 (by decide) σ
    rw [h0] at this
    exact this
  have e1 : DC Tryz.prog w0 47 [S [112]] σ (Same (.tup [.c (.sl []), .c (.sl []), I 101, I 1]) σ) := by
    have := source_Read hG [112] (by decide) σ
    rw [src1_read] at this
    exact this
  have e2 : DC Tryz.prog w0 53 [.c (opsC ops0), S [112, 32, 88, 44, 32, 113, 46]] σ (Same (.tup [p.v, I 0, I 0]) σ) := by
    have := source_Query hG ops0 [112, 32, 88, 44, 32, 113, 46] (by decide) σ
    rw [h7] at this
    exact this
  have h3' : (x1.names.length : Int) = 2 := by omega
  have h6' : (l.length : Int) = 16 := by omega
  have h8' : (p.l.length : Int) = 2 := by omega
  ((first | refine W.advO 5000 _ _ ?_ | skip); simp only [go_sem, seval, ↓reduceIte, reduceCtorEq, c46])
  (refine W.call1 (e0) rfl rfl (by first | rfl | simp) ?_; refine W.advO 5000 _ _ ?_; simp only [go_sem, seval, ↓reduceIte, reduceCtorEq, sentsC, sent_cs, strsC])
  refine W.no rfl ?_
  ((first | refine W.advO 5000 _ _ ?_ | skip); simp only [go_sem, seval, ↓reduceIte, reduceCtorEq])
  (refine W.call1 (e1) rfl rfl (by first | rfl | simp) ?_; refine W.advO 5000 _ _ ?_; simp only [go_sem, seval, ↓reduceIte, reduceCtorEq])
  (refine W.call1 (ops_Default w0 _) rfl rfl (by first | rfl | simp) ?_; refine W.advO 5000 _ _ ?_; simp only [go_sem, seval, ↓reduceIte, reduceCtorEq])
  (refine W.call1 (e2) rfl rfl (by first | rfl | simp) ?_; refine W.advO 5000 _ _ ?_; simp only [go_sem, seval, ↓reduceIte, reduceCtorEq])
  (refine W.call1 (source_Words w0 _) rfl rfl (by first | rfl | simp) ?_; refine W.advO 5000 _ _ ?_; simp only [go_sem, seval, ↓reduceIte, reduceCtorEq, sentsC, sent_cs, strsC, h1, h2, h3', h4, h5, h6', h8', strsR, words5, Int.cast_ofNat_Int])
  (refine W.ret (Fin.sameW (hok) (by (first | rfl | exact List.length_set .. | simp)) (by simp only [resEval, r46, go_sem, seval, ↓reduceIte, reduceCtorEq]; rfl) ?_ (by (first | exact .c _ | (simp only [I, S, B, opsC, toksC, Pre.v, Tok.v, OpT.v, low_c, low_void, low_any, low_csl, low_nilf, low_ptr, low_osl, low_agg, low_tup, low_fn, List.forall_mem_cons, List.not_mem_nil, false_implies, implies_true, and_self, and_true, true_and]; done))) (by (first | rfl | exact (List.append_nil _).symm))); simp only [resV]; try exact V.wk.rfl _)
end
end Go.Proofs.YtlogjjnimlnpkaaGreatDoor

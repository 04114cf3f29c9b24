/-
  Walks: a sentence.
  The code of some functions, without addresses.
  Walks: the first operators.
  Walks: rows of operators, one behind the other.
  Walks: the first operators, all of them.
  Walks: source.Read, source.Query.
  Walks: source.Query.
  The code of some functions, without addresses.
  Walks: a tree is the same as itself.
  Walks: the document's examples of sentences; which operators are the same.
  The code of some functions, without addresses.
  The code of some functions, without addresses.
  The code of some functions, without addresses.
  Walks: the document's reader, its small functions.
-/
import Derived.Test.YtlogjjnimlnpkaaGreatDoorQJ33
import Derived.Test.YtlogjjnimlnpkaaGreatDoorChecked
import Derived.Test.YtlogjjnimlnpkaaGreatDoorQJ10
import Derived.Test.YtlogjjnimlnpkaaGreatDoorQGrow
import Derived.Test.YtlogjjnimlnpkaaGreatDoorQLxD
import Derived.Test.YtlogjjnimlnpkaaGreatDoorQLexGl
import Derived.Test.YtlogjjnimlnpkaaGreatDoorQLexBk
import Derived.Test.YtlogjjnimlnpkaaGreatDoorQJ11
set_option linter.unusedSimpArgs false
set_option linter.unusedVariables false
set_option maxHeartbeats 8000000
set_option maxRecDepth 20000
namespace Go.Proofs.YtlogjjnimlnpkaaGreatDoor
open Go.RowKit Go.Lamb
attribute [local go_sem] advO_skip advO_reg advO_seq advO_block advO_exit advO_endb advO_opsNil advO_ops advG_yes advG_no advG_none advS_some advS_none advO_cond advO_loop advO_dreg advO_ret advO_bad advO_inv advO_nil advO_zero wantedV Lamb.step ev_t ev_k put_some put_none argEnv popTo cellsAt V.cellsV V.rows V.toC toCs fillV bytesC byteRows appV rowsV boundV boundL binV binInt binStr eqC eqL V.isNil leaves V.leaf Ins.quiet Ins.pure List.getD_cons_zero List.getD_cons_succ List.getD_nil List.all_cons List.all_nil List.length_cons List.length_nil List.take_succ_cons List.take_zero List.drop_succ_cons List.drop_zero List.cons_append List.nil_append List.append_nil List.append_assoc List.map_cons List.map_nil List.getElem?_cons_zero List.getElem?_cons_succ List.length_append List.length_set hget0 hget hset0 hset hsets hgs0 hgs hss0 hss List.set_cons_zero List.set_cons_succ List.forall_mem_cons List.not_mem_nil false_implies implies_true Option.map_some Bool.and_true Bool.true_and Bool.not_not Bool.not_true Bool.not_false Bool.and_self Bool.or_true Bool.true_or Bool.or_false Bool.false_or Bool.and_false Bool.false_and Bool.false_eq_true beq_self_eq_true and_self and_true true_and if_true if_false Nat.zero_add Nat.add_zero Nat.le_refl Int.toNat_natCast decide_true decide_false beq_t beq_f List.length_map List.getElem?_map I S B opsC toksC OpT.v OpT.cs OpT.zero Tok.v Tok.cs Pre.v Pre.cs_eq k_mk name_mk n_mk l_mk pos_mk Pre.app applyL natCast0 natCast1 natCast2 AOp.o AOp.m AOp.f AOp.l AOp.d AOp.n AOp.x AOp.s AOp.k AOp.y AOp.z EOp.q low_c low_void low_any low_csl low_nilf low_ptr low_osl low_agg low_tup low_fn resEval advPO_nil advPO_loud advPO_quiet pL_yes pL_no pLS_some pLS_none pQ_yes pQ_no pQS_some pQS_loud eq_self Nat.sub_zero
attribute [local go_sem] strsC sdX rz_len rz_g0 rz_g rz_s0 rz_s rz_sb zeroB

def words5 : List Str := [[107, 105, 110, 100], [116, 121, 112, 101], [105, 110, 102, 105, 120], [105, 110, 102, 105, 120, 108], [105, 110, 102, 105, 120, 114]]
/-- A sentence ahead of its dot. -/
noncomputable def beforeP (t : List Tok) (l : List OpT) (i : Nat) : SoR :=
  if (tokL t i).kind = 1 ∧ (tokL t i).text = [107, 105, 110, 100] then kindP t (i + 1) l
  else if (tokL t i).kind = 1 ∧ (tokL t i).text = [116, 121, 112, 101] then typeP t (i + 1) l
  else if (tokL t i).kind = 1 ∧ (tokL t i).text = [105, 110, 102, 105, 120] then opP t (i + 1) 0 l
  else if (tokL t i).kind = 1 ∧ (tokL t i).text = [105, 110, 102, 105, 120, 108] then opP t (i + 1) 1 l
  else if (tokL t i).kind = 1 ∧ (tokL t i).text = [105, 110, 102, 105, 120, 114] then opP t (i + 1) 2 l
  else clauseP t i l
def sentAt (s : Sent) (pos : Int) : Sent := ⟨s.k, s.names, s.n, s.ty, s.op, s.body, pos⟩
def dotP (t : List Tok) (pos : Int) : SoR → SoR
  | .error b => .error b
  | .ok (s, k, l') => if s.k = 2 then .ok (sentAt s pos, k, l') else endS t (sentAt s pos) k l'
theorem kind_dot (t : List Tok) (i : Nat) (pos : Int) (l : List OpT) : kindSent t i pos l = dotP t pos (kindP t i l) := by
  unfold kindSent kindP
  cases namesS t false i [] with
  | error b => rfl
  | ok x =>
    obtain ⟨ns, j⟩ := x
    simp only
    cases kindS t j 0 with
    | error b => rfl
    | ok y => obtain ⟨n, k⟩ := y; rfl
theorem type_dot (t : List Tok) (i : Nat) (pos : Int) (l : List OpT) : typeSent t i pos l = dotP t pos (typeP t i l) := by
  unfold typeSent typeP
  cases namesS t true i [] with
  | error b => rfl
  | ok x =>
    obtain ⟨ns, j⟩ := x
    simp only
    cases tyT t j with
    | error b => rfl
    | ok y => obtain ⟨u, k, ws⟩ := y; rfl
theorem op_dot2 (t : List Tok) (i : Nat) (pos fix : Int) (l : List OpT) : opSent t i pos fix l = dotP t pos (opP t i fix l) := by
  unfold opSent opP
  cases namesS t true i [] with
  | error b => rfl
  | ok x =>
    obtain ⟨ns, j⟩ := x
    simp only
    by_cases h3 : (tokL t j).kind = 3
    · rw [if_pos h3, if_pos h3]
      by_cases h7 : (tokL t (j + 1)).kind = 7
      · rw [if_pos h7, if_pos h7]
        cases declL (tokL t j).n fix l ns with
        | error b => rfl
        | ok l' => rfl
      · rw [if_neg h7, if_neg h7]; rfl
    · rw [if_neg h3, if_neg h3]; rfl
theorem clause_dot (t : List Tok) (i : Nat) (pos : Int) (l : List OpT) : clauseSent t i pos l = dotP t pos (clauseP t i l) := by
  unfold clauseSent clauseP
  cases exprT l t i with
  | error b => rfl
  | ok y => obtain ⟨m, k⟩ := y; rfl
theorem sentS_dot (t : List Tok) (l : List OpT) (i : Nat) : sentS t l i = dotP t (tokL t i).pos (beforeP t l i) := by
  unfold sentS beforeP
  simp only [kind_dot, type_dot, op_dot2, clause_dot]
  by_cases c1 : (tokL t i).kind = 1 ∧ (tokL t i).text = [107, 105, 110, 100]
  · simp only [if_pos c1]
  simp only [if_neg c1]
  by_cases c2 : (tokL t i).kind = 1 ∧ (tokL t i).text = [116, 121, 112, 101]
  · simp only [if_pos c2]
  simp only [if_neg c2]
  by_cases c3 : (tokL t i).kind = 1 ∧ (tokL t i).text = [105, 110, 102, 105, 120]
  · simp only [if_pos c3]
  simp only [if_neg c3]
  by_cases c4 : (tokL t i).kind = 1 ∧ (tokL t i).text = [105, 110, 102, 105, 120, 108]
  · simp only [if_pos c4]
  simp only [if_neg c4]
  by_cases c5 : (tokL t i).kind = 1 ∧ (tokL t i).text = [105, 110, 102, 105, 120, 114]
  · simp only [if_pos c5]
  simp only [if_neg c5]
theorem rsen_out {t : List Tok} {σ : H} {b : Nat} {r : SoR} {d : V} {σ' : H} (h : RSen t σ b r d σ') : ∃ (s : Sent) (j : Int) (l' : List OpT) (e p : Int), d = s.v ∧ σ' = srd σ b t j l' e p ∧ ((e = 0 ∧ p = 0 ∧ ∃ k : Nat, j = k ∧ r = .ok (s, k, l')) ∨ ((e == 0) = false ∧ r = .error ⟨e, p⟩)) := by
  cases r with
  | ok x =>
    obtain ⟨s, k, l'⟩ := x
    obtain ⟨rfl, rfl⟩ := h
    exact ⟨s, k, l', 0, 0, rfl, rfl, .inl ⟨rfl, rfl, k, rfl, rfl⟩⟩
  | error x =>
    obtain ⟨he, s, j, l', rfl, rfl⟩ := h
    exact ⟨s, j, l', x.e, x.pos, rfl, rfl, .inr ⟨he, rfl⟩⟩
theorem before_far {t : List Tok} {l l' : List OpT} {i k : Nat} {s : Sent} (h : beforeP t l i = .ok (s, k, l')) : k ≤ t.length := by
  have hop : ∀ fix, opP t (i + 1) fix l = .ok (s, k, l') → k ≤ t.length := fun fix h => by
    have := op_dot2 t (i + 1) 0 fix l
    rw [h] at this
    unfold opP at h
    split at h
    · cases h
    · split at h
      · split at h
        · rename_i h7
          have := tokL_lt (t := t) (by rw [h7]; decide)
          split at h
          · cases h
          · injection h with h; injection h with _ h; injection h with h _
            omega
        · cases h
      · cases h
  unfold beforeP at h
  split at h
  · unfold kindP at h
    split at h
    · cases h
    · split at h
      · cases h
      · rename_i hk
        injection h with h; injection h with _ h; injection h with h _
        have := kindS_far _ _ _ _ _ (Nat.le_refl _) hk
        omega
  · split at h
    · unfold typeP at h
      split at h
      · cases h
      · split at h
        · cases h
        · rename_i hk
          injection h with h; injection h with _ h; injection h with h _
          have := tyT_far hk
          omega
    · split at h
      · exact hop _ h
      · split at h
        · exact hop _ h
        · split at h
          · exact hop _ h
          · unfold clauseP at h
            split at h
            · cases h
            · rename_i hk
              injection h with h; injection h with _ h; injection h with h _
              have := exprT_far hk
              omega
theorem source_Words (w0 : World) (σ : H) : DC Tryz.prog w0 55 [] σ (Same (.csl (strsR words5)) σ) := by
  refine k55.go rfl (fun hok hsz => ?_)
  ((try refine W.a ?_); simp only [go_sem, seval, reduceCtorEq, c55])
  (refine W.fs (hok) (by simp only [r55, go_sem, seval, reduceCtorEq]; rfl) ?_; simp only [resV]; try exact V.wk.rfl _)
theorem sr_sentence (w0 : World) (t : List Tok) (hT : TEnd t) (i : Nat) (hi : i ≤ t.length) (l : List OpT) (hl : l.length ≤ 64) (hne : l ≠ []) (σ : H) (b : Nat) (D : b < σ.length) :
    DC Tryz.prog w0 99 [.ptr b 0] (srd σ b t i l 0 0) (RSen t σ b (sentS t l i)) := by
  refine k99.go rfl (fun hok hsz => ?_)
  have hle := hT.le
  have hwi : IntKind.i64.wrap ((i : Int) + 1) = ((i + 1 : Nat) : Int) := by rw [wrap_in] <;> omega
  rw [sentS_dot]
  generalize hr0 : beforeP t l i = r
  have hr := hr0
  unfold beforeP at hr
  ((try refine W.a ?_); simp only [go_sem, seval, reduceCtorEq, c99, rzA D])
  (refine W.c1 (DC.lift1 D (fun D' => sr_tok w0 t hT i (by omega) l 0 0 _ b D')) ?_; simp only [go_sem, seval, reduceCtorEq, rzA D])
  by_cases hk1 : (tokL t i).kind = 1
  · have n1 : ((tokL t i).kind == 1) = true := by simpa using hk1
    have hil : i + 1 ≤ t.length := tokL_lt (by rw [hk1]; decide)
    simp only [hk1, true_and] at hr
    by_cases e1 : (tokL t i).text = [107, 105, 110, 100]
    · rw [if_pos e1] at hr
      have hw : words5.contains (tokL t i).text = true := by rw [e1]; rfl
      have b1 : ((tokL t i).text == [107, 105, 110, 100]) = true := by simpa using e1
      apply W.dregE (List.cons_ne_nil _ _)
      case hc =>
        (apply CanonE.advPO; simp only [go_sem, seval, reduceCtorEq, rzA D, n1])
        (apply CanonE.call (source_Words w0 _); (case hg => rfl); (case hf => rfl); (case ha => first | rfl | simp))
        (apply CanonE.advPO; simp only [go_sem, seval, reduceCtorEq, rzA D, n1])
        (apply CanonE.callw (str_contains w0 words5 (tokL t i).text _); (case hg => rfl); (case hf => rfl); (case ha => rfl); (case hw => ((exact wk_here))))
        (apply CanonE.advPO; simp only [go_sem, seval, reduceCtorEq, rzA D, n1, hw])
        exact CanonE.nil
      ((try refine W.a ?_); simp only [go_sem, seval, reduceCtorEq, rzA D])
      refine W.yes rfl ?_
      ((try refine W.a ?_); simp only [go_sem, seval, reduceCtorEq, rzA D, hwi, b1])
      refine W.yes rfl ?_
      ((try refine W.a ?_); simp only [go_sem, seval, reduceCtorEq, rzA D])
      (refine W.call (DC.lift1R D (fun D' => sr_kind w0 t hT (i + 1) hil l _ b D')) rfl rfl (by first | rfl | simp) ?_)
      intro d σ1 hR
      rw [hr] at hR
      obtain ⟨s, j, l', e, p, rfl, rfl, hst⟩ := rsen_out hR
      ((try refine W.a ?_); simp only [go_sem, seval, reduceCtorEq, rzA D, sent_v])
      rcases hst with ⟨rfl, rfl, k, rfl, hr'⟩ | ⟨he, hr'⟩
      · subst hr'
        have hkf := before_far hr0
        simp only [dotP]
        by_cases hs2 : s.k = 2
        · have ns2 : (s.k != 2) = false := by simpa using hs2
          rw [if_pos hs2]
          ((try refine W.a ?_); simp only [go_sem, seval, reduceCtorEq, rzA D, ns2])
          refine W.no rfl ?_
          ((try refine W.a ?_); simp only [go_sem, seval, reduceCtorEq, rzA D])
          (refine W.fg (srd_ok D hok t (k : Nat) l' 0 0) (d := (sentAt s (tokL t i).pos).v) (by simp only [r99, go_sem, seval, reduceCtorEq, sent_v, sentAt, strsC]; rfl) (by simp only [resV, go_sem, seval, reduceCtorEq, sent_v, sentAt, strsC]; exact wk_here) ?_ (hl := by (first | exact .c _ | (simp only [go_sem, seval, reduceCtorEq, sent_v, sentAt, strsC]; done))))
          exact ⟨rfl, rfl⟩
        · have ns2 : (s.k != 2) = true := by simpa using hs2
          rw [if_neg hs2]
          ((try refine W.a ?_); simp only [go_sem, seval, reduceCtorEq, rzA D, ns2])
          refine W.yes rfl ?_
          ((try refine W.a ?_); simp only [go_sem, seval, reduceCtorEq, rzA D])
          (refine W.c1 (DC.lift1 D (fun D' => sr_end0 w0 t hT k (by omega) l' _ b D')) ?_; simp only [go_sem, seval, reduceCtorEq, rzA D])
          unfold endS
          by_cases h7 : (tokL t k).kind = 7
          · simp only [if_pos h7]
            (refine W.fg (srd_ok D hok t ((k + 1 : Nat) : Int) l' 0 0) (d := (sentAt s (tokL t i).pos).v) (by simp only [r99, go_sem, seval, reduceCtorEq, sent_v, sentAt, strsC]; rfl) (by simp only [resV, go_sem, seval, reduceCtorEq, sent_v, sentAt, strsC]; exact wk_here) ?_ (hl := by (first | exact .c _ | (simp only [go_sem, seval, reduceCtorEq, sent_v, sentAt, strsC]; done))))
            exact ⟨rfl, rfl⟩
          · simp only [if_neg h7]
            (refine W.fg (srd_ok D hok t ((k + 1 : Nat) : Int) l' 101 (tokL t k).pos) (d := (sentAt s (tokL t i).pos).v) (by simp only [r99, go_sem, seval, reduceCtorEq, sent_v, sentAt, strsC]; rfl) (by simp only [resV, go_sem, seval, reduceCtorEq, sent_v, sentAt, strsC]; exact wk_here) ?_ (hl := by (first | exact .c _ | (simp only [go_sem, seval, reduceCtorEq, sent_v, sentAt, strsC]; done))))
            exact ⟨rfl, _, _, _, rfl, rfl⟩
      · subst hr'
        simp only [dotP]
        by_cases hs2 : s.k = 2
        · have ns2 : (s.k != 2) = false := by simpa using hs2
          ((try refine W.a ?_); simp only [go_sem, seval, reduceCtorEq, rzA D, ns2])
          refine W.no rfl ?_
          ((try refine W.a ?_); simp only [go_sem, seval, reduceCtorEq, rzA D])
          (refine W.fg (srd_ok D hok t j l' e p) (d := (sentAt s (tokL t i).pos).v) (by simp only [r99, go_sem, seval, reduceCtorEq, sent_v, sentAt, strsC]; rfl) (by simp only [resV, go_sem, seval, reduceCtorEq, sent_v, sentAt, strsC]; exact wk_here) ?_ (hl := by (first | exact .c _ | (simp only [go_sem, seval, reduceCtorEq, sent_v, sentAt, strsC]; done))))
          exact ⟨he, _, _, _, rfl, rfl⟩
        · have ns2 : (s.k != 2) = true := by simpa using hs2
          ((try refine W.a ?_); simp only [go_sem, seval, reduceCtorEq, rzA D, ns2])
          refine W.yes rfl ?_
          ((try refine W.a ?_); simp only [go_sem, seval, reduceCtorEq, rzA D])
          (refine W.c1 (DC.lift1 D (fun D' => sr_end1 w0 t j l' e p he _ b D')) ?_; simp only [go_sem, seval, reduceCtorEq, rzA D])
          (refine W.fg (srd_ok D hok t j l' e p) (d := (sentAt s (tokL t i).pos).v) (by simp only [r99, go_sem, seval, reduceCtorEq, sent_v, sentAt, strsC]; rfl) (by simp only [resV, go_sem, seval, reduceCtorEq, sent_v, sentAt, strsC]; exact wk_here) ?_ (hl := by (first | exact .c _ | (simp only [go_sem, seval, reduceCtorEq, sent_v, sentAt, strsC]; done))))
          exact ⟨he, _, _, _, rfl, rfl⟩
    rw [if_neg e1] at hr
    by_cases e2 : (tokL t i).text = [116, 121, 112, 101]
    · rw [if_pos e2] at hr
      have hw : words5.contains (tokL t i).text = true := by rw [e2]; rfl
      have b1 : ((tokL t i).text == [107, 105, 110, 100]) = false := by simpa using e1
      have b2 : ((tokL t i).text == [116, 121, 112, 101]) = true := by simpa using e2
      apply W.dregE (List.cons_ne_nil _ _)
      case hc =>
        (apply CanonE.advPO; simp only [go_sem, seval, reduceCtorEq, rzA D, n1])
        (apply CanonE.call (source_Words w0 _); (case hg => rfl); (case hf => rfl); (case ha => first | rfl | simp))
        (apply CanonE.advPO; simp only [go_sem, seval, reduceCtorEq, rzA D, n1])
        (apply CanonE.callw (str_contains w0 words5 (tokL t i).text _); (case hg => rfl); (case hf => rfl); (case ha => rfl); (case hw => ((exact wk_here))))
        (apply CanonE.advPO; simp only [go_sem, seval, reduceCtorEq, rzA D, n1, hw])
        exact CanonE.nil
      ((try refine W.a ?_); simp only [go_sem, seval, reduceCtorEq, rzA D])
      refine W.yes rfl ?_
      ((try refine W.a ?_); simp only [go_sem, seval, reduceCtorEq, rzA D, hwi, b1, b2])
      refine W.no rfl ?_
      ((try refine W.a ?_); simp only [go_sem, seval, reduceCtorEq, rzA D, b1, b2])
      refine W.yes rfl ?_
      ((try refine W.a ?_); simp only [go_sem, seval, reduceCtorEq, rzA D])
      (refine W.call (DC.lift1R D (fun D' => sr_typed w0 t hT (i + 1) hil l _ b D')) rfl rfl (by first | rfl | simp) ?_)
      intro d σ1 hR
      rw [hr] at hR
      obtain ⟨s, j, l', e, p, rfl, rfl, hst⟩ := rsen_out hR
      ((try refine W.a ?_); simp only [go_sem, seval, reduceCtorEq, rzA D, sent_v])
      rcases hst with ⟨rfl, rfl, k, rfl, hr'⟩ | ⟨he, hr'⟩
      · subst hr'
        have hkf := before_far hr0
        simp only [dotP]
        by_cases hs2 : s.k = 2
        · have ns2 : (s.k != 2) = false := by simpa using hs2
          rw [if_pos hs2]
          ((try refine W.a ?_); simp only [go_sem, seval, reduceCtorEq, rzA D, ns2])
          refine W.no rfl ?_
          ((try refine W.a ?_); simp only [go_sem, seval, reduceCtorEq, rzA D])
          (refine W.fg (srd_ok D hok t (k : Nat) l' 0 0) (d := (sentAt s (tokL t i).pos).v) (by simp only [r99, go_sem, seval, reduceCtorEq, sent_v, sentAt, strsC]; rfl) (by simp only [resV, go_sem, seval, reduceCtorEq, sent_v, sentAt, strsC]; exact wk_here) ?_ (hl := by (first | exact .c _ | (simp only [go_sem, seval, reduceCtorEq, sent_v, sentAt, strsC]; done))))
          exact ⟨rfl, rfl⟩
        · have ns2 : (s.k != 2) = true := by simpa using hs2
          rw [if_neg hs2]
          ((try refine W.a ?_); simp only [go_sem, seval, reduceCtorEq, rzA D, ns2])
          refine W.yes rfl ?_
          ((try refine W.a ?_); simp only [go_sem, seval, reduceCtorEq, rzA D])
          (refine W.c1 (DC.lift1 D (fun D' => sr_end0 w0 t hT k (by omega) l' _ b D')) ?_; simp only [go_sem, seval, reduceCtorEq, rzA D])
          unfold endS
          by_cases h7 : (tokL t k).kind = 7
          · simp only [if_pos h7]
            (refine W.fg (srd_ok D hok t ((k + 1 : Nat) : Int) l' 0 0) (d := (sentAt s (tokL t i).pos).v) (by simp only [r99, go_sem, seval, reduceCtorEq, sent_v, sentAt, strsC]; rfl) (by simp only [resV, go_sem, seval, reduceCtorEq, sent_v, sentAt, strsC]; exact wk_here) ?_ (hl := by (first | exact .c _ | (simp only [go_sem, seval, reduceCtorEq, sent_v, sentAt, strsC]; done))))
            exact ⟨rfl, rfl⟩
          · simp only [if_neg h7]
            (refine W.fg (srd_ok D hok t ((k + 1 : Nat) : Int) l' 101 (tokL t k).pos) (d := (sentAt s (tokL t i).pos).v) (by simp only [r99, go_sem, seval, reduceCtorEq, sent_v, sentAt, strsC]; rfl) (by simp only [resV, go_sem, seval, reduceCtorEq, sent_v, sentAt, strsC]; exact wk_here) ?_ (hl := by (first | exact .c _ | (simp only [go_sem, seval, reduceCtorEq, sent_v, sentAt, strsC]; done))))
            exact ⟨rfl, _, _, _, rfl, rfl⟩
      · subst hr'
        simp only [dotP]
        by_cases hs2 : s.k = 2
        · have ns2 : (s.k != 2) = false := by simpa using hs2
          ((try refine W.a ?_); simp only [go_sem, seval, reduceCtorEq, rzA D, ns2])
          refine W.no rfl ?_
          ((try refine W.a ?_); simp only [go_sem, seval, reduceCtorEq, rzA D])
          (refine W.fg (srd_ok D hok t j l' e p) (d := (sentAt s (tokL t i).pos).v) (by simp only [r99, go_sem, seval, reduceCtorEq, sent_v, sentAt, strsC]; rfl) (by simp only [resV, go_sem, seval, reduceCtorEq, sent_v, sentAt, strsC]; exact wk_here) ?_ (hl := by (first | exact .c _ | (simp only [go_sem, seval, reduceCtorEq, sent_v, sentAt, strsC]; done))))
          exact ⟨he, _, _, _, rfl, rfl⟩
        · have ns2 : (s.k != 2) = true := by simpa using hs2
          ((try refine W.a ?_); simp only [go_sem, seval, reduceCtorEq, rzA D, ns2])
          refine W.yes rfl ?_
          ((try refine W.a ?_); simp only [go_sem, seval, reduceCtorEq, rzA D])
          (refine W.c1 (DC.lift1 D (fun D' => sr_end1 w0 t j l' e p he _ b D')) ?_; simp only [go_sem, seval, reduceCtorEq, rzA D])
          (refine W.fg (srd_ok D hok t j l' e p) (d := (sentAt s (tokL t i).pos).v) (by simp only [r99, go_sem, seval, reduceCtorEq, sent_v, sentAt, strsC]; rfl) (by simp only [resV, go_sem, seval, reduceCtorEq, sent_v, sentAt, strsC]; exact wk_here) ?_ (hl := by (first | exact .c _ | (simp only [go_sem, seval, reduceCtorEq, sent_v, sentAt, strsC]; done))))
          exact ⟨he, _, _, _, rfl, rfl⟩
    rw [if_neg e2] at hr
    by_cases e3 : (tokL t i).text = [105, 110, 102, 105, 120]
    · rw [if_pos e3] at hr
      have hw : words5.contains (tokL t i).text = true := by rw [e3]; rfl
      have b1 : ((tokL t i).text == [107, 105, 110, 100]) = false := by simpa using e1
      have b2 : ((tokL t i).text == [116, 121, 112, 101]) = false := by simpa using e2
      have b3 : ((tokL t i).text == [105, 110, 102, 105, 120]) = true := by simpa using e3
      apply W.dregE (List.cons_ne_nil _ _)
      case hc =>
        (apply CanonE.advPO; simp only [go_sem, seval, reduceCtorEq, rzA D, n1])
        (apply CanonE.call (source_Words w0 _); (case hg => rfl); (case hf => rfl); (case ha => first | rfl | simp))
        (apply CanonE.advPO; simp only [go_sem, seval, reduceCtorEq, rzA D, n1])
        (apply CanonE.callw (str_contains w0 words5 (tokL t i).text _); (case hg => rfl); (case hf => rfl); (case ha => rfl); (case hw => ((exact wk_here))))
        (apply CanonE.advPO; simp only [go_sem, seval, reduceCtorEq, rzA D, n1, hw])
        exact CanonE.nil
      ((try refine W.a ?_); simp only [go_sem, seval, reduceCtorEq, rzA D])
      refine W.yes rfl ?_
      ((try refine W.a ?_); simp only [go_sem, seval, reduceCtorEq, rzA D, hwi, b1, b2, b3])
      refine W.no rfl ?_
      ((try refine W.a ?_); simp only [go_sem, seval, reduceCtorEq, rzA D, b1, b2, b3])
      refine W.no rfl ?_
      ((try refine W.a ?_); simp only [go_sem, seval, reduceCtorEq, rzA D, b1, b2, b3])
      refine W.yes rfl ?_
      ((try refine W.a ?_); simp only [go_sem, seval, reduceCtorEq, rzA D])
      (refine W.call (DC.lift1R D (fun D' => sr_operator w0 t hT (i + 1) hil 0 l hl hne _ b D')) rfl rfl (by first | rfl | simp) ?_)
      intro d σ1 hR
      rw [hr] at hR
      obtain ⟨s, j, l', e, p, rfl, rfl, hst⟩ := rsen_out hR
      ((try refine W.a ?_); simp only [go_sem, seval, reduceCtorEq, rzA D, sent_v])
      rcases hst with ⟨rfl, rfl, k, rfl, hr'⟩ | ⟨he, hr'⟩
      · subst hr'
        have hkf := before_far hr0
        simp only [dotP]
        by_cases hs2 : s.k = 2
        · have ns2 : (s.k != 2) = false := by simpa using hs2
          rw [if_pos hs2]
          ((try refine W.a ?_); simp only [go_sem, seval, reduceCtorEq, rzA D, ns2])
          refine W.no rfl ?_
          ((try refine W.a ?_); simp only [go_sem, seval, reduceCtorEq, rzA D])
          (refine W.fg (srd_ok D hok t (k : Nat) l' 0 0) (d := (sentAt s (tokL t i).pos).v) (by simp only [r99, go_sem, seval, reduceCtorEq, sent_v, sentAt, strsC]; rfl) (by simp only [resV, go_sem, seval, reduceCtorEq, sent_v, sentAt, strsC]; exact wk_here) ?_ (hl := by (first | exact .c _ | (simp only [go_sem, seval, reduceCtorEq, sent_v, sentAt, strsC]; done))))
          exact ⟨rfl, rfl⟩
        · have ns2 : (s.k != 2) = true := by simpa using hs2
          rw [if_neg hs2]
          ((try refine W.a ?_); simp only [go_sem, seval, reduceCtorEq, rzA D, ns2])
          refine W.yes rfl ?_
          ((try refine W.a ?_); simp only [go_sem, seval, reduceCtorEq, rzA D])
          (refine W.c1 (DC.lift1 D (fun D' => sr_end0 w0 t hT k (by omega) l' _ b D')) ?_; simp only [go_sem, seval, reduceCtorEq, rzA D])
          unfold endS
          by_cases h7 : (tokL t k).kind = 7
          · simp only [if_pos h7]
            (refine W.fg (srd_ok D hok t ((k + 1 : Nat) : Int) l' 0 0) (d := (sentAt s (tokL t i).pos).v) (by simp only [r99, go_sem, seval, reduceCtorEq, sent_v, sentAt, strsC]; rfl) (by simp only [resV, go_sem, seval, reduceCtorEq, sent_v, sentAt, strsC]; exact wk_here) ?_ (hl := by (first | exact .c _ | (simp only [go_sem, seval, reduceCtorEq, sent_v, sentAt, strsC]; done))))
            exact ⟨rfl, rfl⟩
          · simp only [if_neg h7]
            (refine W.fg (srd_ok D hok t ((k + 1 : Nat) : Int) l' 101 (tokL t k).pos) (d := (sentAt s (tokL t i).pos).v) (by simp only [r99, go_sem, seval, reduceCtorEq, sent_v, sentAt, strsC]; rfl) (by simp only [resV, go_sem, seval, reduceCtorEq, sent_v, sentAt, strsC]; exact wk_here) ?_ (hl := by (first | exact .c _ | (simp only [go_sem, seval, reduceCtorEq, sent_v, sentAt, strsC]; done))))
            exact ⟨rfl, _, _, _, rfl, rfl⟩
      · subst hr'
        simp only [dotP]
        by_cases hs2 : s.k = 2
        · have ns2 : (s.k != 2) = false := by simpa using hs2
          ((try refine W.a ?_); simp only [go_sem, seval, reduceCtorEq, rzA D, ns2])
          refine W.no rfl ?_
          ((try refine W.a ?_); simp only [go_sem, seval, reduceCtorEq, rzA D])
          (refine W.fg (srd_ok D hok t j l' e p) (d := (sentAt s (tokL t i).pos).v) (by simp only [r99, go_sem, seval, reduceCtorEq, sent_v, sentAt, strsC]; rfl) (by simp only [resV, go_sem, seval, reduceCtorEq, sent_v, sentAt, strsC]; exact wk_here) ?_ (hl := by (first | exact .c _ | (simp only [go_sem, seval, reduceCtorEq, sent_v, sentAt, strsC]; done))))
          exact ⟨he, _, _, _, rfl, rfl⟩
        · have ns2 : (s.k != 2) = true := by simpa using hs2
          ((try refine W.a ?_); simp only [go_sem, seval, reduceCtorEq, rzA D, ns2])
          refine W.yes rfl ?_
          ((try refine W.a ?_); simp only [go_sem, seval, reduceCtorEq, rzA D])
          (refine W.c1 (DC.lift1 D (fun D' => sr_end1 w0 t j l' e p he _ b D')) ?_; simp only [go_sem, seval, reduceCtorEq, rzA D])
          (refine W.fg (srd_ok D hok t j l' e p) (d := (sentAt s (tokL t i).pos).v) (by simp only [r99, go_sem, seval, reduceCtorEq, sent_v, sentAt, strsC]; rfl) (by simp only [resV, go_sem, seval, reduceCtorEq, sent_v, sentAt, strsC]; exact wk_here) ?_ (hl := by (first | exact .c _ | (simp only [go_sem, seval, reduceCtorEq, sent_v, sentAt, strsC]; done))))
          exact ⟨he, _, _, _, rfl, rfl⟩
    rw [if_neg e3] at hr
    by_cases e4 : (tokL t i).text = [105, 110, 102, 105, 120, 108]
    · rw [if_pos e4] at hr
      have hw : words5.contains (tokL t i).text = true := by rw [e4]; rfl
      have b1 : ((tokL t i).text == [107, 105, 110, 100]) = false := by simpa using e1
      have b2 : ((tokL t i).text == [116, 121, 112, 101]) = false := by simpa using e2
      have b3 : ((tokL t i).text == [105, 110, 102, 105, 120]) = false := by simpa using e3
      have b4 : ((tokL t i).text == [105, 110, 102, 105, 120, 108]) = true := by simpa using e4
      apply W.dregE (List.cons_ne_nil _ _)
      case hc =>
        (apply CanonE.advPO; simp only [go_sem, seval, reduceCtorEq, rzA D, n1])
        (apply CanonE.call (source_Words w0 _); (case hg => rfl); (case hf => rfl); (case ha => first | rfl | simp))
        (apply CanonE.advPO; simp only [go_sem, seval, reduceCtorEq, rzA D, n1])
        (apply CanonE.callw (str_contains w0 words5 (tokL t i).text _); (case hg => rfl); (case hf => rfl); (case ha => rfl); (case hw => ((exact wk_here))))
        (apply CanonE.advPO; simp only [go_sem, seval, reduceCtorEq, rzA D, n1, hw])
        exact CanonE.nil
      ((try refine W.a ?_); simp only [go_sem, seval, reduceCtorEq, rzA D])
      refine W.yes rfl ?_
      ((try refine W.a ?_); simp only [go_sem, seval, reduceCtorEq, rzA D, hwi, b1, b2, b3, b4])
      refine W.no rfl ?_
      ((try refine W.a ?_); simp only [go_sem, seval, reduceCtorEq, rzA D, b1, b2, b3, b4])
      refine W.no rfl ?_
      ((try refine W.a ?_); simp only [go_sem, seval, reduceCtorEq, rzA D, b1, b2, b3, b4])
      refine W.no rfl ?_
      ((try refine W.a ?_); simp only [go_sem, seval, reduceCtorEq, rzA D, b1, b2, b3, b4])
      refine W.yes rfl ?_
      ((try refine W.a ?_); simp only [go_sem, seval, reduceCtorEq, rzA D])
      (refine W.call (DC.lift1R D (fun D' => sr_operator w0 t hT (i + 1) hil 1 l hl hne _ b D')) rfl rfl (by first | rfl | simp) ?_)
      intro d σ1 hR
      rw [hr] at hR
      obtain ⟨s, j, l', e, p, rfl, rfl, hst⟩ := rsen_out hR
      ((try refine W.a ?_); simp only [go_sem, seval, reduceCtorEq, rzA D, sent_v])
      rcases hst with ⟨rfl, rfl, k, rfl, hr'⟩ | ⟨he, hr'⟩
      · subst hr'
        have hkf := before_far hr0
        simp only [dotP]
        by_cases hs2 : s.k = 2
        · have ns2 : (s.k != 2) = false := by simpa using hs2
          rw [if_pos hs2]
          ((try refine W.a ?_); simp only [go_sem, seval, reduceCtorEq, rzA D, ns2])
          refine W.no rfl ?_
          ((try refine W.a ?_); simp only [go_sem, seval, reduceCtorEq, rzA D])
          (refine W.fg (srd_ok D hok t (k : Nat) l' 0 0) (d := (sentAt s (tokL t i).pos).v) (by simp only [r99, go_sem, seval, reduceCtorEq, sent_v, sentAt, strsC]; rfl) (by simp only [resV, go_sem, seval, reduceCtorEq, sent_v, sentAt, strsC]; exact wk_here) ?_ (hl := by (first | exact .c _ | (simp only [go_sem, seval, reduceCtorEq, sent_v, sentAt, strsC]; done))))
          exact ⟨rfl, rfl⟩
        · have ns2 : (s.k != 2) = true := by simpa using hs2
          rw [if_neg hs2]
          ((try refine W.a ?_); simp only [go_sem, seval, reduceCtorEq, rzA D, ns2])
          refine W.yes rfl ?_
          ((try refine W.a ?_); simp only [go_sem, seval, reduceCtorEq, rzA D])
          (refine W.c1 (DC.lift1 D (fun D' => sr_end0 w0 t hT k (by omega) l' _ b D')) ?_; simp only [go_sem, seval, reduceCtorEq, rzA D])
          unfold endS
          by_cases h7 : (tokL t k).kind = 7
          · simp only [if_pos h7]
            (refine W.fg (srd_ok D hok t ((k + 1 : Nat) : Int) l' 0 0) (d := (sentAt s (tokL t i).pos).v) (by simp only [r99, go_sem, seval, reduceCtorEq, sent_v, sentAt, strsC]; rfl) (by simp only [resV, go_sem, seval, reduceCtorEq, sent_v, sentAt, strsC]; exact wk_here) ?_ (hl := by (first | exact .c _ | (simp only [go_sem, seval, reduceCtorEq, sent_v, sentAt, strsC]; done))))
            exact ⟨rfl, rfl⟩
          · simp only [if_neg h7]
            (refine W.fg (srd_ok D hok t ((k + 1 : Nat) : Int) l' 101 (tokL t k).pos) (d := (sentAt s (tokL t i).pos).v) (by simp only [r99, go_sem, seval, reduceCtorEq, sent_v, sentAt, strsC]; rfl) (by simp only [resV, go_sem, seval, reduceCtorEq, sent_v, sentAt, strsC]; exact wk_here) ?_ (hl := by (first | exact .c _ | (simp only [go_sem, seval, reduceCtorEq, sent_v, sentAt, strsC]; done))))
            exact ⟨rfl, _, _, _, rfl, rfl⟩
      · subst hr'
        simp only [dotP]
        by_cases hs2 : s.k = 2
        · have ns2 : (s.k != 2) = false := by simpa using hs2
          ((try refine W.a ?_); simp only [go_sem, seval, reduceCtorEq, rzA D, ns2])
          refine W.no rfl ?_
          ((try refine W.a ?_); simp only [go_sem, seval, reduceCtorEq, rzA D])
          (refine W.fg (srd_ok D hok t j l' e p) (d := (sentAt s (tokL t i).pos).v) (by simp only [r99, go_sem, seval, reduceCtorEq, sent_v, sentAt, strsC]; rfl) (by simp only [resV, go_sem, seval, reduceCtorEq, sent_v, sentAt, strsC]; exact wk_here) ?_ (hl := by (first | exact .c _ | (simp only [go_sem, seval, reduceCtorEq, sent_v, sentAt, strsC]; done))))
          exact ⟨he, _, _, _, rfl, rfl⟩
        · have ns2 : (s.k != 2) = true := by simpa using hs2
          ((try refine W.a ?_); simp only [go_sem, seval, reduceCtorEq, rzA D, ns2])
          refine W.yes rfl ?_
          ((try refine W.a ?_); simp only [go_sem, seval, reduceCtorEq, rzA D])
          (refine W.c1 (DC.lift1 D (fun D' => sr_end1 w0 t j l' e p he _ b D')) ?_; simp only [go_sem, seval, reduceCtorEq, rzA D])
          (refine W.fg (srd_ok D hok t j l' e p) (d := (sentAt s (tokL t i).pos).v) (by simp only [r99, go_sem, seval, reduceCtorEq, sent_v, sentAt, strsC]; rfl) (by simp only [resV, go_sem, seval, reduceCtorEq, sent_v, sentAt, strsC]; exact wk_here) ?_ (hl := by (first | exact .c _ | (simp only [go_sem, seval, reduceCtorEq, sent_v, sentAt, strsC]; done))))
          exact ⟨he, _, _, _, rfl, rfl⟩
    rw [if_neg e4] at hr
    by_cases e5 : (tokL t i).text = [105, 110, 102, 105, 120, 114]
    · rw [if_pos e5] at hr
      have hw : words5.contains (tokL t i).text = true := by rw [e5]; rfl
      have b1 : ((tokL t i).text == [107, 105, 110, 100]) = false := by simpa using e1
      have b2 : ((tokL t i).text == [116, 121, 112, 101]) = false := by simpa using e2
      have b3 : ((tokL t i).text == [105, 110, 102, 105, 120]) = false := by simpa using e3
      have b4 : ((tokL t i).text == [105, 110, 102, 105, 120, 108]) = false := by simpa using e4
      have b5 : ((tokL t i).text == [105, 110, 102, 105, 120, 114]) = true := by simpa using e5
      apply W.dregE (List.cons_ne_nil _ _)
      case hc =>
        (apply CanonE.advPO; simp only [go_sem, seval, reduceCtorEq, rzA D, n1])
        (apply CanonE.call (source_Words w0 _); (case hg => rfl); (case hf => rfl); (case ha => first | rfl | simp))
        (apply CanonE.advPO; simp only [go_sem, seval, reduceCtorEq, rzA D, n1])
        (apply CanonE.callw (str_contains w0 words5 (tokL t i).text _); (case hg => rfl); (case hf => rfl); (case ha => rfl); (case hw => ((exact wk_here))))
        (apply CanonE.advPO; simp only [go_sem, seval, reduceCtorEq, rzA D, n1, hw])
        exact CanonE.nil
      ((try refine W.a ?_); simp only [go_sem, seval, reduceCtorEq, rzA D])
      refine W.yes rfl ?_
      ((try refine W.a ?_); simp only [go_sem, seval, reduceCtorEq, rzA D, hwi, b1, b2, b3, b4, b5])
      refine W.no rfl ?_
      ((try refine W.a ?_); simp only [go_sem, seval, reduceCtorEq, rzA D, b1, b2, b3, b4, b5])
      refine W.no rfl ?_
      ((try refine W.a ?_); simp only [go_sem, seval, reduceCtorEq, rzA D, b1, b2, b3, b4, b5])
      refine W.no rfl ?_
      ((try refine W.a ?_); simp only [go_sem, seval, reduceCtorEq, rzA D, b1, b2, b3, b4, b5])
      refine W.no rfl ?_
      ((try refine W.a ?_); simp only [go_sem, seval, reduceCtorEq, rzA D, b1, b2, b3, b4, b5])
      refine W.yes rfl ?_
      ((try refine W.a ?_); simp only [go_sem, seval, reduceCtorEq, rzA D])
      (refine W.call (DC.lift1R D (fun D' => sr_operator w0 t hT (i + 1) hil 2 l hl hne _ b D')) rfl rfl (by first | rfl | simp) ?_)
      intro d σ1 hR
      rw [hr] at hR
      obtain ⟨s, j, l', e, p, rfl, rfl, hst⟩ := rsen_out hR
      ((try refine W.a ?_); simp only [go_sem, seval, reduceCtorEq, rzA D, sent_v])
      rcases hst with ⟨rfl, rfl, k, rfl, hr'⟩ | ⟨he, hr'⟩
      · subst hr'
        have hkf := before_far hr0
        simp only [dotP]
        by_cases hs2 : s.k = 2
        · have ns2 : (s.k != 2) = false := by simpa using hs2
          rw [if_pos hs2]
          ((try refine W.a ?_); simp only [go_sem, seval, reduceCtorEq, rzA D, ns2])
          refine W.no rfl ?_
          ((try refine W.a ?_); simp only [go_sem, seval, reduceCtorEq, rzA D])
          (refine W.fg (srd_ok D hok t (k : Nat) l' 0 0) (d := (sentAt s (tokL t i).pos).v) (by simp only [r99, go_sem, seval, reduceCtorEq, sent_v, sentAt, strsC]; rfl) (by simp only [resV, go_sem, seval, reduceCtorEq, sent_v, sentAt, strsC]; exact wk_here) ?_ (hl := by (first | exact .c _ | (simp only [go_sem, seval, reduceCtorEq, sent_v, sentAt, strsC]; done))))
          exact ⟨rfl, rfl⟩
        · have ns2 : (s.k != 2) = true := by simpa using hs2
          rw [if_neg hs2]
          ((try refine W.a ?_); simp only [go_sem, seval, reduceCtorEq, rzA D, ns2])
          refine W.yes rfl ?_
          ((try refine W.a ?_); simp only [go_sem, seval, reduceCtorEq, rzA D])
          (refine W.c1 (DC.lift1 D (fun D' => sr_end0 w0 t hT k (by omega) l' _ b D')) ?_; simp only [go_sem, seval, reduceCtorEq, rzA D])
          unfold endS
          by_cases h7 : (tokL t k).kind = 7
          · simp only [if_pos h7]
            (refine W.fg (srd_ok D hok t ((k + 1 : Nat) : Int) l' 0 0) (d := (sentAt s (tokL t i).pos).v) (by simp only [r99, go_sem, seval, reduceCtorEq, sent_v, sentAt, strsC]; rfl) (by simp only [resV, go_sem, seval, reduceCtorEq, sent_v, sentAt, strsC]; exact wk_here) ?_ (hl := by (first | exact .c _ | (simp only [go_sem, seval, reduceCtorEq, sent_v, sentAt, strsC]; done))))
            exact ⟨rfl, rfl⟩
          · simp only [if_neg h7]
            (refine W.fg (srd_ok D hok t ((k + 1 : Nat) : Int) l' 101 (tokL t k).pos) (d := (sentAt s (tokL t i).pos).v) (by simp only [r99, go_sem, seval, reduceCtorEq, sent_v, sentAt, strsC]; rfl) (by simp only [resV, go_sem, seval, reduceCtorEq, sent_v, sentAt, strsC]; exact wk_here) ?_ (hl := by (first | exact .c _ | (simp only [go_sem, seval, reduceCtorEq, sent_v, sentAt, strsC]; done))))
            exact ⟨rfl, _, _, _, rfl, rfl⟩
      · subst hr'
        simp only [dotP]
        by_cases hs2 : s.k = 2
        · have ns2 : (s.k != 2) = false := by simpa using hs2
          ((try refine W.a ?_); simp only [go_sem, seval, reduceCtorEq, rzA D, ns2])
          refine W.no rfl ?_
          ((try refine W.a ?_); simp only [go_sem, seval, reduceCtorEq, rzA D])
          (refine W.fg (srd_ok D hok t j l' e p) (d := (sentAt s (tokL t i).pos).v) (by simp only [r99, go_sem, seval, reduceCtorEq, sent_v, sentAt, strsC]; rfl) (by simp only [resV, go_sem, seval, reduceCtorEq, sent_v, sentAt, strsC]; exact wk_here) ?_ (hl := by (first | exact .c _ | (simp only [go_sem, seval, reduceCtorEq, sent_v, sentAt, strsC]; done))))
          exact ⟨he, _, _, _, rfl, rfl⟩
        · have ns2 : (s.k != 2) = true := by simpa using hs2
          ((try refine W.a ?_); simp only [go_sem, seval, reduceCtorEq, rzA D, ns2])
          refine W.yes rfl ?_
          ((try refine W.a ?_); simp only [go_sem, seval, reduceCtorEq, rzA D])
          (refine W.c1 (DC.lift1 D (fun D' => sr_end1 w0 t j l' e p he _ b D')) ?_; simp only [go_sem, seval, reduceCtorEq, rzA D])
          (refine W.fg (srd_ok D hok t j l' e p) (d := (sentAt s (tokL t i).pos).v) (by simp only [r99, go_sem, seval, reduceCtorEq, sent_v, sentAt, strsC]; rfl) (by simp only [resV, go_sem, seval, reduceCtorEq, sent_v, sentAt, strsC]; exact wk_here) ?_ (hl := by (first | exact .c _ | (simp only [go_sem, seval, reduceCtorEq, sent_v, sentAt, strsC]; done))))
          exact ⟨he, _, _, _, rfl, rfl⟩
    rw [if_neg e5] at hr
    have hw : words5.contains (tokL t i).text = false := by
      cases h : words5.contains (tokL t i).text
      · rfl
      · rw [List.contains_iff_mem] at h
        simp only [words5, List.mem_cons, List.not_mem_nil, or_false] at h
        rcases h with h | h | h | h | h
        · exact absurd h e1
        · exact absurd h e2
        · exact absurd h e3
        · exact absurd h e4
        · exact absurd h e5
    apply W.dregE (List.cons_ne_nil _ _)
    case hc =>
      (apply CanonE.advPO; simp only [go_sem, seval, reduceCtorEq, rzA D, n1])
      (apply CanonE.call (source_Words w0 _); (case hg => rfl); (case hf => rfl); (case ha => first | rfl | simp))
      (apply CanonE.advPO; simp only [go_sem, seval, reduceCtorEq, rzA D, n1])
      (apply CanonE.callw (str_contains w0 words5 (tokL t i).text _); (case hg => rfl); (case hf => rfl); (case ha => rfl); (case hw => ((exact wk_here))))
      (apply CanonE.advPO; simp only [go_sem, seval, reduceCtorEq, rzA D, n1, hw])
      exact CanonE.nil
    ((try refine W.a ?_); simp only [go_sem, seval, reduceCtorEq, rzA D])
    refine W.no rfl ?_
    ((try refine W.a ?_); simp only [go_sem, seval, reduceCtorEq, rzA D])
    refine W.no rfl ?_
    ((try refine W.a ?_); simp only [go_sem, seval, reduceCtorEq, rzA D])
    refine W.no rfl ?_
    ((try refine W.a ?_); simp only [go_sem, seval, reduceCtorEq, rzA D])
    refine W.no rfl ?_
    ((try refine W.a ?_); simp only [go_sem, seval, reduceCtorEq, rzA D])
    refine W.no rfl ?_
    ((try refine W.a ?_); simp only [go_sem, seval, reduceCtorEq, rzA D])
    refine W.no rfl ?_
    ((try refine W.a ?_); simp only [go_sem, seval, reduceCtorEq, rzA D])
    (refine W.call (DC.lift1R D (fun D' => sr_clause w0 t hT i hi l _ b D')) rfl rfl (by first | rfl | simp) ?_)
    intro d σ1 hR
    rw [hr] at hR
    obtain ⟨s, j, l', e, p, rfl, rfl, hst⟩ := rsen_out hR
    ((try refine W.a ?_); simp only [go_sem, seval, reduceCtorEq, rzA D, sent_v])
    rcases hst with ⟨rfl, rfl, k, rfl, hr'⟩ | ⟨he, hr'⟩
    · subst hr'
      have hkf := before_far hr0
      simp only [dotP]
      by_cases hs2 : s.k = 2
      · have ns2 : (s.k != 2) = false := by simpa using hs2
        rw [if_pos hs2]
        ((try refine W.a ?_); simp only [go_sem, seval, reduceCtorEq, rzA D, ns2])
        refine W.no rfl ?_
        ((try refine W.a ?_); simp only [go_sem, seval, reduceCtorEq, rzA D])
        (refine W.fg (srd_ok D hok t (k : Nat) l' 0 0) (d := (sentAt s (tokL t i).pos).v) (by simp only [r99, go_sem, seval, reduceCtorEq, sent_v, sentAt, strsC]; rfl) (by simp only [resV, go_sem, seval, reduceCtorEq, sent_v, sentAt, strsC]; exact wk_here) ?_ (hl := by (first | exact .c _ | (simp only [go_sem, seval, reduceCtorEq, sent_v, sentAt, strsC]; done))))
        exact ⟨rfl, rfl⟩
      · have ns2 : (s.k != 2) = true := by simpa using hs2
        rw [if_neg hs2]
        ((try refine W.a ?_); simp only [go_sem, seval, reduceCtorEq, rzA D, ns2])
        refine W.yes rfl ?_
        ((try refine W.a ?_); simp only [go_sem, seval, reduceCtorEq, rzA D])
        (refine W.c1 (DC.lift1 D (fun D' => sr_end0 w0 t hT k (by omega) l' _ b D')) ?_; simp only [go_sem, seval, reduceCtorEq, rzA D])
        unfold endS
        by_cases h7 : (tokL t k).kind = 7
        · simp only [if_pos h7]
          (refine W.fg (srd_ok D hok t ((k + 1 : Nat) : Int) l' 0 0) (d := (sentAt s (tokL t i).pos).v) (by simp only [r99, go_sem, seval, reduceCtorEq, sent_v, sentAt, strsC]; rfl) (by simp only [resV, go_sem, seval, reduceCtorEq, sent_v, sentAt, strsC]; exact wk_here) ?_ (hl := by (first | exact .c _ | (simp only [go_sem, seval, reduceCtorEq, sent_v, sentAt, strsC]; done))))
          exact ⟨rfl, rfl⟩
        · simp only [if_neg h7]
          (refine W.fg (srd_ok D hok t ((k + 1 : Nat) : Int) l' 101 (tokL t k).pos) (d := (sentAt s (tokL t i).pos).v) (by simp only [r99, go_sem, seval, reduceCtorEq, sent_v, sentAt, strsC]; rfl) (by simp only [resV, go_sem, seval, reduceCtorEq, sent_v, sentAt, strsC]; exact wk_here) ?_ (hl := by (first | exact .c _ | (simp only [go_sem, seval, reduceCtorEq, sent_v, sentAt, strsC]; done))))
          exact ⟨rfl, _, _, _, rfl, rfl⟩
    · subst hr'
      simp only [dotP]
      by_cases hs2 : s.k = 2
      · have ns2 : (s.k != 2) = false := by simpa using hs2
        ((try refine W.a ?_); simp only [go_sem, seval, reduceCtorEq, rzA D, ns2])
        refine W.no rfl ?_
        ((try refine W.a ?_); simp only [go_sem, seval, reduceCtorEq, rzA D])
        (refine W.fg (srd_ok D hok t j l' e p) (d := (sentAt s (tokL t i).pos).v) (by simp only [r99, go_sem, seval, reduceCtorEq, sent_v, sentAt, strsC]; rfl) (by simp only [resV, go_sem, seval, reduceCtorEq, sent_v, sentAt, strsC]; exact wk_here) ?_ (hl := by (first | exact .c _ | (simp only [go_sem, seval, reduceCtorEq, sent_v, sentAt, strsC]; done))))
        exact ⟨he, _, _, _, rfl, rfl⟩
      · have ns2 : (s.k != 2) = true := by simpa using hs2
        ((try refine W.a ?_); simp only [go_sem, seval, reduceCtorEq, rzA D, ns2])
        refine W.yes rfl ?_
        ((try refine W.a ?_); simp only [go_sem, seval, reduceCtorEq, rzA D])
        (refine W.c1 (DC.lift1 D (fun D' => sr_end1 w0 t j l' e p he _ b D')) ?_; simp only [go_sem, seval, reduceCtorEq, rzA D])
        (refine W.fg (srd_ok D hok t j l' e p) (d := (sentAt s (tokL t i).pos).v) (by simp only [r99, go_sem, seval, reduceCtorEq, sent_v, sentAt, strsC]; rfl) (by simp only [resV, go_sem, seval, reduceCtorEq, sent_v, sentAt, strsC]; exact wk_here) ?_ (hl := by (first | exact .c _ | (simp only [go_sem, seval, reduceCtorEq, sent_v, sentAt, strsC]; done))))
        exact ⟨he, _, _, _, rfl, rfl⟩
  · have n1 : ((tokL t i).kind == 1) = false := by simpa using hk1
    simp only [hk1, false_and, if_false] at hr
    apply W.dregE (List.cons_ne_nil _ _)
    case hc =>
      (apply CanonE.advPO; simp only [go_sem, seval, reduceCtorEq, rzA D, n1])
      exact CanonE.nil
    ((try refine W.a ?_); simp only [go_sem, seval, reduceCtorEq, rzA D])
    refine W.no rfl ?_
    ((try refine W.a ?_); simp only [go_sem, seval, reduceCtorEq, rzA D])
    refine W.no rfl ?_
    ((try refine W.a ?_); simp only [go_sem, seval, reduceCtorEq, rzA D])
    refine W.no rfl ?_
    ((try refine W.a ?_); simp only [go_sem, seval, reduceCtorEq, rzA D])
    refine W.no rfl ?_
    ((try refine W.a ?_); simp only [go_sem, seval, reduceCtorEq, rzA D])
    refine W.no rfl ?_
    ((try refine W.a ?_); simp only [go_sem, seval, reduceCtorEq, rzA D])
    refine W.no rfl ?_
    ((try refine W.a ?_); simp only [go_sem, seval, reduceCtorEq, rzA D])
    (refine W.call (DC.lift1R D (fun D' => sr_clause w0 t hT i hi l _ b D')) rfl rfl (by first | rfl | simp) ?_)
    intro d σ1 hR
    rw [hr] at hR
    obtain ⟨s, j, l', e, p, rfl, rfl, hst⟩ := rsen_out hR
    ((try refine W.a ?_); simp only [go_sem, seval, reduceCtorEq, rzA D, sent_v])
    rcases hst with ⟨rfl, rfl, k, rfl, hr'⟩ | ⟨he, hr'⟩
    · subst hr'
      have hkf := before_far hr0
      simp only [dotP]
      by_cases hs2 : s.k = 2
      · have ns2 : (s.k != 2) = false := by simpa using hs2
        rw [if_pos hs2]
        ((try refine W.a ?_); simp only [go_sem, seval, reduceCtorEq, rzA D, ns2])
        refine W.no rfl ?_
        ((try refine W.a ?_); simp only [go_sem, seval, reduceCtorEq, rzA D])
        (refine W.fg (srd_ok D hok t (k : Nat) l' 0 0) (d := (sentAt s (tokL t i).pos).v) (by simp only [r99, go_sem, seval, reduceCtorEq, sent_v, sentAt, strsC]; rfl) (by simp only [resV, go_sem, seval, reduceCtorEq, sent_v, sentAt, strsC]; exact wk_here) ?_ (hl := by (first | exact .c _ | (simp only [go_sem, seval, reduceCtorEq, sent_v, sentAt, strsC]; done))))
        exact ⟨rfl, rfl⟩
      · have ns2 : (s.k != 2) = true := by simpa using hs2
        rw [if_neg hs2]
        ((try refine W.a ?_); simp only [go_sem, seval, reduceCtorEq, rzA D, ns2])
        refine W.yes rfl ?_
        ((try refine W.a ?_); simp only [go_sem, seval, reduceCtorEq, rzA D])
        (refine W.c1 (DC.lift1 D (fun D' => sr_end0 w0 t hT k (by omega) l' _ b D')) ?_; simp only [go_sem, seval, reduceCtorEq, rzA D])
        unfold endS
        by_cases h7 : (tokL t k).kind = 7
        · simp only [if_pos h7]
          (refine W.fg (srd_ok D hok t ((k + 1 : Nat) : Int) l' 0 0) (d := (sentAt s (tokL t i).pos).v) (by simp only [r99, go_sem, seval, reduceCtorEq, sent_v, sentAt, strsC]; rfl) (by simp only [resV, go_sem, seval, reduceCtorEq, sent_v, sentAt, strsC]; exact wk_here) ?_ (hl := by (first | exact .c _ | (simp only [go_sem, seval, reduceCtorEq, sent_v, sentAt, strsC]; done))))
          exact ⟨rfl, rfl⟩
        · simp only [if_neg h7]
          (refine W.fg (srd_ok D hok t ((k + 1 : Nat) : Int) l' 101 (tokL t k).pos) (d := (sentAt s (tokL t i).pos).v) (by simp only [r99, go_sem, seval, reduceCtorEq, sent_v, sentAt, strsC]; rfl) (by simp only [resV, go_sem, seval, reduceCtorEq, sent_v, sentAt, strsC]; exact wk_here) ?_ (hl := by (first | exact .c _ | (simp only [go_sem, seval, reduceCtorEq, sent_v, sentAt, strsC]; done))))
          exact ⟨rfl, _, _, _, rfl, rfl⟩
    · subst hr'
      simp only [dotP]
      by_cases hs2 : s.k = 2
      · have ns2 : (s.k != 2) = false := by simpa using hs2
        ((try refine W.a ?_); simp only [go_sem, seval, reduceCtorEq, rzA D, ns2])
        refine W.no rfl ?_
        ((try refine W.a ?_); simp only [go_sem, seval, reduceCtorEq, rzA D])
        (refine W.fg (srd_ok D hok t j l' e p) (d := (sentAt s (tokL t i).pos).v) (by simp only [r99, go_sem, seval, reduceCtorEq, sent_v, sentAt, strsC]; rfl) (by simp only [resV, go_sem, seval, reduceCtorEq, sent_v, sentAt, strsC]; exact wk_here) ?_ (hl := by (first | exact .c _ | (simp only [go_sem, seval, reduceCtorEq, sent_v, sentAt, strsC]; done))))
        exact ⟨he, _, _, _, rfl, rfl⟩
      · have ns2 : (s.k != 2) = true := by simpa using hs2
        ((try refine W.a ?_); simp only [go_sem, seval, reduceCtorEq, rzA D, ns2])
        refine W.yes rfl ?_
        ((try refine W.a ?_); simp only [go_sem, seval, reduceCtorEq, rzA D])
        (refine W.c1 (DC.lift1 D (fun D' => sr_end1 w0 t j l' e p he _ b D')) ?_; simp only [go_sem, seval, reduceCtorEq, rzA D])
        (refine W.fg (srd_ok D hok t j l' e p) (d := (sentAt s (tokL t i).pos).v) (by simp only [r99, go_sem, seval, reduceCtorEq, sent_v, sentAt, strsC]; rfl) (by simp only [resV, go_sem, seval, reduceCtorEq, sent_v, sentAt, strsC]; exact wk_here) ?_ (hl := by (first | exact .c _ | (simp only [go_sem, seval, reduceCtorEq, sent_v, sentAt, strsC]; done))))
        exact ⟨he, _, _, _, rfl, rfl⟩
end Go.Proofs.YtlogjjnimlnpkaaGreatDoor
namespace Go.Proofs.YtlogjjnimlnpkaaGreatDoor
open Go.RowKit Go.Lamb
/-- ops.row -/
def c107 : AC :=
  .seq (.reg [.o 6 (.mov (.k (.csl [])))])
  (.seq (.reg [.o 7 (.mov (.k (.csl [])))])
  (.seq (.seq (.reg [.m 10 2, .o 11 (.lenr (.t 10)), .o 12 (.mov (.k (.c (.int .i64 0))))])
  (.block 0 (.loop (.seq (.reg [.o 13 (.bin .lss (.t 12) (.t 11))])
  (.seq (.cond (.t 13)
  (.skip)
  (.exit 0))
  (.seq (.block 1 (.seq (.reg [.o 14 (.iadd 1 (.t 10) (.t 12)), .l 15 14, .m 9 15])
  (.reg [.m 16 7, .m 17 9, .m 18 0, .m 19 1, .o 20 (.build [.c (.str []), .c (.int .i64 0), .c (.int .i64 0)] [(0, 1, (.t 17)), (1, 1, (.t 18)), (2, 1, (.t 19))]), .o 21 (.bsl 3 [(.t 20)]), .o 22 (.app 35 3 32 (.t 16) (.t 21)), .m 7 22])))
  (.reg [.o 23 (.bin .add (.t 12) (.k (.c (.int .i64 1)))), .m 12 23])))))))
  (.seq (.reg [.m 24 7, .m 6 24])
  (.ret))))
def r107 : List ResV := [.tmp 6]
theorem k107 : CodeIs Tryz.prog 107 3 Tryz.f107 c107 r107 := ⟨by kernel_rfl, Tryz.func107, rfl, by kernel_rfl, by kernel_rfl, by decide, enters_fn Tryz.func107 (by kernel_rfl) rfl⟩
/-- slices.Concat[[]api.Op,api.Op] -/
def c106 : AC :=
  .seq (.reg [.o 2 (.mov (.k (.csl [])))])
  (.seq (.reg [.o 3 (.mov (.k (.c (.int .i64 0))))])
  (.seq (.seq (.reg [.m 9 0, .o 10 (.lenr (.t 9)), .o 11 (.mov (.k (.c (.int .i64 0))))])
  (.block 0 (.loop (.seq (.reg [.o 12 (.bin .lss (.t 11) (.t 10))])
  (.seq (.cond (.t 12)
  (.skip)
  (.exit 0))
  (.seq (.block 1 (.seq (.reg [.o 13 (.iadd 1 (.t 9) (.t 11)), .l 14 13, .m 5 14])
  (.seq (.reg [.m 15 3, .m 16 5, .o 17 (.lenr (.t 16)), .o 18 (.bin .add (.t 15) (.t 17)), .m 3 18])
  (.seq (.reg [.m 19 3, .o 20 (.bin .lss (.t 19) (.k (.c (.int .i64 0))))])
  (.cond (.t 20)
  (.reg [.o 21 (.bad), ⟨none, .bad, none⟩])
  (.skip))))))
  (.reg [.o 22 (.bin .add (.t 11) (.k (.c (.int .i64 1)))), .m 11 22])))))))
  (.seq (.reg [.m 23 3, .k 24 175 [(.k (.csl [])), (.t 23)], .m 6 24])
  (.seq (.seq (.reg [.m 25 0, .o 26 (.lenr (.t 25)), .o 27 (.mov (.k (.c (.int .i64 0))))])
  (.block 2 (.loop (.seq (.reg [.o 28 (.bin .lss (.t 27) (.t 26))])
  (.seq (.cond (.t 28)
  (.skip)
  (.exit 2))
  (.seq (.block 3 (.seq (.reg [.o 29 (.iadd 1 (.t 25) (.t 27)), .l 30 29, .m 8 30])
  (.reg [.m 31 6, .m 32 8, .o 33 (.app 35 3 32 (.t 31) (.t 32)), .m 6 33])))
  (.reg [.o 34 (.bin .add (.t 27) (.k (.c (.int .i64 1)))), .m 27 34])))))))
  (.seq (.reg [.m 35 6, .m 2 35])
  (.ret))))))
def r106 : List ResV := [.tmp 2]
theorem k106 : CodeIs Tryz.prog 106 1 Tryz.f106 c106 r106 := ⟨by kernel_rfl, Tryz.func106, rfl, by kernel_rfl, by kernel_rfl, by decide, enters_fn Tryz.func106 (by kernel_rfl) rfl⟩
/-- ops.Default -/
def c54 : AC :=
  .seq (.reg [.o 0 (.mov (.k (.csl [])))])
  (.seq (.reg [.o 1 (.bsl 1 [(.k (.c (.str [58, 45])))]), .k 2 107 [(.k (.c (.int .i64 10))), (.k (.c (.int .i64 0))), (.t 1)], .o 3 (.bsl 1 [(.k (.c (.str [59])))]), .k 4 107 [(.k (.c (.int .i64 20))), (.k (.c (.int .i64 2))), (.t 3)], .o 5 (.bsl 1 [(.k (.c (.str [44])))]), .k 6 107 [(.k (.c (.int .i64 30))), (.k (.c (.int .i64 2))), (.t 5)], .o 7 (.bsl 1 [(.k (.c (.str [61, 62])))]), .k 8 107 [(.k (.c (.int .i64 40))), (.k (.c (.int .i64 2))), (.t 7)], .o 9 (.bsl 1 [(.k (.c (.str [61]))), (.k (.c (.str [105, 115]))), (.k (.c (.str [60]))), (.k (.c (.str [61, 60]))), (.k (.c (.str [62]))), (.k (.c (.str [62, 61])))]), .k 10 107 [(.k (.c (.int .i64 60))), (.k (.c (.int .i64 0))), (.t 9)], .o 11 (.bsl 1 [(.k (.c (.str [43]))), (.k (.c (.str [45])))]), .k 12 107 [(.k (.c (.int .i64 80))), (.k (.c (.int .i64 1))), (.t 11)], .o 13 (.bsl 1 [(.k (.c (.str [42]))), (.k (.c (.str [100, 105, 118]))), (.k (.c (.str [109, 111, 100])))]), .k 14 107 [(.k (.c (.int .i64 90))), (.k (.c (.int .i64 1))), (.t 13)], .o 15 (.bsl 1 [(.t 2), (.t 4), (.t 6), (.t 8), (.t 10), (.t 12), (.t 14)]), .k 16 106 [(.t 15)], .m 0 16])
  (.ret))
def r54 : List ResV := [.tmp 0]
theorem k54 : CodeIs Tryz.prog 54 0 Tryz.f54 c54 r54 := ⟨by kernel_rfl, Tryz.func54, rfl, by kernel_rfl, by kernel_rfl, by decide, enters_fn Tryz.func54 (by kernel_rfl) rfl⟩
/-- lambentref03.Exact -/
def c56 : AC :=
  .seq (.reg [.o 2 (.box (.t 0)), .o 3 (.box (.t 1)), .o 4 (.mov (.k (.c (.bool false))))])
  (.seq (.seq (.reg [.f 7 0 2, .l 8 7, .f 9 0 3, .l 10 9, .o 11 (.bin .neq (.t 8) (.t 10)), .m 12 11, .z 13 (.fadd 1 (.t 2)) 12, .z 14 (.load1 (.t 13)) 12, .z 15 (.fadd 1 (.t 3)) 12, .z 16 (.load1 (.t 15)) 12, .z 17 (.bin .neq (.t 14) (.t 16)) 12, .o 18 (.pick (.t 12) (.k (.c (.bool true))) (.t 17)), .m 19 18, .z 20 (.fadd 2 (.t 2)) 19, .z 21 (.load1 (.t 20)) 19, .z 22 (.fadd 2 (.t 3)) 19, .z 23 (.load1 (.t 22)) 19, .z 24 (.bin .neq (.t 21) (.t 23)) 19, .o 25 (.pick (.t 19) (.k (.c (.bool true))) (.t 24)), .m 26 25, .z 27 (.fadd 4 (.t 2)) 26, .z 28 (.load1 (.t 27)) 26, .z 29 (.fadd 4 (.t 3)) 26, .z 30 (.load1 (.t 29)) 26, .z 31 (.bin .neq (.t 28) (.t 30)) 26, .o 32 (.pick (.t 26) (.k (.c (.bool true))) (.t 31)), .m 33 32, .z 34 (.fadd 3 (.t 2)) 33, .z 35 (.load1 (.t 34)) 33, .z 36 (.lenr (.t 35)) 33, .z 37 (.fadd 3 (.t 3)) 33, .z 38 (.load1 (.t 37)) 33, .z 39 (.lenr (.t 38)) 33, .z 40 (.bin .neq (.t 36) (.t 39)) 33, .o 41 (.pick (.t 33) (.k (.c (.bool true))) (.t 40))])
  (.cond (.t 41)
  (.seq (.reg [.o 4 (.mov (.k (.c (.bool false))))])
  (.ret))
  (.skip)))
  (.seq (.seq (.reg [.o 5 (.mov (.k (.c (.int .i64 0))))])
  (.block 0 (.loop (.seq (.seq (.reg [.m 42 5, .f 43 3 2, .l 44 43, .o 45 (.lenr (.t 44)), .o 46 (.bin .lss (.t 42) (.t 45))])
  (.cond (.t 46)
  (.skip)
  (.exit 0)))
  (.seq (.block 1 (.seq (.dreg [.f 49 3 2, .l 50 49, .m 51 5, .o 52 (.iadd 5 (.t 50) (.t 51)), .d 53 5 52, .f 54 3 3, .l 55 54, .m 56 5, .o 57 (.iadd 5 (.t 55) (.t 56)), .d 58 5 57, .k 59 56 [(.t 53), (.t 58)], .m 6 59]
    [.q (.f 49 3 2), .q (.l 50 49), .q (.m 51 5), .q (.o 52 (.iadd 5 (.t 50) (.t 51))), .q (.d 53 5 52), .q (.f 54 3 3), .q (.l 55 54), .q (.m 56 5), .q (.o 57 (.iadd 5 (.t 55) (.t 56))), .q (.d 58 5 57), ⟨.k 59 56 [(.t 53), (.t 58)], true, 0⟩, ⟨.m 6 59, false, 1⟩])
  (.seq (.reg [.m 60 6, .o 61 (.un .not (.t 60))])
  (.cond (.t 61)
  (.seq (.reg [.o 4 (.mov (.k (.c (.bool false))))])
  (.ret))
  (.skip)))))
  (.reg [.m 47 5, .o 48 (.bin .add (.t 47) (.k (.c (.int .i64 1)))), .m 5 48]))))))
  (.seq (.reg [.o 4 (.mov (.k (.c (.bool true))))])
  (.ret))))
def r56 : List ResV := [.tmp 4]
theorem k56 : CodeIs Tryz.prog 56 2 Tryz.f56 c56 r56 := ⟨by kernel_rfl, Tryz.func56, rfl, by kernel_rfl, by kernel_rfl, by decide, enters_fn Tryz.func56 (by kernel_rfl) rfl⟩
end Go.Proofs.YtlogjjnimlnpkaaGreatDoor
namespace Go.Proofs.YtlogjjnimlnpkaaGreatDoor
open Go.RowKit Go.Lamb
attribute [local go_sem] advO_skip advO_reg advO_seq advO_block advO_exit advO_endb advO_opsNil advO_ops advG_yes advG_no advG_none advS_some advS_none advO_cond advO_loop advO_dreg advO_ret advO_bad advO_inv advO_nil advO_zero wantedV Lamb.step ev_t ev_k put_some put_none argEnv popTo cellsAt V.cellsV V.rows V.toC toCs fillV bytesC byteRows appV rowsV boundV boundL binV binInt binStr eqC eqL V.isNil leaves V.leaf Ins.quiet Ins.pure List.getD_cons_zero List.getD_cons_succ List.getD_nil List.all_cons List.all_nil List.length_cons List.length_nil List.take_succ_cons List.take_zero List.drop_succ_cons List.drop_zero List.cons_append List.nil_append List.append_nil List.append_assoc List.map_cons List.map_nil List.getElem?_cons_zero List.getElem?_cons_succ List.length_append List.length_set hget0 hget hset0 hset hsets hgs0 hgs hss0 hss List.set_cons_zero List.set_cons_succ List.forall_mem_cons List.not_mem_nil false_implies implies_true Option.map_some Bool.and_true Bool.true_and Bool.not_not Bool.not_true Bool.not_false Bool.and_self Bool.or_true Bool.true_or Bool.or_false Bool.false_or Bool.and_false Bool.false_and Bool.false_eq_true beq_self_eq_true and_self and_true true_and if_true if_false Nat.zero_add Nat.add_zero Nat.le_refl Int.toNat_natCast decide_true decide_false beq_t beq_f List.length_map List.getElem?_map I S B opsC toksC OpT.v OpT.cs OpT.zero Tok.v Tok.cs Pre.v Pre.cs_eq k_mk name_mk n_mk l_mk pos_mk Pre.app applyL natCast0 natCast1 natCast2 AOp.o AOp.m AOp.f AOp.l AOp.d AOp.n AOp.x AOp.s AOp.k AOp.y AOp.z EOp.q low_c low_void low_any low_csl low_nilf low_ptr low_osl low_agg low_tup low_fn resEval advPO_nil advPO_loud advPO_quiet pL_yes pL_no pLS_some pLS_none pQ_yes pQ_no pQS_some pQS_loud eq_self Nat.sub_zero
section

def rowOf (prec fix : Int) (names : List (List UInt8)) : List OpT := names.map fun n => ⟨n, prec, fix⟩
theorem ops_row (w0 : World) (prec fix : Int) (names : List (List UInt8)) (hn : names.length ≤ 1000) (σ : H) :
    DC Tryz.prog w0 107 [I prec, I fix, .csl (names.map fun n => [.str n])] σ (Same (.c (opsC (rowOf prec fix names))) σ) := by
  refine k107.go rfl (fun hok hsz => ?_)
  ((try refine W.a ?_); simp only [go_sem, seval, reduceCtorEq, c107])
  refine W.own 7 35 3 rfl ?_
  refine W.loopP (fun i => i ≤ names.length) (fun i => ⟨((((((base.put (some 0) (I prec)).put (some 1) (I fix)).put (some 7) (.osl σ.length ((rowOf prec fix (names.take i)).map OpT.cs))).put (some 10) (.csl (names.map fun n => [.str n]))).put (some 11) (I names.length)).put (some 12) (I i)), σ ++ [.spare 35 3 i]⟩) (fun i => names.length - i) 0 (Nat.zero_le _) ?_ (fun i hi => ?_)
  · (refine Lew.env ?_; exact lee_here)
  · by_cases hlt : i < names.length
    · have h1 : ((i : Int) < (names.length : Int)) := by omega
      have hx : names[i]? = some names[i] := List.getElem?_eq_getElem hlt
      have hl : (rowOf prec fix (names.take i)).length = i := by simp [rowOf, hi]
      have hb1 : (i + 1) * 32 ≤ 140737488355328 := by omega
      have hb2 : i + 1 ≤ 140737488355328 := by omega
      have hta : (rowOf prec fix (names.take (i + 1))).map OpT.cs = (rowOf prec fix (names.take i)).map OpT.cs ++ [OpT.cs ⟨names[i], prec, fix⟩] := by
        unfold rowOf
        rw [List.take_add_one, hx, List.map_append, List.map_append]; rfl
      have hw : IntKind.i64.wrap ((i : Int) + 1) = ((i + 1 : Nat) : Int) := by rw [wrap_in] <;> omega
      ((try refine W.a ?_); simp only [go_sem, seval, reduceCtorEq, h1])
      refine W.yes rfl ?_
      ((try refine W.a ?_); simp only [go_sem, seval, reduceCtorEq, h1, nat0, hx, hl, hb1, hb2, eq_self, hw])
      refine .inv ⟨i + 1, hlt, by omega, ?_⟩
      simp only [go_sem, seval, reduceCtorEq, hta]
      (refine Lew.env ?_; exact lee_here)
    · have h1 : ¬ ((i : Int) < (names.length : Int)) := by omega
      have hi' : i = names.length := by omega
      subst hi'
      ((try refine W.a ?_); simp only [go_sem, seval, reduceCtorEq, h1])
      refine W.no rfl ?_
      ((try refine W.a ?_); simp only [go_sem, seval, reduceCtorEq, List.take_length])
      (refine W.fs (hok) (by simp only [r107, go_sem, seval, reduceCtorEq]; rfl) ?_; simp only [resV]; try exact V.wk.rfl _)
      (all_goals exact wk_here)
end
section

theorem flat_take {α : Type} {ls : List (List α)} {i : Nat} (h : i < ls.length) : (ls.take (i + 1)).flatten = (ls.take i).flatten ++ ls[i] := by
  rw [List.take_add_one, List.getElem?_eq_getElem h, List.flatten_append]
  congr 1
  exact List.append_nil _
theorem flat_le {α : Type} {ls : List (List α)} (i : Nat) : (ls.take i).flatten.length ≤ ls.flatten.length := by
  have : ls.flatten = (ls.take i).flatten ++ (ls.drop i).flatten := by rw [← List.flatten_append, List.take_append_drop]
  rw [this, List.length_append]
  omega
theorem slices_Concat (w0 : World) (ls : List (List OpT)) (hn : ls.flatten.length ≤ 100000) (hls : ls.length ≤ 100000) (σ : H) :
    DC Tryz.prog w0 106 [.csl (ls.map fun r => [opsC r])] σ (Same (.c (opsC ls.flatten)) σ) := by
  refine k106.go rfl (fun hok hsz => ?_)
  ((try refine W.a ?_); simp only [go_sem, seval, reduceCtorEq, c106])
  refine W.loopP (fun i => i ≤ ls.length) (fun i => ⟨(((((base.put (some 0) (.csl (ls.map fun r => [opsC r]))).put (some 3) (I (ls.take i).flatten.length)).put (some 9) (.csl (ls.map fun r => [opsC r]))).put (some 10) (I ls.length)).put (some 11) (I i)), σ⟩) (fun i => ls.length - i) 0 (Nat.zero_le _) ?_ (fun i hi => ?_)
  · (refine Lew.env ?_; exact lee_here)
  · by_cases hlt : i < ls.length
    · have h1 : ((i : Int) < (ls.length : Int)) := by omega
      have hx : ls[i]? = some ls[i] := List.getElem?_eq_getElem hlt
      have hft := flat_take hlt
      have hfl : (ls.take (i + 1)).flatten.length = (ls.take i).flatten.length + ls[i].length := by rw [hft, List.length_append]
      have hle := flat_le (ls := ls) (i + 1)
      have hw : IntKind.i64.wrap ((i : Int) + 1) = ((i + 1 : Nat) : Int) := by rw [wrap_in] <;> omega
      have hw2 : IntKind.i64.wrap (((ls.take i).flatten.length : Int) + (ls[i].length : Int)) = (((ls.take (i + 1)).flatten.length : Nat) : Int) := by rw [wrap_in] <;> omega
      have hneg : ¬ ((((ls.take (i + 1)).flatten.length : Nat) : Int) < 0) := by omega
      ((try refine W.a ?_); simp only [go_sem, seval, reduceCtorEq, h1])
      refine W.yes rfl ?_
      ((try refine W.a ?_); simp only [go_sem, seval, reduceCtorEq, h1, nat0, hx, hw2, hneg])
      refine W.no rfl ?_
      ((try refine W.a ?_); simp only [go_sem, seval, reduceCtorEq, hw])
      refine .inv ⟨i + 1, hlt, by omega, ?_⟩
      (refine Lew.env ?_; exact lee_here)
    · have h1 : ¬ ((i : Int) < (ls.length : Int)) := by omega
      have hi' : i = ls.length := by omega
      subst hi'
      ((try refine W.a ?_); simp only [go_sem, seval, reduceCtorEq, h1])
      refine W.no rfl ?_
      ((try refine W.a ?_); simp only [go_sem, seval, reduceCtorEq, List.take_length])
      (refine W.c1 (slices_Grow w0 ls.flatten.length (by omega) _) ?_; simp only [go_sem, seval, reduceCtorEq])
      refine W.loopP (fun i => i ≤ ls.length) (fun i => ⟨((((base.put (some 6) (.osl σ.length ((ls.take i).flatten.map OpT.cs))).put (some 25) (.csl (ls.map fun r => [opsC r]))).put (some 26) (I ls.length)).put (some 27) (I i)), σ ++ [.spare 35 3 (ls.take i).flatten.length]⟩) (fun i => ls.length - i) 0 (Nat.zero_le _) ?_ (fun i hi => ?_)
      · (refine Lew.env ?_; exact lee_here)
      · by_cases hlt : i < ls.length
        · have h1 : ((i : Int) < (ls.length : Int)) := by omega
          have hx : ls[i]? = some ls[i] := List.getElem?_eq_getElem hlt
          have hft := flat_take hlt
          have hfl : (ls.take (i + 1)).flatten.length = (ls.take i).flatten.length + ls[i].length := by rw [hft, List.length_append]
          have hle := flat_le (ls := ls) (i + 1)
          have hb1 : ((ls.take i).flatten.length + ls[i].length) * 32 ≤ 140737488355328 := by omega
          have hb2 : (ls.take i).flatten.length + ls[i].length ≤ 140737488355328 := by omega
          have hb3 : ∀ r ∈ ls[i].map OpT.cs, r.length = 3 := fun r hr => by obtain ⟨o, _, rfl⟩ := List.mem_map.1 hr; rfl
          have hta : (ls.take (i + 1)).flatten.map OpT.cs = (ls.take i).flatten.map OpT.cs ++ ls[i].map OpT.cs := by rw [hft, List.map_append]
          have hw : IntKind.i64.wrap ((i : Int) + 1) = ((i + 1 : Nat) : Int) := by rw [wrap_in] <;> omega
          ((try refine W.a ?_); simp only [go_sem, seval, reduceCtorEq, h1])
          refine W.yes rfl ?_
          ((try refine W.a ?_); simp only [go_sem, seval, reduceCtorEq, h1, nat0, hx, hb1, hb2, eq_self, hw, eq_true hb3])
          refine .inv ⟨i + 1, hlt, by omega, ?_⟩
          simp only [go_sem, seval, reduceCtorEq, hta, hfl]
          (refine Lew.env ?_; exact lee_here)
        · have h1 : ¬ ((i : Int) < (ls.length : Int)) := by omega
          have hi' : i = ls.length := by omega
          subst hi'
          ((try refine W.a ?_); simp only [go_sem, seval, reduceCtorEq, h1])
          refine W.no rfl ?_
          ((try refine W.a ?_); simp only [go_sem, seval, reduceCtorEq, List.take_length])
          (refine W.fs (hok) (by simp only [r106, go_sem, seval, reduceCtorEq]; rfl) ?_; simp only [resV]; try exact V.wk.rfl _)
          (all_goals exact wk_here)
end
section

def firstRows : List (List OpT) := [rowOf 10 0 [[58, 45]], rowOf 20 2 [[59]], rowOf 30 2 [[44]], rowOf 40 2 [[61, 62]], rowOf 60 0 [[61], [105, 115], [60], [61, 60], [62], [62, 61]], rowOf 80 1 [[43], [45]], rowOf 90 1 [[42], [100, 105, 118], [109, 111, 100]]]
theorem ops_Default (w0 : World) (σ : H) : DC Tryz.prog w0 54 [] σ (Same (.c (opsC firstRows.flatten)) σ) := by
  refine k54.go rfl (fun hok hsz => ?_)
  ((try refine W.a ?_); simp only [go_sem, seval, reduceCtorEq, c54])
  (refine W.c1 (ops_row w0 10 0 [[58, 45]] (by decide) _) ?_; simp only [go_sem, seval, reduceCtorEq])
  (refine W.c1 (ops_row w0 20 2 [[59]] (by decide) _) ?_; simp only [go_sem, seval, reduceCtorEq])
  (refine W.c1 (ops_row w0 30 2 [[44]] (by decide) _) ?_; simp only [go_sem, seval, reduceCtorEq])
  (refine W.c1 (ops_row w0 40 2 [[61, 62]] (by decide) _) ?_; simp only [go_sem, seval, reduceCtorEq])
  (refine W.c1 (ops_row w0 60 0 [[61], [105, 115], [60], [61, 60], [62], [62, 61]] (by decide) _) ?_; simp only [go_sem, seval, reduceCtorEq])
  (refine W.c1 (ops_row w0 80 1 [[43], [45]] (by decide) _) ?_; simp only [go_sem, seval, reduceCtorEq])
  (refine W.c1 (ops_row w0 90 1 [[42], [100, 105, 118], [109, 111, 100]] (by decide) _) ?_; simp only [go_sem, seval, reduceCtorEq])
  (refine W.c1 (slices_Concat w0 firstRows (by decide) (by decide) _) ?_; simp only [go_sem, seval, reduceCtorEq])
  (refine W.fs (hok) (by simp only [r54, go_sem, seval, reduceCtorEq]; rfl) ?_; simp only [resV]; try exact V.wk.rfl _)
end
section
attribute [local go_sem] strsC sdX rz_len rz_g0 rz_g rz_s0 rz_s rz_sb zeroB

def ops0 : List OpT := firstRows.flatten
theorem back_end : ∀ {l : List Tok}, BackOk l → ∃ h : l ≠ [], (l.getLast h).key = (0, [], 0)
  | [], h => h.elim
  | t :: l, h => by
    rcases h with ⟨rfl, h⟩ | ⟨_, h⟩
    · exact ⟨by simp, h⟩
    · obtain ⟨hn, hk⟩ := back_end h
      exact ⟨by simp, by rw [List.getLast_cons hn]; exact hk⟩
theorem lex_back {s : List UInt8} (hs : s.length ≤ 2048) (he : (lexL s).err = 0) : BackOk (lexL s).toks := by
  have eS : lexL s = lexAt s.length (skipL false s) := if_neg (by omega)
  have h := (back_ok s.length _ (skipL false s) (Nat.lt_succ_self _) (by rw [eS] at he; exact he)).1
  rwa [show lexF s.length (skipL false s).length.succ (skipL false s) = lexL s from eS.symm] at h
theorem lex_end {s : List UInt8} (hs : s.length ≤ 2048) (he : (lexL s).err = 0) : TEnd (lexL s).toks := by
  obtain ⟨hn, hk⟩ := back_end (lex_back hs he)
  have hc := lexL_count s
  refine ⟨hn, fun h => ?_, by omega⟩
  rw [← List.getLast_eq_getElem hn]
  have hp : lastPos (lexL s).toks = ((lexL s).toks.getLast hn).pos := by
    unfold lastPos
    rw [List.getLast?_eq_some_getLast hn]; rfl
  rw [hp]
  generalize (lexL s).toks.getLast hn = x at hk
  obtain ⟨k, tx, n, ps⟩ := x
  simp only [Tok.key, Prod.mk.injEq] at hk
  obtain ⟨rfl, rfl, rfl⟩ := hk
  rfl
/-- What Read tells of a text. -/
noncomputable def readS (s : List UInt8) : Except Bad (List Sent × List OpT) := if (lexL s).err = 0 then allS (lexL s).toks ops0 0 [] else .error ⟨(lexL s).err, (lexL s).pos⟩
def srcV : Except Bad (List Sent × List OpT) → V
  | .ok (xs, l) => .tup [.c (sentsC xs), .c (opsC l), I 0, I 0]
  | .error x => .tup [.c (.sl []), .c (.sl []), I x.e, I x.pos]
theorem sent_ops {t : List Tok} {l l' : List OpT} {i j : Nat} {s : Sent} (hl : l.length ≤ 64) (hn : l ≠ []) (h : sentS t l i = .ok (s, j, l')) : l'.length ≤ 64 ∧ l' ≠ [] := by
  have hend : ∀ {s0 : Sent} {k : Nat}, endS t s0 k l = .ok (s, j, l') → l'.length ≤ 64 ∧ l' ≠ [] := fun h => by
    unfold endS at h
    split at h
    · injection h with h; injection h with _ h; injection h with _ h
      subst h; exact ⟨hl, hn⟩
    · cases h
  have hop : ∀ fix, opSent t (i + 1) (tokL t i).pos fix l = .ok (s, j, l') → l'.length ≤ 64 ∧ l' ≠ [] := fun fix h => by
    unfold opSent at h
    split at h
    · cases h
    · split at h
      · split at h
        · split at h
          · cases h
          · rename_i hd
            injection h with h; injection h with _ h; injection h with _ h
            subst h
            exact declL_len hl hn hd
        · cases h
      · cases h
  unfold sentS at h
  simp only at h
  split at h
  · unfold kindSent at h
    split at h
    · cases h
    · split at h
      · cases h
      · exact hend h
  · split at h
    · unfold typeSent at h
      split at h
      · cases h
      · split at h
        · cases h
        · exact hend h
    · split at h
      · exact hop _ h
      · split at h
        · exact hop _ h
        · split at h
          · exact hop _ h
          · unfold clauseSent at h
            split at h
            · cases h
            · exact hend h
theorem sent_cs (s : Sent) : s.cs = [.int .i64 s.k, strsC s.names, .int .i64 s.n, .int .i64 s.ty.k, .str s.ty.name, .int .i64 s.ty.n, .sl (s.ty.l.map Typ.cs), .str s.op.name, .int .i64 s.op.prec, .int .i64 s.op.fix, .int .i64 s.body.k, .str s.body.name, .int .i64 s.body.n, .sl (s.body.l.map Pre.cs), .int .i64 s.body.pos, .int .i64 s.pos] := rfl
structure AllSt where
  acc : List Sent
  i : Nat
  l : List OpT
theorem source_Read {w0 : World} (hG : Glob w0) (s : List UInt8) (hs : s.length ≤ 2048) (σ : H) : DC Tryz.prog w0 47 [S s] σ (Same (srcV (readS s)) σ) := by
  refine k47.go rfl (fun hok hsz => ?_)
  generalize hr : readS s = r
  unfold readS at hr
  ((try refine W.a ?_); simp only [go_sem, seval, reduceCtorEq, c47])
  (refine W.c1 (lex_Lex hG s (by omega) _) ?_; simp only [go_sem, seval, reduceCtorEq])
  by_cases he : (lexL s).err = 0
  · have hb : ((lexL s).err != 0) = false := by simpa using he
    rw [if_pos he] at hr
    have hT := lex_end hs he
    have hle := hT.le
    have hlen := lexL_count s
    generalize (lexL s).toks = t at *
    ((try refine W.a ?_); simp only [go_sem, seval, reduceCtorEq, hb])
    refine W.no rfl ?_
    ((try refine W.a ?_); simp only [go_sem, seval, reduceCtorEq])
    (refine W.c1 (ops_Default w0 _) ?_; simp only [go_sem, seval, reduceCtorEq])
    refine W.own 10 41 16 rfl ?_
    obtain ⟨τ, D, hτl, hrz⟩ : ∃ τ : H, σ.length < τ.length ∧ τ.length = σ.length + 1 ∧ ∀ X L, σ ++ X :: L = rz τ σ.length X ++ L := ⟨σ ++ [.gone], by simp, by simp, fun X L => by unfold rz; simp⟩
    have ho : ops0.length ≤ 64 ∧ ops0 ≠ [] := by decide
    have hokz : ∀ (i : Int) (l : List OpT) (e p : Int), H.ok (srd τ σ.length t i l e p) := fun i l e p => by
      have : srd τ σ.length t i l e p = σ ++ [sdX t i l e p] := by
        have := hrz (sdX t i l e p) []
        rw [List.append_nil] at this
        exact this.symm
      rw [this]
      refine H.ok_append hok fun b hb cs tg hc x hx => ?_
      simp only [List.mem_cons, List.not_mem_nil, or_false] at hb
      subst hb
      unfold sdX at hc
      injection hc with hc _
      subst hc
      simp only [List.mem_cons, List.not_mem_nil, or_false] at hx
      rcases hx with rfl | rfl | rfl | rfl | rfl <;> exact .c _
    ((try refine W.a ?_); simp only [go_sem, seval, reduceCtorEq, hrz])
    have hstart : ∀ {Q k ρ}, W Tryz.prog w0 σ.length Q k ⟨ρ, srd τ σ.length t (0 : Nat) ops0 0 0 ++ [.spare 41 16 0]⟩ → W Tryz.prog w0 σ.length Q k ⟨ρ, rz τ σ.length (.cells [.c (.sl (t.map Tok.cs)), .c (.int .i64 0), .c (.sl (firstRows.flatten.map OpT.cs)), .c (.int .i64 0), .c (.int .i64 0)]) ++ [.spare 41 16 0]⟩ := fun h => h
    let I0 : AllSt → Prop := fun x => x.acc.length ≤ x.i ∧ x.i ≤ t.length ∧ x.l.length ≤ 64 ∧ x.l ≠ [] ∧ r = allS t x.l x.i x.acc
    let I1 : AllSt × Int × Int → Prop := fun x => (x.2.1 = 0 ∧ x.2.2 = 0 ∧ I0 x.1) ∨ ((x.2.1 == 0) = false ∧ r = .error ⟨x.2.1, x.2.2⟩)
    refine W.loopP (α := AllSt × Int × Int × Int) (fun x => I1 (x.1, x.2.1, x.2.2.1) ∧ (x.2.1 = 0 → x.2.2.2 = x.1.i))
      (fun x => ⟨((base.put (some 9) (.ptr σ.length 0)).put (some 10) (.osl τ.length (x.1.acc.map Sent.cs))), srd τ σ.length t x.2.2.2 x.1.l x.2.1 x.2.2.1 ++ [.spare 41 16 x.1.acc.length]⟩) (fun x => if x.2.1 = 0 then t.length + 1 - x.1.i else 0) (⟨[], 0, ops0⟩, 0, 0, 0) ⟨.inl ⟨rfl, rfl, Nat.zero_le _, Nat.zero_le _, ho.1, ho.2, hr.symm⟩, fun _ => rfl⟩ ?_ (fun x hx => ?_)
    · (refine Lew.env ?_; exact lee_here)
    · obtain ⟨⟨acc, i, l⟩, e, p, j⟩ := x
      obtain ⟨hx, hj⟩ := hx
      simp only [I1] at hx hj
      rcases hx with ⟨rfl, rfl, h1, h2, h3, h4, h5⟩ | ⟨he1, h1⟩
      · obtain rfl := hj rfl
        simp only at h1 h2 h3 h4 h5
        rw [allS_eq] at h5
        by_cases hk0 : (tokL t i).kind = 0
        · have n0 : ((tokL t i).kind != 0) = false := by simpa using hk0
          rw [if_pos hk0] at h5
          subst h5
          ((try refine W.a ?_); simp only [go_sem, seval, reduceCtorEq, rzA D])
          (refine W.c1 (DC.lift1 D (fun D' => sr_tok w0 t hT i (by omega) l 0 0 _ σ.length D')) ?_; simp only [go_sem, seval, reduceCtorEq, rzA D, n0])
          refine W.no rfl ?_
          ((try refine W.a ?_); simp only [go_sem, seval, reduceCtorEq, rzA D])
          refine W.no rfl ?_
          ((try refine W.a ?_); simp only [go_sem, seval, reduceCtorEq, rzA D])
          (apply W.dregE (List.cons_ne_nil _ _); case hc => ((apply CanonE.advPO; simp only [go_sem, seval, reduceCtorEq, rzA D]); exact CanonE.nil))
          ((try refine W.a ?_); simp only [go_sem, seval, reduceCtorEq, rzA D])
          rw [← hrz]
          (refine W.fs (hok) (by simp only [r47, go_sem, seval, reduceCtorEq, srcV, sentsC]; rfl) ?_ (hl := by (first | exact .c _ | (simp only [go_sem, seval, reduceCtorEq, srcV, sentsC]; done))); simp only [resV, srcV, sentsC]; try exact V.wk.rfl _)
          (all_goals exact wk_here)
        · have n0 : ((tokL t i).kind != 0) = true := by simpa using hk0
          rw [if_neg hk0] at h5
          have hil := tokL_lt hk0
          ((try refine W.a ?_); simp only [go_sem, seval, reduceCtorEq, rzA D])
          (refine W.c1 (DC.lift1 D (fun D' => sr_tok w0 t hT i (by omega) l 0 0 _ σ.length D')) ?_; simp only [go_sem, seval, reduceCtorEq, rzA D, n0])
          refine W.yes rfl ?_
          ((try refine W.a ?_); simp only [go_sem, seval, reduceCtorEq, rzA D])
          (refine W.call (DC.lift1R D (fun D' => sr_sentence w0 t hT i h2 l h3 h4 _ σ.length D')) rfl rfl (by first | rfl | simp) ?_)
          intro d σ1 hR
          obtain ⟨s', j, l', e, p, rfl, rfl, hst⟩ := rsen_out hR
          have hb1 : (acc.length + 1) * 200 ≤ 140737488355328 := by omega
          have hb2 : acc.length + 1 ≤ 140737488355328 := by omega
          ((try refine W.a ?_); simp only [go_sem, seval, reduceCtorEq, rzA D, sent_v, hb1, hb2])
          rcases hst with ⟨rfl, rfl, k, rfl, hs'⟩ | ⟨he1, hs'⟩
          · rw [hs'] at h5
            have hf := sentS_far hs'
            have hop := sent_ops h3 h4 hs'
            refine .inv ⟨(⟨acc ++ [s'], k, l'⟩, 0, 0, k), ⟨.inl ⟨rfl, rfl, by simp; omega, hf.2, hop.1, hop.2, h5⟩, fun _ => rfl⟩, by simp only [if_true]; omega, ?_⟩
            simp only [go_sem, seval, reduceCtorEq, List.map_append, List.length_append, sent_cs]
            (refine Lew.env ?_; exact lee_here)
          · rw [hs'] at h5
            have hne : ¬ e = 0 := by simpa using he1
            refine .inv ⟨(⟨acc ++ [s'], 0, l'⟩, e, p, j), ⟨.inr ⟨he1, h5⟩, fun h => absurd h hne⟩, by simp only [if_neg hne, if_true]; omega, ?_⟩
            simp only [go_sem, seval, reduceCtorEq, List.map_append, List.length_append, sent_cs]
            (refine Lew.env ?_; exact lee_here)
      · subst h1
        have hb1 : (e != 0) = true := by rw [bne, he1]; rfl
        ((try refine W.a ?_); simp only [go_sem, seval, reduceCtorEq, rzA D, he1])
        refine W.no rfl ?_
        ((try refine W.a ?_); simp only [go_sem, seval, reduceCtorEq, rzA D, hb1])
        refine W.yes rfl ?_
        ((try refine W.a ?_); simp only [go_sem, seval, reduceCtorEq, rzA D])
        (apply W.dregE (List.cons_ne_nil _ _); case hc => ((apply CanonE.advPO; simp only [go_sem, seval, reduceCtorEq, rzA D]); exact CanonE.nil))
        ((try refine W.a ?_); simp only [go_sem, seval, reduceCtorEq, rzA D])
        rw [← hrz]
        (refine W.fs (hok) (by simp only [r47, go_sem, seval, reduceCtorEq, srcV]; rfl) ?_ (hl := by (first | exact .c _ | (simp only [go_sem, seval, reduceCtorEq, srcV]; done))); simp only [resV, srcV]; try exact V.wk.rfl _)
        (all_goals exact wk_here)
  · have hb : ((lexL s).err != 0) = true := by simpa using he
    rw [if_neg he] at hr
    subst hr
    ((try refine W.a ?_); simp only [go_sem, seval, reduceCtorEq, hb])
    refine W.yes rfl ?_
    ((try refine W.a ?_); simp only [go_sem, seval, reduceCtorEq])
    (refine W.fs (hok) (by simp only [r47, go_sem, seval, reduceCtorEq, srcV]; rfl) ?_ (hl := by (first | exact .c _ | (simp only [go_sem, seval, reduceCtorEq, srcV]; done))); simp only [resV, srcV]; try exact V.wk.rfl _)
    (all_goals exact wk_here)
end
section
attribute [local go_sem] strsC rz_len rz_g0 rz_g rz_s0 rz_s rz_sb

theorem sr_tokC (w0 : World) (t : List Tok) (hT : TEnd t) (i : Nat) (hi : i ≤ 1000000) (c : V) (e p : Int) (σ : H) (b : Nat) (hb : σ[b]? = some (.cells [.c (toksC t), I i, c, I e, I p])) :
    DC Tryz.prog w0 98 [.ptr b 0] σ (Same (tokL t i).v σ) := by
  refine k98.go rfl (fun hok hsz => ?_)
  have hp := hT.pos
  have hle := hT.le
  have hw2 : IntKind.i64.wrap ((t.length : Int) - 1) = ((t.length - 1 : Nat) : Int) := by rw [wrap_in] <;> omega
  have hmn : (if ((t.length - 1 : Nat) : Int) < (i : Int) then ((t.length - 1 : Nat) : Int) else (i : Int)) = ((min i (t.length - 1) : Nat) : Int) := by
    split <;> omega
  have hlt : ((min i (t.length - 1) : Nat) : Int) < (t.length : Int) := by omega
  have hx := hT.tok i
  ((try refine W.a ?_); simp only [go_sem, seval, reduceCtorEq, c98, hG hb, hb])
  (apply W.dregE (List.cons_ne_nil _ _); case hc => ((apply CanonE.advPO; simp only [go_sem, seval, reduceCtorEq, hG hb, hb, hw2, hmn, nat0, hlt, hx]); exact CanonE.nil))
  ((try refine W.a ?_); simp only [go_sem, seval, reduceCtorEq])
  (refine W.fs (hok) (by simp only [r98, go_sem, seval, reduceCtorEq]; rfl) ?_; simp only [resV]; try exact V.wk.rfl _)
  (all_goals exact wk_here)
/-- What Query tells. -/
noncomputable def queryS (l : List OpT) (s : List UInt8) : Except Bad Pre := if (lexL s).err = 0 then (match exprT l (lexL s).toks 0 with
    | .error b => .error b
    | .ok (m, j) => if (tokL (lexL s).toks (if (tokL (lexL s).toks j).kind = 7 then j + 1 else j)).kind = 0 then .ok m.p else .error ⟨101, (tokL (lexL s).toks (if (tokL (lexL s).toks j).kind = 7 then j + 1 else j)).pos⟩)
  else .error ⟨(lexL s).err, (lexL s).pos⟩
def queryV : Except Bad Pre → V
  | .ok p => .tup [p.v, I 0, I 0]
  | .error x => .tup [Pre.none.v, I x.e, I x.pos]
theorem source_Query {w0 : World} (hG : Glob w0) (l : List OpT) (s : List UInt8) (hs : s.length ≤ 2048) (σ : H) : DC Tryz.prog w0 53 [.c (opsC l), S s] σ (Same (queryV (queryS l s)) σ) := by
  refine k53.go rfl (fun hok hsz => ?_)
  generalize hr : queryS l s = r
  unfold queryS at hr
  ((try refine W.a ?_); simp only [go_sem, seval, reduceCtorEq, c53])
  (refine W.c1 (lex_Lex hG s (by omega) _) ?_; simp only [go_sem, seval, reduceCtorEq])
  by_cases he : (lexL s).err = 0
  · have hb : ((lexL s).err != 0) = false := by simpa using he
    rw [if_pos he] at hr
    have hT := lex_end hs he
    have hle := hT.le
    generalize (lexL s).toks = t at *
    have hE := exprT_is l t 0
    have hrd := fun (r : Except Bad (Made × Nat)) (h : Lamb.Expr l t 0 0 0 r) σ => (read_Read w0 l t 0 r σ h (Nat.zero_le _) (by omega) : DC Tryz.prog w0 105 [.c (opsC l), .c (toksC t), I 0] σ (Same (readV 0 r) σ))
    ((try refine W.a ?_); simp only [go_sem, seval, reduceCtorEq, hb])
    refine W.no rfl ?_
    ((try refine W.a ?_); simp only [go_sem, seval, reduceCtorEq])
    cases hx : exprT l t 0 with
    | error x =>
      rw [hx] at hr hE
      subst hr
      have hxn := Lamb.Expr.err hE
      (refine W.c1 (hrd _ hE _) ?_; simp only [go_sem, seval, reduceCtorEq, readV, Pre.none, hxn])
      refine W.yes rfl ?_
      ((try refine W.a ?_); simp only [go_sem, seval, reduceCtorEq])
      (refine W.fs (hok) (by simp only [r53, go_sem, seval, reduceCtorEq, queryV, Pre.none]; rfl) ?_ (hl := by (first | exact .c _ | (simp only [go_sem, seval, reduceCtorEq, queryV, Pre.none]; done))); simp only [resV, queryV, Pre.none]; try exact V.wk.rfl _)
      (all_goals exact wk_here)
    | ok x =>
      obtain ⟨m, j⟩ := x
      rw [hx] at hr hE
      simp only at hr
      have hj := (exprT_far hx).2
      have hwj : IntKind.i64.wrap ((j : Int) + 1) = ((j + 1 : Nat) : Int) := by rw [wrap_in] <;> omega
      (refine W.c1 (hrd _ hE _) ?_; simp only [go_sem, seval, reduceCtorEq, readV])
      refine W.no rfl ?_
      ((try refine W.a ?_); simp only [go_sem, seval, reduceCtorEq])
      by_cases h7 : (tokL t j).kind = 7
      · have n7 : ((tokL t j).kind == 7) = true := by simpa using h7
        simp only [if_pos h7] at hr
        (refine W.c1 (sr_tokC w0 t hT j (by omega) (.csl []) 0 0 _ (σ.length + 2) (hget σ _ 2)) ?_; simp only [go_sem, seval, reduceCtorEq, n7])
        refine W.yes rfl ?_
        ((try refine W.a ?_); simp only [go_sem, seval, reduceCtorEq, hwj])
        (refine W.c1 (sr_tokC w0 t hT (j + 1) (by omega) (.csl []) 0 0 _ (σ.length + 2) (hget σ _ 2)) ?_; simp only [go_sem, seval, reduceCtorEq])
        by_cases h0 : (tokL t (j + 1)).kind = 0
        · have n0 : ((tokL t (j + 1)).kind != 0) = false := by simpa using h0
          rw [if_pos h0] at hr
          subst hr
          ((try refine W.a ?_); simp only [go_sem, seval, reduceCtorEq, n0])
          refine W.no rfl ?_
          ((try refine W.a ?_); simp only [go_sem, seval, reduceCtorEq])
          (refine W.fs (hok) (by simp only [r53, go_sem, seval, reduceCtorEq, queryV]; rfl) ?_ (hl := by (first | exact .c _ | (simp only [go_sem, seval, reduceCtorEq, queryV]; done))); simp only [resV, queryV]; try exact V.wk.rfl _)
          (all_goals exact wk_here)
        · have n0 : ((tokL t (j + 1)).kind != 0) = true := by simpa using h0
          rw [if_neg h0] at hr
          subst hr
          ((try refine W.a ?_); simp only [go_sem, seval, reduceCtorEq, n0])
          refine W.yes rfl ?_
          ((try refine W.a ?_); simp only [go_sem, seval, reduceCtorEq])
          (apply W.dregE (List.cons_ne_nil _ _); case hc => ((apply CanonE.advPO; simp only [go_sem, seval, reduceCtorEq]); exact CanonE.nil))
          ((try refine W.a ?_); simp only [go_sem, seval, reduceCtorEq])
          (refine W.fs (hok) (by simp only [r53, go_sem, seval, reduceCtorEq, queryV, Pre.none]; rfl) ?_ (hl := by (first | exact .c _ | (simp only [go_sem, seval, reduceCtorEq, queryV, Pre.none]; done))); simp only [resV, queryV, Pre.none]; try exact V.wk.rfl _)
          (all_goals exact wk_here)
      · have n7 : ((tokL t j).kind == 7) = false := by simpa using h7
        simp only [if_neg h7] at hr
        (refine W.c1 (sr_tokC w0 t hT j (by omega) (.csl []) 0 0 _ (σ.length + 2) (hget σ _ 2)) ?_; simp only [go_sem, seval, reduceCtorEq, n7])
        refine W.no rfl ?_
        ((try refine W.a ?_); simp only [go_sem, seval, reduceCtorEq])
        (refine W.c1 (sr_tokC w0 t hT j (by omega) (.csl []) 0 0 _ (σ.length + 2) (hget σ _ 2)) ?_; simp only [go_sem, seval, reduceCtorEq])
        by_cases h0 : (tokL t j).kind = 0
        · have n0 : ((tokL t j).kind != 0) = false := by simpa using h0
          rw [if_pos h0] at hr
          subst hr
          ((try refine W.a ?_); simp only [go_sem, seval, reduceCtorEq, n0])
          refine W.no rfl ?_
          ((try refine W.a ?_); simp only [go_sem, seval, reduceCtorEq])
          (refine W.fs (hok) (by simp only [r53, go_sem, seval, reduceCtorEq, queryV]; rfl) ?_ (hl := by (first | exact .c _ | (simp only [go_sem, seval, reduceCtorEq, queryV]; done))); simp only [resV, queryV]; try exact V.wk.rfl _)
          (all_goals exact wk_here)
        · have n0 : ((tokL t j).kind != 0) = true := by simpa using h0
          rw [if_neg h0] at hr
          subst hr
          ((try refine W.a ?_); simp only [go_sem, seval, reduceCtorEq, n0])
          refine W.yes rfl ?_
          ((try refine W.a ?_); simp only [go_sem, seval, reduceCtorEq])
          (apply W.dregE (List.cons_ne_nil _ _); case hc => ((apply CanonE.advPO; simp only [go_sem, seval, reduceCtorEq]); exact CanonE.nil))
          ((try refine W.a ?_); simp only [go_sem, seval, reduceCtorEq])
          (refine W.fs (hok) (by simp only [r53, go_sem, seval, reduceCtorEq, queryV, Pre.none]; rfl) ?_ (hl := by (first | exact .c _ | (simp only [go_sem, seval, reduceCtorEq, queryV, Pre.none]; done))); simp only [resV, queryV, Pre.none]; try exact V.wk.rfl _)
          (all_goals exact wk_here)
  · have hb : ((lexL s).err != 0) = true := by simpa using he
    rw [if_neg he] at hr
    subst hr
    ((try refine W.a ?_); simp only [go_sem, seval, reduceCtorEq, hb])
    refine W.yes rfl ?_
    ((try refine W.a ?_); simp only [go_sem, seval, reduceCtorEq])
    (refine W.fs (hok) (by simp only [r53, go_sem, seval, reduceCtorEq, queryV, Pre.none]; rfl) ?_ (hl := by (first | exact .c _ | (simp only [go_sem, seval, reduceCtorEq, queryV, Pre.none]; done))); simp only [resV, queryV, Pre.none]; try exact V.wk.rfl _)
    (all_goals exact wk_here)
end
end Go.Proofs.YtlogjjnimlnpkaaGreatDoor
namespace Go.Proofs.YtlogjjnimlnpkaaGreatDoor
open Go.RowKit Go.Lamb
/-- (*lambentref10.State).fail -/
def c211 : AC :=
  .seq (.reg [.m 6 0, .n 7 6, .f 8 2 7, .l 9 8, .o 10 (.bin .eql (.t 9) (.k (.c (.int .i64 0))))])
  (.cond (.t 10)
  (.seq (.reg [.m 11 0, .m 12 1, .n 13 11, .f 14 2 13, .s 1 14 12])
  (.reg [.m 15 0, .m 16 2, .n 17 15, .f 18 3 17, .s 1 18 16]))
  (.skip))
def r211 : List ResV := []
theorem k211 : CodeIs Tryz.prog 211 3 Tryz.f211 c211 r211 := ⟨by kernel_rfl, Tryz.func211, rfl, by kernel_rfl, by kernel_rfl, by decide, enters_fn Tryz.func211 (by kernel_rfl) rfl⟩
/-- (*lambentref10.State).tok -/
def c102 : AC :=
  .seq (.reg [.o 2 (.box (.k (.agg [.c (.int .i64 0), .c (.str []), .c (.int .i64 0), .c (.int .i64 0)])))])
  (.seq (.dreg [.m 3 0, .n 4 3, .f 5 0 4, .l 6 5, .m 7 0, .n 8 7, .f 9 1 8, .l 10 9, .k 11 135 [(.t 6), (.t 10)], .s 4 2 11]
    [.q (.m 3 0), .q (.n 4 3), .q (.f 5 0 4), .q (.l 6 5), .q (.m 7 0), .q (.n 8 7), .q (.f 9 1 8), .q (.l 10 9), ⟨.k 11 135 [(.t 6), (.t 10)], true, 0⟩, ⟨.s 4 2 11, true, 1⟩])
  (.ret))
def r102 : List ResV := [.celln 4 2]
theorem k102 : CodeIs Tryz.prog 102 1 Tryz.f102 c102 r102 := ⟨by kernel_rfl, Tryz.func102, rfl, by kernel_rfl, by kernel_rfl, by decide, enters_fn Tryz.func102 (by kernel_rfl) rfl⟩
/-- (*lambentref10.State).word -/
def c210 : AC :=
  .seq (.reg [.o 6 (.mov (.k (.c (.bool false))))])
  (.seq (.reg [.m 8 0, .k 9 102 [(.t 8)], .o 7 (.box (.k (.agg [.c (.int .i64 0), .c (.str []), .c (.int .i64 0), .c (.int .i64 0)]))), .s 4 7 9])
  (.seq (.seq (.reg [.f 10 0 7, .l 11 10, .m 12 1, .o 13 (.bin .neq (.t 11) (.t 12)), .m 14 13, .z 15 (.fadd 1 (.t 7)) 14, .z 16 (.load1 (.t 15)) 14, .z 17 (.mov (.t 2)) 14, .z 18 (.bin .neq (.t 16) (.t 17)) 14, .o 19 (.pick (.t 14) (.k (.c (.bool true))) (.t 18))])
  (.cond (.t 19)
  (.seq (.reg [.o 6 (.mov (.k (.c (.bool false))))])
  (.ret))
  (.skip)))
  (.seq (.reg [.m 20 0, .n 21 20, .f 22 1 21, .l 23 22, .o 24 (.bin .add (.t 23) (.k (.c (.int .i64 1)))), .n 25 20, .f 26 1 25, .s 1 26 24])
  (.seq (.reg [.o 6 (.mov (.k (.c (.bool true))))])
  (.ret)))))
def r210 : List ResV := [.tmp 6]
theorem k210 : CodeIs Tryz.prog 210 3 Tryz.f210 c210 r210 := ⟨by kernel_rfl, Tryz.func210, rfl, by kernel_rfl, by kernel_rfl, by decide, enters_fn Tryz.func210 (by kernel_rfl) rfl⟩
/-- (*lambentref10.State).Names -/
def c209 : AC :=
  .seq (.reg [.o 4 (.mov (.k (.csl []))), .o 5 (.mov (.k (.csl [])))])
  (.seq (.reg [.o 6 (.mov (.k (.csl [])))])
  (.seq (.reg [.o 7 (.mov (.k (.csl [])))])
  (.seq (.block 0 (.loop (.seq (.seq (.reg [.m 10 0, .n 11 10, .f 12 2 11, .l 13 12, .o 14 (.bin .eql (.t 13) (.k (.c (.int .i64 0))))])
  (.cond (.t 14)
  (.skip)
  (.exit 0)))
  (.block 1 (.seq (.reg [.m 15 0, .k 16 102 [(.t 15)], .o 8 (.box (.k (.agg [.c (.int .i64 0), .c (.str []), .c (.int .i64 0), .c (.int .i64 0)]))), .s 4 8 16])
  (.seq (.seq (.reg [.f 17 0 8, .l 18 17, .o 19 (.bin .neq (.t 18) (.k (.c (.int .i64 1)))), .m 20 19, .y 21 (.mov (.t 1)) 20, .y 22 (.mov (.t 21)) 20, .y 23 (.fadd 0 (.t 8)) 22, .y 24 (.load1 (.t 23)) 22, .y 25 (.bin .eql (.t 24) (.k (.c (.int .i64 4)))) 22, .y 26 (.pick (.t 22) (.t 25) (.k (.c (.bool false)))) 20, .y 27 (.un .not (.t 26)) 20, .o 28 (.pick (.t 20) (.t 27) (.k (.c (.bool false))))])
  (.cond (.t 28)
  (.seq (.reg [.m 29 0, .f 30 3 8, .l 31 30, .k 32 211 [(.t 29), (.k (.c (.int .i64 100))), (.t 31)]])
  (.seq (.reg [.o 4 (.mov (.k (.csl []))), .o 5 (.mov (.k (.csl [])))])
  (.ret)))
  (.skip)))
  (.seq (.reg [.m 33 6, .f 34 1 8, .l 35 34, .o 36 (.bsl 1 [(.t 35)]), .o 37 (.app 9 1 16 (.t 33) (.t 36)), .m 6 37])
  (.seq (.reg [.m 38 7, .f 39 3 8, .l 40 39, .o 41 (.bsl 1 [(.t 40)]), .o 42 (.app 3 1 8 (.t 38) (.t 41)), .m 7 42])
  (.seq (.reg [.m 43 0, .n 44 43, .f 45 1 44, .l 46 45, .o 47 (.bin .add (.t 46) (.k (.c (.int .i64 1)))), .n 48 43, .f 49 1 48, .s 1 49 47])
  (.seq (.reg [.m 50 0, .k 51 210 [(.t 50), (.k (.c (.int .i64 4))), (.k (.c (.str [44])))], .m 9 51])
  (.seq (.reg [.m 52 9, .o 53 (.un .not (.t 52))])
  (.cond (.t 53)
  (.seq (.reg [.m 54 6, .m 55 7, .m 4 54, .m 5 55])
  (.ret))
  (.skip)))))))))))))
  (.seq (.reg [.o 4 (.mov (.k (.csl []))), .o 5 (.mov (.k (.csl [])))])
  (.ret)))))
def r209 : List ResV := [.tmp 4, .tmp 5]
theorem k209 : CodeIs Tryz.prog 209 2 Tryz.f209 c209 r209 := ⟨by kernel_rfl, Tryz.func209, rfl, by kernel_rfl, by kernel_rfl, by decide, enters_fn Tryz.func209 (by kernel_rfl) rfl⟩
/-- (*lambentref10.State).end -/
def c212 : AC :=
  .seq (.reg [.m 3 0, .k 4 102 [(.t 3)], .o 2 (.box (.k (.agg [.c (.int .i64 0), .c (.str []), .c (.int .i64 0), .c (.int .i64 0)]))), .s 4 2 4])
  (.seq (.seq (.reg [.f 5 0 2, .l 6 5, .o 7 (.bin .neq (.t 6) (.k (.c (.int .i64 7))))])
  (.cond (.t 7)
  (.seq (.reg [.m 8 0, .f 9 3 2, .l 10 9, .k 11 211 [(.t 8), (.k (.c (.int .i64 101))), (.t 10)]])
  (.ret))
  (.skip)))
  (.reg [.m 12 0, .n 13 12, .f 14 1 13, .l 15 14, .o 16 (.bin .add (.t 15) (.k (.c (.int .i64 1)))), .n 17 12, .f 18 1 17, .s 1 18 16]))
def r212 : List ResV := []
theorem k212 : CodeIs Tryz.prog 212 1 Tryz.f212 c212 r212 := ⟨by kernel_rfl, Tryz.func212, rfl, by kernel_rfl, by kernel_rfl, by decide, enters_fn Tryz.func212 (by kernel_rfl) rfl⟩
/-- (*lambentref10.State).kind -/
def c169 : AC :=
  .seq (.reg [.o 4 (.box (.k (.agg [.c (.int .i64 0), .csl [], .c (.int .i64 0), .c (.int .i64 0), .c (.str []), .c (.int .i64 0), .csl [], .c (.str []), .c (.int .i64 0), .c (.int .i64 0), .c (.int .i64 0), .c (.str []), .c (.int .i64 0), .csl [], .c (.int .i64 0), .c (.int .i64 0)])))])
  (.seq (.reg [.m 11 0, .k 12 209 [(.t 11), (.k (.c (.bool false)))], .m 10 12, .x 13 10 0, .x 14 10 1, .m 5 13, .m 6 14])
  (.seq (.reg [.o 7 (.mov (.k (.c (.int .i64 0))))])
  (.seq (.block 0 (.loop (.seq (.seq (.reg [.m 15 0, .n 16 15, .f 17 2 16, .l 18 17, .o 19 (.bin .eql (.t 18) (.k (.c (.int .i64 0))))])
  (.cond (.t 19)
  (.skip)
  (.exit 0)))
  (.block 1 (.seq (.reg [.m 20 0, .k 21 210 [(.t 20), (.k (.c (.int .i64 1))), (.k (.c (.str [116, 121, 112, 101])))], .m 8 21])
  (.seq (.seq (.reg [.m 22 8, .o 23 (.un .not (.t 22))])
  (.cond (.t 23)
  (.seq (.reg [.m 24 0, .m 25 0, .k 26 102 [(.t 25)], .o 27 (.field1 3 (.t 26)), .k 28 211 [(.t 24), (.k (.c (.int .i64 100))), (.t 27)]])
  (.exit 0))
  (.skip)))
  (.seq (.reg [.m 29 0, .k 30 210 [(.t 29), (.k (.c (.int .i64 4))), (.k (.c (.str [45, 62])))], .m 9 30])
  (.seq (.seq (.reg [.m 31 9, .o 32 (.un .not (.t 31))])
  (.cond (.t 32)
  (.exit 0)
  (.skip)))
  (.reg [.m 33 7, .o 34 (.bin .add (.t 33) (.k (.c (.int .i64 1)))), .m 7 34])))))))))
  (.seq (.seq (.reg [.m 35 0, .n 36 35, .f 37 2 36, .l 38 37, .o 39 (.bin .eql (.t 38) (.k (.c (.int .i64 0))))])
  (.cond (.t 39)
  (.reg [.m 40 0, .k 41 212 [(.t 40)]])
  (.skip)))
  (.seq (.reg [.m 42 5, .m 43 7, .m 44 1, .o 45 (.build [.c (.int .i64 0), .csl [], .c (.int .i64 0), .c (.int .i64 0), .c (.str []), .c (.int .i64 0), .csl [], .c (.str []), .c (.int .i64 0), .c (.int .i64 0), .c (.int .i64 0), .c (.str []), .c (.int .i64 0), .csl [], .c (.int .i64 0), .c (.int .i64 0)] [(0, 1, (.k (.c (.int .i64 0)))), (1, 1, (.t 42)), (2, 1, (.t 43)), (15, 1, (.t 44))]), .s 16 4 45])
  (.ret))))))
def r169 : List ResV := [.celln 16 4]
theorem k169 : CodeIs Tryz.prog 169 2 Tryz.f169 c169 r169 := ⟨by kernel_rfl, Tryz.func169, rfl, by kernel_rfl, by kernel_rfl, by decide, enters_fn Tryz.func169 (by kernel_rfl) rfl⟩
/-- (*lambentref10.State).types -/
def c170 : AC :=
  .seq (.reg [.o 4 (.box (.k (.agg [.c (.int .i64 0), .csl [], .c (.int .i64 0), .c (.int .i64 0), .c (.str []), .c (.int .i64 0), .csl [], .c (.str []), .c (.int .i64 0), .c (.int .i64 0), .c (.int .i64 0), .c (.str []), .c (.int .i64 0), .csl [], .c (.int .i64 0), .c (.int .i64 0)])))])
  (.seq (.reg [.m 12 0, .k 13 209 [(.t 12), (.k (.c (.bool true)))], .m 11 13, .x 14 11 0, .x 15 11 1, .m 5 14, .m 6 15])
  (.seq (.seq (.reg [.m 16 0, .n 17 16, .f 18 2 17, .l 19 18, .o 20 (.bin .neq (.t 19) (.k (.c (.int .i64 0))))])
  (.cond (.t 20)
  (.seq (.reg [.o 21 (.build [.c (.int .i64 0), .csl [], .c (.int .i64 0), .c (.int .i64 0), .c (.str []), .c (.int .i64 0), .csl [], .c (.str []), .c (.int .i64 0), .c (.int .i64 0), .c (.int .i64 0), .c (.str []), .c (.int .i64 0), .csl [], .c (.int .i64 0), .c (.int .i64 0)] []), .s 16 4 21])
  (.ret))
  (.skip)))
  (.seq (.dreg [.m 23 0, .n 24 23, .f 25 0 24, .l 26 25, .m 27 0, .n 28 27, .f 29 1 28, .l 30 29, .k 31 31 [(.t 26), (.t 30)], .m 22 31, .x 32 22 0, .x 33 22 1, .x 34 22 2, .x 35 22 3, .o 7 (.box (.k (.agg [.c (.int .i64 0), .c (.str []), .c (.int .i64 0), .csl []]))), .s 4 7 32, .m 8 33, .m 9 34, .m 10 35]
    [⟨.o 7 (.box (.k (.agg [.c (.int .i64 0), .c (.str []), .c (.int .i64 0), .csl []]))), true, 0⟩, .q (.m 23 0), .q (.n 24 23), .q (.f 25 0 24), .q (.l 26 25), .q (.m 27 0), .q (.n 28 27), .q (.f 29 1 28), .q (.l 30 29), .q (.k 31 31 [(.t 26), (.t 30)]), .q (.m 22 31), .q (.x 32 22 0), ⟨.s 4 7 32, true, 1⟩, .q (.x 33 22 1), .q (.x 34 22 2), .q (.x 35 22 3), ⟨.m 8 33, false, 2⟩, ⟨.m 9 34, false, 2⟩, ⟨.m 10 35, false, 2⟩])
  (.seq (.seq (.reg [.m 36 9, .o 37 (.bin .neq (.t 36) (.k (.c (.int .i64 0))))])
  (.cond (.t 37)
  (.seq (.reg [.m 38 0, .m 39 9, .m 40 10, .k 41 211 [(.t 38), (.t 39), (.t 40)]])
  (.seq (.reg [.o 42 (.build [.c (.int .i64 0), .csl [], .c (.int .i64 0), .c (.int .i64 0), .c (.str []), .c (.int .i64 0), .csl [], .c (.str []), .c (.int .i64 0), .c (.int .i64 0), .c (.int .i64 0), .c (.str []), .c (.int .i64 0), .csl [], .c (.int .i64 0), .c (.int .i64 0)] []), .s 16 4 42])
  (.ret)))
  (.skip)))
  (.seq (.reg [.m 43 0, .m 44 8, .n 45 43, .f 46 1 45, .s 1 46 44])
  (.seq (.reg [.m 47 0, .k 48 212 [(.t 47)]])
  (.seq (.reg [.m 49 5, .d 50 4 7, .m 51 1, .o 52 (.build [.c (.int .i64 0), .csl [], .c (.int .i64 0), .c (.int .i64 0), .c (.str []), .c (.int .i64 0), .csl [], .c (.str []), .c (.int .i64 0), .c (.int .i64 0), .c (.int .i64 0), .c (.str []), .c (.int .i64 0), .csl [], .c (.int .i64 0), .c (.int .i64 0)] [(0, 1, (.k (.c (.int .i64 1)))), (1, 1, (.t 49)), (3, 4, (.t 50)), (15, 1, (.t 51))]), .s 16 4 52])
  (.ret))))))))
def r170 : List ResV := [.celln 16 4]
theorem k170 : CodeIs Tryz.prog 170 2 Tryz.f170 c170 r170 := ⟨by kernel_rfl, Tryz.func170, rfl, by kernel_rfl, by kernel_rfl, by decide, enters_fn Tryz.func170 (by kernel_rfl) rfl⟩
/-- (*lambentref10.State).op -/
def c171 : AC :=
  .seq (.reg [.o 6 (.box (.k (.agg [.c (.int .i64 0), .csl [], .c (.int .i64 0), .c (.int .i64 0), .c (.str []), .c (.int .i64 0), .csl [], .c (.str []), .c (.int .i64 0), .c (.int .i64 0), .c (.int .i64 0), .c (.str []), .c (.int .i64 0), .csl [], .c (.int .i64 0), .c (.int .i64 0)])))])
  (.seq (.reg [.m 14 0, .k 15 209 [(.t 14), (.k (.c (.bool true)))], .m 13 15, .x 16 13 0, .x 17 13 1, .m 7 16, .m 8 17])
  (.seq (.seq (.reg [.m 18 0, .n 19 18, .f 20 2 19, .l 21 20, .o 22 (.bin .neq (.t 21) (.k (.c (.int .i64 0))))])
  (.cond (.t 22)
  (.seq (.reg [.o 23 (.build [.c (.int .i64 0), .csl [], .c (.int .i64 0), .c (.int .i64 0), .c (.str []), .c (.int .i64 0), .csl [], .c (.str []), .c (.int .i64 0), .c (.int .i64 0), .c (.int .i64 0), .c (.str []), .c (.int .i64 0), .csl [], .c (.int .i64 0), .c (.int .i64 0)] []), .s 16 6 23])
  (.ret))
  (.skip)))
  (.seq (.reg [.m 24 0, .k 25 102 [(.t 24)], .o 9 (.box (.k (.agg [.c (.int .i64 0), .c (.str []), .c (.int .i64 0), .c (.int .i64 0)]))), .s 4 9 25])
  (.seq (.seq (.reg [.f 26 0 9, .l 27 26, .o 28 (.bin .neq (.t 27) (.k (.c (.int .i64 3))))])
  (.cond (.t 28)
  (.seq (.reg [.m 29 0, .f 30 3 9, .l 31 30, .k 32 211 [(.t 29), (.k (.c (.int .i64 100))), (.t 31)]])
  (.seq (.reg [.o 33 (.build [.c (.int .i64 0), .csl [], .c (.int .i64 0), .c (.int .i64 0), .c (.str []), .c (.int .i64 0), .csl [], .c (.str []), .c (.int .i64 0), .c (.int .i64 0), .c (.int .i64 0), .c (.str []), .c (.int .i64 0), .csl [], .c (.int .i64 0), .c (.int .i64 0)] []), .s 16 6 33])
  (.ret)))
  (.skip)))
  (.seq (.reg [.m 34 0, .n 35 34, .f 36 1 35, .l 37 36, .o 38 (.bin .add (.t 37) (.k (.c (.int .i64 1)))), .n 39 34, .f 40 1 39, .s 1 40 38])
  (.seq (.reg [.m 41 0, .k 42 212 [(.t 41)]])
  (.seq (.seq (.reg [.o 10 (.mov (.k (.c (.int .i64 0))))])
  (.block 0 (.loop (.seq (.seq (.reg [.m 43 10, .m 44 7, .o 45 (.lenr (.t 44)), .o 46 (.bin .lss (.t 43) (.t 45)), .m 47 46, .y 48 (.mov (.t 0)) 47, .y 49 (.nilck (.t 48)) 47, .y 50 (.fadd 2 (.t 49)) 47, .y 51 (.load1 (.t 50)) 47, .y 52 (.bin .eql (.t 51) (.k (.c (.int .i64 0)))) 47, .o 53 (.pick (.t 47) (.t 52) (.k (.c (.bool false))))])
  (.cond (.t 53)
  (.skip)
  (.exit 0)))
  (.seq (.block 1 (.seq (.dreg [.m 56 7, .m 57 10, .o 58 (.iadd 1 (.t 56) (.t 57)), .l 59 58, .f 60 2 9, .l 61 60, .m 62 2, .o 63 (.build [.c (.str []), .c (.int .i64 0), .c (.int .i64 0)] [(0, 1, (.t 59)), (1, 1, (.t 61)), (2, 1, (.t 62))]), .o 11 (.box (.k (.agg [.c (.str []), .c (.int .i64 0), .c (.int .i64 0)]))), .s 3 11 63]
    [⟨.o 11 (.box (.k (.agg [.c (.str []), .c (.int .i64 0), .c (.int .i64 0)]))), true, 0⟩, .q (.m 56 7), .q (.m 57 10), .q (.o 58 (.iadd 1 (.t 56) (.t 57))), .q (.l 59 58), .q (.f 60 2 9), .q (.l 61 60), .q (.m 62 2), .q (.o 63 (.build [.c (.str []), .c (.int .i64 0), .c (.int .i64 0)] [(0, 1, (.t 59)), (1, 1, (.t 61)), (2, 1, (.t 62))])), ⟨.s 3 11 63, true, 1⟩])
  (.seq (.dreg [.m 64 0, .n 65 64, .f 66 4 65, .l 67 66, .d 68 3 11, .k 69 128 [(.t 67), (.t 68)], .m 12 69]
    [.q (.m 64 0), .q (.n 65 64), .q (.f 66 4 65), .q (.l 67 66), .q (.d 68 3 11), ⟨.k 69 128 [(.t 67), (.t 68)], true, 0⟩, ⟨.m 12 69, false, 1⟩])
  (.seq (.seq (.reg [.m 70 12, .o 71 (.bin .neq (.t 70) (.k (.c (.int .i64 0))))])
  (.cond (.t 71)
  (.reg [.m 72 0, .m 73 12, .m 74 8, .m 75 10, .o 76 (.iadd 1 (.t 74) (.t 75)), .l 77 76, .k 78 211 [(.t 72), (.t 73), (.t 77)]])
  (.skip)))
  (.dreg [.m 79 0, .m 80 0, .n 81 80, .f 82 4 81, .l 83 82, .d 84 3 11, .o 85 (.bsl 3 [(.t 84)]), .o 86 (.app 35 3 32 (.t 83) (.t 85)), .n 87 79, .f 88 4 87, .s 1 88 86]
    [.q (.m 80 0), .q (.n 81 80), .q (.f 82 4 81), .q (.l 83 82), .q (.d 84 3 11), .q (.o 85 (.bsl 3 [(.t 84)])), ⟨.o 86 (.app 35 3 32 (.t 83) (.t 85)), true, 0⟩, .q (.m 79 0), ⟨.n 87 79, false, 1⟩, ⟨.f 88 4 87, false, 1⟩, ⟨.s 1 88 86, true, 1⟩])))))
  (.reg [.m 54 10, .o 55 (.bin .add (.t 54) (.k (.c (.int .i64 1)))), .m 10 55]))))))
  (.seq (.reg [.m 89 7, .f 90 2 9, .l 91 90, .m 92 2, .o 93 (.build [.c (.str []), .c (.int .i64 0), .c (.int .i64 0)] [(1, 1, (.t 91)), (2, 1, (.t 92))]), .m 94 1, .o 95 (.build [.c (.int .i64 0), .csl [], .c (.int .i64 0), .c (.int .i64 0), .c (.str []), .c (.int .i64 0), .csl [], .c (.str []), .c (.int .i64 0), .c (.int .i64 0), .c (.int .i64 0), .c (.str []), .c (.int .i64 0), .csl [], .c (.int .i64 0), .c (.int .i64 0)] [(0, 1, (.k (.c (.int .i64 2)))), (1, 1, (.t 89)), (7, 3, (.t 93)), (15, 1, (.t 94))]), .s 16 6 95])
  (.ret)))))))))
def r171 : List ResV := [.celln 16 6]
theorem k171 : CodeIs Tryz.prog 171 3 Tryz.f171 c171 r171 := ⟨by kernel_rfl, Tryz.func171, rfl, by kernel_rfl, by kernel_rfl, by decide, enters_fn Tryz.func171 (by kernel_rfl) rfl⟩
/-- (*lambentref10.State).clause -/
def c172 : AC :=
  .seq (.reg [.o 4 (.box (.k (.agg [.c (.int .i64 0), .csl [], .c (.int .i64 0), .c (.int .i64 0), .c (.str []), .c (.int .i64 0), .csl [], .c (.str []), .c (.int .i64 0), .c (.int .i64 0), .c (.int .i64 0), .c (.str []), .c (.int .i64 0), .csl [], .c (.int .i64 0), .c (.int .i64 0)])))])
  (.seq (.dreg [.m 10 0, .n 11 10, .f 12 4 11, .l 13 12, .m 14 0, .n 15 14, .f 16 0 15, .l 17 16, .m 18 0, .n 19 18, .f 20 1 19, .l 21 20, .k 22 213 [(.t 13), (.t 17), (.t 21)], .m 9 22, .x 23 9 0, .x 24 9 1, .x 25 9 2, .x 26 9 3, .o 5 (.box (.k (.agg [.c (.int .i64 0), .c (.str []), .c (.int .i64 0), .csl [], .c (.int .i64 0)]))), .s 5 5 23, .m 6 24, .m 7 25, .m 8 26]
    [⟨.o 5 (.box (.k (.agg [.c (.int .i64 0), .c (.str []), .c (.int .i64 0), .csl [], .c (.int .i64 0)]))), true, 0⟩, .q (.m 10 0), .q (.n 11 10), .q (.f 12 4 11), .q (.l 13 12), .q (.m 14 0), .q (.n 15 14), .q (.f 16 0 15), .q (.l 17 16), .q (.m 18 0), .q (.n 19 18), .q (.f 20 1 19), .q (.l 21 20), .q (.k 22 213 [(.t 13), (.t 17), (.t 21)]), .q (.m 9 22), .q (.x 23 9 0), ⟨.s 5 5 23, true, 1⟩, .q (.x 24 9 1), .q (.x 25 9 2), .q (.x 26 9 3), ⟨.m 6 24, false, 2⟩, ⟨.m 7 25, false, 2⟩, ⟨.m 8 26, false, 2⟩])
  (.seq (.seq (.reg [.m 27 7, .o 28 (.bin .neq (.t 27) (.k (.c (.int .i64 0))))])
  (.cond (.t 28)
  (.seq (.reg [.m 29 0, .m 30 7, .m 31 8, .k 32 211 [(.t 29), (.t 30), (.t 31)]])
  (.seq (.reg [.o 33 (.build [.c (.int .i64 0), .csl [], .c (.int .i64 0), .c (.int .i64 0), .c (.str []), .c (.int .i64 0), .csl [], .c (.str []), .c (.int .i64 0), .c (.int .i64 0), .c (.int .i64 0), .c (.str []), .c (.int .i64 0), .csl [], .c (.int .i64 0), .c (.int .i64 0)] []), .s 16 4 33])
  (.ret)))
  (.skip)))
  (.seq (.reg [.m 34 0, .m 35 6, .n 36 34, .f 37 1 36, .s 1 37 35])
  (.seq (.reg [.m 38 0, .k 39 212 [(.t 38)]])
  (.seq (.reg [.d 40 5 5, .m 41 1, .o 42 (.build [.c (.int .i64 0), .csl [], .c (.int .i64 0), .c (.int .i64 0), .c (.str []), .c (.int .i64 0), .csl [], .c (.str []), .c (.int .i64 0), .c (.int .i64 0), .c (.int .i64 0), .c (.str []), .c (.int .i64 0), .csl [], .c (.int .i64 0), .c (.int .i64 0)] [(0, 1, (.k (.c (.int .i64 3)))), (10, 5, (.t 40)), (15, 1, (.t 41))]), .s 16 4 42])
  (.ret))))))
def r172 : List ResV := [.celln 16 4]
theorem k172 : CodeIs Tryz.prog 172 2 Tryz.f172 c172 r172 := ⟨by kernel_rfl, Tryz.func172, rfl, by kernel_rfl, by kernel_rfl, by decide, enters_fn Tryz.func172 (by kernel_rfl) rfl⟩
/-- (*lambentref10.State).One -/
def c103 : AC :=
  .seq (.reg [.o 2 (.box (.k (.agg [.c (.int .i64 0), .csl [], .c (.int .i64 0), .c (.int .i64 0), .c (.str []), .c (.int .i64 0), .csl [], .c (.str []), .c (.int .i64 0), .c (.int .i64 0), .c (.int .i64 0), .c (.str []), .c (.int .i64 0), .csl [], .c (.int .i64 0), .c (.int .i64 0)])))])
  (.seq (.reg [.m 4 0, .k 5 102 [(.t 4)], .o 3 (.box (.k (.agg [.c (.int .i64 0), .c (.str []), .c (.int .i64 0), .c (.int .i64 0)]))), .s 4 3 5])
  (.seq (.seq (.reg [.f 6 0 3, .l 7 6, .o 8 (.bin .eql (.t 7) (.k (.c (.int .i64 1))))])
  (.cond (.t 8)
  (.seq (.reg [.m 9 0, .n 10 9, .f 11 1 10, .l 12 11, .o 13 (.bin .add (.t 12) (.k (.c (.int .i64 1)))), .n 14 9, .f 15 1 14, .s 1 15 13])
  (.seq (.seq (.reg [.f 16 1 3, .l 17 16])
  (.block 0 (.seq (.reg [.o 19 (.bin .eql (.t 17) (.k (.c (.str [107, 105, 110, 100])))), .m 18 19])
  (.cond (.t 18)
  (.seq (.reg [.m 20 0, .f 21 3 3, .l 22 21, .k 23 169 [(.t 20), (.t 22)], .s 16 2 23])
  (.ret))
  (.seq (.reg [.o 25 (.bin .eql (.t 17) (.k (.c (.str [116, 121, 112, 101])))), .m 24 25])
  (.cond (.t 24)
  (.seq (.reg [.m 26 0, .f 27 3 3, .l 28 27, .k 29 170 [(.t 26), (.t 28)], .s 16 2 29])
  (.ret))
  (.seq (.reg [.o 31 (.bin .eql (.t 17) (.k (.c (.str [105, 110, 102, 105, 120])))), .m 30 31])
  (.cond (.t 30)
  (.seq (.reg [.m 32 0, .f 33 3 3, .l 34 33, .k 35 171 [(.t 32), (.t 34), (.k (.c (.int .i64 0)))], .s 16 2 35])
  (.ret))
  (.seq (.reg [.o 37 (.bin .eql (.t 17) (.k (.c (.str [105, 110, 102, 105, 120, 108])))), .m 36 37])
  (.cond (.t 36)
  (.seq (.reg [.m 38 0, .f 39 3 3, .l 40 39, .k 41 171 [(.t 38), (.t 40), (.k (.c (.int .i64 1)))], .s 16 2 41])
  (.ret))
  (.seq (.reg [.o 43 (.bin .eql (.t 17) (.k (.c (.str [105, 110, 102, 105, 120, 114])))), .m 42 43])
  (.cond (.t 42)
  (.seq (.reg [.m 44 0, .f 45 3 3, .l 46 45, .k 47 171 [(.t 44), (.t 46), (.k (.c (.int .i64 2)))], .s 16 2 47])
  (.ret))
  (.skip)))))))))))))
  (.reg [.m 48 0, .n 49 48, .f 50 1 49, .l 51 50, .o 52 (.bin .sub (.t 51) (.k (.c (.int .i64 1)))), .n 53 48, .f 54 1 53, .s 1 54 52])))
  (.skip)))
  (.seq (.reg [.m 55 0, .f 56 3 3, .l 57 56, .k 58 172 [(.t 55), (.t 57)], .s 16 2 58])
  (.ret))))
def r103 : List ResV := [.celln 16 2]
theorem k103 : CodeIs Tryz.prog 103 1 Tryz.f103 c103 r103 := ⟨by kernel_rfl, Tryz.func103, rfl, by kernel_rfl, by kernel_rfl, by decide, enters_fn Tryz.func103 (by kernel_rfl) rfl⟩
/-- lambentref10.Read -/
def c48 : AC :=
  .seq (.reg [.o 2 (.mov (.k (.csl []))), .o 3 (.mov (.k (.csl []))), .o 4 (.mov (.k (.c (.int .i64 0)))), .o 5 (.mov (.k (.c (.int .i64 0))))])
  (.seq (.reg [.m 13 0, .k 14 100 [(.t 13)], .m 12 14, .x 15 12 0, .x 16 12 1, .x 17 12 2, .m 6 15, .m 7 16, .m 8 17])
  (.seq (.seq (.reg [.m 18 7, .o 19 (.bin .neq (.t 18) (.k (.c (.int .i64 0))))])
  (.cond (.t 19)
  (.seq (.reg [.m 20 7, .m 21 8, .o 2 (.mov (.k (.csl []))), .o 3 (.mov (.k (.csl []))), .m 4 20, .m 5 21])
  (.ret))
  (.skip)))
  (.seq (.reg [.m 22 6, .k 23 101 [], .o 24 (.build [.csl [], .c (.int .i64 0), .c (.int .i64 0), .c (.int .i64 0), .csl []] [(0, 1, (.t 22)), (4, 1, (.t 23))]), .o 25 (.box (.t 24)), .m 9 25])
  (.seq (.reg [.o 10 (.mov (.k (.csl [])))])
  (.seq (.block 0 (.loop (.seq (.seq (.reg [.m 26 9, .n 27 26, .f 28 2 27, .l 29 28, .o 30 (.bin .eql (.t 29) (.k (.c (.int .i64 0)))), .m 31 30, .y 32 (.mov (.t 9)) 31, .y 33 (.call (.k (.fn 102 [])) [(.t 32)]) 31, .y 34 (.field1 0 (.t 33)) 31, .y 35 (.bin .neq (.t 34) (.k (.c (.int .i64 0)))) 31, .o 36 (.pick (.t 31) (.t 35) (.k (.c (.bool false))))])
  (.cond (.t 36)
  (.skip)
  (.exit 0)))
  (.block 1 (.seq (.reg [.m 37 9, .k 38 103 [(.t 37)], .o 11 (.box (.k (.agg [.c (.int .i64 0), .csl [], .c (.int .i64 0), .c (.int .i64 0), .c (.str []), .c (.int .i64 0), .csl [], .c (.str []), .c (.int .i64 0), .c (.int .i64 0), .c (.int .i64 0), .c (.str []), .c (.int .i64 0), .csl [], .c (.int .i64 0), .c (.int .i64 0)]))), .s 16 11 38])
  (.reg [.m 39 10, .d 40 16 11, .o 41 (.bsl 16 [(.t 40)]), .o 42 (.app 41 16 200 (.t 39) (.t 41)), .m 10 42]))))))
  (.seq (.seq (.reg [.m 43 9, .n 44 43, .f 45 2 44, .l 46 45, .o 47 (.bin .neq (.t 46) (.k (.c (.int .i64 0))))])
  (.cond (.t 47)
  (.seq (.dreg [.m 48 9, .n 49 48, .f 50 2 49, .l 51 50, .m 52 9, .n 53 52, .f 54 3 53, .l 55 54, .o 2 (.mov (.k (.csl []))), .o 3 (.mov (.k (.csl []))), .m 4 51, .m 5 55]
    [.q (.m 48 9), .q (.n 49 48), .q (.f 50 2 49), .q (.l 51 50), .q (.m 52 9), .q (.n 53 52), .q (.f 54 3 53), .q (.l 55 54), .q (.o 2 (.mov (.k (.csl [])))), .q (.o 3 (.mov (.k (.csl [])))), .q (.m 4 51), .q (.m 5 55)])
  (.ret))
  (.skip)))
  (.seq (.dreg [.m 56 10, .m 57 9, .n 58 57, .f 59 4 58, .l 60 59, .m 2 56, .m 3 60, .o 4 (.mov (.k (.c (.int .i64 0)))), .o 5 (.mov (.k (.c (.int .i64 0))))]
    [.q (.m 56 10), .q (.m 57 9), .q (.n 58 57), .q (.f 59 4 58), .q (.l 60 59), .q (.m 2 56), .q (.m 3 60), .q (.o 4 (.mov (.k (.c (.int .i64 0))))), .q (.o 5 (.mov (.k (.c (.int .i64 0)))))])
  (.ret))))))))
def r48 : List ResV := [.tmp 2, .tmp 3, .tmp 4, .tmp 5]
theorem k48 : CodeIs Tryz.prog 48 1 Tryz.f48 c48 r48 := ⟨by kernel_rfl, Tryz.func48, rfl, by kernel_rfl, by kernel_rfl, by decide, enters_fn Tryz.func48 (by kernel_rfl) rfl⟩
/-- lambentref02.Declare -/
def c128 : AC :=
  .seq (.reg [.o 3 (.box (.t 1)), .o 4 (.mov (.k (.c (.int .i64 0))))])
  (.seq (.seq (.reg [.f 10 2 3, .l 11 10, .o 12 (.bin .neq (.t 11) (.k (.c (.int .i64 0)))), .m 13 12, .y 14 (.fadd 2 (.t 3)) 13, .y 15 (.load1 (.t 14)) 13, .y 16 (.bin .neq (.t 15) (.k (.c (.int .i64 1)))) 13, .o 17 (.pick (.t 13) (.t 16) (.k (.c (.bool false)))), .m 18 17, .y 19 (.fadd 2 (.t 3)) 18, .y 20 (.load1 (.t 19)) 18, .y 21 (.bin .neq (.t 20) (.k (.c (.int .i64 2)))) 18, .o 22 (.pick (.t 18) (.t 21) (.k (.c (.bool false))))])
  (.cond (.t 22)
  (.seq (.reg [.o 4 (.mov (.k (.c (.int .i64 1))))])
  (.ret))
  (.skip)))
  (.seq (.reg [.f 23 0 3, .l 24 23, .k 25 126 [(.t 24)], .m 5 25])
  (.seq (.reg [.f 26 0 3, .l 27 26, .k 28 127 [(.t 27)], .m 6 28])
  (.seq (.reg [.f 29 0 3, .l 30 29, .m 7 30])
  (.seq (.seq (.reg [.m 31 5, .o 32 (.un .not (.t 31)), .m 33 32, .y 34 (.mov (.t 6)) 33, .y 35 (.un .not (.t 34)) 33, .o 36 (.pick (.t 33) (.t 35) (.k (.c (.bool false)))), .m 37 36, .z 38 (.mov (.t 7)) 37, .z 39 (.bin .eql (.t 38) (.k (.c (.str [33])))) 37, .o 40 (.pick (.t 37) (.k (.c (.bool true))) (.t 39)), .m 41 40, .z 42 (.mov (.t 7)) 41, .z 43 (.bin .eql (.t 42) (.k (.c (.str [45, 62])))) 41, .o 44 (.pick (.t 41) (.k (.c (.bool true))) (.t 43)), .m 45 44, .z 46 (.mov (.t 7)) 45, .z 47 (.bin .eql (.t 46) (.k (.c (.str [107, 105, 110, 100])))) 45, .o 48 (.pick (.t 45) (.k (.c (.bool true))) (.t 47)), .m 49 48, .z 50 (.mov (.t 7)) 49, .z 51 (.bin .eql (.t 50) (.k (.c (.str [116, 121, 112, 101])))) 49, .o 52 (.pick (.t 49) (.k (.c (.bool true))) (.t 51)), .m 53 52, .z 54 (.mov (.t 7)) 53, .z 55 (.bin .eql (.t 54) (.k (.c (.str [105, 110, 102, 105, 120])))) 53, .o 56 (.pick (.t 53) (.k (.c (.bool true))) (.t 55)), .m 57 56, .z 58 (.mov (.t 7)) 57, .z 59 (.bin .eql (.t 58) (.k (.c (.str [105, 110, 102, 105, 120, 108])))) 57, .o 60 (.pick (.t 57) (.k (.c (.bool true))) (.t 59)), .m 61 60, .z 62 (.mov (.t 7)) 61, .z 63 (.bin .eql (.t 62) (.k (.c (.str [105, 110, 102, 105, 120, 114])))) 61, .o 64 (.pick (.t 61) (.k (.c (.bool true))) (.t 63))])
  (.cond (.t 64)
  (.seq (.reg [.o 4 (.mov (.k (.c (.int .i64 20))))])
  (.ret))
  (.skip)))
  (.seq (.seq (.reg [.f 65 1 3, .l 66 65, .o 67 (.bin .lss (.t 66) (.k (.c (.int .i64 1)))), .m 68 67, .z 69 (.fadd 1 (.t 3)) 68, .z 70 (.load1 (.t 69)) 68, .z 71 (.bin .gtr (.t 70) (.k (.c (.int .i64 200)))) 68, .o 72 (.pick (.t 68) (.k (.c (.bool true))) (.t 71))])
  (.cond (.t 72)
  (.seq (.reg [.o 4 (.mov (.k (.c (.int .i64 21))))])
  (.ret))
  (.skip)))
  (.seq (.reg [.m 74 0, .f 75 0 3, .l 76 75, .k 77 184 [(.t 74), (.t 76)], .m 73 77, .x 78 73 0, .x 79 73 1, .o 8 (.box (.k (.agg [.c (.str []), .c (.int .i64 0), .c (.int .i64 0)]))), .s 3 8 78, .m 9 79])
  (.seq (.seq (.reg [.m 80 9])
  (.cond (.t 80)
  (.seq (.reg [.o 4 (.mov (.k (.c (.int .i64 22))))])
  (.ret))
  (.skip)))
  (.seq (.seq (.reg [.m 81 0, .o 82 (.lenr (.t 81)), .o 83 (.bin .geq (.t 82) (.k (.c (.int .i64 64))))])
  (.cond (.t 83)
  (.seq (.reg [.o 4 (.mov (.k (.c (.int .i64 23))))])
  (.ret))
  (.skip)))
  (.seq (.reg [.o 4 (.mov (.k (.c (.int .i64 0))))])
  (.ret)))))))))))
def r128 : List ResV := [.tmp 4]
theorem k128 : CodeIs Tryz.prog 128 2 Tryz.f128 c128 r128 := ⟨by kernel_rfl, Tryz.func128, rfl, by kernel_rfl, by kernel_rfl, by decide, enters_fn Tryz.func128 (by kernel_rfl) rfl⟩
/-- lambentref02.Default -/
def c101 : AC :=
  .seq (.reg [.o 0 (.mov (.k (.csl [])))])
  (.seq (.reg [.o 1 (.mov (.k (.csl [])))])
  (.seq (.reg [.m 2 1, .k 3 168 [(.k (.c (.str [58, 45]))), (.k (.c (.int .i64 10))), (.k (.c (.int .i64 0)))], .k 4 168 [(.k (.c (.str [59]))), (.k (.c (.int .i64 20))), (.k (.c (.int .i64 2)))], .k 5 168 [(.k (.c (.str [44]))), (.k (.c (.int .i64 30))), (.k (.c (.int .i64 2)))], .k 6 168 [(.k (.c (.str [61, 62]))), (.k (.c (.int .i64 40))), (.k (.c (.int .i64 2)))], .o 7 (.bsl 3 [(.t 3), (.t 4), (.t 5), (.t 6)]), .o 8 (.app 35 3 32 (.t 2) (.t 7)), .m 1 8])
  (.seq (.reg [.m 9 1, .k 10 168 [(.k (.c (.str [61]))), (.k (.c (.int .i64 60))), (.k (.c (.int .i64 0)))], .k 11 168 [(.k (.c (.str [105, 115]))), (.k (.c (.int .i64 60))), (.k (.c (.int .i64 0)))], .k 12 168 [(.k (.c (.str [60]))), (.k (.c (.int .i64 60))), (.k (.c (.int .i64 0)))], .k 13 168 [(.k (.c (.str [61, 60]))), (.k (.c (.int .i64 60))), (.k (.c (.int .i64 0)))], .k 14 168 [(.k (.c (.str [62]))), (.k (.c (.int .i64 60))), (.k (.c (.int .i64 0)))], .k 15 168 [(.k (.c (.str [62, 61]))), (.k (.c (.int .i64 60))), (.k (.c (.int .i64 0)))], .o 16 (.bsl 3 [(.t 10), (.t 11), (.t 12), (.t 13), (.t 14), (.t 15)]), .o 17 (.app 35 3 32 (.t 9) (.t 16)), .m 1 17])
  (.seq (.reg [.m 18 1, .k 19 168 [(.k (.c (.str [43]))), (.k (.c (.int .i64 80))), (.k (.c (.int .i64 1)))], .k 20 168 [(.k (.c (.str [45]))), (.k (.c (.int .i64 80))), (.k (.c (.int .i64 1)))], .k 21 168 [(.k (.c (.str [42]))), (.k (.c (.int .i64 90))), (.k (.c (.int .i64 1)))], .k 22 168 [(.k (.c (.str [100, 105, 118]))), (.k (.c (.int .i64 90))), (.k (.c (.int .i64 1)))], .k 23 168 [(.k (.c (.str [109, 111, 100]))), (.k (.c (.int .i64 90))), (.k (.c (.int .i64 1)))], .o 24 (.bsl 3 [(.t 19), (.t 20), (.t 21), (.t 22), (.t 23)]), .o 25 (.app 35 3 32 (.t 18) (.t 24)), .m 1 25])
  (.seq (.reg [.m 26 1, .m 0 26])
  (.ret))))))
def r101 : List ResV := [.tmp 0]
theorem k101 : CodeIs Tryz.prog 101 0 Tryz.f101 c101 r101 := ⟨by kernel_rfl, Tryz.func101, rfl, by kernel_rfl, by kernel_rfl, by decide, enters_fn Tryz.func101 (by kernel_rfl) rfl⟩
/-- lambentref02.one -/
def c168 : AC :=
  .seq (.reg [.o 6 (.box (.k (.agg [.c (.str []), .c (.int .i64 0), .c (.int .i64 0)])))])
  (.seq (.reg [.m 7 0, .m 8 1, .m 9 2, .o 10 (.build [.c (.str []), .c (.int .i64 0), .c (.int .i64 0)] [(0, 1, (.t 7)), (1, 1, (.t 8)), (2, 1, (.t 9))]), .s 3 6 10])
  (.ret))
def r168 : List ResV := [.celln 3 6]
theorem k168 : CodeIs Tryz.prog 168 3 Tryz.f168 c168 r168 := ⟨by kernel_rfl, Tryz.func168, rfl, by kernel_rfl, by kernel_rfl, by decide, enters_fn Tryz.func168 (by kernel_rfl) rfl⟩
/-- lambentref02.Same -/
def c50 : AC :=
  .seq (.reg [.o 4 (.mov (.k (.c (.bool false))))])
  (.seq (.seq (.reg [.m 6 0, .o 7 (.lenr (.t 6)), .m 8 1, .o 9 (.lenr (.t 8)), .o 10 (.bin .neq (.t 7) (.t 9))])
  (.cond (.t 10)
  (.seq (.reg [.o 4 (.mov (.k (.c (.bool false))))])
  (.ret))
  (.skip)))
  (.seq (.seq (.reg [.o 5 (.mov (.k (.c (.int .i64 0))))])
  (.block 0 (.loop (.seq (.seq (.reg [.m 11 5, .m 12 0, .o 13 (.lenr (.t 12)), .o 14 (.bin .lss (.t 11) (.t 13))])
  (.cond (.t 14)
  (.skip)
  (.exit 0)))
  (.seq (.block 1 (.seq (.dreg [.m 17 0, .m 18 5, .o 19 (.iadd 3 (.t 17) (.t 18)), .d 20 3 19, .m 21 1, .m 22 5, .o 23 (.iadd 3 (.t 21) (.t 22)), .d 24 3 23, .o 25 (.eqs true [2, 1, 1] (.t 20) (.t 24))]
    [.q (.m 17 0), .q (.m 18 5), .q (.o 19 (.iadd 3 (.t 17) (.t 18))), .q (.d 20 3 19), .q (.m 21 1), .q (.m 22 5), .q (.o 23 (.iadd 3 (.t 21) (.t 22))), .q (.d 24 3 23), .q (.o 25 (.eqs true [2, 1, 1] (.t 20) (.t 24)))])
  (.cond (.t 25)
  (.seq (.reg [.o 4 (.mov (.k (.c (.bool false))))])
  (.ret))
  (.skip))))
  (.reg [.m 15 5, .o 16 (.bin .add (.t 15) (.k (.c (.int .i64 1)))), .m 5 16]))))))
  (.seq (.reg [.o 4 (.mov (.k (.c (.bool true))))])
  (.ret))))
def r50 : List ResV := [.tmp 4]
theorem k50 : CodeIs Tryz.prog 50 2 Tryz.f50 c50 r50 := ⟨by kernel_rfl, Tryz.func50, rfl, by kernel_rfl, by kernel_rfl, by decide, enters_fn Tryz.func50 (by kernel_rfl) rfl⟩
/-- lambentref10.Same -/
def c51 : AC :=
  .seq (.reg [.o 2 (.box (.t 0)), .o 3 (.box (.t 1)), .o 4 (.mov (.k (.c (.bool false))))])
  (.seq (.seq (.reg [.f 8 0 2, .l 9 8, .f 10 0 3, .l 11 10, .o 12 (.bin .neq (.t 9) (.t 11)), .m 13 12, .z 14 (.fadd 1 (.t 2)) 13, .z 15 (.load1 (.t 14)) 13, .z 16 (.lenr (.t 15)) 13, .z 17 (.fadd 1 (.t 3)) 13, .z 18 (.load1 (.t 17)) 13, .z 19 (.lenr (.t 18)) 13, .z 20 (.bin .neq (.t 16) (.t 19)) 13, .o 21 (.pick (.t 13) (.k (.c (.bool true))) (.t 20)), .m 22 21, .z 23 (.fadd 2 (.t 2)) 22, .z 24 (.load1 (.t 23)) 22, .z 25 (.fadd 2 (.t 3)) 22, .z 26 (.load1 (.t 25)) 22, .z 27 (.bin .neq (.t 24) (.t 26)) 22, .o 28 (.pick (.t 22) (.k (.c (.bool true))) (.t 27)), .m 29 28, .z 30 (.fadd 7 (.t 2)) 29, .z 31 (.loadn 3 (.t 30)) 29, .z 32 (.fadd 7 (.t 3)) 29, .z 33 (.loadn 3 (.t 32)) 29, .z 34 (.eqs true [2, 1, 1] (.t 31) (.t 33)) 29, .o 35 (.pick (.t 29) (.k (.c (.bool true))) (.t 34)), .m 36 35, .z 37 (.fadd 15 (.t 2)) 36, .z 38 (.load1 (.t 37)) 36, .z 39 (.fadd 15 (.t 3)) 36, .z 40 (.load1 (.t 39)) 36, .z 41 (.bin .neq (.t 38) (.t 40)) 36, .o 42 (.pick (.t 36) (.k (.c (.bool true))) (.t 41))])
  (.cond (.t 42)
  (.seq (.reg [.o 4 (.mov (.k (.c (.bool false))))])
  (.ret))
  (.skip)))
  (.seq (.seq (.reg [.o 5 (.mov (.k (.c (.int .i64 0))))])
  (.block 0 (.loop (.seq (.seq (.reg [.m 43 5, .f 44 1 2, .l 45 44, .o 46 (.lenr (.t 45)), .o 47 (.bin .lss (.t 43) (.t 46))])
  (.cond (.t 47)
  (.skip)
  (.exit 0)))
  (.seq (.block 1 (.seq (.dreg [.f 50 1 2, .l 51 50, .m 52 5, .o 53 (.iadd 1 (.t 51) (.t 52)), .l 54 53, .f 55 1 3, .l 56 55, .m 57 5, .o 58 (.iadd 1 (.t 56) (.t 57)), .l 59 58, .o 60 (.bin .neq (.t 54) (.t 59))]
    [.q (.f 50 1 2), .q (.l 51 50), .q (.m 52 5), .q (.o 53 (.iadd 1 (.t 51) (.t 52))), .q (.l 54 53), .q (.f 55 1 3), .q (.l 56 55), .q (.m 57 5), .q (.o 58 (.iadd 1 (.t 56) (.t 57))), .q (.l 59 58), .q (.o 60 (.bin .neq (.t 54) (.t 59)))])
  (.cond (.t 60)
  (.seq (.reg [.o 4 (.mov (.k (.c (.bool false))))])
  (.ret))
  (.skip))))
  (.reg [.m 48 5, .o 49 (.bin .add (.t 48) (.k (.c (.int .i64 1)))), .m 5 49]))))))
  (.seq (.reg [.f 61 3 2, .d 62 4 61, .f 63 3 3, .d 64 4 63, .k 65 26 [(.t 62), (.t 64)], .m 6 65])
  (.seq (.reg [.f 66 10 2, .d 67 5 66, .f 68 10 3, .d 69 5 68, .k 70 56 [(.t 67), (.t 69)], .m 7 70])
  (.seq (.reg [.m 71 6, .m 72 71, .y 73 (.mov (.t 7)) 72, .o 74 (.pick (.t 72) (.t 73) (.k (.c (.bool false)))), .m 4 74])
  (.ret))))))
def r51 : List ResV := [.tmp 4]
theorem k51 : CodeIs Tryz.prog 51 2 Tryz.f51 c51 r51 := ⟨by kernel_rfl, Tryz.func51, rfl, by kernel_rfl, by kernel_rfl, by decide, enters_fn Tryz.func51 (by kernel_rfl) rfl⟩
/-- lambentref10.SameAll -/
def c49 : AC :=
  .seq (.reg [.o 4 (.mov (.k (.c (.bool false))))])
  (.seq (.seq (.reg [.m 7 0, .o 8 (.lenr (.t 7)), .m 9 1, .o 10 (.lenr (.t 9)), .o 11 (.bin .neq (.t 8) (.t 10))])
  (.cond (.t 11)
  (.seq (.reg [.o 4 (.mov (.k (.c (.bool false))))])
  (.ret))
  (.skip)))
  (.seq (.seq (.reg [.o 5 (.mov (.k (.c (.int .i64 0))))])
  (.block 0 (.loop (.seq (.seq (.reg [.m 12 5, .m 13 0, .o 14 (.lenr (.t 13)), .o 15 (.bin .lss (.t 12) (.t 14))])
  (.cond (.t 15)
  (.skip)
  (.exit 0)))
  (.seq (.block 1 (.seq (.dreg [.m 18 0, .m 19 5, .o 20 (.iadd 16 (.t 18) (.t 19)), .d 21 16 20, .m 22 1, .m 23 5, .o 24 (.iadd 16 (.t 22) (.t 23)), .d 25 16 24, .k 26 51 [(.t 21), (.t 25)], .m 6 26]
    [.q (.m 18 0), .q (.m 19 5), .q (.o 20 (.iadd 16 (.t 18) (.t 19))), .q (.d 21 16 20), .q (.m 22 1), .q (.m 23 5), .q (.o 24 (.iadd 16 (.t 22) (.t 23))), .q (.d 25 16 24), ⟨.k 26 51 [(.t 21), (.t 25)], true, 0⟩, ⟨.m 6 26, false, 1⟩])
  (.seq (.reg [.m 27 6, .o 28 (.un .not (.t 27))])
  (.cond (.t 28)
  (.seq (.reg [.o 4 (.mov (.k (.c (.bool false))))])
  (.ret))
  (.skip)))))
  (.reg [.m 16 5, .o 17 (.bin .add (.t 16) (.k (.c (.int .i64 1)))), .m 5 17]))))))
  (.seq (.reg [.o 4 (.mov (.k (.c (.bool true))))])
  (.ret))))
def r49 : List ResV := [.tmp 4]
theorem k49 : CodeIs Tryz.prog 49 2 Tryz.f49 c49 r49 := ⟨by kernel_rfl, Tryz.func49, rfl, by kernel_rfl, by kernel_rfl, by decide, enters_fn Tryz.func49 (by kernel_rfl) rfl⟩
/-- lambentlaw10.works -/
def c46 : AC :=
  .seq (.reg [.o 0 (.mov (.k (.c (.bool false))))])
  (.seq (.reg [.k 14 47 [(.k (.c (.str [107, 105, 110, 100, 32, 108, 105, 115, 116, 32, 116, 121, 112, 101, 32, 45, 62, 32, 116, 121, 112, 101, 46, 32, 116, 121, 112, 101, 32, 110, 105, 108, 44, 32, 110, 111, 110, 101, 32, 108, 105, 115, 116, 32, 65, 46, 32, 105, 110, 102, 105, 120, 114, 32, 99, 111, 110, 115, 32, 49, 50, 48, 46, 32, 112, 32, 40, 97, 32, 99, 111, 110, 115, 32, 88, 41, 32, 58, 45, 32, 113, 46])))], .m 13 14, .x 15 13 0, .x 16 13 1, .x 17 13 2, .x 18 13 3, .m 1 15, .m 2 16, .m 3 17, .m 4 18])
  (.seq (.seq (.reg [.m 19 1, .o 20 (.lenr (.t 19)), .o 21 (.bin .neq (.t 20) (.k (.c (.int .i64 4))))])
  (.cond (.t 21)
  (.seq (.reg [.o 0 (.mov (.k (.c (.bool false))))])
  (.ret))
  (.skip)))
  (.seq (.reg [.k 23 47 [(.k (.c (.str [112])))], .m 22 23, .x 24 22 0, .x 25 22 1, .x 26 22 2, .x 27 22 3, .m 5 24, .m 6 25, .m 7 26, .m 8 27])
  (.seq (.reg [.k 29 54 [], .k 30 53 [(.t 29), (.k (.c (.str [112, 32, 88, 44, 32, 113, 46])))], .m 28 30, .x 31 28 0, .x 32 28 1, .x 33 28 2, .o 9 (.box (.k (.agg [.c (.int .i64 0), .c (.str []), .c (.int .i64 0), .csl [], .c (.int .i64 0)]))), .s 5 9 31, .m 10 32, .m 11 33])
  (.seq (.reg [.k 34 55 [], .m 12 34])
  (.seq (.reg [.m 35 3, .o 36 (.bin .eql (.t 35) (.k (.c (.int .i64 0)))), .m 37 36, .y 38 (.mov (.t 1)) 37, .y 39 (.iadd 16 (.t 38) (.k (.c (.int .i64 0)))) 37, .y 40 (.fadd 0 (.t 39)) 37, .y 41 (.load1 (.t 40)) 37, .y 42 (.bin .eql (.t 41) (.k (.c (.int .i64 0)))) 37, .o 43 (.pick (.t 37) (.t 42) (.k (.c (.bool false)))), .m 44 43, .y 45 (.mov (.t 1)) 44, .y 46 (.iadd 16 (.t 45) (.k (.c (.int .i64 0)))) 44, .y 47 (.fadd 2 (.t 46)) 44, .y 48 (.load1 (.t 47)) 44, .y 49 (.bin .eql (.t 48) (.k (.c (.int .i64 1)))) 44, .o 50 (.pick (.t 44) (.t 49) (.k (.c (.bool false)))), .m 51 50, .y 52 (.mov (.t 1)) 51, .y 53 (.iadd 16 (.t 52) (.k (.c (.int .i64 1)))) 51, .y 54 (.fadd 1 (.t 53)) 51, .y 55 (.load1 (.t 54)) 51, .y 56 (.lenr (.t 55)) 51, .y 57 (.bin .eql (.t 56) (.k (.c (.int .i64 2)))) 51, .o 58 (.pick (.t 51) (.t 57) (.k (.c (.bool false)))), .m 59 58, .y 60 (.mov (.t 1)) 59, .y 61 (.iadd 16 (.t 60) (.k (.c (.int .i64 2)))) 59, .y 62 (.fadd 7 (.t 61)) 59, .y 63 (.fadd 1 (.t 62)) 59, .y 64 (.load1 (.t 63)) 59, .y 65 (.bin .eql (.t 64) (.k (.c (.int .i64 120)))) 59, .o 66 (.pick (.t 59) (.t 65) (.k (.c (.bool false)))), .m 67 66, .y 68 (.mov (.t 1)) 67, .y 69 (.iadd 16 (.t 68) (.k (.c (.int .i64 3)))) 67, .y 70 (.fadd 0 (.t 69)) 67, .y 71 (.load1 (.t 70)) 67, .y 72 (.bin .eql (.t 71) (.k (.c (.int .i64 3)))) 67, .o 73 (.pick (.t 67) (.t 72) (.k (.c (.bool false)))), .m 74 73, .y 75 (.mov (.t 2)) 74, .y 76 (.lenr (.t 75)) 74, .y 77 (.bin .eql (.t 76) (.k (.c (.int .i64 16)))) 74, .o 78 (.pick (.t 74) (.t 77) (.k (.c (.bool false)))), .m 79 78, .y 80 (.mov (.t 7)) 79, .y 81 (.bin .eql (.t 80) (.k (.c (.int .i64 101)))) 79, .o 82 (.pick (.t 79) (.t 81) (.k (.c (.bool false)))), .m 83 82, .y 84 (.mov (.t 8)) 83, .y 85 (.bin .eql (.t 84) (.k (.c (.int .i64 1)))) 83, .o 86 (.pick (.t 83) (.t 85) (.k (.c (.bool false)))), .m 87 86, .y 88 (.fadd 3 (.t 9)) 87, .y 89 (.load1 (.t 88)) 87, .y 90 (.lenr (.t 89)) 87, .y 91 (.bin .eql (.t 90) (.k (.c (.int .i64 2)))) 87, .o 92 (.pick (.t 87) (.t 91) (.k (.c (.bool false)))), .m 93 92, .y 94 (.mov (.t 10)) 93, .y 95 (.bin .eql (.t 94) (.k (.c (.int .i64 0)))) 93, .o 96 (.pick (.t 93) (.t 95) (.k (.c (.bool false)))), .m 97 96, .y 98 (.mov (.t 12)) 97, .y 99 (.lenr (.t 98)) 97, .y 100 (.bin .eql (.t 99) (.k (.c (.int .i64 5)))) 97, .o 101 (.pick (.t 97) (.t 100) (.k (.c (.bool false)))), .m 0 101])
  (.ret)))))))
def r46 : List ResV := [.tmp 0]
theorem k46 : CodeIs Tryz.prog 46 0 Tryz.f46 c46 r46 := ⟨by kernel_rfl, Tryz.func46, rfl, by kernel_rfl, by kernel_rfl, by decide, enters_fn Tryz.func46 (by kernel_rfl) rfl⟩
/-- lambentlaw10.SourceReads -/
def c10 : AC :=
  .seq (.reg [.o 2 (.mov (.k (.c (.bool false))))])
  (.seq (.reg [.k 14 46 [], .m 3 14])
  (.seq (.seq (.reg [.m 15 3, .o 16 (.un .not (.t 15))])
  (.cond (.t 16)
  (.seq (.reg [.o 2 (.mov (.k (.c (.bool false))))])
  (.ret))
  (.skip)))
  (.seq (.seq (.reg [.m 17 0, .o 18 (.lens (.t 17)), .o 19 (.bin .gtr (.t 18) (.k (.c (.int .i64 600))))])
  (.cond (.t 19)
  (.seq (.reg [.m 20 3, .m 2 20])
  (.ret))
  (.skip)))
  (.seq (.reg [.m 22 0, .k 23 47 [(.t 22)], .m 21 23, .x 24 21 0, .x 25 21 1, .x 26 21 2, .x 27 21 3, .m 4 24, .m 5 25, .m 6 26, .m 7 27])
  (.seq (.reg [.m 29 0, .k 30 48 [(.t 29)], .m 28 30, .x 31 28 0, .x 32 28 1, .x 33 28 2, .x 34 28 3, .m 8 31, .m 9 32, .m 10 33, .m 11 34])
  (.seq (.reg [.m 35 4, .m 36 8, .k 37 49 [(.t 35), (.t 36)], .m 12 37])
  (.seq (.reg [.m 38 5, .m 39 9, .k 40 50 [(.t 38), (.t 39)], .m 13 40])
  (.seq (.reg [.m 41 3, .m 42 41, .y 43 (.mov (.t 12)) 42, .o 44 (.pick (.t 42) (.t 43) (.k (.c (.bool false)))), .m 45 44, .y 46 (.mov (.t 13)) 45, .o 47 (.pick (.t 45) (.t 46) (.k (.c (.bool false)))), .m 48 47, .y 49 (.mov (.t 6)) 48, .y 50 (.mov (.t 10)) 48, .y 51 (.bin .eql (.t 49) (.t 50)) 48, .o 52 (.pick (.t 48) (.t 51) (.k (.c (.bool false)))), .m 53 52, .y 54 (.mov (.t 7)) 53, .y 55 (.mov (.t 11)) 53, .y 56 (.bin .eql (.t 54) (.t 55)) 53, .o 57 (.pick (.t 53) (.t 56) (.k (.c (.bool false)))), .m 2 57])
  (.ret)))))))))
def r10 : List ResV := [.tmp 2]
theorem k10 : CodeIs Tryz.prog 10 1 Tryz.f10 c10 r10 := ⟨by kernel_rfl, Tryz.func10, rfl, by kernel_rfl, by kernel_rfl, by decide, enters_fn Tryz.func10 (by kernel_rfl) rfl⟩
end Go.Proofs.YtlogjjnimlnpkaaGreatDoor
namespace Go.Proofs.YtlogjjnimlnpkaaGreatDoor
open Go.RowKit Go.Lamb
attribute [local go_sem] advO_skip advO_reg advO_seq advO_block advO_exit advO_endb advO_opsNil advO_ops advG_yes advG_no advG_none advS_some advS_none advO_cond advO_loop advO_dreg advO_ret advO_bad advO_inv advO_nil advO_zero wantedV Lamb.step ev_t ev_k put_some put_none argEnv popTo cellsAt V.cellsV V.rows V.toC toCs fillV bytesC byteRows appV rowsV boundV boundL binV binInt binStr eqC eqL V.isNil leaves V.leaf Ins.quiet Ins.pure List.getD_cons_zero List.getD_cons_succ List.getD_nil List.all_cons List.all_nil List.length_cons List.length_nil List.take_succ_cons List.take_zero List.drop_succ_cons List.drop_zero List.cons_append List.nil_append List.append_nil List.append_assoc List.map_cons List.map_nil List.getElem?_cons_zero List.getElem?_cons_succ List.length_append List.length_set hget0 hget hset0 hset hsets hgs0 hgs hss0 hss List.set_cons_zero List.set_cons_succ List.forall_mem_cons List.not_mem_nil false_implies implies_true Option.map_some Bool.and_true Bool.true_and Bool.not_not Bool.not_true Bool.not_false Bool.and_self Bool.or_true Bool.true_or Bool.or_false Bool.false_or Bool.and_false Bool.false_and Bool.false_eq_true beq_self_eq_true and_self and_true true_and if_true if_false Nat.zero_add Nat.add_zero Nat.le_refl Int.toNat_natCast decide_true decide_false beq_t beq_f List.length_map List.getElem?_map I S B opsC toksC OpT.v OpT.cs OpT.zero Tok.v Tok.cs Pre.v Pre.cs_eq k_mk name_mk n_mk l_mk pos_mk Pre.app applyL natCast0 natCast1 natCast2 AOp.o AOp.m AOp.f AOp.l AOp.d AOp.n AOp.x AOp.s AOp.k AOp.y AOp.z EOp.q low_c low_void low_any low_csl low_nilf low_ptr low_osl low_agg low_tup low_fn resEval advPO_nil advPO_loud advPO_quiet pL_yes pL_no pLS_some pLS_none pQ_yes pQ_no pQS_some pQS_loud eq_self Nat.sub_zero
section

theorem ref03_Exact (w0 : World) (p : Pre) : ∀ (σ : H), DC Tryz.prog w0 56 [p.v, p.v] σ (Same (B true) σ) := by
  refine Pre.ind (P := fun p => ∀ (σ : H), DC Tryz.prog w0 56 [p.v, p.v] σ (Same (B true) σ)) (fun p ih σ => ?_) p
  refine k56.go rfl (fun hok hsz => ?_)
  have hlen : p.l.length ≤ 9223372036854775807 := by
    have := hsz _ (List.mem_cons_self ..)
    rw [Pre.v, sz_agg] at this
    exact sz_rows (this (.c (.sl (p.l.map Pre.cs))) (by simp))
  have e1 : ∀ a : Int, (a != a) = false := fun a => by simp
  ((try refine W.a ?_); simp only [go_sem, seval, reduceCtorEq, c56, e1])
  refine W.no rfl ?_
  ((try refine W.a ?_); simp only [go_sem, seval, reduceCtorEq])
  refine W.loopP (fun i => i ≤ p.l.length) (fun i => ⟨((((base.put (some 2) (.ptr σ.length 0)).put (some 3) (.ptr (σ.length + 1) 0)).put (some 4) (B false)).put (some 5) (I (i : Nat))), σ ++ [.cells p.v.cellsV, .cells p.v.cellsV]⟩) (fun i => p.l.length - i) 0 (Nat.zero_le _) ?_ (fun i hi => ?_)
  · (refine Lew.env ?_; exact lee_here)
  · by_cases hlt : i < p.l.length
    · have h1 : ((i : Int) < (p.l.length : Int)) := by omega
      have hx : p.l[i]? = some p.l[i] := List.getElem?_eq_getElem hlt
      have hw : IntKind.i64.wrap ((i : Int) + 1) = ((i + 1 : Nat) : Int) := wrap_next hlt hlen
      ((try refine W.a ?_); simp only [go_sem, seval, reduceCtorEq, h1])
      refine W.yes rfl ?_
      ((try refine W.a ?_); simp only [go_sem, seval, reduceCtorEq])
      apply W.dreg
      case hc =>
        (apply Canon.advCO; simp only [advCO_nil, advCO_cons, cG_yes, cG_no, cS_some, cS_loud, go_sem, seval, reduceCtorEq, h1, nat0, hx])
        (apply Canon.call (ih p.l[i] (List.getElem_mem hlt) _); (case hg => rfl); (case hf => rfl); (case ha => first | rfl | simp))
        (apply Canon.advCO; simp only [advCO_nil, advCO_cons, cG_yes, cG_no, cS_some, cS_loud, go_sem, seval, reduceCtorEq])
        exact Canon.nil
      ((try refine W.a ?_); simp only [go_sem, seval, reduceCtorEq])
      refine W.no rfl ?_
      ((try refine W.a ?_); simp only [go_sem, seval, reduceCtorEq, hw])
      refine .inv ⟨i + 1, hlt, by omega, ?_⟩
      (refine Lew.env ?_; exact lee_here)
    · have h1 : ¬ ((i : Int) < (p.l.length : Int)) := by omega
      ((try refine W.a ?_); simp only [go_sem, seval, reduceCtorEq, h1])
      refine W.no rfl ?_
      ((try refine W.a ?_); simp only [go_sem, seval, reduceCtorEq])
      (refine W.fs (hok) (by simp only [r56, go_sem, seval, reduceCtorEq]; rfl) ?_; simp only [resV]; try exact V.wk.rfl _)
end
section

def src0 : List UInt8 := [107, 105, 110, 100, 32, 108, 105, 115, 116, 32, 116, 121, 112, 101, 32, 45, 62, 32, 116, 121, 112, 101, 46, 32, 116, 121, 112, 101, 32, 110, 105, 108, 44, 32, 110, 111, 110, 101, 32, 108, 105, 115, 116, 32, 65, 46, 32, 105, 110, 102, 105, 120, 114, 32, 99, 111, 110, 115, 32, 49, 50, 48, 46, 32, 112, 32, 40, 97, 32, 99, 111, 110, 115, 32, 88, 41, 32, 58, 45, 32, 113, 46]
theorem src0_err : (lexL src0).err = 0 := by kernel_rfl
def facts0 (r : Option (Except Bad (List Sent × List OpT))) : Bool := match r with
  | some (.ok ([x0, x1, x2, x3], l)) => x0.k == 0 && x0.n == 1 && x1.names.length == 2 && x2.op.prec == 120 && x3.k == 3 && l.length == 16
  | _ => false
theorem src0_facts : facts0 (allC 60 (lexL src0).toks 10 ops0 0 []) = true := by kernel_rfl
theorem src0_read : ∃ x0 x1 x2 x3 l, readS src0 = .ok ([x0, x1, x2, x3], l) ∧ x0.k = 0 ∧ x0.n = 1 ∧ x1.names.length = 2 ∧ x2.op.prec = 120 ∧ x3.k = 3 ∧ l.length = 16 := by
  have h := src0_facts
  unfold facts0 at h
  split at h
  · rename_i x0 x1 x2 x3 l he
    simp only [Bool.and_eq_true, beq_iff_eq] at h
    refine ⟨x0, x1, x2, x3, l, ?_, h.1.1.1.1.1, h.1.1.1.1.2, h.1.1.1.2, h.1.1.2, h.1.2, h.2⟩
    unfold readS
    rw [if_pos src0_err]
    exact allC_is he
  · cases h
theorem src1_read : readS [112] = .error ⟨101, 1⟩ := by
  unfold readS
  rw [if_pos (by kernel_rfl)]
  exact allC_is (f := 40) (g := 10) (by kernel_rfl)
def facts2 (r : Option (Except Bad (Made × Nat))) : Bool := match r with
  | some (.ok (m, j)) => j == 4 && m.p.l.length == 2
  | _ => false
theorem src2_facts : facts2 (exprF 60 ops0 (lexL [112, 32, 88, 44, 32, 113, 46]).toks 0 0 0) = true := by kernel_rfl
theorem src2_query : ∃ p : Pre, queryS ops0 [112, 32, 88, 44, 32, 113, 46] = .ok p ∧ p.l.length = 2 := by
  have h := src2_facts
  unfold facts2 at h
  split at h
  · rename_i m j he
    simp only [Bool.and_eq_true, beq_iff_eq] at h
    refine ⟨m.p, ?_, h.2⟩
    unfold queryS
    rw [if_pos (by kernel_rfl), exprT_eq ⟨60, he⟩]
    simp only
    rw [h.1]
    have h7 : (tokL (lexL [112, 32, 88, 44, 32, 113, 46]).toks 4).kind = 7 := by kernel_rfl
    have h0 : (tokL (lexL [112, 32, 88, 44, 32, 113, 46]).toks (4 + 1)).kind = 0 := by kernel_rfl
    rw [if_pos h7, if_pos h0]
  · cases h
theorem law10_works {w0 : World} (hG : Glob w0) (σ : H) : DC Tryz.prog w0 46 [] σ (Same (B true) σ) := by
  refine k46.go rfl (fun hok hsz => ?_)
  obtain ⟨x0, x1, x2, x3, l, h0, h1, h2, h3, h4, h5, h6⟩ := src0_read
  obtain ⟨p, h7, h8⟩ := src2_query
  have e0 : DC Tryz.prog w0 47 [S src0] σ (Same (.tup [.c (sentsC [x0, x1, x2, x3]), .c (opsC l), I 0, I 0]) σ) := by
    have := source_Read hG src0 (by decide) σ
    rw [h0] at this
    exact this
  have e1 : DC Tryz.prog w0 47 [S [112]] σ (Same (.tup [.c (.sl []), .c (.sl []), I 101, I 1]) σ) := by
    have := source_Read hG [112] (by decide) σ
    rw [src1_read] at this
    exact this
  have e2 : DC Tryz.prog w0 53 [.c (opsC ops0), S [112, 32, 88, 44, 32, 113, 46]] σ (Same (.tup [p.v, I 0, I 0]) σ) := by
    have := source_Query hG ops0 [112, 32, 88, 44, 32, 113, 46] (by decide) σ
    rw [h7] at this
    exact this
  have h3' : (x1.names.length : Int) = 2 := by omega
  have h6' : (l.length : Int) = 16 := by omega
  have h8' : (p.l.length : Int) = 2 := by omega
  ((try refine W.a ?_); simp only [go_sem, seval, reduceCtorEq, c46])
  (refine W.c1 (e0) ?_; simp only [go_sem, seval, reduceCtorEq, sentsC, sent_cs, strsC])
  refine W.no rfl ?_
  ((try refine W.a ?_); simp only [go_sem, seval, reduceCtorEq])
  (refine W.c1 (e1) ?_; simp only [go_sem, seval, reduceCtorEq])
  (refine W.c1 (ops_Default w0 _) ?_; simp only [go_sem, seval, reduceCtorEq])
  (refine W.c1 (e2) ?_; simp only [go_sem, seval, reduceCtorEq])
  (refine W.c1 (source_Words w0 _) ?_; simp only [go_sem, seval, reduceCtorEq, sentsC, sent_cs, strsC, h1, h2, h3', h4, h5, h6', h8', strsR, words5, Int.cast_ofNat_Int])
  (refine W.fs (hok) (by simp only [r46, go_sem, seval, reduceCtorEq]; rfl) ?_; simp only [resV]; try exact V.wk.rfl _)
theorem ref02_Same (w0 : World) (l : List OpT) (σ : H) : DC Tryz.prog w0 50 [.c (opsC l), .c (opsC l)] σ (Same (B true) σ) := by
  refine k50.go rfl (fun hok hsz => ?_)
  have hlen : l.length ≤ 9223372036854775807 := sz_rows (hsz _ (List.mem_cons_self ..))
  have hll : ((l.length : Int) != (l.length : Int)) = false := by simp
  ((try refine W.a ?_); simp only [go_sem, seval, reduceCtorEq, c50, hll])
  refine W.no rfl ?_
  ((try refine W.a ?_); simp only [go_sem, seval, reduceCtorEq])
  refine W.loopP (fun i => i ≤ l.length) (fun i => ⟨(((base.put (some 0) (.c (opsC l))).put (some 1) (.c (opsC l))).put (some 5) (I (i : Nat))), σ⟩) (fun i => l.length - i) 0 (Nat.zero_le _) ?_ (fun i hi => ?_)
  · (refine Lew.env ?_; exact lee_here)
  · by_cases hlt : i < l.length
    · have h1 : ((i : Int) < (l.length : Int)) := by omega
      have hx : l[i]? = some l[i] := List.getElem?_eq_getElem hlt
      have hw : IntKind.i64.wrap ((i : Int) + 1) = ((i + 1 : Nat) : Int) := wrap_next hlt hlen
      ((try refine W.a ?_); simp only [go_sem, seval, reduceCtorEq, h1])
      refine W.yes rfl ?_
      ((try refine W.a ?_); simp only [go_sem, seval, reduceCtorEq])
      (apply W.dregE (List.cons_ne_nil _ _); case hc => ((apply CanonE.advPO; simp only [go_sem, seval, reduceCtorEq, h1, nat0, hx]); exact CanonE.nil))
      ((try refine W.a ?_); simp only [go_sem, seval, reduceCtorEq])
      refine W.no rfl ?_
      ((try refine W.a ?_); simp only [go_sem, seval, reduceCtorEq, hw])
      refine .inv ⟨i + 1, hlt, by omega, ?_⟩
      (refine Lew.env ?_; exact lee_here)
    · have h1 : ¬ ((i : Int) < (l.length : Int)) := by omega
      ((try refine W.a ?_); simp only [go_sem, seval, reduceCtorEq, h1])
      refine W.no rfl ?_
      ((try refine W.a ?_); simp only [go_sem, seval, reduceCtorEq])
      (refine W.fs (hok) (by simp only [r50, go_sem, seval, reduceCtorEq]; rfl) ?_; simp only [resV]; try exact V.wk.rfl _)
end
end Go.Proofs.YtlogjjnimlnpkaaGreatDoor
namespace Go.Proofs.YtlogjjnimlnpkaaGreatDoor
open Go.RowKit Go.Lamb
end Go.Proofs.YtlogjjnimlnpkaaGreatDoor
namespace Go.Proofs.YtlogjjnimlnpkaaGreatDoor
open Go.RowKit Go.Lamb
/-- (*lambentref05.State).fail -/
def c138 : AC :=
  .seq (.reg [.m 6 0, .n 7 6, .f 8 2 7, .l 9 8, .o 10 (.bin .eql (.t 9) (.k (.c (.int .i64 0))))])
  (.cond (.t 10)
  (.seq (.reg [.m 11 0, .m 12 1, .n 13 11, .f 14 2 13, .s 1 14 12])
  (.reg [.m 15 0, .m 16 2, .n 17 15, .f 18 3 17, .s 1 18 16]))
  (.skip))
def r138 : List ResV := []
theorem k138 : CodeIs Tryz.prog 138 3 Tryz.f138 c138 r138 := ⟨by kernel_rfl, Tryz.func138, rfl, by kernel_rfl, by kernel_rfl, by decide, enters_fn Tryz.func138 (by kernel_rfl) rfl⟩
/-- (*lambentref05.State).atom -/
def c137 : AC :=
  .seq (.reg [.o 2 (.mov (.k (.c (.bool false))))])
  (.seq (.dreg [.m 4 0, .n 5 4, .f 6 0 5, .l 7 6, .m 8 0, .n 9 8, .f 10 1 9, .l 11 10, .k 12 135 [(.t 7), (.t 11)], .o 13 (.field1 0 (.t 12)), .m 3 13]
    [.q (.m 4 0), .q (.n 5 4), .q (.f 6 0 5), .q (.l 7 6), .q (.m 8 0), .q (.n 9 8), .q (.f 10 1 9), .q (.l 11 10), ⟨.k 12 135 [(.t 7), (.t 11)], true, 0⟩, ⟨.o 13 (.field1 0 (.t 12)), false, 1⟩, ⟨.m 3 13, false, 1⟩])
  (.seq (.reg [.m 14 3, .o 15 (.bin .eql (.t 14) (.k (.c (.int .i64 1)))), .m 16 15, .z 17 (.mov (.t 3)) 16, .z 18 (.bin .eql (.t 17) (.k (.c (.int .i64 2)))) 16, .o 19 (.pick (.t 16) (.k (.c (.bool true))) (.t 18)), .m 20 19, .z 21 (.mov (.t 3)) 20, .z 22 (.bin .eql (.t 21) (.k (.c (.int .i64 5)))) 20, .o 23 (.pick (.t 20) (.k (.c (.bool true))) (.t 22)), .m 2 23])
  (.ret)))
def r137 : List ResV := [.tmp 2]
theorem k137 : CodeIs Tryz.prog 137 1 Tryz.f137 c137 r137 := ⟨by kernel_rfl, Tryz.func137, rfl, by kernel_rfl, by kernel_rfl, by decide, enters_fn Tryz.func137 (by kernel_rfl) rfl⟩
/-- (*lambentref05.State).Atom -/
def c136 : AC :=
  .seq (.reg [.o 4 (.box (.k (.agg [.c (.int .i64 0), .c (.str []), .c (.int .i64 0), .csl []])))])
  (.seq (.dreg [.m 10 0, .n 11 10, .f 12 0 11, .l 13 12, .m 14 0, .n 15 14, .f 16 1 15, .l 17 16, .k 18 135 [(.t 13), (.t 17)], .o 5 (.box (.k (.agg [.c (.int .i64 0), .c (.str []), .c (.int .i64 0), .c (.int .i64 0)]))), .s 4 5 18]
    [⟨.o 5 (.box (.k (.agg [.c (.int .i64 0), .c (.str []), .c (.int .i64 0), .c (.int .i64 0)]))), true, 0⟩, .q (.m 10 0), .q (.n 11 10), .q (.f 12 0 11), .q (.l 13 12), .q (.m 14 0), .q (.n 15 14), .q (.f 16 1 15), .q (.l 17 16), .q (.k 18 135 [(.t 13), (.t 17)]), ⟨.s 4 5 18, true, 1⟩])
  (.seq (.reg [.m 19 0, .k 20 137 [(.t 19)], .m 6 20])
  (.seq (.seq (.reg [.m 21 6, .o 22 (.un .not (.t 21))])
  (.cond (.t 22)
  (.seq (.reg [.m 23 0, .f 24 3 5, .l 25 24, .k 26 138 [(.t 23), (.k (.c (.int .i64 50))), (.t 25)]])
  (.seq (.reg [.o 27 (.build [.c (.int .i64 0), .c (.str []), .c (.int .i64 0), .csl []] []), .s 4 4 27])
  (.ret)))
  (.skip)))
  (.seq (.reg [.m 28 0, .n 29 28, .f 30 1 29, .l 31 30, .o 32 (.bin .add (.t 31) (.k (.c (.int .i64 1)))), .n 33 28, .f 34 1 33, .s 1 34 32])
  (.seq (.seq (.reg [.f 35 0 5, .l 36 35, .o 37 (.bin .eql (.t 36) (.k (.c (.int .i64 1))))])
  (.cond (.t 37)
  (.seq (.reg [.f 38 1 5, .l 39 38, .o 40 (.build [.c (.int .i64 0), .c (.str []), .c (.int .i64 0), .csl []] [(0, 1, (.k (.c (.int .i64 0)))), (1, 1, (.t 39))]), .s 4 4 40])
  (.ret))
  (.skip)))
  (.seq (.seq (.reg [.f 41 0 5, .l 42 41, .o 43 (.bin .eql (.t 42) (.k (.c (.int .i64 2))))])
  (.cond (.t 43)
  (.seq (.seq (.reg [.o 7 (.mov (.k (.c (.int .i64 0))))])
  (.block 0 (.loop (.seq (.seq (.reg [.m 44 7, .m 45 0, .n 46 45, .f 47 4 46, .l 48 47, .o 49 (.lenr (.t 48)), .o 50 (.bin .lss (.t 44) (.t 49))])
  (.cond (.t 50)
  (.skip)
  (.exit 0)))
  (.seq (.block 1 (.seq (.dreg [.m 53 0, .n 54 53, .f 55 4 54, .l 56 55, .m 57 7, .o 58 (.iadd 1 (.t 56) (.t 57)), .l 59 58, .f 60 1 5, .l 61 60, .o 62 (.bin .eql (.t 59) (.t 61))]
    [.q (.m 53 0), .q (.n 54 53), .q (.f 55 4 54), .q (.l 56 55), .q (.m 57 7), .q (.o 58 (.iadd 1 (.t 56) (.t 57))), .q (.l 59 58), .q (.f 60 1 5), .q (.l 61 60), .q (.o 62 (.bin .eql (.t 59) (.t 61)))])
  (.cond (.t 62)
  (.seq (.reg [.m 63 7, .o 64 (.build [.c (.int .i64 0), .c (.str []), .c (.int .i64 0), .csl []] [(0, 1, (.k (.c (.int .i64 1)))), (2, 1, (.t 63))]), .s 4 4 64])
  (.ret))
  (.skip))))
  (.reg [.m 51 7, .o 52 (.bin .add (.t 51) (.k (.c (.int .i64 1)))), .m 7 52]))))))
  (.seq (.dreg [.m 65 0, .m 66 0, .n 67 66, .f 68 4 67, .l 69 68, .f 70 1 5, .l 71 70, .o 72 (.bsl 1 [(.t 71)]), .o 73 (.app 9 1 16 (.t 69) (.t 72)), .n 74 65, .f 75 4 74, .s 1 75 73]
    [.q (.m 66 0), .q (.n 67 66), .q (.f 68 4 67), .q (.l 69 68), .q (.f 70 1 5), .q (.l 71 70), .q (.o 72 (.bsl 1 [(.t 71)])), ⟨.o 73 (.app 9 1 16 (.t 69) (.t 72)), true, 0⟩, .q (.m 65 0), ⟨.n 74 65, false, 1⟩, ⟨.f 75 4 74, false, 1⟩, ⟨.s 1 75 73, true, 1⟩])
  (.seq (.reg [.m 76 0, .n 77 76, .f 78 4 77, .l 79 78, .o 80 (.lenr (.t 79)), .o 81 (.bin .sub (.t 80) (.k (.c (.int .i64 1)))), .o 82 (.build [.c (.int .i64 0), .c (.str []), .c (.int .i64 0), .csl []] [(0, 1, (.k (.c (.int .i64 1)))), (2, 1, (.t 81))]), .s 4 4 82])
  (.ret))))
  (.skip)))
  (.seq (.seq (.reg [.m 83 1, .o 84 (.bin .add (.t 83) (.k (.c (.int .i64 1)))), .o 85 (.bin .gtr (.t 84) (.k (.c (.int .i64 200))))])
  (.cond (.t 85)
  (.seq (.reg [.m 86 0, .f 87 3 5, .l 88 87, .k 89 138 [(.t 86), (.k (.c (.int .i64 31))), (.t 88)]])
  (.seq (.reg [.o 90 (.build [.c (.int .i64 0), .c (.str []), .c (.int .i64 0), .csl []] []), .s 4 4 90])
  (.ret)))
  (.skip)))
  (.seq (.reg [.m 91 0, .m 92 1, .o 93 (.bin .add (.t 92) (.k (.c (.int .i64 1)))), .k 94 77 [(.t 91), (.t 93)], .o 8 (.box (.k (.agg [.c (.int .i64 0), .c (.str []), .c (.int .i64 0), .csl []]))), .s 4 8 94])
  (.seq (.dreg [.m 95 0, .n 96 95, .f 97 0 96, .l 98 97, .m 99 0, .n 100 99, .f 101 1 100, .l 102 101, .k 103 135 [(.t 98), (.t 102)], .o 9 (.box (.k (.agg [.c (.int .i64 0), .c (.str []), .c (.int .i64 0), .c (.int .i64 0)]))), .s 4 9 103]
    [⟨.o 9 (.box (.k (.agg [.c (.int .i64 0), .c (.str []), .c (.int .i64 0), .c (.int .i64 0)]))), true, 0⟩, .q (.m 95 0), .q (.n 96 95), .q (.f 97 0 96), .q (.l 98 97), .q (.m 99 0), .q (.n 100 99), .q (.f 101 1 100), .q (.l 102 101), .q (.k 103 135 [(.t 98), (.t 102)]), ⟨.s 4 9 103, true, 1⟩])
  (.seq (.seq (.reg [.m 104 0, .n 105 104, .f 106 2 105, .l 107 106, .o 108 (.bin .eql (.t 107) (.k (.c (.int .i64 0)))), .m 109 108, .y 110 (.fadd 0 (.t 9)) 109, .y 111 (.load1 (.t 110)) 109, .y 112 (.bin .neq (.t 111) (.k (.c (.int .i64 6)))) 109, .o 113 (.pick (.t 109) (.t 112) (.k (.c (.bool false))))])
  (.cond (.t 113)
  (.reg [.m 114 0, .f 115 3 9, .l 116 115, .k 117 138 [(.t 114), (.k (.c (.int .i64 50))), (.t 116)]])
  (.skip)))
  (.seq (.reg [.m 118 0, .n 119 118, .f 120 1 119, .l 121 120, .o 122 (.bin .add (.t 121) (.k (.c (.int .i64 1)))), .n 123 118, .f 124 1 123, .s 1 124 122])
  (.seq (.reg [.d 125 4 8, .s 4 4 125])
  (.ret)))))))))))))
def r136 : List ResV := [.celln 4 4]
theorem k136 : CodeIs Tryz.prog 136 2 Tryz.f136 c136 r136 := ⟨by kernel_rfl, Tryz.func136, rfl, by kernel_rfl, by kernel_rfl, by decide, enters_fn Tryz.func136 (by kernel_rfl) rfl⟩
/-- (*lambentref05.State).Type -/
def c77 : AC :=
  .seq (.reg [.o 4 (.box (.k (.agg [.c (.int .i64 0), .c (.str []), .c (.int .i64 0), .csl []])))])
  (.seq (.dreg [.m 9 0, .n 10 9, .f 11 0 10, .l 12 11, .m 13 0, .n 14 13, .f 15 1 14, .l 16 15, .k 17 135 [(.t 12), (.t 16)], .o 5 (.box (.k (.agg [.c (.int .i64 0), .c (.str []), .c (.int .i64 0), .c (.int .i64 0)]))), .s 4 5 17]
    [⟨.o 5 (.box (.k (.agg [.c (.int .i64 0), .c (.str []), .c (.int .i64 0), .c (.int .i64 0)]))), true, 0⟩, .q (.m 9 0), .q (.n 10 9), .q (.f 11 0 10), .q (.l 12 11), .q (.m 13 0), .q (.n 14 13), .q (.f 15 1 14), .q (.l 16 15), .q (.k 17 135 [(.t 12), (.t 16)]), ⟨.s 4 5 17, true, 1⟩])
  (.seq (.reg [.m 18 0, .m 19 1, .k 20 136 [(.t 18), (.t 19)], .o 6 (.box (.k (.agg [.c (.int .i64 0), .c (.str []), .c (.int .i64 0), .csl []]))), .s 4 6 20])
  (.seq (.seq (.reg [.f 21 0 5, .l 22 21, .o 23 (.bin .eql (.t 22) (.k (.c (.int .i64 1))))])
  (.cond (.t 23)
  (.block 0 (.loop (.seq (.seq (.reg [.m 24 0, .n 25 24, .f 26 2 25, .l 27 26, .o 28 (.bin .eql (.t 27) (.k (.c (.int .i64 0)))), .m 29 28, .y 30 (.mov (.t 0)) 29, .y 31 (.call (.k (.fn 137 [])) [(.t 30)]) 29, .o 32 (.pick (.t 29) (.t 31) (.k (.c (.bool false))))])
  (.cond (.t 32)
  (.skip)
  (.exit 0)))
  (.block 1 (.dreg [.f 33 3 6, .l 34 33, .m 35 0, .m 36 1, .k 37 136 [(.t 35), (.t 36)], .o 38 (.bsl 4 [(.t 37)]), .o 39 (.app 32 4 56 (.t 34) (.t 38)), .f 40 3 6, .s 1 40 39]
    [.q (.m 35 0), .q (.m 36 1), ⟨.k 37 136 [(.t 35), (.t 36)], true, 0⟩, .q (.f 33 3 6), .q (.l 34 33), ⟨.o 38 (.bsl 4 [(.t 37)]), false, 1⟩, ⟨.o 39 (.app 32 4 56 (.t 34) (.t 38)), true, 1⟩, ⟨.f 40 3 6, false, 2⟩, ⟨.s 1 40 39, true, 2⟩])))))
  (.skip)))
  (.seq (.dreg [.m 41 0, .n 42 41, .f 43 0 42, .l 44 43, .m 45 0, .n 46 45, .f 47 1 46, .l 48 47, .k 49 135 [(.t 44), (.t 48)], .o 7 (.box (.k (.agg [.c (.int .i64 0), .c (.str []), .c (.int .i64 0), .c (.int .i64 0)]))), .s 4 7 49]
    [⟨.o 7 (.box (.k (.agg [.c (.int .i64 0), .c (.str []), .c (.int .i64 0), .c (.int .i64 0)]))), true, 0⟩, .q (.m 41 0), .q (.n 42 41), .q (.f 43 0 42), .q (.l 44 43), .q (.m 45 0), .q (.n 46 45), .q (.f 47 1 46), .q (.l 48 47), .q (.k 49 135 [(.t 44), (.t 48)]), ⟨.s 4 7 49, true, 1⟩])
  (.seq (.seq (.reg [.m 50 0, .n 51 50, .f 52 2 51, .l 53 52, .o 54 (.bin .neq (.t 53) (.k (.c (.int .i64 0)))), .m 55 54, .z 56 (.fadd 0 (.t 7)) 55, .z 57 (.load1 (.t 56)) 55, .z 58 (.bin .neq (.t 57) (.k (.c (.int .i64 4)))) 55, .o 59 (.pick (.t 55) (.k (.c (.bool true))) (.t 58)), .m 60 59, .z 61 (.fadd 1 (.t 7)) 60, .z 62 (.load1 (.t 61)) 60, .z 63 (.bin .neq (.t 62) (.k (.c (.str [45, 62])))) 60, .o 64 (.pick (.t 60) (.k (.c (.bool true))) (.t 63))])
  (.cond (.t 64)
  (.seq (.reg [.d 65 4 6, .s 4 4 65])
  (.ret))
  (.skip)))
  (.seq (.seq (.reg [.m 66 1, .o 67 (.bin .add (.t 66) (.k (.c (.int .i64 1)))), .o 68 (.bin .gtr (.t 67) (.k (.c (.int .i64 200))))])
  (.cond (.t 68)
  (.seq (.reg [.m 69 0, .f 70 3 7, .l 71 70, .k 72 138 [(.t 69), (.k (.c (.int .i64 31))), (.t 71)]])
  (.seq (.reg [.o 73 (.build [.c (.int .i64 0), .c (.str []), .c (.int .i64 0), .csl []] []), .s 4 4 73])
  (.ret)))
  (.skip)))
  (.seq (.reg [.m 74 0, .n 75 74, .f 76 1 75, .l 77 76, .o 78 (.bin .add (.t 77) (.k (.c (.int .i64 1)))), .n 79 74, .f 80 1 79, .s 1 80 78])
  (.seq (.reg [.m 81 0, .m 82 1, .o 83 (.bin .add (.t 82) (.k (.c (.int .i64 1)))), .k 84 77 [(.t 81), (.t 83)], .o 8 (.box (.k (.agg [.c (.int .i64 0), .c (.str []), .c (.int .i64 0), .csl []]))), .s 4 8 84])
  (.seq (.reg [.d 85 4 6, .d 86 4 8, .o 87 (.bsl 4 [(.t 85), (.t 86)]), .o 88 (.build [.c (.int .i64 0), .c (.str []), .c (.int .i64 0), .csl []] [(0, 1, (.k (.c (.int .i64 2)))), (3, 1, (.t 87))]), .s 4 4 88])
  (.ret))))))))))
def r77 : List ResV := [.celln 4 4]
theorem k77 : CodeIs Tryz.prog 77 2 Tryz.f77 c77 r77 := ⟨by kernel_rfl, Tryz.func77, rfl, by kernel_rfl, by kernel_rfl, by decide, enters_fn Tryz.func77 (by kernel_rfl) rfl⟩
/-- lambentref05.Read -/
def c31 : AC :=
  .seq (.reg [.o 4 (.box (.k (.agg [.c (.int .i64 0), .c (.str []), .c (.int .i64 0), .csl []]))), .o 5 (.mov (.k (.c (.int .i64 0)))), .o 6 (.mov (.k (.c (.int .i64 0)))), .o 7 (.mov (.k (.c (.int .i64 0))))])
  (.seq (.reg [.m 10 0, .m 11 1, .o 12 (.build [.csl [], .c (.int .i64 0), .c (.int .i64 0), .c (.int .i64 0), .csl []] [(0, 1, (.t 10)), (1, 1, (.t 11))]), .o 13 (.box (.t 12)), .m 8 13])
  (.seq (.reg [.m 14 8, .k 15 77 [(.t 14), (.k (.c (.int .i64 0)))], .o 9 (.box (.k (.agg [.c (.int .i64 0), .c (.str []), .c (.int .i64 0), .csl []]))), .s 4 9 15])
  (.seq (.seq (.reg [.m 16 8, .n 17 16, .f 18 2 17, .l 19 18, .o 20 (.bin .neq (.t 19) (.k (.c (.int .i64 0))))])
  (.cond (.t 20)
  (.seq (.dreg [.o 21 (.build [.c (.int .i64 0), .c (.str []), .c (.int .i64 0), .csl []] []), .m 22 1, .m 23 8, .n 24 23, .f 25 2 24, .l 26 25, .m 27 8, .n 28 27, .f 29 3 28, .l 30 29, .s 4 4 21, .m 5 22, .m 6 26, .m 7 30]
    [.q (.o 21 (.build [.c (.int .i64 0), .c (.str []), .c (.int .i64 0), .csl []] [])), ⟨.s 4 4 21, true, 0⟩, .q (.m 22 1), .q (.m 23 8), .q (.n 24 23), .q (.f 25 2 24), .q (.l 26 25), .q (.m 27 8), .q (.n 28 27), .q (.f 29 3 28), .q (.l 30 29), ⟨.m 5 22, false, 1⟩, ⟨.m 6 26, false, 1⟩, ⟨.m 7 30, false, 1⟩])
  (.ret))
  (.skip)))
  (.seq (.dreg [.d 31 4 9, .m 32 8, .n 33 32, .f 34 1 33, .l 35 34, .s 4 4 31, .m 5 35, .o 6 (.mov (.k (.c (.int .i64 0)))), .o 7 (.mov (.k (.c (.int .i64 0))))]
    [.q (.d 31 4 9), ⟨.s 4 4 31, true, 0⟩, .q (.m 32 8), .q (.n 33 32), .q (.f 34 1 33), .q (.l 35 34), ⟨.m 5 35, false, 1⟩, ⟨.o 6 (.mov (.k (.c (.int .i64 0)))), false, 1⟩, ⟨.o 7 (.mov (.k (.c (.int .i64 0)))), false, 1⟩])
  (.ret)))))
def r31 : List ResV := [.celln 4 4, .tmp 5, .tmp 6, .tmp 7]
theorem k31 : CodeIs Tryz.prog 31 2 Tryz.f31 c31 r31 := ⟨by kernel_rfl, Tryz.func31, rfl, by kernel_rfl, by kernel_rfl, by decide, enters_fn Tryz.func31 (by kernel_rfl) rfl⟩
/-- lambentref05.Same -/
def c26 : AC :=
  .seq (.reg [.o 2 (.box (.t 0)), .o 3 (.box (.t 1)), .o 4 (.mov (.k (.c (.bool false))))])
  (.seq (.seq (.reg [.f 7 0 2, .l 8 7, .f 9 0 3, .l 10 9, .o 11 (.bin .neq (.t 8) (.t 10)), .m 12 11, .z 13 (.fadd 1 (.t 2)) 12, .z 14 (.load1 (.t 13)) 12, .z 15 (.fadd 1 (.t 3)) 12, .z 16 (.load1 (.t 15)) 12, .z 17 (.bin .neq (.t 14) (.t 16)) 12, .o 18 (.pick (.t 12) (.k (.c (.bool true))) (.t 17)), .m 19 18, .z 20 (.fadd 2 (.t 2)) 19, .z 21 (.load1 (.t 20)) 19, .z 22 (.fadd 2 (.t 3)) 19, .z 23 (.load1 (.t 22)) 19, .z 24 (.bin .neq (.t 21) (.t 23)) 19, .o 25 (.pick (.t 19) (.k (.c (.bool true))) (.t 24)), .m 26 25, .z 27 (.fadd 3 (.t 2)) 26, .z 28 (.load1 (.t 27)) 26, .z 29 (.lenr (.t 28)) 26, .z 30 (.fadd 3 (.t 3)) 26, .z 31 (.load1 (.t 30)) 26, .z 32 (.lenr (.t 31)) 26, .z 33 (.bin .neq (.t 29) (.t 32)) 26, .o 34 (.pick (.t 26) (.k (.c (.bool true))) (.t 33))])
  (.cond (.t 34)
  (.seq (.reg [.o 4 (.mov (.k (.c (.bool false))))])
  (.ret))
  (.skip)))
  (.seq (.seq (.reg [.o 5 (.mov (.k (.c (.int .i64 0))))])
  (.block 0 (.loop (.seq (.seq (.reg [.m 35 5, .f 36 3 2, .l 37 36, .o 38 (.lenr (.t 37)), .o 39 (.bin .lss (.t 35) (.t 38))])
  (.cond (.t 39)
  (.skip)
  (.exit 0)))
  (.seq (.block 1 (.seq (.dreg [.f 42 3 2, .l 43 42, .m 44 5, .o 45 (.iadd 4 (.t 43) (.t 44)), .d 46 4 45, .f 47 3 3, .l 48 47, .m 49 5, .o 50 (.iadd 4 (.t 48) (.t 49)), .d 51 4 50, .k 52 26 [(.t 46), (.t 51)], .m 6 52]
    [.q (.f 42 3 2), .q (.l 43 42), .q (.m 44 5), .q (.o 45 (.iadd 4 (.t 43) (.t 44))), .q (.d 46 4 45), .q (.f 47 3 3), .q (.l 48 47), .q (.m 49 5), .q (.o 50 (.iadd 4 (.t 48) (.t 49))), .q (.d 51 4 50), ⟨.k 52 26 [(.t 46), (.t 51)], true, 0⟩, ⟨.m 6 52, false, 1⟩])
  (.seq (.reg [.m 53 6, .o 54 (.un .not (.t 53))])
  (.cond (.t 54)
  (.seq (.reg [.o 4 (.mov (.k (.c (.bool false))))])
  (.ret))
  (.skip)))))
  (.reg [.m 40 5, .o 41 (.bin .add (.t 40) (.k (.c (.int .i64 1)))), .m 5 41]))))))
  (.seq (.reg [.o 4 (.mov (.k (.c (.bool true))))])
  (.ret))))
def r26 : List ResV := [.tmp 4]
theorem k26 : CodeIs Tryz.prog 26 2 Tryz.f26 c26 r26 := ⟨by kernel_rfl, Tryz.func26, rfl, by kernel_rfl, by kernel_rfl, by decide, enters_fn Tryz.func26 (by kernel_rfl) rfl⟩
end Go.Proofs.YtlogjjnimlnpkaaGreatDoor
namespace Go.Proofs.YtlogjjnimlnpkaaGreatDoor
open Go.RowKit Go.Lamb
/-- lambentref03.Tok -/
def c135 : AC :=
  .seq (.reg [.o 4 (.box (.k (.agg [.c (.int .i64 0), .c (.str []), .c (.int .i64 0), .c (.int .i64 0)])))])
  (.seq (.seq (.reg [.m 6 1, .o 7 (.bin .geq (.t 6) (.k (.c (.int .i64 0)))), .m 8 7, .y 9 (.mov (.t 1)) 8, .y 10 (.mov (.t 0)) 8, .y 11 (.lenr (.t 10)) 8, .y 12 (.bin .lss (.t 9) (.t 11)) 8, .o 13 (.pick (.t 8) (.t 12) (.k (.c (.bool false))))])
  (.cond (.t 13)
  (.seq (.reg [.m 14 0, .m 15 1, .o 16 (.iadd 4 (.t 14) (.t 15)), .d 17 4 16, .s 4 4 17])
  (.ret))
  (.skip)))
  (.seq (.reg [.o 5 (.mov (.k (.c (.int .i64 0))))])
  (.seq (.seq (.reg [.m 18 0, .o 19 (.lenr (.t 18)), .o 20 (.bin .gtr (.t 19) (.k (.c (.int .i64 0))))])
  (.cond (.t 20)
  (.reg [.m 21 0, .m 22 0, .o 23 (.lenr (.t 22)), .o 24 (.bin .sub (.t 23) (.k (.c (.int .i64 1)))), .o 25 (.iadd 4 (.t 21) (.t 24)), .f 26 3 25, .l 27 26, .m 5 27])
  (.skip)))
  (.seq (.reg [.m 28 5, .o 29 (.build [.c (.int .i64 0), .c (.str []), .c (.int .i64 0), .c (.int .i64 0)] [(3, 1, (.t 28))]), .s 4 4 29])
  (.ret)))))
def r135 : List ResV := [.celln 4 4]
theorem k135 : CodeIs Tryz.prog 135 2 Tryz.f135 c135 r135 := ⟨by kernel_rfl, Tryz.func135, rfl, by kernel_rfl, by kernel_rfl, by decide, enters_fn Tryz.func135 (by kernel_rfl) rfl⟩
/-- (*lambentref03.State).fail -/
def c273 : AC :=
  .seq (.reg [.m 6 0, .n 7 6, .f 8 3 7, .l 9 8, .o 10 (.bin .eql (.t 9) (.k (.c (.int .i64 0))))])
  (.cond (.t 10)
  (.seq (.reg [.m 11 0, .m 12 1, .n 13 11, .f 14 3 13, .s 1 14 12])
  (.reg [.m 15 0, .m 16 2, .n 17 15, .f 18 4 17, .s 1 18 16]))
  (.skip))
def r273 : List ResV := []
theorem k273 : CodeIs Tryz.prog 273 3 Tryz.f273 c273 r273 := ⟨by kernel_rfl, Tryz.func273, rfl, by kernel_rfl, by kernel_rfl, by decide, enters_fn Tryz.func273 (by kernel_rfl) rfl⟩
/-- (*lambentref03.State).begins -/
def c284 : AC :=
  .seq (.reg [.o 2 (.mov (.k (.c (.bool false))))])
  (.seq (.dreg [.m 6 0, .n 7 6, .f 8 1 7, .l 9 8, .m 10 0, .n 11 10, .f 12 2 11, .l 13 12, .k 14 135 [(.t 9), (.t 13)], .o 3 (.box (.k (.agg [.c (.int .i64 0), .c (.str []), .c (.int .i64 0), .c (.int .i64 0)]))), .s 4 3 14]
    [⟨.o 3 (.box (.k (.agg [.c (.int .i64 0), .c (.str []), .c (.int .i64 0), .c (.int .i64 0)]))), true, 0⟩, .q (.m 6 0), .q (.n 7 6), .q (.f 8 1 7), .q (.l 9 8), .q (.m 10 0), .q (.n 11 10), .q (.f 12 2 11), .q (.l 13 12), .q (.k 14 135 [(.t 9), (.t 13)]), ⟨.s 4 3 14, true, 1⟩])
  (.seq (.dreg [.m 16 0, .n 17 16, .f 18 0 17, .l 19 18, .d 20 4 3, .k 21 271 [(.t 19), (.t 20)], .m 15 21, .x 22 15 0, .x 23 15 1, .o 4 (.box (.k (.agg [.c (.str []), .c (.int .i64 0), .c (.int .i64 0)]))), .s 3 4 22, .m 5 23]
    [⟨.o 4 (.box (.k (.agg [.c (.str []), .c (.int .i64 0), .c (.int .i64 0)]))), true, 0⟩, .q (.m 16 0), .q (.n 17 16), .q (.f 18 0 17), .q (.l 19 18), .q (.d 20 4 3), .q (.k 21 271 [(.t 19), (.t 20)]), .q (.m 15 21), .q (.x 22 15 0), ⟨.s 3 4 22, true, 1⟩, .q (.x 23 15 1), ⟨.m 5 23, false, 2⟩])
  (.seq (.seq (.reg [.f 24 0 3, .l 25 24, .o 26 (.bin .eql (.t 25) (.k (.c (.int .i64 1)))), .m 27 26, .z 28 (.fadd 0 (.t 3)) 27, .z 29 (.load1 (.t 28)) 27, .z 30 (.bin .eql (.t 29) (.k (.c (.int .i64 4)))) 27, .o 31 (.pick (.t 27) (.k (.c (.bool true))) (.t 30))])
  (.cond (.t 31)
  (.seq (.reg [.m 32 5, .o 33 (.un .not (.t 32)), .m 2 33])
  (.ret))
  (.skip)))
  (.seq (.reg [.f 34 0 3, .l 35 34, .o 36 (.bin .eql (.t 35) (.k (.c (.int .i64 2)))), .m 37 36, .z 38 (.fadd 0 (.t 3)) 37, .z 39 (.load1 (.t 38)) 37, .z 40 (.bin .eql (.t 39) (.k (.c (.int .i64 3)))) 37, .o 41 (.pick (.t 37) (.k (.c (.bool true))) (.t 40)), .m 42 41, .z 43 (.fadd 0 (.t 3)) 42, .z 44 (.load1 (.t 43)) 42, .z 45 (.bin .eql (.t 44) (.k (.c (.int .i64 5)))) 42, .o 46 (.pick (.t 42) (.k (.c (.bool true))) (.t 45)), .m 2 46])
  (.ret)))))
def r284 : List ResV := [.tmp 2]
theorem k284 : CodeIs Tryz.prog 284 1 Tryz.f284 c284 r284 := ⟨by kernel_rfl, Tryz.func284, rfl, by kernel_rfl, by kernel_rfl, by decide, enters_fn Tryz.func284 (by kernel_rfl) rfl⟩
/-- (*lambentref03.State).deep -/
def c274 : AC :=
  .seq (.reg [.o 6 (.mov (.k (.c (.bool false))))])
  (.seq (.seq (.reg [.m 7 1, .o 8 (.bin .add (.t 7) (.k (.c (.int .i64 1)))), .o 9 (.bin .gtr (.t 8) (.k (.c (.int .i64 200))))])
  (.cond (.t 9)
  (.seq (.reg [.m 10 0, .m 11 2, .k 12 273 [(.t 10), (.k (.c (.int .i64 31))), (.t 11)]])
  (.seq (.reg [.o 6 (.mov (.k (.c (.bool false))))])
  (.ret)))
  (.skip)))
  (.seq (.reg [.o 6 (.mov (.k (.c (.bool true))))])
  (.ret)))
def r274 : List ResV := [.tmp 6]
theorem k274 : CodeIs Tryz.prog 274 3 Tryz.f274 c274 r274 := ⟨by kernel_rfl, Tryz.func274, rfl, by kernel_rfl, by kernel_rfl, by decide, enters_fn Tryz.func274 (by kernel_rfl) rfl⟩
/-- (*lambentref03.State).Atom -/
def c283 : AC :=
  .seq (.reg [.o 4 (.box (.k (.agg [.c (.int .i64 0), .c (.str []), .c (.int .i64 0), .csl [], .c (.int .i64 0)]))), .o 5 (.mov (.k (.c (.bool false))))])
  (.seq (.dreg [.m 17 0, .n 18 17, .f 19 1 18, .l 20 19, .m 21 0, .n 22 21, .f 23 2 22, .l 24 23, .k 25 135 [(.t 20), (.t 24)], .o 6 (.box (.k (.agg [.c (.int .i64 0), .c (.str []), .c (.int .i64 0), .c (.int .i64 0)]))), .s 4 6 25]
    [⟨.o 6 (.box (.k (.agg [.c (.int .i64 0), .c (.str []), .c (.int .i64 0), .c (.int .i64 0)]))), true, 0⟩, .q (.m 17 0), .q (.n 18 17), .q (.f 19 1 18), .q (.l 20 19), .q (.m 21 0), .q (.n 22 21), .q (.f 23 2 22), .q (.l 24 23), .q (.k 25 135 [(.t 20), (.t 24)]), ⟨.s 4 6 25, true, 1⟩])
  (.seq (.reg [.m 26 0, .k 27 284 [(.t 26)], .m 7 27])
  (.seq (.seq (.reg [.m 28 7, .o 29 (.un .not (.t 28))])
  (.cond (.t 29)
  (.seq (.reg [.m 30 0, .f 31 3 6, .l 32 31, .k 33 273 [(.t 30), (.k (.c (.int .i64 30))), (.t 32)]])
  (.seq (.reg [.o 34 (.build [.c (.int .i64 0), .c (.str []), .c (.int .i64 0), .csl [], .c (.int .i64 0)] []), .s 5 4 34, .o 5 (.mov (.k (.c (.bool false))))])
  (.ret)))
  (.skip)))
  (.seq (.dreg [.m 35 0, .n 36 35, .f 37 1 36, .l 38 37, .m 39 0, .n 40 39, .f 41 2 40, .l 42 41, .o 43 (.bin .add (.t 42) (.k (.c (.int .i64 1)))), .k 44 135 [(.t 38), (.t 43)], .o 8 (.box (.k (.agg [.c (.int .i64 0), .c (.str []), .c (.int .i64 0), .c (.int .i64 0)]))), .s 4 8 44]
    [⟨.o 8 (.box (.k (.agg [.c (.int .i64 0), .c (.str []), .c (.int .i64 0), .c (.int .i64 0)]))), true, 0⟩, .q (.m 35 0), .q (.n 36 35), .q (.f 37 1 36), .q (.l 38 37), .q (.m 39 0), .q (.n 40 39), .q (.f 41 2 40), .q (.l 42 41), .q (.o 43 (.bin .add (.t 42) (.k (.c (.int .i64 1))))), .q (.k 44 135 [(.t 38), (.t 43)]), ⟨.s 4 8 44, true, 1⟩])
  (.seq (.seq (.reg [.f 45 0 6, .l 46 45])
  (.block 0 (.seq (.reg [.o 48 (.bin .eql (.t 46) (.k (.c (.int .i64 3)))), .m 47 48])
  (.cond (.t 47)
  (.seq (.reg [.m 49 0, .n 50 49, .f 51 2 50, .l 52 51, .o 53 (.bin .add (.t 52) (.k (.c (.int .i64 1)))), .n 54 49, .f 55 2 54, .s 1 55 53])
  (.seq (.reg [.f 56 2 6, .l 57 56, .f 58 3 6, .l 59 58, .o 60 (.build [.c (.int .i64 0), .c (.str []), .c (.int .i64 0), .csl [], .c (.int .i64 0)] [(0, 1, (.k (.c (.int .i64 2)))), (2, 1, (.t 57)), (4, 1, (.t 59))]), .s 5 4 60, .o 5 (.mov (.k (.c (.bool false))))])
  (.ret)))
  (.seq (.reg [.o 62 (.bin .eql (.t 46) (.k (.c (.int .i64 4)))), .m 61 62])
  (.cond (.t 61)
  (.seq (.reg [.m 63 0, .n 64 63, .f 65 2 64, .l 66 65, .o 67 (.bin .add (.t 66) (.k (.c (.int .i64 1)))), .n 68 63, .f 69 2 68, .s 1 69 67])
  (.seq (.reg [.f 70 1 6, .l 71 70, .f 72 3 6, .l 73 72, .o 74 (.build [.c (.int .i64 0), .c (.str []), .c (.int .i64 0), .csl [], .c (.int .i64 0)] [(0, 1, (.k (.c (.int .i64 0)))), (1, 1, (.t 71)), (4, 1, (.t 73))]), .s 5 4 74, .o 5 (.mov (.k (.c (.bool false))))])
  (.ret)))
  (.seq (.reg [.o 76 (.bin .eql (.t 46) (.k (.c (.int .i64 5)))), .m 75 76])
  (.cond (.t 75)
  (.seq (.dreg [.m 78 0, .n 79 78, .f 80 0 79, .l 81 80, .d 82 4 8, .k 83 271 [(.t 81), (.t 82)], .m 77 83, .x 84 77 0, .x 85 77 1, .o 9 (.box (.k (.agg [.c (.str []), .c (.int .i64 0), .c (.int .i64 0)]))), .s 3 9 84, .m 10 85]
    [⟨.o 9 (.box (.k (.agg [.c (.str []), .c (.int .i64 0), .c (.int .i64 0)]))), true, 0⟩, .q (.m 78 0), .q (.n 79 78), .q (.f 80 0 79), .q (.l 81 80), .q (.d 82 4 8), .q (.k 83 271 [(.t 81), (.t 82)]), .q (.m 77 83), .q (.x 84 77 0), ⟨.s 3 9 84, true, 1⟩, .q (.x 85 77 1), ⟨.m 10 85, false, 2⟩])
  (.seq (.seq (.dreg [.m 86 10, .m 87 86, .y 88 (.mov (.t 0)) 87, .y 89 (.nilck (.t 88)) 87, .y 90 (.fadd 1 (.t 89)) 87, .y 91 (.load1 (.t 90)) 87, .y 92 (.mov (.t 0)) 87, .y 93 (.nilck (.t 92)) 87, .y 94 (.fadd 2 (.t 93)) 87, .y 95 (.load1 (.t 94)) 87, .y 96 (.bin .add (.t 95) (.k (.c (.int .i64 2)))) 87, .y 97 (.call (.k (.fn 135 [])) [(.t 91), (.t 96)]) 87, .y 98 (.field1 0 (.t 97)) 87, .y 99 (.bin .eql (.t 98) (.k (.c (.int .i64 6)))) 87, .o 100 (.pick (.t 87) (.t 99) (.k (.c (.bool false))))]
    [.q (.m 86 10), .q (.m 87 86), .q (.y 88 (.mov (.t 0)) 87), .q (.y 89 (.nilck (.t 88)) 87), .q (.y 90 (.fadd 1 (.t 89)) 87), .q (.y 91 (.load1 (.t 90)) 87), .q (.y 92 (.mov (.t 0)) 87), .q (.y 93 (.nilck (.t 92)) 87), .q (.y 94 (.fadd 2 (.t 93)) 87), .q (.y 95 (.load1 (.t 94)) 87), .q (.y 96 (.bin .add (.t 95) (.k (.c (.int .i64 2)))) 87), ⟨.y 97 (.call (.k (.fn 135 [])) [(.t 91), (.t 96)]) 87, true, 0⟩, ⟨.y 98 (.field1 0 (.t 97)) 87, false, 1⟩, ⟨.y 99 (.bin .eql (.t 98) (.k (.c (.int .i64 6)))) 87, false, 1⟩, ⟨.o 100 (.pick (.t 87) (.t 99) (.k (.c (.bool false)))), false, 1⟩])
  (.cond (.t 100)
  (.seq (.reg [.m 101 0, .m 102 0, .n 103 102, .f 104 2 103, .l 105 104, .o 106 (.bin .add (.t 105) (.k (.c (.int .i64 3)))), .n 107 101, .f 108 2 107, .s 1 108 106])
  (.seq (.reg [.f 109 1 8, .l 110 109, .f 111 3 8, .l 112 111, .o 113 (.build [.c (.int .i64 0), .c (.str []), .c (.int .i64 0), .csl [], .c (.int .i64 0)] [(0, 1, (.k (.c (.int .i64 0)))), (1, 1, (.t 110)), (4, 1, (.t 112))]), .s 5 4 113, .o 5 (.mov (.k (.c (.bool false))))])
  (.ret)))
  (.skip)))
  (.seq (.reg [.m 114 0, .m 115 1, .f 116 3 6, .l 117 116, .k 118 274 [(.t 114), (.t 115), (.t 117)], .m 11 118])
  (.seq (.seq (.reg [.m 119 11, .o 120 (.un .not (.t 119))])
  (.cond (.t 120)
  (.seq (.reg [.o 121 (.build [.c (.int .i64 0), .c (.str []), .c (.int .i64 0), .csl [], .c (.int .i64 0)] []), .s 5 4 121, .o 5 (.mov (.k (.c (.bool false))))])
  (.ret))
  (.skip)))
  (.seq (.reg [.m 122 0, .n 123 122, .f 124 2 123, .l 125 124, .o 126 (.bin .add (.t 125) (.k (.c (.int .i64 1)))), .n 127 122, .f 128 2 127, .s 1 128 126])
  (.seq (.reg [.m 129 0, .m 130 1, .o 131 (.bin .add (.t 130) (.k (.c (.int .i64 1)))), .k 132 250 [(.t 129), (.k (.c (.int .i64 0))), (.t 131)], .o 12 (.box (.k (.agg [.c (.int .i64 0), .c (.str []), .c (.int .i64 0), .csl [], .c (.int .i64 0), .c (.bool false), .c (.str []), .c (.int .i64 0), .c (.int .i64 0), .c (.int .i64 0)]))), .s 10 12 132])
  (.seq (.seq (.reg [.m 133 0, .n 134 133, .f 135 3 134, .l 136 135, .o 137 (.bin .neq (.t 136) (.k (.c (.int .i64 0))))])
  (.cond (.t 137)
  (.seq (.reg [.o 138 (.build [.c (.int .i64 0), .c (.str []), .c (.int .i64 0), .csl [], .c (.int .i64 0)] []), .s 5 4 138, .o 5 (.mov (.k (.c (.bool false))))])
  (.ret))
  (.skip)))
  (.seq (.dreg [.m 139 0, .n 140 139, .f 141 1 140, .l 142 141, .m 143 0, .n 144 143, .f 145 2 144, .l 146 145, .k 147 135 [(.t 142), (.t 146)], .o 13 (.box (.k (.agg [.c (.int .i64 0), .c (.str []), .c (.int .i64 0), .c (.int .i64 0)]))), .s 4 13 147]
    [⟨.o 13 (.box (.k (.agg [.c (.int .i64 0), .c (.str []), .c (.int .i64 0), .c (.int .i64 0)]))), true, 0⟩, .q (.m 139 0), .q (.n 140 139), .q (.f 141 1 140), .q (.l 142 141), .q (.m 143 0), .q (.n 144 143), .q (.f 145 2 144), .q (.l 146 145), .q (.k 147 135 [(.t 142), (.t 146)]), ⟨.s 4 13 147, true, 1⟩])
  (.seq (.seq (.reg [.f 148 0 13, .l 149 148, .o 150 (.bin .neq (.t 149) (.k (.c (.int .i64 6))))])
  (.cond (.t 150)
  (.seq (.reg [.m 151 0, .f 152 3 13, .l 153 152, .k 154 273 [(.t 151), (.k (.c (.int .i64 30))), (.t 153)]])
  (.seq (.reg [.o 155 (.build [.c (.int .i64 0), .c (.str []), .c (.int .i64 0), .csl [], .c (.int .i64 0)] []), .s 5 4 155, .o 5 (.mov (.k (.c (.bool false))))])
  (.ret)))
  (.skip)))
  (.seq (.reg [.m 156 0, .n 157 156, .f 158 2 157, .l 159 158, .o 160 (.bin .add (.t 159) (.k (.c (.int .i64 1)))), .n 161 156, .f 162 2 161, .s 1 162 160])
  (.seq (.reg [.f 163 0 12, .d 164 5 163, .s 5 4 164, .o 5 (.mov (.k (.c (.bool false))))])
  (.ret))))))))))))
  (.skip)))))))))
  (.seq (.seq (.reg [.f 165 0 8, .l 166 165, .o 167 (.bin .eql (.t 166) (.k (.c (.int .i64 8))))])
  (.cond (.t 167)
  (.seq (.reg [.m 168 0, .m 169 1, .f 170 3 6, .l 171 170, .k 172 274 [(.t 168), (.t 169), (.t 171)], .m 14 172])
  (.seq (.seq (.reg [.m 173 14, .o 174 (.un .not (.t 173))])
  (.cond (.t 174)
  (.seq (.reg [.o 175 (.build [.c (.int .i64 0), .c (.str []), .c (.int .i64 0), .csl [], .c (.int .i64 0)] []), .s 5 4 175, .o 5 (.mov (.k (.c (.bool false))))])
  (.ret))
  (.skip)))
  (.seq (.reg [.m 176 0, .m 177 0, .n 178 177, .f 179 2 178, .l 180 179, .o 181 (.bin .add (.t 180) (.k (.c (.int .i64 2)))), .n 182 176, .f 183 2 182, .s 1 183 181])
  (.seq (.reg [.m 184 0, .m 185 1, .o 186 (.bin .add (.t 185) (.k (.c (.int .i64 1)))), .k 187 250 [(.t 184), (.k (.c (.int .i64 0))), (.t 186)], .o 15 (.box (.k (.agg [.c (.int .i64 0), .c (.str []), .c (.int .i64 0), .csl [], .c (.int .i64 0), .c (.bool false), .c (.str []), .c (.int .i64 0), .c (.int .i64 0), .c (.int .i64 0)]))), .s 10 15 187])
  (.seq (.reg [.f 188 1 6, .l 189 188, .f 190 0 15, .d 191 5 190, .o 192 (.bsl 5 [(.t 191)]), .f 193 3 6, .l 194 193, .o 195 (.build [.c (.int .i64 0), .c (.str []), .c (.int .i64 0), .csl [], .c (.int .i64 0)] [(0, 1, (.k (.c (.int .i64 4)))), (1, 1, (.t 189)), (3, 1, (.t 192)), (4, 1, (.t 194))]), .s 5 4 195, .o 5 (.mov (.k (.c (.bool true))))])
  (.ret))))))
  (.skip)))
  (.seq (.reg [.m 196 0, .n 197 196, .f 198 2 197, .l 199 198, .o 200 (.bin .add (.t 199) (.k (.c (.int .i64 1)))), .n 201 196, .f 202 2 201, .s 1 202 200])
  (.seq (.reg [.o 16 (.mov (.k (.c (.int .i64 0))))])
  (.seq (.seq (.reg [.f 203 0 6, .l 204 203, .o 205 (.bin .eql (.t 204) (.k (.c (.int .i64 2))))])
  (.cond (.t 205)
  (.reg [.o 16 (.mov (.k (.c (.int .i64 1))))])
  (.skip)))
  (.seq (.reg [.m 206 16, .f 207 1 6, .l 208 207, .f 209 3 6, .l 210 209, .o 211 (.build [.c (.int .i64 0), .c (.str []), .c (.int .i64 0), .csl [], .c (.int .i64 0)] [(0, 1, (.t 206)), (1, 1, (.t 208)), (4, 1, (.t 210))]), .s 5 4 211, .o 5 (.mov (.k (.c (.bool false))))])
  (.ret)))))))))))
def r283 : List ResV := [.celln 5 4, .tmp 5]
theorem k283 : CodeIs Tryz.prog 283 2 Tryz.f283 c283 r283 := ⟨by kernel_rfl, Tryz.func283, rfl, by kernel_rfl, by kernel_rfl, by decide, enters_fn Tryz.func283 (by kernel_rfl) rfl⟩
/-- (*lambentref03.State).Operand -/
def c270 : AC :=
  .seq (.reg [.o 4 (.box (.k (.agg [.c (.int .i64 0), .c (.str []), .c (.int .i64 0), .csl [], .c (.int .i64 0)])))])
  (.seq (.reg [.m 11 0, .m 12 1, .k 13 283 [(.t 11), (.t 12)], .m 10 13, .x 14 10 0, .x 15 10 1, .o 5 (.box (.k (.agg [.c (.int .i64 0), .c (.str []), .c (.int .i64 0), .csl [], .c (.int .i64 0)]))), .s 5 5 14, .m 6 15])
  (.seq (.reg [.f 16 4 5, .l 17 16, .m 7 17])
  (.seq (.block 0 (.loop (.seq (.seq (.reg [.m 18 0, .n 19 18, .f 20 3 19, .l 21 20, .o 22 (.bin .eql (.t 21) (.k (.c (.int .i64 0)))), .m 23 22, .y 24 (.mov (.t 6)) 23, .y 25 (.un .not (.t 24)) 23, .o 26 (.pick (.t 23) (.t 25) (.k (.c (.bool false)))), .m 27 26, .y 28 (.mov (.t 0)) 27, .y 29 (.call (.k (.fn 284 [])) [(.t 28)]) 27, .o 30 (.pick (.t 27) (.t 29) (.k (.c (.bool false))))])
  (.cond (.t 30)
  (.skip)
  (.exit 0)))
  (.block 1 (.seq (.reg [.m 32 0, .m 33 1, .k 34 283 [(.t 32), (.t 33)], .m 31 34, .x 35 31 0, .x 36 31 1, .o 8 (.box (.k (.agg [.c (.int .i64 0), .c (.str []), .c (.int .i64 0), .csl [], .c (.int .i64 0)]))), .s 5 8 35, .m 9 36])
  (.seq (.reg [.d 37 5 5, .d 38 5 8, .o 39 (.bsl 5 [(.t 37), (.t 38)]), .m 40 7, .o 41 (.build [.c (.int .i64 0), .c (.str []), .c (.int .i64 0), .csl [], .c (.int .i64 0)] [(0, 1, (.k (.c (.int .i64 3)))), (3, 1, (.t 39)), (4, 1, (.t 40))]), .s 5 5 41])
  (.reg [.m 42 9, .m 6 42])))))))
  (.seq (.reg [.d 43 5 5, .s 5 4 43])
  (.ret)))))
def r270 : List ResV := [.celln 5 4]
theorem k270 : CodeIs Tryz.prog 270 2 Tryz.f270 c270 r270 := ⟨by kernel_rfl, Tryz.func270, rfl, by kernel_rfl, by kernel_rfl, by decide, enters_fn Tryz.func270 (by kernel_rfl) rfl⟩
/-- (*lambentref03.State).Expr -/
def c250 : AC :=
  .seq (.reg [.o 6 (.box (.k (.agg [.c (.int .i64 0), .c (.str []), .c (.int .i64 0), .csl [], .c (.int .i64 0), .c (.bool false), .c (.str []), .c (.int .i64 0), .c (.int .i64 0), .c (.int .i64 0)])))])
  (.seq (.reg [.m 15 0, .m 16 2, .k 17 270 [(.t 15), (.t 16)], .o 18 (.build [.c (.int .i64 0), .c (.str []), .c (.int .i64 0), .csl [], .c (.int .i64 0), .c (.bool false), .c (.str []), .c (.int .i64 0), .c (.int .i64 0), .c (.int .i64 0)] [(0, 5, (.t 17))]), .o 7 (.box (.k (.agg [.c (.int .i64 0), .c (.str []), .c (.int .i64 0), .csl [], .c (.int .i64 0), .c (.bool false), .c (.str []), .c (.int .i64 0), .c (.int .i64 0), .c (.int .i64 0)]))), .s 10 7 18])
  (.seq (.block 0 (.loop (.seq (.seq (.reg [.m 19 0, .n 20 19, .f 21 3 20, .l 22 21, .o 23 (.bin .eql (.t 22) (.k (.c (.int .i64 0))))])
  (.cond (.t 23)
  (.skip)
  (.exit 0)))
  (.block 1 (.seq (.dreg [.m 24 0, .n 25 24, .f 26 1 25, .l 27 26, .m 28 0, .n 29 28, .f 30 2 29, .l 31 30, .k 32 135 [(.t 27), (.t 31)], .o 8 (.box (.k (.agg [.c (.int .i64 0), .c (.str []), .c (.int .i64 0), .c (.int .i64 0)]))), .s 4 8 32]
    [⟨.o 8 (.box (.k (.agg [.c (.int .i64 0), .c (.str []), .c (.int .i64 0), .c (.int .i64 0)]))), true, 0⟩, .q (.m 24 0), .q (.n 25 24), .q (.f 26 1 25), .q (.l 27 26), .q (.m 28 0), .q (.n 29 28), .q (.f 30 2 29), .q (.l 31 30), .q (.k 32 135 [(.t 27), (.t 31)]), ⟨.s 4 8 32, true, 1⟩])
  (.seq (.dreg [.m 34 0, .n 35 34, .f 36 0 35, .l 37 36, .d 38 4 8, .k 39 271 [(.t 37), (.t 38)], .m 33 39, .x 40 33 0, .x 41 33 1, .o 9 (.box (.k (.agg [.c (.str []), .c (.int .i64 0), .c (.int .i64 0)]))), .s 3 9 40, .m 10 41]
    [⟨.o 9 (.box (.k (.agg [.c (.str []), .c (.int .i64 0), .c (.int .i64 0)]))), true, 0⟩, .q (.m 34 0), .q (.n 35 34), .q (.f 36 0 35), .q (.l 37 36), .q (.d 38 4 8), .q (.k 39 271 [(.t 37), (.t 38)]), .q (.m 33 39), .q (.x 40 33 0), ⟨.s 3 9 40, true, 1⟩, .q (.x 41 33 1), ⟨.m 10 41, false, 2⟩])
  (.seq (.seq (.reg [.m 42 10, .o 43 (.un .not (.t 42)), .m 44 43, .z 45 (.fadd 1 (.t 9)) 44, .z 46 (.load1 (.t 45)) 44, .z 47 (.mov (.t 1)) 44, .z 48 (.bin .lss (.t 46) (.t 47)) 44, .o 49 (.pick (.t 44) (.k (.c (.bool true))) (.t 48))])
  (.cond (.t 49)
  (.seq (.reg [.d 50 10 7, .s 10 6 50])
  (.ret))
  (.skip)))
  (.seq (.seq (.reg [.f 51 5 7, .l 52 51, .m 53 52, .y 54 (.loadn 3 (.t 9)) 53, .y 55 (.fadd 6 (.t 7)) 53, .y 56 (.loadn 3 (.t 55)) 53, .y 57 (.call (.k (.fn 272 [])) [(.t 54), (.t 56)]) 53, .y 58 (.un .not (.t 57)) 53, .o 59 (.pick (.t 53) (.t 58) (.k (.c (.bool false))))])
  (.cond (.t 59)
  (.seq (.reg [.m 60 0, .f 61 3 8, .l 62 61, .k 63 273 [(.t 60), (.k (.c (.int .i64 32))), (.t 62)]])
  (.seq (.reg [.o 64 (.build [.c (.int .i64 0), .c (.str []), .c (.int .i64 0), .csl [], .c (.int .i64 0), .c (.bool false), .c (.str []), .c (.int .i64 0), .c (.int .i64 0), .c (.int .i64 0)] []), .s 10 6 64])
  (.ret)))
  (.skip)))
  (.seq (.reg [.m 65 0, .m 66 2, .f 67 3 8, .l 68 67, .k 69 274 [(.t 65), (.t 66), (.t 68)], .m 11 69])
  (.seq (.seq (.reg [.m 70 11, .o 71 (.un .not (.t 70))])
  (.cond (.t 71)
  (.seq (.reg [.o 72 (.build [.c (.int .i64 0), .c (.str []), .c (.int .i64 0), .csl [], .c (.int .i64 0), .c (.bool false), .c (.str []), .c (.int .i64 0), .c (.int .i64 0), .c (.int .i64 0)] []), .s 10 6 72])
  (.ret))
  (.skip)))
  (.seq (.reg [.m 73 0, .n 74 73, .f 75 2 74, .l 76 75, .o 77 (.bin .add (.t 76) (.k (.c (.int .i64 1)))), .n 78 73, .f 79 2 78, .s 1 79 77])
  (.seq (.reg [.f 80 1 9, .l 81 80, .o 82 (.bin .add (.t 81) (.k (.c (.int .i64 1)))), .m 12 82])
  (.seq (.seq (.reg [.f 83 2 9, .l 84 83, .o 85 (.bin .eql (.t 84) (.k (.c (.int .i64 2))))])
  (.cond (.t 85)
  (.reg [.f 86 1 9, .l 87 86, .m 12 87])
  (.skip)))
  (.seq (.reg [.m 88 0, .m 89 12, .m 90 2, .o 91 (.bin .add (.t 90) (.k (.c (.int .i64 1)))), .k 92 250 [(.t 88), (.t 89), (.t 91)], .o 13 (.box (.k (.agg [.c (.int .i64 0), .c (.str []), .c (.int .i64 0), .csl [], .c (.int .i64 0), .c (.bool false), .c (.str []), .c (.int .i64 0), .c (.int .i64 0), .c (.int .i64 0)]))), .s 10 13 92])
  (.seq (.seq (.reg [.m 93 0, .n 94 93, .f 95 3 94, .l 96 95, .o 97 (.bin .neq (.t 96) (.k (.c (.int .i64 0))))])
  (.cond (.t 97)
  (.seq (.reg [.o 98 (.build [.c (.int .i64 0), .c (.str []), .c (.int .i64 0), .csl [], .c (.int .i64 0), .c (.bool false), .c (.str []), .c (.int .i64 0), .c (.int .i64 0), .c (.int .i64 0)] []), .s 10 6 98])
  (.ret))
  (.skip)))
  (.seq (.seq (.reg [.f 99 5 13, .l 100 99, .m 101 100, .y 102 (.loadn 3 (.t 9)) 101, .y 103 (.fadd 6 (.t 13)) 101, .y 104 (.loadn 3 (.t 103)) 101, .y 105 (.call (.k (.fn 275 [])) [(.t 102), (.t 104)]) 101, .y 106 (.un .not (.t 105)) 101, .o 107 (.pick (.t 101) (.t 106) (.k (.c (.bool false))))])
  (.cond (.t 107)
  (.seq (.reg [.m 108 0, .f 109 9 13, .l 110 109, .k 111 273 [(.t 108), (.k (.c (.int .i64 32))), (.t 110)]])
  (.seq (.reg [.o 112 (.build [.c (.int .i64 0), .c (.str []), .c (.int .i64 0), .csl [], .c (.int .i64 0), .c (.bool false), .c (.str []), .c (.int .i64 0), .c (.int .i64 0), .c (.int .i64 0)] []), .s 10 6 112])
  (.ret)))
  (.skip)))
  (.seq (.reg [.f 113 0 9, .l 114 113, .f 115 3 8, .l 116 115, .o 117 (.build [.c (.int .i64 0), .c (.str []), .c (.int .i64 0), .csl [], .c (.int .i64 0)] [(0, 1, (.k (.c (.int .i64 0)))), (1, 1, (.t 114)), (4, 1, (.t 116))]), .f 118 0 7, .d 119 5 118, .o 120 (.bsl 5 [(.t 117), (.t 119)]), .f 121 3 8, .l 122 121, .o 123 (.build [.c (.int .i64 0), .c (.str []), .c (.int .i64 0), .csl [], .c (.int .i64 0)] [(0, 1, (.k (.c (.int .i64 3)))), (3, 1, (.t 120)), (4, 1, (.t 122))]), .o 14 (.box (.k (.agg [.c (.int .i64 0), .c (.str []), .c (.int .i64 0), .csl [], .c (.int .i64 0)]))), .s 5 14 123])
  (.reg [.d 124 5 14, .f 125 0 13, .d 126 5 125, .o 127 (.bsl 5 [(.t 124), (.t 126)]), .f 128 3 8, .l 129 128, .o 130 (.build [.c (.int .i64 0), .c (.str []), .c (.int .i64 0), .csl [], .c (.int .i64 0)] [(0, 1, (.k (.c (.int .i64 3)))), (3, 1, (.t 127)), (4, 1, (.t 129))]), .d 131 3 9, .f 132 3 8, .l 133 132, .o 134 (.build [.c (.int .i64 0), .c (.str []), .c (.int .i64 0), .csl [], .c (.int .i64 0), .c (.bool false), .c (.str []), .c (.int .i64 0), .c (.int .i64 0), .c (.int .i64 0)] [(0, 5, (.t 130)), (5, 1, (.k (.c (.bool true)))), (6, 3, (.t 131)), (9, 1, (.t 133))]), .s 10 7 134]))))))))))))))))))
  (.seq (.reg [.o 135 (.build [.c (.int .i64 0), .c (.str []), .c (.int .i64 0), .csl [], .c (.int .i64 0), .c (.bool false), .c (.str []), .c (.int .i64 0), .c (.int .i64 0), .c (.int .i64 0)] []), .s 10 6 135])
  (.ret))))
def r250 : List ResV := [.celln 10 6]
theorem k250 : CodeIs Tryz.prog 250 3 Tryz.f250 c250 r250 := ⟨by kernel_rfl, Tryz.func250, rfl, by kernel_rfl, by kernel_rfl, by decide, enters_fn Tryz.func250 (by kernel_rfl) rfl⟩
/-- lambentref03.Read -/
def c213 : AC :=
  .seq (.reg [.o 6 (.box (.k (.agg [.c (.int .i64 0), .c (.str []), .c (.int .i64 0), .csl [], .c (.int .i64 0)]))), .o 7 (.mov (.k (.c (.int .i64 0)))), .o 8 (.mov (.k (.c (.int .i64 0)))), .o 9 (.mov (.k (.c (.int .i64 0))))])
  (.seq (.reg [.m 12 0, .m 13 1, .m 14 2, .o 15 (.build [.csl [], .csl [], .c (.int .i64 0), .c (.int .i64 0), .c (.int .i64 0)] [(0, 1, (.t 12)), (1, 1, (.t 13)), (2, 1, (.t 14))]), .o 16 (.box (.t 15)), .m 10 16])
  (.seq (.reg [.m 17 10, .k 18 250 [(.t 17), (.k (.c (.int .i64 0))), (.k (.c (.int .i64 0)))], .o 11 (.box (.k (.agg [.c (.int .i64 0), .c (.str []), .c (.int .i64 0), .csl [], .c (.int .i64 0), .c (.bool false), .c (.str []), .c (.int .i64 0), .c (.int .i64 0), .c (.int .i64 0)]))), .s 10 11 18])
  (.seq (.seq (.reg [.m 19 10, .n 20 19, .f 21 3 20, .l 22 21, .o 23 (.bin .neq (.t 22) (.k (.c (.int .i64 0))))])
  (.cond (.t 23)
  (.seq (.dreg [.o 24 (.build [.c (.int .i64 0), .c (.str []), .c (.int .i64 0), .csl [], .c (.int .i64 0)] []), .m 25 2, .m 26 10, .n 27 26, .f 28 3 27, .l 29 28, .m 30 10, .n 31 30, .f 32 4 31, .l 33 32, .s 5 6 24, .m 7 25, .m 8 29, .m 9 33]
    [.q (.o 24 (.build [.c (.int .i64 0), .c (.str []), .c (.int .i64 0), .csl [], .c (.int .i64 0)] [])), ⟨.s 5 6 24, true, 0⟩, .q (.m 25 2), .q (.m 26 10), .q (.n 27 26), .q (.f 28 3 27), .q (.l 29 28), .q (.m 30 10), .q (.n 31 30), .q (.f 32 4 31), .q (.l 33 32), ⟨.m 7 25, false, 1⟩, ⟨.m 8 29, false, 1⟩, ⟨.m 9 33, false, 1⟩])
  (.ret))
  (.skip)))
  (.seq (.dreg [.f 34 0 11, .d 35 5 34, .m 36 10, .n 37 36, .f 38 2 37, .l 39 38, .s 5 6 35, .m 7 39, .o 8 (.mov (.k (.c (.int .i64 0)))), .o 9 (.mov (.k (.c (.int .i64 0))))]
    [.q (.f 34 0 11), .q (.d 35 5 34), ⟨.s 5 6 35, true, 0⟩, .q (.m 36 10), .q (.n 37 36), .q (.f 38 2 37), .q (.l 39 38), ⟨.m 7 39, false, 1⟩, ⟨.o 8 (.mov (.k (.c (.int .i64 0)))), false, 1⟩, ⟨.o 9 (.mov (.k (.c (.int .i64 0)))), false, 1⟩])
  (.ret)))))
def r213 : List ResV := [.celln 5 6, .tmp 7, .tmp 8, .tmp 9]
theorem k213 : CodeIs Tryz.prog 213 3 Tryz.f213 c213 r213 := ⟨by kernel_rfl, Tryz.func213, rfl, by kernel_rfl, by kernel_rfl, by decide, enters_fn Tryz.func213 (by kernel_rfl) rfl⟩
end Go.Proofs.YtlogjjnimlnpkaaGreatDoor
namespace Go.Proofs.YtlogjjnimlnpkaaGreatDoor
open Go.RowKit Go.Lamb
attribute [local go_sem] advO_skip advO_reg advO_seq advO_block advO_exit advO_endb advO_opsNil advO_ops advG_yes advG_no advG_none advS_some advS_none advO_cond advO_loop advO_dreg advO_ret advO_bad advO_inv advO_nil advO_zero wantedV Lamb.step ev_t ev_k put_some put_none argEnv popTo cellsAt V.cellsV V.rows V.toC toCs fillV bytesC byteRows appV rowsV boundV boundL binV binInt binStr eqC eqL V.isNil leaves V.leaf Ins.quiet Ins.pure List.getD_cons_zero List.getD_cons_succ List.getD_nil List.all_cons List.all_nil List.length_cons List.length_nil List.take_succ_cons List.take_zero List.drop_succ_cons List.drop_zero List.cons_append List.nil_append List.append_nil List.append_assoc List.map_cons List.map_nil List.getElem?_cons_zero List.getElem?_cons_succ List.length_append List.length_set hget0 hget hset0 hset hsets hgs0 hgs hss0 hss List.set_cons_zero List.set_cons_succ List.forall_mem_cons List.not_mem_nil false_implies implies_true Option.map_some Bool.and_true Bool.true_and Bool.not_not Bool.not_true Bool.not_false Bool.and_self Bool.or_true Bool.true_or Bool.or_false Bool.false_or Bool.and_false Bool.false_and Bool.false_eq_true beq_self_eq_true and_self and_true true_and if_true if_false Nat.zero_add Nat.add_zero Nat.le_refl Int.toNat_natCast decide_true decide_false beq_t beq_f List.length_map List.getElem?_map I S B opsC toksC OpT.v OpT.cs OpT.zero Tok.v Tok.cs Pre.v Pre.cs_eq k_mk name_mk n_mk l_mk pos_mk Pre.app applyL natCast0 natCast1 natCast2 AOp.o AOp.m AOp.f AOp.l AOp.d AOp.n AOp.x AOp.s AOp.k AOp.y AOp.z EOp.q low_c low_void low_any low_csl low_nilf low_ptr low_osl low_agg low_tup low_fn resEval advPO_nil advPO_loud advPO_quiet pL_yes pL_no pLS_some pLS_none pQ_yes pQ_no pQS_some pQS_loud eq_self Nat.sub_zero

def rst (l : List OpT) (t : List Tok) (i : Nat) (e p : Int) : Blk := .cells [.c (opsC l), .c (toksC t), I i, I e, I p]
theorem rst_ok {σ : H} (h : H.ok σ) (b : Nat) (l : List OpT) (t : List Tok) (j : Nat) (e p : Int) : H.ok (σ.set b (rst l t j e p)) := H.ok_set h fun x hx => by
  simp only [List.mem_cons, List.not_mem_nil, or_false] at hx
  rcases hx with rfl | rfl | rfl | rfl | rfl <;> exact .c _
theorem ref03_Tok (w0 : World) (t : List Tok) (i : Nat) (σ : H) : DC Tryz.prog w0 135 [.c (toksC t), I i] σ (Same (tokL t i).v σ) := by
  refine k135.go rfl (fun hok hsz => ?_)
  have hlen := sz_rows (hsz _ (List.mem_cons_self ..))
  have h0 : (i : Int) ≥ 0 := by omega
  by_cases h : i < t.length
  · have h1 : ((i : Int) < (t.length : Int)) := by omega
    have hx : t[i]? = some t[i] := List.getElem?_eq_getElem h
    ((try refine W.a ?_); simp only [go_sem, seval, reduceCtorEq, c135, h0, h1])
    refine W.yes rfl ?_
    ((try refine W.a ?_); simp only [go_sem, seval, reduceCtorEq, nat0, h1, hx])
    (refine W.ret (Fin.same hok (by simp only [resEval, r135, go_sem, seval, reduceCtorEq]; rfl) ?_ (by first | exact .c _ | (simp only [go_sem, seval, reduceCtorEq]; done)) (by first | exact ⟨[], (List.append_nil _).symm⟩ | exact ⟨_, rfl⟩)); simp only [resV])
    rw [tokL_in h]
  · have h1 : ¬ ((i : Int) < (t.length : Int)) := by omega
    ((try refine W.a ?_); simp only [go_sem, seval, reduceCtorEq, c135, h0, h1])
    refine W.no rfl ?_
    ((try refine W.a ?_); simp only [go_sem, seval, reduceCtorEq])
    by_cases h2 : 0 < t.length
    · have h3 : ((t.length : Int) > 0) := by omega
      have hw2 : IntKind.i64.wrap ((t.length : Int) - 1) = ((t.length - 1 : Nat) : Int) := by rw [wrap_in] <;> omega
      obtain ⟨x, hx, hp⟩ := lastPos_at h2
      have h4 : (((t.length - 1 : Nat) : Int) < (t.length : Int)) := by omega
      ((try refine W.a ?_); simp only [go_sem, seval, reduceCtorEq, h3])
      refine W.yes rfl ?_
      ((try refine W.a ?_); simp only [go_sem, seval, reduceCtorEq, hw2, nat0, h4, hx])
      (refine W.ret (Fin.same hok (by simp only [resEval, r135, go_sem, seval, reduceCtorEq]; rfl) ?_ (by first | exact .c _ | (simp only [go_sem, seval, reduceCtorEq]; done)) (by first | exact ⟨[], (List.append_nil _).symm⟩ | exact ⟨_, rfl⟩)); simp only [resV])
      rw [tokL_out (by omega), hp]
    · have h3 : ¬ ((t.length : Int) > 0) := by omega
      ((try refine W.a ?_); simp only [go_sem, seval, reduceCtorEq, h3])
      refine W.no rfl ?_
      ((try refine W.a ?_); simp only [go_sem, seval, reduceCtorEq])
      (refine W.ret (Fin.same hok (by simp only [resEval, r135, go_sem, seval, reduceCtorEq]; rfl) ?_ (by first | exact .c _ | (simp only [go_sem, seval, reduceCtorEq]; done)) (by first | exact ⟨[], (List.append_nil _).symm⟩ | exact ⟨_, rfl⟩)); simp only [resV])
      have : t = [] := List.eq_nil_of_length_eq_zero (by omega)
      subst this
      rw [tokL_out (by omega)]; rfl
theorem ref03_fail (w0 : World) (l : List OpT) (t : List Tok) (i : Nat) (e p : Int) (σ : H) (b : Nat) (hb : σ[b]? = some (rst l t i 0 0)) : DC Tryz.prog w0 273 [.ptr b 0, I e, I p] σ (Same (.tup []) (σ.set b (rst l t i e p))) := by
  have hlt := (List.getElem?_eq_some_iff.1 hb).1
  have hbe : σ[b]? = some (.cells [.c (opsC l), .c (toksC t), I i, I 0, I 0]) := hb
  refine k273.go rfl (fun hok hsz => ?_)
  ((try refine W.a ?_); simp only [go_sem, seval, reduceCtorEq, c273, hbe])
  refine W.yes rfl ?_
  ((try refine W.a ?_); simp only [go_sem, seval, reduceCtorEq, hbe, hgets _ hlt])
  (refine W.done (Fin.sameW (rst_ok hok b l t i e p) (by (first | rfl | exact List.length_set .. | simp)) (by simp only [r273, go_sem, seval, reduceCtorEq]; rfl) ?_ (by (first | exact .c _ | (simp only [go_sem, seval, reduceCtorEq]; done))) (by (first | rfl | exact (List.append_nil _).symm))); simp only [resV]; try exact V.wk.rfl _)
theorem ref03_begins (w0 : World) (l : List OpT) (t : List Tok) (i : Nat) (e p : Int) (σ : H) (b : Nat) (hb : σ[b]? = some (rst l t i e p)) :
    DC Tryz.prog w0 284 [.ptr b 0] σ (Same (B (beginsL l (tokL t i))) σ) := by
  have hlt := (List.getElem?_eq_some_iff.1 hb).1
  have hbe : σ[b]? = some (.cells [.c (opsC l), .c (toksC t), I i, I e, I p]) := hb
  refine k284.go rfl (fun hok hsz => ?_)
  ((try refine W.a ?_); simp only [go_sem, seval, reduceCtorEq, c284])
  apply W.dregE (List.cons_ne_nil _ _)
  case hc =>
    (apply CanonE.advPO; simp only [go_sem, seval, reduceCtorEq, hG hbe, hbe])
    (apply CanonE.pcall (fun τ => ref03_Tok w0 t i τ); (case hg => rfl); (case hf => rfl); (case ha => first | rfl | simp))
    (apply CanonE.advPO; simp only [go_sem, seval, reduceCtorEq])
    exact CanonE.nil
  ((try refine W.a ?_); simp only [go_sem, seval, reduceCtorEq])
  apply W.dregE (List.cons_ne_nil _ _)
  case hc =>
    (apply CanonE.advPO; simp only [go_sem, seval, reduceCtorEq, hG hbe, hbe])
    (apply CanonE.pcall (fun τ => ref02_Is w0 l (tokL t i) τ); (case hg => rfl); (case hf => rfl); (case ha => first | rfl | simp))
    (apply CanonE.advPO; simp only [go_sem, seval, reduceCtorEq, foundV])
    exact CanonE.nil
  generalize tokL t i = x
  cases h1 : (x.kind == 1) <;> cases h4 : (x.kind == 4)
  · have hk : ¬ (x.kind = 1 ∨ x.kind = 4) := by
      simp only [beq_eq_false_iff_ne] at h1 h4
      rintro (h | h)
      · exact h1 h
      · exact h4 h
    ((try refine W.a ?_); simp only [go_sem, seval, reduceCtorEq, h1, h4])
    refine W.no rfl ?_
    cases h2 : (x.kind == 2) <;> cases h3 : (x.kind == 3) <;> cases h5 : (x.kind == 5)
    all_goals
      ((try refine W.a ?_); simp only [go_sem, seval, reduceCtorEq, h2, h3, h5])
      (refine W.ret (Fin.same hok (by simp only [resEval, r284, go_sem, seval, reduceCtorEq]; rfl) ?_ (by first | exact .c _ | (simp only [go_sem, seval, reduceCtorEq]; done)) (by first | exact ⟨[], (List.append_nil _).symm⟩ | exact ⟨_, rfl⟩)); simp only [resV])
      rw [beginsL, if_neg hk]; simp_all
  all_goals
    have hk : x.kind = 1 ∨ x.kind = 4 := by
      first
        | exact .inl (by simpa using h1)
        | exact .inr (by simpa using h4)
    ((try refine W.a ?_); simp only [go_sem, seval, reduceCtorEq, h1, h4])
    refine W.yes rfl ?_
    ((try refine W.a ?_); simp only [go_sem, seval, reduceCtorEq])
    (refine W.ret (Fin.same hok (by simp only [resEval, r284, go_sem, seval, reduceCtorEq]; rfl) ?_ (by first | exact .c _ | (simp only [go_sem, seval, reduceCtorEq]; done)) (by first | exact ⟨[], (List.append_nil _).symm⟩ | exact ⟨_, rfl⟩)); simp only [resV])
    rw [beginsL, if_pos hk]; cases opOf l x <;> rfl
theorem ref03_deep_no (w0 : World) (l : List OpT) (t : List Tok) (i : Nat) (depth : Nat) (p : Int) (σ : H) (b : Nat) (hb : σ[b]? = some (rst l t i 0 0)) (hd : 200 ≤ depth) (hd' : depth ≤ 300) :
    DC Tryz.prog w0 274 [.ptr b 0, I depth, I p] σ (Same (B false) (σ.set b (rst l t i 31 p))) := by
  have hw : IntKind.i64.wrap ((depth : Int) + 1) = ((depth + 1 : Nat) : Int) := by rw [wrap_in] <;> omega
  have h1 : ((depth + 1 : Nat) : Int) > 200 := by omega
  refine k274.go rfl (fun hok hsz => ?_)
  ((try refine W.a ?_); simp only [go_sem, seval, reduceCtorEq, c274, hw, h1])
  refine W.yes rfl ?_
  ((try refine W.a ?_); simp only [go_sem, seval, reduceCtorEq])
  (refine W.c1 (ref03_fail w0 l t i 31 p _ b hb) ?_; simp only [go_sem, seval, reduceCtorEq])
  (refine W.fs (rst_ok hok b l t i 31 p) (by simp only [r274, go_sem, seval, reduceCtorEq]; rfl) ?_; simp only [resV]; try exact V.wk.rfl _)
theorem ref03_deep_yes (w0 : World) (depth : Nat) (x : V) (p : Int) (σ : H) (hd : depth < 200) :
    DC Tryz.prog w0 274 [x, I depth, I p] σ (Same (B true) σ) := by
  have hw : IntKind.i64.wrap ((depth : Int) + 1) = ((depth + 1 : Nat) : Int) := by rw [wrap_in] <;> omega
  have h1 : ¬ ((depth + 1 : Nat) : Int) > 200 := by omega
  refine k274.go rfl (fun hok hsz => ?_)
  ((try refine W.a ?_); simp only [go_sem, seval, reduceCtorEq, c274, hw, h1])
  refine W.no rfl ?_
  ((try refine W.a ?_); simp only [go_sem, seval, reduceCtorEq])
  (refine W.ret (Fin.same hok (by simp only [resEval, r274, go_sem, seval, reduceCtorEq]; rfl) ?_ (by first | exact .c _ | (simp only [go_sem, seval, reduceCtorEq]; done)) (by first | exact ⟨[], (List.append_nil _).symm⟩ | exact ⟨_, rfl⟩)); simp only [resV])
end Go.Proofs.YtlogjjnimlnpkaaGreatDoor

/-
  Walks: a sentence.
  The code of some functions, without addresses.
  Walks: the first operators.
  Walks: rows of operators, one behind the other.
  Walks: the first operators, all of them.
  Plain: the first operators.
  Walks: source.Read, source.Query.
  Walks: source.Query.
  The code of some functions, without addresses.
  Walks: a tree is the same as itself.
  Walks: the document's examples of sentences; which operators are the same.
  The code of some functions, without addresses.
  The code of some functions, without addresses.
  The code of some functions, without addresses.
  The code of some functions, without addresses.
  Walks: the document's reader, its small functions.
  Walks: the document's type reader, its small functions.
  Walks: the document's type reader: an atom.
  Walks: the document's type reader: a type; its Read.
  Walks: the document's Read of types; which types are the same, and how large they are.
  Walks: when two sentences are the same.
  Plain: what else is known of sentences that are read: errors, places, how many there are.
  Walks: strings.Builder in a writer's block: what its writing methods call first.
  The code of some functions, without addresses.
  Walks: what a writer writes: strings.Builder's methods at a writer's block.
  The code of some functions, without addresses.
  Walks: what a tree is; the operator that makes it.
  Walks: what is no operator's, no abstraction and no application, written.
  The code of some functions, without addresses.
-/
import Derived.Test.YtplgnfciipceiaaGreatDoorQJ32
import Derived.Test.YtplgnfciipceiaaGreatDoorChecked
import Derived.Test.YtplgnfciipceiaaGreatDoorQJ13
import Derived.Test.YtplgnfciipceiaaGreatDoorQGrow
import Derived.Test.YtplgnfciipceiaaGreatDoorQLxD
import Derived.Test.YtplgnfciipceiaaGreatDoorQLexGl
import Derived.Test.YtplgnfciipceiaaGreatDoorQLexBk
import Derived.Test.YtplgnfciipceiaaGreatDoorQJ14
import Derived.Test.YtplgnfciipceiaaGreatDoorQJ31
import Derived.Test.YtplgnfciipceiaaGreatDoorQLexA
import Derived.Test.YtplgnfciipceiaaGreatDoorQJ11
import Derived.Lib.Builder
import Derived.Laws.Externs
import Derived.OwnWalk
import Derived.Handy
import Derived.Test.YtplgnfciipceiaaGreatDoorQLexG
import Derived.Lib.ItoaLen
set_option linter.unusedSimpArgs false
set_option linter.unusedVariables false
set_option maxHeartbeats 8000000
set_option maxRecDepth 20000
namespace Go.Proofs.YtplgnfciipceiaaGreatDoor
open Go.RowKit Go.Lamb
attribute [local go_sem] advO_skip advO_reg advO_seq advO_block advO_exit advO_endb advO_opsNil advO_ops advG_yes advG_no advG_none advS_some advS_none advO_cond advO_loop advO_dreg advO_ret advO_bad advO_inv advO_nil advO_zero wantedV Lamb.step ev_t ev_k put_some put_none argEnv popTo cellsAt V.cellsV V.rows V.toC toCs fillV bytesC byteRows appV rowsV boundV boundL binV binInt binStr eqC eqL V.isNil leaves V.leaf Ins.quiet Ins.pure List.getD_cons_zero List.getD_cons_succ List.getD_nil List.all_cons List.all_nil List.length_cons List.length_nil List.take_succ_cons List.take_zero List.drop_succ_cons List.drop_zero List.cons_append List.nil_append List.append_nil List.append_assoc List.map_cons List.map_nil List.getElem?_cons_zero List.getElem?_cons_succ List.length_append List.length_set hget0 hget hset0 hset hsets hgs0 hgs hss0 hss List.set_cons_zero List.set_cons_succ List.forall_mem_cons List.not_mem_nil false_implies implies_true Option.map_some Bool.and_true Bool.true_and Bool.not_not Bool.not_true Bool.not_false Bool.and_self Bool.or_true Bool.true_or Bool.or_false Bool.false_or Bool.and_false Bool.false_and Bool.false_eq_true beq_self_eq_true and_self and_true true_and if_true if_false Nat.zero_add Nat.add_zero Nat.le_refl Int.toNat_natCast decide_true decide_false beq_t beq_f List.length_map List.getElem?_map I S B opsC toksC OpT.v OpT.cs OpT.zero Tok.v Tok.cs Pre.v Pre.cs_eq k_mk name_mk n_mk l_mk pos_mk Pre.app applyL natCast0 natCast1 natCast2 AOp.o AOp.m AOp.f AOp.l AOp.d AOp.n AOp.x AOp.s AOp.k AOp.y AOp.z EOp.q low_c low_void low_any low_csl low_nilf low_ptr low_osl low_agg low_tup low_fn resEval advPO_nil advPO_loud advPO_quiet pL_yes pL_no pLS_some pLS_none pQ_yes pQ_no pQS_some pQS_loud eq_self Nat.sub_zero
section
attribute [local go_sem] strsC sdX rz_len rz_g0 rz_g rz_s0 rz_s rz_sb zeroB

def words5 : List Str := [[107, 105, 110, 100], [116, 121, 112, 101], [105, 110, 102, 105, 120], [105, 110, 102, 105, 120, 108], [105, 110, 102, 105, 120, 114]]
noncomputable def beforeP (t : List Tok) (l : List OpT) (i : Nat) : SoR :=
  if (tokL t i).kind = 1 ∧ (tokL t i).text = [107, 105, 110, 100] then kindP t (i + 1) l
  else if (tokL t i).kind = 1 ∧ (tokL t i).text = [116, 121, 112, 101] then typeP t (i + 1) l
  else if (tokL t i).kind = 1 ∧ (tokL t i).text = [105, 110, 102, 105, 120] then opP t (i + 1) 0 l
  else if (tokL t i).kind = 1 ∧ (tokL t i).text = [105, 110, 102, 105, 120, 108] then opP t (i + 1) 1 l
  else if (tokL t i).kind = 1 ∧ (tokL t i).text = [105, 110, 102, 105, 120, 114] then opP t (i + 1) 2 l
  else clauseP t i l
def sentAt (s : Sent) (pos : Int) : Sent := ⟨s.k, s.names, s.n, s.ty, s.op, s.body, pos⟩
def dotP (t : List Tok) (pos : Int) : SoR → SoR
  | .error b => .error b
  | .ok (s, k, l') => if s.k = 2 then .ok (sentAt s pos, k, l') else endS t (sentAt s pos) k l'
theorem kind_dot (t : List Tok) (i : Nat) (pos : Int) (l : List OpT) : kindSent t i pos l = dotP t pos (kindP t i l) := by
  unfold kindSent kindP
  cases namesS t false i [] with
  | error b => rfl
  | ok x =>
    obtain ⟨ns, j⟩ := x
    simp only
    cases kindS t j 0 with
    | error b => rfl
    | ok y => obtain ⟨n, k⟩ := y; rfl
theorem type_dot (t : List Tok) (i : Nat) (pos : Int) (l : List OpT) : typeSent t i pos l = dotP t pos (typeP t i l) := by
  unfold typeSent typeP
  cases namesS t true i [] with
  | error b => rfl
  | ok x =>
    obtain ⟨ns, j⟩ := x
    simp only
    cases tyT t j with
    | error b => rfl
    | ok y => obtain ⟨u, k, ws⟩ := y; rfl
theorem op_dot2 (t : List Tok) (i : Nat) (pos fix : Int) (l : List OpT) : opSent t i pos fix l = dotP t pos (opP t i fix l) := by
  unfold opSent opP
  cases namesS t true i [] with
  | error b => rfl
  | ok x =>
    obtain ⟨ns, j⟩ := x
    simp only
    by_cases h3 : (tokL t j).kind = 3
    · rw [if_pos h3, if_pos h3]
      by_cases h7 : (tokL t (j + 1)).kind = 7
      · rw [if_pos h7, if_pos h7]
        cases declL (tokL t j).n fix l ns with
        | error b => rfl
        | ok l' => rfl
      · rw [if_neg h7, if_neg h7]; rfl
    · rw [if_neg h3, if_neg h3]; rfl
theorem clause_dot (t : List Tok) (i : Nat) (pos : Int) (l : List OpT) : clauseSent t i pos l = dotP t pos (clauseP t i l) := by
  unfold clauseSent clauseP
  cases exprT l t i with
  | error b => rfl
  | ok y => obtain ⟨m, k⟩ := y; rfl
theorem sentS_dot (t : List Tok) (l : List OpT) (i : Nat) : sentS t l i = dotP t (tokL t i).pos (beforeP t l i) := by
  unfold sentS beforeP
  simp only [kind_dot, type_dot, op_dot2, clause_dot]
  by_cases c1 : (tokL t i).kind = 1 ∧ (tokL t i).text = [107, 105, 110, 100]
  · simp only [if_pos c1]
  simp only [if_neg c1]
  by_cases c2 : (tokL t i).kind = 1 ∧ (tokL t i).text = [116, 121, 112, 101]
  · simp only [if_pos c2]
  simp only [if_neg c2]
  by_cases c3 : (tokL t i).kind = 1 ∧ (tokL t i).text = [105, 110, 102, 105, 120]
  · simp only [if_pos c3]
  simp only [if_neg c3]
  by_cases c4 : (tokL t i).kind = 1 ∧ (tokL t i).text = [105, 110, 102, 105, 120, 108]
  · simp only [if_pos c4]
  simp only [if_neg c4]
  by_cases c5 : (tokL t i).kind = 1 ∧ (tokL t i).text = [105, 110, 102, 105, 120, 114]
  · simp only [if_pos c5]
  simp only [if_neg c5]
theorem rsen_out {t : List Tok} {σ : H} {b : Nat} {r : SoR} {d : V} {σ' : H} (h : RSen t σ b r d σ') : ∃ (s : Sent) (j : Int) (l' : List OpT) (e p : Int), d = s.v ∧ σ' = srd σ b t j l' e p ∧ ((e = 0 ∧ p = 0 ∧ ∃ k : Nat, j = k ∧ r = .ok (s, k, l')) ∨ ((e == 0) = false ∧ r = .error ⟨e, p⟩)) := by
  cases r with
  | ok x =>
    obtain ⟨s, k, l'⟩ := x
    obtain ⟨rfl, rfl⟩ := h
    exact ⟨s, k, l', 0, 0, rfl, rfl, .inl ⟨rfl, rfl, k, rfl, rfl⟩⟩
  | error x =>
    obtain ⟨he, s, j, l', rfl, rfl⟩ := h
    exact ⟨s, j, l', x.e, x.pos, rfl, rfl, .inr ⟨he, rfl⟩⟩
theorem before_far {t : List Tok} {l l' : List OpT} {i k : Nat} {s : Sent} (h : beforeP t l i = .ok (s, k, l')) : k ≤ t.length := by
  have hop : ∀ fix, opP t (i + 1) fix l = .ok (s, k, l') → k ≤ t.length := fun fix h => by
    have := op_dot2 t (i + 1) 0 fix l
    rw [h] at this
    unfold opP at h
    split at h
    · cases h
    · split at h
      · split at h
        · rename_i h7
          have := tokL_lt (t := t) (by rw [h7]; decide)
          split at h
          · cases h
          · injection h with h; injection h with _ h; injection h with h _
            omega
        · cases h
      · cases h
  unfold beforeP at h
  split at h
  · unfold kindP at h
    split at h
    · cases h
    · split at h
      · cases h
      · rename_i hk
        injection h with h; injection h with _ h; injection h with h _
        have := kindS_far _ _ _ _ _ (Nat.le_refl _) hk
        omega
  · split at h
    · unfold typeP at h
      split at h
      · cases h
      · split at h
        · cases h
        · rename_i hk
          injection h with h; injection h with _ h; injection h with h _
          have := tyT_far hk
          omega
    · split at h
      · exact hop _ h
      · split at h
        · exact hop _ h
        · split at h
          · exact hop _ h
          · unfold clauseP at h
            split at h
            · cases h
            · rename_i hk
              injection h with h; injection h with _ h; injection h with h _
              have := exprT_far hk
              omega
theorem source_Words (w0 : World) (σ : H) : DC Tryz.prog w0 32 [] σ (Same (.csl (strsR words5)) σ) := by
  refine k32.go rfl (fun hok hsz => ?_)
  ((try refine W.a ?_); simp only [go_sem, seval, reduceCtorEq, c32])
  (refine W.fs (hok) (by simp only [r32, go_sem, seval, reduceCtorEq]; rfl) ?_; simp only [resV]; try exact V.wk.rfl _)
theorem sr_sentence (w0 : World) (t : List Tok) (hT : TEnd t) (i : Nat) (hi : i ≤ t.length) (l : List OpT) (hl : l.length ≤ 64) (hne : l ≠ []) (σ : H) (b : Nat) (D : b < σ.length) :
    DC Tryz.prog w0 35 [.ptr b 0] (srd σ b t i l 0 0) (RSen t σ b (sentS t l i)) := by
  refine k35.go rfl (fun hok hsz => ?_)
  have hle := hT.le
  have hwi : IntKind.i64.wrap ((i : Int) + 1) = ((i + 1 : Nat) : Int) := by rw [wrap_in] <;> omega
  rw [sentS_dot]
  generalize hr0 : beforeP t l i = r
  have hr := hr0
  unfold beforeP at hr
  ((try refine W.a ?_); simp only [go_sem, seval, reduceCtorEq, c35, rzA D])
  (refine W.c1 (DC.lift1 D (fun D' => sr_tok w0 t hT i (by omega) l 0 0 _ b D')) ?_; simp only [go_sem, seval, reduceCtorEq, rzA D])
  by_cases hk1 : (tokL t i).kind = 1
  · have n1 : ((tokL t i).kind == 1) = true := by simpa using hk1
    have hil : i + 1 ≤ t.length := tokL_lt (by rw [hk1]; decide)
    simp only [hk1, true_and] at hr
    by_cases e1 : (tokL t i).text = [107, 105, 110, 100]
    · rw [if_pos e1] at hr
      have hw : words5.contains (tokL t i).text = true := by rw [e1]; rfl
      have b1 : ((tokL t i).text == [107, 105, 110, 100]) = true := by simpa using e1
      apply W.dregE (List.cons_ne_nil _ _)
      case hc =>
        (apply CanonE.advPO; simp only [go_sem, seval, reduceCtorEq, rzA D, n1])
        (apply CanonE.call (source_Words w0 _); (case hg => rfl); (case hf => rfl); (case ha => first | rfl | simp))
        (apply CanonE.advPO; simp only [go_sem, seval, reduceCtorEq, rzA D, n1])
        (apply CanonE.callw (str_contains w0 words5 (tokL t i).text _); (case hg => rfl); (case hf => rfl); (case ha => rfl); (case hw => ((exact wk_here))))
        (apply CanonE.advPO; simp only [go_sem, seval, reduceCtorEq, rzA D, n1, hw])
        exact CanonE.nil
      ((try refine W.a ?_); simp only [go_sem, seval, reduceCtorEq, rzA D])
      refine W.yes rfl ?_
      ((try refine W.a ?_); simp only [go_sem, seval, reduceCtorEq, rzA D, hwi, b1])
      refine W.yes rfl ?_
      ((try refine W.a ?_); simp only [go_sem, seval, reduceCtorEq, rzA D])
      (refine W.call (DC.lift1R D (fun D' => sr_kind w0 t hT (i + 1) hil l _ b D')) rfl rfl (by first | rfl | simp) ?_)
      intro d σ1 hR
      rw [hr] at hR
      obtain ⟨s, j, l', e, p, rfl, rfl, hst⟩ := rsen_out hR
      ((try refine W.a ?_); simp only [go_sem, seval, reduceCtorEq, rzA D, sent_v])
      rcases hst with ⟨rfl, rfl, k, rfl, hr'⟩ | ⟨he, hr'⟩
      · subst hr'
        have hkf := before_far hr0
        simp only [dotP]
        by_cases hs2 : s.k = 2
        · have ns2 : (s.k != 2) = false := by simpa using hs2
          rw [if_pos hs2]
          ((try refine W.a ?_); simp only [go_sem, seval, reduceCtorEq, rzA D, ns2])
          refine W.no rfl ?_
          ((try refine W.a ?_); simp only [go_sem, seval, reduceCtorEq, rzA D])
          (refine W.fg (srd_ok D hok t (k : Nat) l' 0 0) (d := (sentAt s (tokL t i).pos).v) (by simp only [r35, go_sem, seval, reduceCtorEq, sent_v, sentAt, strsC]; rfl) (by simp only [resV, go_sem, seval, reduceCtorEq, sent_v, sentAt, strsC]; exact wk_here) ?_ (hl := by (first | exact .c _ | (simp only [go_sem, seval, reduceCtorEq, sent_v, sentAt, strsC]; done))))
          exact ⟨rfl, rfl⟩
        · have ns2 : (s.k != 2) = true := by simpa using hs2
          rw [if_neg hs2]
          ((try refine W.a ?_); simp only [go_sem, seval, reduceCtorEq, rzA D, ns2])
          refine W.yes rfl ?_
          ((try refine W.a ?_); simp only [go_sem, seval, reduceCtorEq, rzA D])
          (refine W.c1 (DC.lift1 D (fun D' => sr_end0 w0 t hT k (by omega) l' _ b D')) ?_; simp only [go_sem, seval, reduceCtorEq, rzA D])
          unfold endS
          by_cases h7 : (tokL t k).kind = 7
          · simp only [if_pos h7]
            (refine W.fg (srd_ok D hok t ((k + 1 : Nat) : Int) l' 0 0) (d := (sentAt s (tokL t i).pos).v) (by simp only [r35, go_sem, seval, reduceCtorEq, sent_v, sentAt, strsC]; rfl) (by simp only [resV, go_sem, seval, reduceCtorEq, sent_v, sentAt, strsC]; exact wk_here) ?_ (hl := by (first | exact .c _ | (simp only [go_sem, seval, reduceCtorEq, sent_v, sentAt, strsC]; done))))
            exact ⟨rfl, rfl⟩
          · simp only [if_neg h7]
            (refine W.fg (srd_ok D hok t ((k + 1 : Nat) : Int) l' 101 (tokL t k).pos) (d := (sentAt s (tokL t i).pos).v) (by simp only [r35, go_sem, seval, reduceCtorEq, sent_v, sentAt, strsC]; rfl) (by simp only [resV, go_sem, seval, reduceCtorEq, sent_v, sentAt, strsC]; exact wk_here) ?_ (hl := by (first | exact .c _ | (simp only [go_sem, seval, reduceCtorEq, sent_v, sentAt, strsC]; done))))
            exact ⟨rfl, _, _, _, rfl, rfl⟩
      · subst hr'
        simp only [dotP]
        by_cases hs2 : s.k = 2
        · have ns2 : (s.k != 2) = false := by simpa using hs2
          ((try refine W.a ?_); simp only [go_sem, seval, reduceCtorEq, rzA D, ns2])
          refine W.no rfl ?_
          ((try refine W.a ?_); simp only [go_sem, seval, reduceCtorEq, rzA D])
          (refine W.fg (srd_ok D hok t j l' e p) (d := (sentAt s (tokL t i).pos).v) (by simp only [r35, go_sem, seval, reduceCtorEq, sent_v, sentAt, strsC]; rfl) (by simp only [resV, go_sem, seval, reduceCtorEq, sent_v, sentAt, strsC]; exact wk_here) ?_ (hl := by (first | exact .c _ | (simp only [go_sem, seval, reduceCtorEq, sent_v, sentAt, strsC]; done))))
          exact ⟨he, _, _, _, rfl, rfl⟩
        · have ns2 : (s.k != 2) = true := by simpa using hs2
          ((try refine W.a ?_); simp only [go_sem, seval, reduceCtorEq, rzA D, ns2])
          refine W.yes rfl ?_
          ((try refine W.a ?_); simp only [go_sem, seval, reduceCtorEq, rzA D])
          (refine W.c1 (DC.lift1 D (fun D' => sr_end1 w0 t j l' e p he _ b D')) ?_; simp only [go_sem, seval, reduceCtorEq, rzA D])
          (refine W.fg (srd_ok D hok t j l' e p) (d := (sentAt s (tokL t i).pos).v) (by simp only [r35, go_sem, seval, reduceCtorEq, sent_v, sentAt, strsC]; rfl) (by simp only [resV, go_sem, seval, reduceCtorEq, sent_v, sentAt, strsC]; exact wk_here) ?_ (hl := by (first | exact .c _ | (simp only [go_sem, seval, reduceCtorEq, sent_v, sentAt, strsC]; done))))
          exact ⟨he, _, _, _, rfl, rfl⟩
    rw [if_neg e1] at hr
    by_cases e2 : (tokL t i).text = [116, 121, 112, 101]
    · rw [if_pos e2] at hr
      have hw : words5.contains (tokL t i).text = true := by rw [e2]; rfl
      have b1 : ((tokL t i).text == [107, 105, 110, 100]) = false := by simpa using e1
      have b2 : ((tokL t i).text == [116, 121, 112, 101]) = true := by simpa using e2
      apply W.dregE (List.cons_ne_nil _ _)
      case hc =>
        (apply CanonE.advPO; simp only [go_sem, seval, reduceCtorEq, rzA D, n1])
        (apply CanonE.call (source_Words w0 _); (case hg => rfl); (case hf => rfl); (case ha => first | rfl | simp))
        (apply CanonE.advPO; simp only [go_sem, seval, reduceCtorEq, rzA D, n1])
        (apply CanonE.callw (str_contains w0 words5 (tokL t i).text _); (case hg => rfl); (case hf => rfl); (case ha => rfl); (case hw => ((exact wk_here))))
        (apply CanonE.advPO; simp only [go_sem, seval, reduceCtorEq, rzA D, n1, hw])
        exact CanonE.nil
      ((try refine W.a ?_); simp only [go_sem, seval, reduceCtorEq, rzA D])
      refine W.yes rfl ?_
      ((try refine W.a ?_); simp only [go_sem, seval, reduceCtorEq, rzA D, hwi, b1, b2])
      refine W.no rfl ?_
      ((try refine W.a ?_); simp only [go_sem, seval, reduceCtorEq, rzA D, b1, b2])
      refine W.yes rfl ?_
      ((try refine W.a ?_); simp only [go_sem, seval, reduceCtorEq, rzA D])
      (refine W.call (DC.lift1R D (fun D' => sr_typed w0 t hT (i + 1) hil l _ b D')) rfl rfl (by first | rfl | simp) ?_)
      intro d σ1 hR
      rw [hr] at hR
      obtain ⟨s, j, l', e, p, rfl, rfl, hst⟩ := rsen_out hR
      ((try refine W.a ?_); simp only [go_sem, seval, reduceCtorEq, rzA D, sent_v])
      rcases hst with ⟨rfl, rfl, k, rfl, hr'⟩ | ⟨he, hr'⟩
      · subst hr'
        have hkf := before_far hr0
        simp only [dotP]
        by_cases hs2 : s.k = 2
        · have ns2 : (s.k != 2) = false := by simpa using hs2
          rw [if_pos hs2]
          ((try refine W.a ?_); simp only [go_sem, seval, reduceCtorEq, rzA D, ns2])
          refine W.no rfl ?_
          ((try refine W.a ?_); simp only [go_sem, seval, reduceCtorEq, rzA D])
          (refine W.fg (srd_ok D hok t (k : Nat) l' 0 0) (d := (sentAt s (tokL t i).pos).v) (by simp only [r35, go_sem, seval, reduceCtorEq, sent_v, sentAt, strsC]; rfl) (by simp only [resV, go_sem, seval, reduceCtorEq, sent_v, sentAt, strsC]; exact wk_here) ?_ (hl := by (first | exact .c _ | (simp only [go_sem, seval, reduceCtorEq, sent_v, sentAt, strsC]; done))))
          exact ⟨rfl, rfl⟩
        · have ns2 : (s.k != 2) = true := by simpa using hs2
          rw [if_neg hs2]
          ((try refine W.a ?_); simp only [go_sem, seval, reduceCtorEq, rzA D, ns2])
          refine W.yes rfl ?_
          ((try refine W.a ?_); simp only [go_sem, seval, reduceCtorEq, rzA D])
          (refine W.c1 (DC.lift1 D (fun D' => sr_end0 w0 t hT k (by omega) l' _ b D')) ?_; simp only [go_sem, seval, reduceCtorEq, rzA D])
          unfold endS
          by_cases h7 : (tokL t k).kind = 7
          · simp only [if_pos h7]
            (refine W.fg (srd_ok D hok t ((k + 1 : Nat) : Int) l' 0 0) (d := (sentAt s (tokL t i).pos).v) (by simp only [r35, go_sem, seval, reduceCtorEq, sent_v, sentAt, strsC]; rfl) (by simp only [resV, go_sem, seval, reduceCtorEq, sent_v, sentAt, strsC]; exact wk_here) ?_ (hl := by (first | exact .c _ | (simp only [go_sem, seval, reduceCtorEq, sent_v, sentAt, strsC]; done))))
            exact ⟨rfl, rfl⟩
          · simp only [if_neg h7]
            (refine W.fg (srd_ok D hok t ((k + 1 : Nat) : Int) l' 101 (tokL t k).pos) (d := (sentAt s (tokL t i).pos).v) (by simp only [r35, go_sem, seval, reduceCtorEq, sent_v, sentAt, strsC]; rfl) (by simp only [resV, go_sem, seval, reduceCtorEq, sent_v, sentAt, strsC]; exact wk_here) ?_ (hl := by (first | exact .c _ | (simp only [go_sem, seval, reduceCtorEq, sent_v, sentAt, strsC]; done))))
            exact ⟨rfl, _, _, _, rfl, rfl⟩
      · subst hr'
        simp only [dotP]
        by_cases hs2 : s.k = 2
        · have ns2 : (s.k != 2) = false := by simpa using hs2
          ((try refine W.a ?_); simp only [go_sem, seval, reduceCtorEq, rzA D, ns2])
          refine W.no rfl ?_
          ((try refine W.a ?_); simp only [go_sem, seval, reduceCtorEq, rzA D])
          (refine W.fg (srd_ok D hok t j l' e p) (d := (sentAt s (tokL t i).pos).v) (by simp only [r35, go_sem, seval, reduceCtorEq, sent_v, sentAt, strsC]; rfl) (by simp only [resV, go_sem, seval, reduceCtorEq, sent_v, sentAt, strsC]; exact wk_here) ?_ (hl := by (first | exact .c _ | (simp only [go_sem, seval, reduceCtorEq, sent_v, sentAt, strsC]; done))))
          exact ⟨he, _, _, _, rfl, rfl⟩
        · have ns2 : (s.k != 2) = true := by simpa using hs2
          ((try refine W.a ?_); simp only [go_sem, seval, reduceCtorEq, rzA D, ns2])
          refine W.yes rfl ?_
          ((try refine W.a ?_); simp only [go_sem, seval, reduceCtorEq, rzA D])
          (refine W.c1 (DC.lift1 D (fun D' => sr_end1 w0 t j l' e p he _ b D')) ?_; simp only [go_sem, seval, reduceCtorEq, rzA D])
          (refine W.fg (srd_ok D hok t j l' e p) (d := (sentAt s (tokL t i).pos).v) (by simp only [r35, go_sem, seval, reduceCtorEq, sent_v, sentAt, strsC]; rfl) (by simp only [resV, go_sem, seval, reduceCtorEq, sent_v, sentAt, strsC]; exact wk_here) ?_ (hl := by (first | exact .c _ | (simp only [go_sem, seval, reduceCtorEq, sent_v, sentAt, strsC]; done))))
          exact ⟨he, _, _, _, rfl, rfl⟩
    rw [if_neg e2] at hr
    by_cases e3 : (tokL t i).text = [105, 110, 102, 105, 120]
    · rw [if_pos e3] at hr
      have hw : words5.contains (tokL t i).text = true := by rw [e3]; rfl
      have b1 : ((tokL t i).text == [107, 105, 110, 100]) = false := by simpa using e1
      have b2 : ((tokL t i).text == [116, 121, 112, 101]) = false := by simpa using e2
      have b3 : ((tokL t i).text == [105, 110, 102, 105, 120]) = true := by simpa using e3
      apply W.dregE (List.cons_ne_nil _ _)
      case hc =>
        (apply CanonE.advPO; simp only [go_sem, seval, reduceCtorEq, rzA D, n1])
        (apply CanonE.call (source_Words w0 _); (case hg => rfl); (case hf => rfl); (case ha => first | rfl | simp))
        (apply CanonE.advPO; simp only [go_sem, seval, reduceCtorEq, rzA D, n1])
        (apply CanonE.callw (str_contains w0 words5 (tokL t i).text _); (case hg => rfl); (case hf => rfl); (case ha => rfl); (case hw => ((exact wk_here))))
        (apply CanonE.advPO; simp only [go_sem, seval, reduceCtorEq, rzA D, n1, hw])
        exact CanonE.nil
      ((try refine W.a ?_); simp only [go_sem, seval, reduceCtorEq, rzA D])
      refine W.yes rfl ?_
      ((try refine W.a ?_); simp only [go_sem, seval, reduceCtorEq, rzA D, hwi, b1, b2, b3])
      refine W.no rfl ?_
      ((try refine W.a ?_); simp only [go_sem, seval, reduceCtorEq, rzA D, b1, b2, b3])
      refine W.no rfl ?_
      ((try refine W.a ?_); simp only [go_sem, seval, reduceCtorEq, rzA D, b1, b2, b3])
      refine W.yes rfl ?_
      ((try refine W.a ?_); simp only [go_sem, seval, reduceCtorEq, rzA D])
      (refine W.call (DC.lift1R D (fun D' => sr_operator w0 t hT (i + 1) hil 0 l hl hne _ b D')) rfl rfl (by first | rfl | simp) ?_)
      intro d σ1 hR
      rw [hr] at hR
      obtain ⟨s, j, l', e, p, rfl, rfl, hst⟩ := rsen_out hR
      ((try refine W.a ?_); simp only [go_sem, seval, reduceCtorEq, rzA D, sent_v])
      rcases hst with ⟨rfl, rfl, k, rfl, hr'⟩ | ⟨he, hr'⟩
      · subst hr'
        have hkf := before_far hr0
        simp only [dotP]
        by_cases hs2 : s.k = 2
        · have ns2 : (s.k != 2) = false := by simpa using hs2
          rw [if_pos hs2]
          ((try refine W.a ?_); simp only [go_sem, seval, reduceCtorEq, rzA D, ns2])
          refine W.no rfl ?_
          ((try refine W.a ?_); simp only [go_sem, seval, reduceCtorEq, rzA D])
          (refine W.fg (srd_ok D hok t (k : Nat) l' 0 0) (d := (sentAt s (tokL t i).pos).v) (by simp only [r35, go_sem, seval, reduceCtorEq, sent_v, sentAt, strsC]; rfl) (by simp only [resV, go_sem, seval, reduceCtorEq, sent_v, sentAt, strsC]; exact wk_here) ?_ (hl := by (first | exact .c _ | (simp only [go_sem, seval, reduceCtorEq, sent_v, sentAt, strsC]; done))))
          exact ⟨rfl, rfl⟩
        · have ns2 : (s.k != 2) = true := by simpa using hs2
          rw [if_neg hs2]
          ((try refine W.a ?_); simp only [go_sem, seval, reduceCtorEq, rzA D, ns2])
          refine W.yes rfl ?_
          ((try refine W.a ?_); simp only [go_sem, seval, reduceCtorEq, rzA D])
          (refine W.c1 (DC.lift1 D (fun D' => sr_end0 w0 t hT k (by omega) l' _ b D')) ?_; simp only [go_sem, seval, reduceCtorEq, rzA D])
          unfold endS
          by_cases h7 : (tokL t k).kind = 7
          · simp only [if_pos h7]
            (refine W.fg (srd_ok D hok t ((k + 1 : Nat) : Int) l' 0 0) (d := (sentAt s (tokL t i).pos).v) (by simp only [r35, go_sem, seval, reduceCtorEq, sent_v, sentAt, strsC]; rfl) (by simp only [resV, go_sem, seval, reduceCtorEq, sent_v, sentAt, strsC]; exact wk_here) ?_ (hl := by (first | exact .c _ | (simp only [go_sem, seval, reduceCtorEq, sent_v, sentAt, strsC]; done))))
            exact ⟨rfl, rfl⟩
          · simp only [if_neg h7]
            (refine W.fg (srd_ok D hok t ((k + 1 : Nat) : Int) l' 101 (tokL t k).pos) (d := (sentAt s (tokL t i).pos).v) (by simp only [r35, go_sem, seval, reduceCtorEq, sent_v, sentAt, strsC]; rfl) (by simp only [resV, go_sem, seval, reduceCtorEq, sent_v, sentAt, strsC]; exact wk_here) ?_ (hl := by (first | exact .c _ | (simp only [go_sem, seval, reduceCtorEq, sent_v, sentAt, strsC]; done))))
            exact ⟨rfl, _, _, _, rfl, rfl⟩
      · subst hr'
        simp only [dotP]
        by_cases hs2 : s.k = 2
        · have ns2 : (s.k != 2) = false := by simpa using hs2
          ((try refine W.a ?_); simp only [go_sem, seval, reduceCtorEq, rzA D, ns2])
          refine W.no rfl ?_
          ((try refine W.a ?_); simp only [go_sem, seval, reduceCtorEq, rzA D])
          (refine W.fg (srd_ok D hok t j l' e p) (d := (sentAt s (tokL t i).pos).v) (by simp only [r35, go_sem, seval, reduceCtorEq, sent_v, sentAt, strsC]; rfl) (by simp only [resV, go_sem, seval, reduceCtorEq, sent_v, sentAt, strsC]; exact wk_here) ?_ (hl := by (first | exact .c _ | (simp only [go_sem, seval, reduceCtorEq, sent_v, sentAt, strsC]; done))))
          exact ⟨he, _, _, _, rfl, rfl⟩
        · have ns2 : (s.k != 2) = true := by simpa using hs2
          ((try refine W.a ?_); simp only [go_sem, seval, reduceCtorEq, rzA D, ns2])
          refine W.yes rfl ?_
          ((try refine W.a ?_); simp only [go_sem, seval, reduceCtorEq, rzA D])
          (refine W.c1 (DC.lift1 D (fun D' => sr_end1 w0 t j l' e p he _ b D')) ?_; simp only [go_sem, seval, reduceCtorEq, rzA D])
          (refine W.fg (srd_ok D hok t j l' e p) (d := (sentAt s (tokL t i).pos).v) (by simp only [r35, go_sem, seval, reduceCtorEq, sent_v, sentAt, strsC]; rfl) (by simp only [resV, go_sem, seval, reduceCtorEq, sent_v, sentAt, strsC]; exact wk_here) ?_ (hl := by (first | exact .c _ | (simp only [go_sem, seval, reduceCtorEq, sent_v, sentAt, strsC]; done))))
          exact ⟨he, _, _, _, rfl, rfl⟩
    rw [if_neg e3] at hr
    by_cases e4 : (tokL t i).text = [105, 110, 102, 105, 120, 108]
    · rw [if_pos e4] at hr
      have hw : words5.contains (tokL t i).text = true := by rw [e4]; rfl
      have b1 : ((tokL t i).text == [107, 105, 110, 100]) = false := by simpa using e1
      have b2 : ((tokL t i).text == [116, 121, 112, 101]) = false := by simpa using e2
      have b3 : ((tokL t i).text == [105, 110, 102, 105, 120]) = false := by simpa using e3
      have b4 : ((tokL t i).text == [105, 110, 102, 105, 120, 108]) = true := by simpa using e4
      apply W.dregE (List.cons_ne_nil _ _)
      case hc =>
        (apply CanonE.advPO; simp only [go_sem, seval, reduceCtorEq, rzA D, n1])
        (apply CanonE.call (source_Words w0 _); (case hg => rfl); (case hf => rfl); (case ha => first | rfl | simp))
        (apply CanonE.advPO; simp only [go_sem, seval, reduceCtorEq, rzA D, n1])
        (apply CanonE.callw (str_contains w0 words5 (tokL t i).text _); (case hg => rfl); (case hf => rfl); (case ha => rfl); (case hw => ((exact wk_here))))
        (apply CanonE.advPO; simp only [go_sem, seval, reduceCtorEq, rzA D, n1, hw])
        exact CanonE.nil
      ((try refine W.a ?_); simp only [go_sem, seval, reduceCtorEq, rzA D])
      refine W.yes rfl ?_
      ((try refine W.a ?_); simp only [go_sem, seval, reduceCtorEq, rzA D, hwi, b1, b2, b3, b4])
      refine W.no rfl ?_
      ((try refine W.a ?_); simp only [go_sem, seval, reduceCtorEq, rzA D, b1, b2, b3, b4])
      refine W.no rfl ?_
      ((try refine W.a ?_); simp only [go_sem, seval, reduceCtorEq, rzA D, b1, b2, b3, b4])
      refine W.no rfl ?_
      ((try refine W.a ?_); simp only [go_sem, seval, reduceCtorEq, rzA D, b1, b2, b3, b4])
      refine W.yes rfl ?_
      ((try refine W.a ?_); simp only [go_sem, seval, reduceCtorEq, rzA D])
      (refine W.call (DC.lift1R D (fun D' => sr_operator w0 t hT (i + 1) hil 1 l hl hne _ b D')) rfl rfl (by first | rfl | simp) ?_)
      intro d σ1 hR
      rw [hr] at hR
      obtain ⟨s, j, l', e, p, rfl, rfl, hst⟩ := rsen_out hR
      ((try refine W.a ?_); simp only [go_sem, seval, reduceCtorEq, rzA D, sent_v])
      rcases hst with ⟨rfl, rfl, k, rfl, hr'⟩ | ⟨he, hr'⟩
      · subst hr'
        have hkf := before_far hr0
        simp only [dotP]
        by_cases hs2 : s.k = 2
        · have ns2 : (s.k != 2) = false := by simpa using hs2
          rw [if_pos hs2]
          ((try refine W.a ?_); simp only [go_sem, seval, reduceCtorEq, rzA D, ns2])
          refine W.no rfl ?_
          ((try refine W.a ?_); simp only [go_sem, seval, reduceCtorEq, rzA D])
          (refine W.fg (srd_ok D hok t (k : Nat) l' 0 0) (d := (sentAt s (tokL t i).pos).v) (by simp only [r35, go_sem, seval, reduceCtorEq, sent_v, sentAt, strsC]; rfl) (by simp only [resV, go_sem, seval, reduceCtorEq, sent_v, sentAt, strsC]; exact wk_here) ?_ (hl := by (first | exact .c _ | (simp only [go_sem, seval, reduceCtorEq, sent_v, sentAt, strsC]; done))))
          exact ⟨rfl, rfl⟩
        · have ns2 : (s.k != 2) = true := by simpa using hs2
          rw [if_neg hs2]
          ((try refine W.a ?_); simp only [go_sem, seval, reduceCtorEq, rzA D, ns2])
          refine W.yes rfl ?_
          ((try refine W.a ?_); simp only [go_sem, seval, reduceCtorEq, rzA D])
          (refine W.c1 (DC.lift1 D (fun D' => sr_end0 w0 t hT k (by omega) l' _ b D')) ?_; simp only [go_sem, seval, reduceCtorEq, rzA D])
          unfold endS
          by_cases h7 : (tokL t k).kind = 7
          · simp only [if_pos h7]
            (refine W.fg (srd_ok D hok t ((k + 1 : Nat) : Int) l' 0 0) (d := (sentAt s (tokL t i).pos).v) (by simp only [r35, go_sem, seval, reduceCtorEq, sent_v, sentAt, strsC]; rfl) (by simp only [resV, go_sem, seval, reduceCtorEq, sent_v, sentAt, strsC]; exact wk_here) ?_ (hl := by (first | exact .c _ | (simp only [go_sem, seval, reduceCtorEq, sent_v, sentAt, strsC]; done))))
            exact ⟨rfl, rfl⟩
          · simp only [if_neg h7]
            (refine W.fg (srd_ok D hok t ((k + 1 : Nat) : Int) l' 101 (tokL t k).pos) (d := (sentAt s (tokL t i).pos).v) (by simp only [r35, go_sem, seval, reduceCtorEq, sent_v, sentAt, strsC]; rfl) (by simp only [resV, go_sem, seval, reduceCtorEq, sent_v, sentAt, strsC]; exact wk_here) ?_ (hl := by (first | exact .c _ | (simp only [go_sem, seval, reduceCtorEq, sent_v, sentAt, strsC]; done))))
            exact ⟨rfl, _, _, _, rfl, rfl⟩
      · subst hr'
        simp only [dotP]
        by_cases hs2 : s.k = 2
        · have ns2 : (s.k != 2) = false := by simpa using hs2
          ((try refine W.a ?_); simp only [go_sem, seval, reduceCtorEq, rzA D, ns2])
          refine W.no rfl ?_
          ((try refine W.a ?_); simp only [go_sem, seval, reduceCtorEq, rzA D])
          (refine W.fg (srd_ok D hok t j l' e p) (d := (sentAt s (tokL t i).pos).v) (by simp only [r35, go_sem, seval, reduceCtorEq, sent_v, sentAt, strsC]; rfl) (by simp only [resV, go_sem, seval, reduceCtorEq, sent_v, sentAt, strsC]; exact wk_here) ?_ (hl := by (first | exact .c _ | (simp only [go_sem, seval, reduceCtorEq, sent_v, sentAt, strsC]; done))))
          exact ⟨he, _, _, _, rfl, rfl⟩
        · have ns2 : (s.k != 2) = true := by simpa using hs2
          ((try refine W.a ?_); simp only [go_sem, seval, reduceCtorEq, rzA D, ns2])
          refine W.yes rfl ?_
          ((try refine W.a ?_); simp only [go_sem, seval, reduceCtorEq, rzA D])
          (refine W.c1 (DC.lift1 D (fun D' => sr_end1 w0 t j l' e p he _ b D')) ?_; simp only [go_sem, seval, reduceCtorEq, rzA D])
          (refine W.fg (srd_ok D hok t j l' e p) (d := (sentAt s (tokL t i).pos).v) (by simp only [r35, go_sem, seval, reduceCtorEq, sent_v, sentAt, strsC]; rfl) (by simp only [resV, go_sem, seval, reduceCtorEq, sent_v, sentAt, strsC]; exact wk_here) ?_ (hl := by (first | exact .c _ | (simp only [go_sem, seval, reduceCtorEq, sent_v, sentAt, strsC]; done))))
          exact ⟨he, _, _, _, rfl, rfl⟩
    rw [if_neg e4] at hr
    by_cases e5 : (tokL t i).text = [105, 110, 102, 105, 120, 114]
    · rw [if_pos e5] at hr
      have hw : words5.contains (tokL t i).text = true := by rw [e5]; rfl
      have b1 : ((tokL t i).text == [107, 105, 110, 100]) = false := by simpa using e1
      have b2 : ((tokL t i).text == [116, 121, 112, 101]) = false := by simpa using e2
      have b3 : ((tokL t i).text == [105, 110, 102, 105, 120]) = false := by simpa using e3
      have b4 : ((tokL t i).text == [105, 110, 102, 105, 120, 108]) = false := by simpa using e4
      have b5 : ((tokL t i).text == [105, 110, 102, 105, 120, 114]) = true := by simpa using e5
      apply W.dregE (List.cons_ne_nil _ _)
      case hc =>
        (apply CanonE.advPO; simp only [go_sem, seval, reduceCtorEq, rzA D, n1])
        (apply CanonE.call (source_Words w0 _); (case hg => rfl); (case hf => rfl); (case ha => first | rfl | simp))
        (apply CanonE.advPO; simp only [go_sem, seval, reduceCtorEq, rzA D, n1])
        (apply CanonE.callw (str_contains w0 words5 (tokL t i).text _); (case hg => rfl); (case hf => rfl); (case ha => rfl); (case hw => ((exact wk_here))))
        (apply CanonE.advPO; simp only [go_sem, seval, reduceCtorEq, rzA D, n1, hw])
        exact CanonE.nil
      ((try refine W.a ?_); simp only [go_sem, seval, reduceCtorEq, rzA D])
      refine W.yes rfl ?_
      ((try refine W.a ?_); simp only [go_sem, seval, reduceCtorEq, rzA D, hwi, b1, b2, b3, b4, b5])
      refine W.no rfl ?_
      ((try refine W.a ?_); simp only [go_sem, seval, reduceCtorEq, rzA D, b1, b2, b3, b4, b5])
      refine W.no rfl ?_
      ((try refine W.a ?_); simp only [go_sem, seval, reduceCtorEq, rzA D, b1, b2, b3, b4, b5])
      refine W.no rfl ?_
      ((try refine W.a ?_); simp only [go_sem, seval, reduceCtorEq, rzA D, b1, b2, b3, b4, b5])
      refine W.no rfl ?_
      ((try refine W.a ?_); simp only [go_sem, seval, reduceCtorEq, rzA D, b1, b2, b3, b4, b5])
      refine W.yes rfl ?_
      ((try refine W.a ?_); simp only [go_sem, seval, reduceCtorEq, rzA D])
      (refine W.call (DC.lift1R D (fun D' => sr_operator w0 t hT (i + 1) hil 2 l hl hne _ b D')) rfl rfl (by first | rfl | simp) ?_)
      intro d σ1 hR
      rw [hr] at hR
      obtain ⟨s, j, l', e, p, rfl, rfl, hst⟩ := rsen_out hR
      ((try refine W.a ?_); simp only [go_sem, seval, reduceCtorEq, rzA D, sent_v])
      rcases hst with ⟨rfl, rfl, k, rfl, hr'⟩ | ⟨he, hr'⟩
      · subst hr'
        have hkf := before_far hr0
        simp only [dotP]
        by_cases hs2 : s.k = 2
        · have ns2 : (s.k != 2) = false := by simpa using hs2
          rw [if_pos hs2]
          ((try refine W.a ?_); simp only [go_sem, seval, reduceCtorEq, rzA D, ns2])
          refine W.no rfl ?_
          ((try refine W.a ?_); simp only [go_sem, seval, reduceCtorEq, rzA D])
          (refine W.fg (srd_ok D hok t (k : Nat) l' 0 0) (d := (sentAt s (tokL t i).pos).v) (by simp only [r35, go_sem, seval, reduceCtorEq, sent_v, sentAt, strsC]; rfl) (by simp only [resV, go_sem, seval, reduceCtorEq, sent_v, sentAt, strsC]; exact wk_here) ?_ (hl := by (first | exact .c _ | (simp only [go_sem, seval, reduceCtorEq, sent_v, sentAt, strsC]; done))))
          exact ⟨rfl, rfl⟩
        · have ns2 : (s.k != 2) = true := by simpa using hs2
          rw [if_neg hs2]
          ((try refine W.a ?_); simp only [go_sem, seval, reduceCtorEq, rzA D, ns2])
          refine W.yes rfl ?_
          ((try refine W.a ?_); simp only [go_sem, seval, reduceCtorEq, rzA D])
          (refine W.c1 (DC.lift1 D (fun D' => sr_end0 w0 t hT k (by omega) l' _ b D')) ?_; simp only [go_sem, seval, reduceCtorEq, rzA D])
          unfold endS
          by_cases h7 : (tokL t k).kind = 7
          · simp only [if_pos h7]
            (refine W.fg (srd_ok D hok t ((k + 1 : Nat) : Int) l' 0 0) (d := (sentAt s (tokL t i).pos).v) (by simp only [r35, go_sem, seval, reduceCtorEq, sent_v, sentAt, strsC]; rfl) (by simp only [resV, go_sem, seval, reduceCtorEq, sent_v, sentAt, strsC]; exact wk_here) ?_ (hl := by (first | exact .c _ | (simp only [go_sem, seval, reduceCtorEq, sent_v, sentAt, strsC]; done))))
            exact ⟨rfl, rfl⟩
          · simp only [if_neg h7]
            (refine W.fg (srd_ok D hok t ((k + 1 : Nat) : Int) l' 101 (tokL t k).pos) (d := (sentAt s (tokL t i).pos).v) (by simp only [r35, go_sem, seval, reduceCtorEq, sent_v, sentAt, strsC]; rfl) (by simp only [resV, go_sem, seval, reduceCtorEq, sent_v, sentAt, strsC]; exact wk_here) ?_ (hl := by (first | exact .c _ | (simp only [go_sem, seval, reduceCtorEq, sent_v, sentAt, strsC]; done))))
            exact ⟨rfl, _, _, _, rfl, rfl⟩
      · subst hr'
        simp only [dotP]
        by_cases hs2 : s.k = 2
        · have ns2 : (s.k != 2) = false := by simpa using hs2
          ((try refine W.a ?_); simp only [go_sem, seval, reduceCtorEq, rzA D, ns2])
          refine W.no rfl ?_
          ((try refine W.a ?_); simp only [go_sem, seval, reduceCtorEq, rzA D])
          (refine W.fg (srd_ok D hok t j l' e p) (d := (sentAt s (tokL t i).pos).v) (by simp only [r35, go_sem, seval, reduceCtorEq, sent_v, sentAt, strsC]; rfl) (by simp only [resV, go_sem, seval, reduceCtorEq, sent_v, sentAt, strsC]; exact wk_here) ?_ (hl := by (first | exact .c _ | (simp only [go_sem, seval, reduceCtorEq, sent_v, sentAt, strsC]; done))))
          exact ⟨he, _, _, _, rfl, rfl⟩
        · have ns2 : (s.k != 2) = true := by simpa using hs2
          ((try refine W.a ?_); simp only [go_sem, seval, reduceCtorEq, rzA D, ns2])
          refine W.yes rfl ?_
          ((try refine W.a ?_); simp only [go_sem, seval, reduceCtorEq, rzA D])
          (refine W.c1 (DC.lift1 D (fun D' => sr_end1 w0 t j l' e p he _ b D')) ?_; simp only [go_sem, seval, reduceCtorEq, rzA D])
          (refine W.fg (srd_ok D hok t j l' e p) (d := (sentAt s (tokL t i).pos).v) (by simp only [r35, go_sem, seval, reduceCtorEq, sent_v, sentAt, strsC]; rfl) (by simp only [resV, go_sem, seval, reduceCtorEq, sent_v, sentAt, strsC]; exact wk_here) ?_ (hl := by (first | exact .c _ | (simp only [go_sem, seval, reduceCtorEq, sent_v, sentAt, strsC]; done))))
          exact ⟨he, _, _, _, rfl, rfl⟩
    rw [if_neg e5] at hr
    have hw : words5.contains (tokL t i).text = false := by
      cases h : words5.contains (tokL t i).text
      · rfl
      · rw [List.contains_iff_mem] at h
        simp only [words5, List.mem_cons, List.not_mem_nil, or_false] at h
        rcases h with h | h | h | h | h
        · exact absurd h e1
        · exact absurd h e2
        · exact absurd h e3
        · exact absurd h e4
        · exact absurd h e5
    apply W.dregE (List.cons_ne_nil _ _)
    case hc =>
      (apply CanonE.advPO; simp only [go_sem, seval, reduceCtorEq, rzA D, n1])
      (apply CanonE.call (source_Words w0 _); (case hg => rfl); (case hf => rfl); (case ha => first | rfl | simp))
      (apply CanonE.advPO; simp only [go_sem, seval, reduceCtorEq, rzA D, n1])
      (apply CanonE.callw (str_contains w0 words5 (tokL t i).text _); (case hg => rfl); (case hf => rfl); (case ha => rfl); (case hw => ((exact wk_here))))
      (apply CanonE.advPO; simp only [go_sem, seval, reduceCtorEq, rzA D, n1, hw])
      exact CanonE.nil
    ((try refine W.a ?_); simp only [go_sem, seval, reduceCtorEq, rzA D])
    refine W.no rfl ?_
    ((try refine W.a ?_); simp only [go_sem, seval, reduceCtorEq, rzA D])
    refine W.no rfl ?_
    ((try refine W.a ?_); simp only [go_sem, seval, reduceCtorEq, rzA D])
    refine W.no rfl ?_
    ((try refine W.a ?_); simp only [go_sem, seval, reduceCtorEq, rzA D])
    refine W.no rfl ?_
    ((try refine W.a ?_); simp only [go_sem, seval, reduceCtorEq, rzA D])
    refine W.no rfl ?_
    ((try refine W.a ?_); simp only [go_sem, seval, reduceCtorEq, rzA D])
    refine W.no rfl ?_
    ((try refine W.a ?_); simp only [go_sem, seval, reduceCtorEq, rzA D])
    (refine W.call (DC.lift1R D (fun D' => sr_clause w0 t hT i hi l _ b D')) rfl rfl (by first | rfl | simp) ?_)
    intro d σ1 hR
    rw [hr] at hR
    obtain ⟨s, j, l', e, p, rfl, rfl, hst⟩ := rsen_out hR
    ((try refine W.a ?_); simp only [go_sem, seval, reduceCtorEq, rzA D, sent_v])
    rcases hst with ⟨rfl, rfl, k, rfl, hr'⟩ | ⟨he, hr'⟩
    · subst hr'
      have hkf := before_far hr0
      simp only [dotP]
      by_cases hs2 : s.k = 2
      · have ns2 : (s.k != 2) = false := by simpa using hs2
        rw [if_pos hs2]
        ((try refine W.a ?_); simp only [go_sem, seval, reduceCtorEq, rzA D, ns2])
        refine W.no rfl ?_
        ((try refine W.a ?_); simp only [go_sem, seval, reduceCtorEq, rzA D])
        (refine W.fg (srd_ok D hok t (k : Nat) l' 0 0) (d := (sentAt s (tokL t i).pos).v) (by simp only [r35, go_sem, seval, reduceCtorEq, sent_v, sentAt, strsC]; rfl) (by simp only [resV, go_sem, seval, reduceCtorEq, sent_v, sentAt, strsC]; exact wk_here) ?_ (hl := by (first | exact .c _ | (simp only [go_sem, seval, reduceCtorEq, sent_v, sentAt, strsC]; done))))
        exact ⟨rfl, rfl⟩
      · have ns2 : (s.k != 2) = true := by simpa using hs2
        rw [if_neg hs2]
        ((try refine W.a ?_); simp only [go_sem, seval, reduceCtorEq, rzA D, ns2])
        refine W.yes rfl ?_
        ((try refine W.a ?_); simp only [go_sem, seval, reduceCtorEq, rzA D])
        (refine W.c1 (DC.lift1 D (fun D' => sr_end0 w0 t hT k (by omega) l' _ b D')) ?_; simp only [go_sem, seval, reduceCtorEq, rzA D])
        unfold endS
        by_cases h7 : (tokL t k).kind = 7
        · simp only [if_pos h7]
          (refine W.fg (srd_ok D hok t ((k + 1 : Nat) : Int) l' 0 0) (d := (sentAt s (tokL t i).pos).v) (by simp only [r35, go_sem, seval, reduceCtorEq, sent_v, sentAt, strsC]; rfl) (by simp only [resV, go_sem, seval, reduceCtorEq, sent_v, sentAt, strsC]; exact wk_here) ?_ (hl := by (first | exact .c _ | (simp only [go_sem, seval, reduceCtorEq, sent_v, sentAt, strsC]; done))))
          exact ⟨rfl, rfl⟩
        · simp only [if_neg h7]
          (refine W.fg (srd_ok D hok t ((k + 1 : Nat) : Int) l' 101 (tokL t k).pos) (d := (sentAt s (tokL t i).pos).v) (by simp only [r35, go_sem, seval, reduceCtorEq, sent_v, sentAt, strsC]; rfl) (by simp only [resV, go_sem, seval, reduceCtorEq, sent_v, sentAt, strsC]; exact wk_here) ?_ (hl := by (first | exact .c _ | (simp only [go_sem, seval, reduceCtorEq, sent_v, sentAt, strsC]; done))))
          exact ⟨rfl, _, _, _, rfl, rfl⟩
    · subst hr'
      simp only [dotP]
      by_cases hs2 : s.k = 2
      · have ns2 : (s.k != 2) = false := by simpa using hs2
        ((try refine W.a ?_); simp only [go_sem, seval, reduceCtorEq, rzA D, ns2])
        refine W.no rfl ?_
        ((try refine W.a ?_); simp only [go_sem, seval, reduceCtorEq, rzA D])
        (refine W.fg (srd_ok D hok t j l' e p) (d := (sentAt s (tokL t i).pos).v) (by simp only [r35, go_sem, seval, reduceCtorEq, sent_v, sentAt, strsC]; rfl) (by simp only [resV, go_sem, seval, reduceCtorEq, sent_v, sentAt, strsC]; exact wk_here) ?_ (hl := by (first | exact .c _ | (simp only [go_sem, seval, reduceCtorEq, sent_v, sentAt, strsC]; done))))
        exact ⟨he, _, _, _, rfl, rfl⟩
      · have ns2 : (s.k != 2) = true := by simpa using hs2
        ((try refine W.a ?_); simp only [go_sem, seval, reduceCtorEq, rzA D, ns2])
        refine W.yes rfl ?_
        ((try refine W.a ?_); simp only [go_sem, seval, reduceCtorEq, rzA D])
        (refine W.c1 (DC.lift1 D (fun D' => sr_end1 w0 t j l' e p he _ b D')) ?_; simp only [go_sem, seval, reduceCtorEq, rzA D])
        (refine W.fg (srd_ok D hok t j l' e p) (d := (sentAt s (tokL t i).pos).v) (by simp only [r35, go_sem, seval, reduceCtorEq, sent_v, sentAt, strsC]; rfl) (by simp only [resV, go_sem, seval, reduceCtorEq, sent_v, sentAt, strsC]; exact wk_here) ?_ (hl := by (first | exact .c _ | (simp only [go_sem, seval, reduceCtorEq, sent_v, sentAt, strsC]; done))))
        exact ⟨he, _, _, _, rfl, rfl⟩
  · have n1 : ((tokL t i).kind == 1) = false := by simpa using hk1
    simp only [hk1, false_and, if_false] at hr
    apply W.dregE (List.cons_ne_nil _ _)
    case hc =>
      (apply CanonE.advPO; simp only [go_sem, seval, reduceCtorEq, rzA D, n1])
      exact CanonE.nil
    ((try refine W.a ?_); simp only [go_sem, seval, reduceCtorEq, rzA D])
    refine W.no rfl ?_
    ((try refine W.a ?_); simp only [go_sem, seval, reduceCtorEq, rzA D])
    refine W.no rfl ?_
    ((try refine W.a ?_); simp only [go_sem, seval, reduceCtorEq, rzA D])
    refine W.no rfl ?_
    ((try refine W.a ?_); simp only [go_sem, seval, reduceCtorEq, rzA D])
    refine W.no rfl ?_
    ((try refine W.a ?_); simp only [go_sem, seval, reduceCtorEq, rzA D])
    refine W.no rfl ?_
    ((try refine W.a ?_); simp only [go_sem, seval, reduceCtorEq, rzA D])
    refine W.no rfl ?_
    ((try refine W.a ?_); simp only [go_sem, seval, reduceCtorEq, rzA D])
    (refine W.call (DC.lift1R D (fun D' => sr_clause w0 t hT i hi l _ b D')) rfl rfl (by first | rfl | simp) ?_)
    intro d σ1 hR
    rw [hr] at hR
    obtain ⟨s, j, l', e, p, rfl, rfl, hst⟩ := rsen_out hR
    ((try refine W.a ?_); simp only [go_sem, seval, reduceCtorEq, rzA D, sent_v])
    rcases hst with ⟨rfl, rfl, k, rfl, hr'⟩ | ⟨he, hr'⟩
    · subst hr'
      have hkf := before_far hr0
      simp only [dotP]
      by_cases hs2 : s.k = 2
      · have ns2 : (s.k != 2) = false := by simpa using hs2
        rw [if_pos hs2]
        ((try refine W.a ?_); simp only [go_sem, seval, reduceCtorEq, rzA D, ns2])
        refine W.no rfl ?_
        ((try refine W.a ?_); simp only [go_sem, seval, reduceCtorEq, rzA D])
        (refine W.fg (srd_ok D hok t (k : Nat) l' 0 0) (d := (sentAt s (tokL t i).pos).v) (by simp only [r35, go_sem, seval, reduceCtorEq, sent_v, sentAt, strsC]; rfl) (by simp only [resV, go_sem, seval, reduceCtorEq, sent_v, sentAt, strsC]; exact wk_here) ?_ (hl := by (first | exact .c _ | (simp only [go_sem, seval, reduceCtorEq, sent_v, sentAt, strsC]; done))))
        exact ⟨rfl, rfl⟩
      · have ns2 : (s.k != 2) = true := by simpa using hs2
        rw [if_neg hs2]
        ((try refine W.a ?_); simp only [go_sem, seval, reduceCtorEq, rzA D, ns2])
        refine W.yes rfl ?_
        ((try refine W.a ?_); simp only [go_sem, seval, reduceCtorEq, rzA D])
        (refine W.c1 (DC.lift1 D (fun D' => sr_end0 w0 t hT k (by omega) l' _ b D')) ?_; simp only [go_sem, seval, reduceCtorEq, rzA D])
        unfold endS
        by_cases h7 : (tokL t k).kind = 7
        · simp only [if_pos h7]
          (refine W.fg (srd_ok D hok t ((k + 1 : Nat) : Int) l' 0 0) (d := (sentAt s (tokL t i).pos).v) (by simp only [r35, go_sem, seval, reduceCtorEq, sent_v, sentAt, strsC]; rfl) (by simp only [resV, go_sem, seval, reduceCtorEq, sent_v, sentAt, strsC]; exact wk_here) ?_ (hl := by (first | exact .c _ | (simp only [go_sem, seval, reduceCtorEq, sent_v, sentAt, strsC]; done))))
          exact ⟨rfl, rfl⟩
        · simp only [if_neg h7]
          (refine W.fg (srd_ok D hok t ((k + 1 : Nat) : Int) l' 101 (tokL t k).pos) (d := (sentAt s (tokL t i).pos).v) (by simp only [r35, go_sem, seval, reduceCtorEq, sent_v, sentAt, strsC]; rfl) (by simp only [resV, go_sem, seval, reduceCtorEq, sent_v, sentAt, strsC]; exact wk_here) ?_ (hl := by (first | exact .c _ | (simp only [go_sem, seval, reduceCtorEq, sent_v, sentAt, strsC]; done))))
          exact ⟨rfl, _, _, _, rfl, rfl⟩
    · subst hr'
      simp only [dotP]
      by_cases hs2 : s.k = 2
      · have ns2 : (s.k != 2) = false := by simpa using hs2
        ((try refine W.a ?_); simp only [go_sem, seval, reduceCtorEq, rzA D, ns2])
        refine W.no rfl ?_
        ((try refine W.a ?_); simp only [go_sem, seval, reduceCtorEq, rzA D])
        (refine W.fg (srd_ok D hok t j l' e p) (d := (sentAt s (tokL t i).pos).v) (by simp only [r35, go_sem, seval, reduceCtorEq, sent_v, sentAt, strsC]; rfl) (by simp only [resV, go_sem, seval, reduceCtorEq, sent_v, sentAt, strsC]; exact wk_here) ?_ (hl := by (first | exact .c _ | (simp only [go_sem, seval, reduceCtorEq, sent_v, sentAt, strsC]; done))))
        exact ⟨he, _, _, _, rfl, rfl⟩
      · have ns2 : (s.k != 2) = true := by simpa using hs2
        ((try refine W.a ?_); simp only [go_sem, seval, reduceCtorEq, rzA D, ns2])
        refine W.yes rfl ?_
        ((try refine W.a ?_); simp only [go_sem, seval, reduceCtorEq, rzA D])
        (refine W.c1 (DC.lift1 D (fun D' => sr_end1 w0 t j l' e p he _ b D')) ?_; simp only [go_sem, seval, reduceCtorEq, rzA D])
        (refine W.fg (srd_ok D hok t j l' e p) (d := (sentAt s (tokL t i).pos).v) (by simp only [r35, go_sem, seval, reduceCtorEq, sent_v, sentAt, strsC]; rfl) (by simp only [resV, go_sem, seval, reduceCtorEq, sent_v, sentAt, strsC]; exact wk_here) ?_ (hl := by (first | exact .c _ | (simp only [go_sem, seval, reduceCtorEq, sent_v, sentAt, strsC]; done))))
        exact ⟨he, _, _, _, rfl, rfl⟩
end
section
def c37 : AC :=
  .seq (.reg [.o 6 (.mov (.k (.csl [])))])
  (.seq (.reg [.o 7 (.mov (.k (.csl [])))])
  (.seq (.seq (.reg [.m 10 2, .o 11 (.lenr (.t 10)), .o 12 (.mov (.k (.c (.int .i64 0))))])
  (.block 0 (.loop (.seq (.reg [.o 13 (.bin .lss (.t 12) (.t 11))])
  (.seq (.cond (.t 13)
  (.skip)
  (.exit 0))
  (.seq (.block 1 (.seq (.reg [.o 14 (.iadd 1 (.t 10) (.t 12)), .l 15 14, .m 9 15])
  (.reg [.m 16 7, .m 17 9, .m 18 0, .m 19 1, .o 20 (.build [.c (.str []), .c (.int .i64 0), .c (.int .i64 0)] [(0, 1, (.t 17)), (1, 1, (.t 18)), (2, 1, (.t 19))]), .o 21 (.bsl 3 [(.t 20)]), .o 22 (.app 38 3 32 (.t 16) (.t 21)), .m 7 22])))
  (.reg [.o 23 (.bin .add (.t 12) (.k (.c (.int .i64 1)))), .m 12 23])))))))
  (.seq (.reg [.m 24 7, .m 6 24])
  (.ret))))
def r37 : List ResV := [.tmp 6]
theorem k37 : CodeIs Tryz.prog 37 3 Tryz.f37 c37 r37 := ⟨by kernel_rfl, Tryz.func37, rfl, by kernel_rfl, by kernel_rfl, by decide, enters_fn Tryz.func37 (by kernel_rfl) rfl⟩
def c36 : AC :=
  .seq (.reg [.o 2 (.mov (.k (.csl [])))])
  (.seq (.reg [.o 3 (.mov (.k (.c (.int .i64 0))))])
  (.seq (.seq (.reg [.m 9 0, .o 10 (.lenr (.t 9)), .o 11 (.mov (.k (.c (.int .i64 0))))])
  (.block 0 (.loop (.seq (.reg [.o 12 (.bin .lss (.t 11) (.t 10))])
  (.seq (.cond (.t 12)
  (.skip)
  (.exit 0))
  (.seq (.block 1 (.seq (.reg [.o 13 (.iadd 1 (.t 9) (.t 11)), .l 14 13, .m 5 14])
  (.seq (.reg [.m 15 3, .m 16 5, .o 17 (.lenr (.t 16)), .o 18 (.bin .add (.t 15) (.t 17)), .m 3 18])
  (.seq (.reg [.m 19 3, .o 20 (.bin .lss (.t 19) (.k (.c (.int .i64 0))))])
  (.cond (.t 20)
  (.reg [.o 21 (.bad), ⟨none, .bad, none⟩])
  (.skip))))))
  (.reg [.o 22 (.bin .add (.t 11) (.k (.c (.int .i64 1)))), .m 11 22])))))))
  (.seq (.reg [.m 23 3, .k 24 89 [(.k (.csl [])), (.t 23)], .m 6 24])
  (.seq (.seq (.reg [.m 25 0, .o 26 (.lenr (.t 25)), .o 27 (.mov (.k (.c (.int .i64 0))))])
  (.block 2 (.loop (.seq (.reg [.o 28 (.bin .lss (.t 27) (.t 26))])
  (.seq (.cond (.t 28)
  (.skip)
  (.exit 2))
  (.seq (.block 3 (.seq (.reg [.o 29 (.iadd 1 (.t 25) (.t 27)), .l 30 29, .m 8 30])
  (.reg [.m 31 6, .m 32 8, .o 33 (.app 38 3 32 (.t 31) (.t 32)), .m 6 33])))
  (.reg [.o 34 (.bin .add (.t 27) (.k (.c (.int .i64 1)))), .m 27 34])))))))
  (.seq (.reg [.m 35 6, .m 2 35])
  (.ret))))))
def r36 : List ResV := [.tmp 2]
theorem k36 : CodeIs Tryz.prog 36 1 Tryz.f36 c36 r36 := ⟨by kernel_rfl, Tryz.func36, rfl, by kernel_rfl, by kernel_rfl, by decide, enters_fn Tryz.func36 (by kernel_rfl) rfl⟩
def c9 : AC :=
  .seq (.reg [.o 0 (.mov (.k (.csl [])))])
  (.seq (.reg [.o 1 (.bsl 1 [(.k (.c (.str [58, 45])))]), .k 2 37 [(.k (.c (.int .i64 10))), (.k (.c (.int .i64 0))), (.t 1)], .o 3 (.bsl 1 [(.k (.c (.str [59])))]), .k 4 37 [(.k (.c (.int .i64 20))), (.k (.c (.int .i64 2))), (.t 3)], .o 5 (.bsl 1 [(.k (.c (.str [44])))]), .k 6 37 [(.k (.c (.int .i64 30))), (.k (.c (.int .i64 2))), (.t 5)], .o 7 (.bsl 1 [(.k (.c (.str [61, 62])))]), .k 8 37 [(.k (.c (.int .i64 40))), (.k (.c (.int .i64 2))), (.t 7)], .o 9 (.bsl 1 [(.k (.c (.str [61]))), (.k (.c (.str [105, 115]))), (.k (.c (.str [60]))), (.k (.c (.str [61, 60]))), (.k (.c (.str [62]))), (.k (.c (.str [62, 61])))]), .k 10 37 [(.k (.c (.int .i64 60))), (.k (.c (.int .i64 0))), (.t 9)], .o 11 (.bsl 1 [(.k (.c (.str [43]))), (.k (.c (.str [45])))]), .k 12 37 [(.k (.c (.int .i64 80))), (.k (.c (.int .i64 1))), (.t 11)], .o 13 (.bsl 1 [(.k (.c (.str [42]))), (.k (.c (.str [100, 105, 118]))), (.k (.c (.str [109, 111, 100])))]), .k 14 37 [(.k (.c (.int .i64 90))), (.k (.c (.int .i64 1))), (.t 13)], .o 15 (.bsl 1 [(.t 2), (.t 4), (.t 6), (.t 8), (.t 10), (.t 12), (.t 14)]), .k 16 36 [(.t 15)], .m 0 16])
  (.ret))
def r9 : List ResV := [.tmp 0]
theorem k9 : CodeIs Tryz.prog 9 0 Tryz.f9 c9 r9 := ⟨by kernel_rfl, Tryz.func9, rfl, by kernel_rfl, by kernel_rfl, by decide, enters_fn Tryz.func9 (by kernel_rfl) rfl⟩
def c21 : AC :=
  .seq (.reg [.o 2 (.box (.t 0)), .o 3 (.box (.t 1)), .o 4 (.mov (.k (.c (.bool false))))])
  (.seq (.seq (.reg [.f 7 0 2, .l 8 7, .f 9 0 3, .l 10 9, .o 11 (.bin .neq (.t 8) (.t 10)), .m 12 11, .z 13 (.fadd 1 (.t 2)) 12, .z 14 (.load1 (.t 13)) 12, .z 15 (.fadd 1 (.t 3)) 12, .z 16 (.load1 (.t 15)) 12, .z 17 (.bin .neq (.t 14) (.t 16)) 12, .o 18 (.pick (.t 12) (.k (.c (.bool true))) (.t 17)), .m 19 18, .z 20 (.fadd 2 (.t 2)) 19, .z 21 (.load1 (.t 20)) 19, .z 22 (.fadd 2 (.t 3)) 19, .z 23 (.load1 (.t 22)) 19, .z 24 (.bin .neq (.t 21) (.t 23)) 19, .o 25 (.pick (.t 19) (.k (.c (.bool true))) (.t 24)), .m 26 25, .z 27 (.fadd 4 (.t 2)) 26, .z 28 (.load1 (.t 27)) 26, .z 29 (.fadd 4 (.t 3)) 26, .z 30 (.load1 (.t 29)) 26, .z 31 (.bin .neq (.t 28) (.t 30)) 26, .o 32 (.pick (.t 26) (.k (.c (.bool true))) (.t 31)), .m 33 32, .z 34 (.fadd 3 (.t 2)) 33, .z 35 (.load1 (.t 34)) 33, .z 36 (.lenr (.t 35)) 33, .z 37 (.fadd 3 (.t 3)) 33, .z 38 (.load1 (.t 37)) 33, .z 39 (.lenr (.t 38)) 33, .z 40 (.bin .neq (.t 36) (.t 39)) 33, .o 41 (.pick (.t 33) (.k (.c (.bool true))) (.t 40))])
  (.cond (.t 41)
  (.seq (.reg [.o 4 (.mov (.k (.c (.bool false))))])
  (.ret))
  (.skip)))
  (.seq (.seq (.reg [.o 5 (.mov (.k (.c (.int .i64 0))))])
  (.block 0 (.loop (.seq (.seq (.reg [.m 42 5, .f 43 3 2, .l 44 43, .o 45 (.lenr (.t 44)), .o 46 (.bin .lss (.t 42) (.t 45))])
  (.cond (.t 46)
  (.skip)
  (.exit 0)))
  (.seq (.block 1 (.seq (.dreg [.f 49 3 2, .l 50 49, .m 51 5, .o 52 (.iadd 5 (.t 50) (.t 51)), .d 53 5 52, .f 54 3 3, .l 55 54, .m 56 5, .o 57 (.iadd 5 (.t 55) (.t 56)), .d 58 5 57, .k 59 21 [(.t 53), (.t 58)], .m 6 59]
    [.q (.f 49 3 2), .q (.l 50 49), .q (.m 51 5), .q (.o 52 (.iadd 5 (.t 50) (.t 51))), .q (.d 53 5 52), .q (.f 54 3 3), .q (.l 55 54), .q (.m 56 5), .q (.o 57 (.iadd 5 (.t 55) (.t 56))), .q (.d 58 5 57), ⟨.k 59 21 [(.t 53), (.t 58)], true, 0⟩, ⟨.m 6 59, false, 1⟩])
  (.seq (.reg [.m 60 6, .o 61 (.un .not (.t 60))])
  (.cond (.t 61)
  (.seq (.reg [.o 4 (.mov (.k (.c (.bool false))))])
  (.ret))
  (.skip)))))
  (.reg [.m 47 5, .o 48 (.bin .add (.t 47) (.k (.c (.int .i64 1)))), .m 5 48]))))))
  (.seq (.reg [.o 4 (.mov (.k (.c (.bool true))))])
  (.ret))))
def c38 : AC :=
  .seq (.reg [.o 2 (.box (.t 0)), .o 4 (.mov (.k (.c (.int .i64 0))))])
  (.seq (.reg [.m 7 1, .o 8 (.bin .sub (.t 7) (.k (.c (.int .i64 1)))), .m 5 8])
  (.seq (.seq (.reg [.o 6 (.mov (.k (.c (.int .i64 0))))])
  (.block 0 (.loop (.seq (.seq (.reg [.m 9 6, .f 10 3 2, .l 11 10, .o 12 (.lenr (.t 11)), .o 13 (.bin .lss (.t 9) (.t 12)), .m 14 13, .y 15 (.mov (.t 5)) 14, .y 16 (.bin .geq (.t 15) (.k (.c (.int .i64 0)))) 14, .o 17 (.pick (.t 14) (.t 16) (.k (.c (.bool false))))])
  (.cond (.t 17)
  (.skip)
  (.exit 0)))
  (.seq (.block 1 (.reg [.f 20 3 2, .l 21 20, .m 22 6, .o 23 (.iadd 5 (.t 21) (.t 22)), .d 24 5 23, .m 25 5, .k 26 38 [(.t 24), (.t 25)], .m 5 26]))
  (.reg [.m 18 6, .o 19 (.bin .add (.t 18) (.k (.c (.int .i64 1)))), .m 6 19]))))))
  (.seq (.reg [.m 27 5, .m 4 27])
  (.ret))))
def r38 : List ResV := [.tmp 4]
theorem k38 : CodeIs Tryz.prog 38 2 Tryz.f38 c38 r38 := ⟨by kernel_rfl, Tryz.func38, rfl, by kernel_rfl, by kernel_rfl, by decide, enters_fn Tryz.func38 (by kernel_rfl) rfl⟩
def c10 : AC :=
  .seq (.reg [.o 2 (.box (.t 0)), .o 4 (.mov (.k (.c (.bool false))))])
  (.seq (.reg [.d 6 5 2, .m 7 1, .k 8 38 [(.t 6), (.t 7)], .m 5 8])
  (.seq (.reg [.m 9 5, .o 10 (.bin .lss (.t 9) (.k (.c (.int .i64 0)))), .m 4 10])
  (.ret)))
def r10 : List ResV := [.tmp 4]
theorem k10 : CodeIs Tryz.prog 10 2 Tryz.f10 c10 r10 := ⟨by kernel_rfl, Tryz.func10, rfl, by kernel_rfl, by kernel_rfl, by decide, enters_fn Tryz.func10 (by kernel_rfl) rfl⟩
end
section

def rowOf (prec fix : Int) (names : List (List UInt8)) : List OpT := names.map fun n => ⟨n, prec, fix⟩
theorem ops_row (w0 : World) (prec fix : Int) (names : List (List UInt8)) (hn : names.length ≤ 1000) (σ : H) :
    DC Tryz.prog w0 37 [I prec, I fix, .csl (names.map fun n => [.str n])] σ (Same (.c (opsC (rowOf prec fix names))) σ) := by
  refine k37.go rfl (fun hok hsz => ?_)
  ((try refine W.a ?_); simp only [go_sem, seval, reduceCtorEq, c37])
  refine W.own 7 38 3 rfl ?_
  refine W.loopP (fun i => i ≤ names.length) (fun i => ⟨((((((base.put (some 0) (I prec)).put (some 1) (I fix)).put (some 7) (.osl σ.length ((rowOf prec fix (names.take i)).map OpT.cs))).put (some 10) (.csl (names.map fun n => [.str n]))).put (some 11) (I names.length)).put (some 12) (I i)), σ ++ [.spare 38 3 i]⟩) (fun i => names.length - i) 0 (Nat.zero_le _) ?_ (fun i hi => ?_)
  · (refine Lew.env ?_; exact lee_here)
  · by_cases hlt : i < names.length
    · have h1 : ((i : Int) < (names.length : Int)) := by omega
      have hx : names[i]? = some names[i] := List.getElem?_eq_getElem hlt
      have hl : (rowOf prec fix (names.take i)).length = i := by simp [rowOf, hi]
      have hb1 : (i + 1) * 32 ≤ 140737488355328 := by omega
      have hb2 : i + 1 ≤ 140737488355328 := by omega
      have hta : (rowOf prec fix (names.take (i + 1))).map OpT.cs = (rowOf prec fix (names.take i)).map OpT.cs ++ [OpT.cs ⟨names[i], prec, fix⟩] := by
        unfold rowOf
        rw [List.take_add_one, hx, List.map_append, List.map_append]; rfl
      have hw : IntKind.i64.wrap ((i : Int) + 1) = ((i + 1 : Nat) : Int) := by rw [wrap_in] <;> omega
      ((try refine W.a ?_); simp only [go_sem, seval, reduceCtorEq, h1])
      refine W.yes rfl ?_
      ((try refine W.a ?_); simp only [go_sem, seval, reduceCtorEq, h1, nat0, hx, hl, hb1, hb2, eq_self, hw])
      refine .inv ⟨i + 1, hlt, by omega, ?_⟩
      simp only [go_sem, seval, reduceCtorEq, hta]
      (refine Lew.env ?_; exact lee_here)
    · have h1 : ¬ ((i : Int) < (names.length : Int)) := by omega
      have hi' : i = names.length := by omega
      subst hi'
      ((try refine W.a ?_); simp only [go_sem, seval, reduceCtorEq, h1])
      refine W.no rfl ?_
      ((try refine W.a ?_); simp only [go_sem, seval, reduceCtorEq, List.take_length])
      (refine W.fs (hok) (by simp only [r37, go_sem, seval, reduceCtorEq]; rfl) ?_; simp only [resV]; try exact V.wk.rfl _)
      (all_goals exact wk_here)
end
section

theorem flat_take {α : Type} {ls : List (List α)} {i : Nat} (h : i < ls.length) : (ls.take (i + 1)).flatten = (ls.take i).flatten ++ ls[i] := by
  rw [List.take_add_one, List.getElem?_eq_getElem h, List.flatten_append]
  congr 1
  exact List.append_nil _
theorem flat_le {α : Type} {ls : List (List α)} (i : Nat) : (ls.take i).flatten.length ≤ ls.flatten.length := by
  have : ls.flatten = (ls.take i).flatten ++ (ls.drop i).flatten := by rw [← List.flatten_append, List.take_append_drop]
  rw [this, List.length_append]
  omega
theorem slices_Concat (w0 : World) (ls : List (List OpT)) (hn : ls.flatten.length ≤ 100000) (hls : ls.length ≤ 100000) (σ : H) :
    DC Tryz.prog w0 36 [.csl (ls.map fun r => [opsC r])] σ (Same (.c (opsC ls.flatten)) σ) := by
  refine k36.go rfl (fun hok hsz => ?_)
  ((try refine W.a ?_); simp only [go_sem, seval, reduceCtorEq, c36])
  refine W.loopP (fun i => i ≤ ls.length) (fun i => ⟨(((((base.put (some 0) (.csl (ls.map fun r => [opsC r]))).put (some 3) (I (ls.take i).flatten.length)).put (some 9) (.csl (ls.map fun r => [opsC r]))).put (some 10) (I ls.length)).put (some 11) (I i)), σ⟩) (fun i => ls.length - i) 0 (Nat.zero_le _) ?_ (fun i hi => ?_)
  · (refine Lew.env ?_; exact lee_here)
  · by_cases hlt : i < ls.length
    · have h1 : ((i : Int) < (ls.length : Int)) := by omega
      have hx : ls[i]? = some ls[i] := List.getElem?_eq_getElem hlt
      have hft := flat_take hlt
      have hfl : (ls.take (i + 1)).flatten.length = (ls.take i).flatten.length + ls[i].length := by rw [hft, List.length_append]
      have hle := flat_le (ls := ls) (i + 1)
      have hw : IntKind.i64.wrap ((i : Int) + 1) = ((i + 1 : Nat) : Int) := by rw [wrap_in] <;> omega
      have hw2 : IntKind.i64.wrap (((ls.take i).flatten.length : Int) + (ls[i].length : Int)) = (((ls.take (i + 1)).flatten.length : Nat) : Int) := by rw [wrap_in] <;> omega
      have hneg : ¬ ((((ls.take (i + 1)).flatten.length : Nat) : Int) < 0) := by omega
      ((try refine W.a ?_); simp only [go_sem, seval, reduceCtorEq, h1])
      refine W.yes rfl ?_
      ((try refine W.a ?_); simp only [go_sem, seval, reduceCtorEq, h1, nat0, hx, hw2, hneg])
      refine W.no rfl ?_
      ((try refine W.a ?_); simp only [go_sem, seval, reduceCtorEq, hw])
      refine .inv ⟨i + 1, hlt, by omega, ?_⟩
      (refine Lew.env ?_; exact lee_here)
    · have h1 : ¬ ((i : Int) < (ls.length : Int)) := by omega
      have hi' : i = ls.length := by omega
      subst hi'
      ((try refine W.a ?_); simp only [go_sem, seval, reduceCtorEq, h1])
      refine W.no rfl ?_
      ((try refine W.a ?_); simp only [go_sem, seval, reduceCtorEq, List.take_length])
      (refine W.c1 (slices_Grow w0 ls.flatten.length (by omega) _) ?_; simp only [go_sem, seval, reduceCtorEq])
      refine W.loopP (fun i => i ≤ ls.length) (fun i => ⟨((((base.put (some 6) (.osl σ.length ((ls.take i).flatten.map OpT.cs))).put (some 25) (.csl (ls.map fun r => [opsC r]))).put (some 26) (I ls.length)).put (some 27) (I i)), σ ++ [.spare 38 3 (ls.take i).flatten.length]⟩) (fun i => ls.length - i) 0 (Nat.zero_le _) ?_ (fun i hi => ?_)
      · (refine Lew.env ?_; exact lee_here)
      · by_cases hlt : i < ls.length
        · have h1 : ((i : Int) < (ls.length : Int)) := by omega
          have hx : ls[i]? = some ls[i] := List.getElem?_eq_getElem hlt
          have hft := flat_take hlt
          have hfl : (ls.take (i + 1)).flatten.length = (ls.take i).flatten.length + ls[i].length := by rw [hft, List.length_append]
          have hle := flat_le (ls := ls) (i + 1)
          have hb1 : ((ls.take i).flatten.length + ls[i].length) * 32 ≤ 140737488355328 := by omega
          have hb2 : (ls.take i).flatten.length + ls[i].length ≤ 140737488355328 := by omega
          have hb3 : ∀ r ∈ ls[i].map OpT.cs, r.length = 3 := fun r hr => by obtain ⟨o, _, rfl⟩ := List.mem_map.1 hr; rfl
          have hta : (ls.take (i + 1)).flatten.map OpT.cs = (ls.take i).flatten.map OpT.cs ++ ls[i].map OpT.cs := by rw [hft, List.map_append]
          have hw : IntKind.i64.wrap ((i : Int) + 1) = ((i + 1 : Nat) : Int) := by rw [wrap_in] <;> omega
          ((try refine W.a ?_); simp only [go_sem, seval, reduceCtorEq, h1])
          refine W.yes rfl ?_
          ((try refine W.a ?_); simp only [go_sem, seval, reduceCtorEq, h1, nat0, hx, hb1, hb2, eq_self, hw, eq_true hb3])
          refine .inv ⟨i + 1, hlt, by omega, ?_⟩
          simp only [go_sem, seval, reduceCtorEq, hta, hfl]
          (refine Lew.env ?_; exact lee_here)
        · have h1 : ¬ ((i : Int) < (ls.length : Int)) := by omega
          have hi' : i = ls.length := by omega
          subst hi'
          ((try refine W.a ?_); simp only [go_sem, seval, reduceCtorEq, h1])
          refine W.no rfl ?_
          ((try refine W.a ?_); simp only [go_sem, seval, reduceCtorEq, List.take_length])
          (refine W.fs (hok) (by simp only [r36, go_sem, seval, reduceCtorEq]; rfl) ?_; simp only [resV]; try exact V.wk.rfl _)
          (all_goals exact wk_here)
end
section

def firstRows : List (List OpT) := [rowOf 10 0 [[58, 45]], rowOf 20 2 [[59]], rowOf 30 2 [[44]], rowOf 40 2 [[61, 62]], rowOf 60 0 [[61], [105, 115], [60], [61, 60], [62], [62, 61]], rowOf 80 1 [[43], [45]], rowOf 90 1 [[42], [100, 105, 118], [109, 111, 100]]]
theorem ops_Default (w0 : World) (σ : H) : DC Tryz.prog w0 9 [] σ (Same (.c (opsC firstRows.flatten)) σ) := by
  refine k9.go rfl (fun hok hsz => ?_)
  ((try refine W.a ?_); simp only [go_sem, seval, reduceCtorEq, c9])
  (refine W.c1 (ops_row w0 10 0 [[58, 45]] (by decide) _) ?_; simp only [go_sem, seval, reduceCtorEq])
  (refine W.c1 (ops_row w0 20 2 [[59]] (by decide) _) ?_; simp only [go_sem, seval, reduceCtorEq])
  (refine W.c1 (ops_row w0 30 2 [[44]] (by decide) _) ?_; simp only [go_sem, seval, reduceCtorEq])
  (refine W.c1 (ops_row w0 40 2 [[61, 62]] (by decide) _) ?_; simp only [go_sem, seval, reduceCtorEq])
  (refine W.c1 (ops_row w0 60 0 [[61], [105, 115], [60], [61, 60], [62], [62, 61]] (by decide) _) ?_; simp only [go_sem, seval, reduceCtorEq])
  (refine W.c1 (ops_row w0 80 1 [[43], [45]] (by decide) _) ?_; simp only [go_sem, seval, reduceCtorEq])
  (refine W.c1 (ops_row w0 90 1 [[42], [100, 105, 118], [109, 111, 100]] (by decide) _) ?_; simp only [go_sem, seval, reduceCtorEq])
  (refine W.c1 (slices_Concat w0 firstRows (by decide) (by decide) _) ?_; simp only [go_sem, seval, reduceCtorEq])
  (refine W.fs (hok) (by simp only [r9, go_sem, seval, reduceCtorEq]; rfl) ?_; simp only [resV]; try exact V.wk.rfl _)
end
end Go.Proofs.YtplgnfciipceiaaGreatDoor
namespace Go.Proofs.YtplgnfciipceiaaGreatDoor
open Go.RowKit Go.Lamb
def ops0 : List OpT := firstRows.flatten
end Go.Proofs.YtplgnfciipceiaaGreatDoor
namespace Go.Proofs.YtplgnfciipceiaaGreatDoor
open Go.RowKit Go.Lamb
attribute [local go_sem] advO_skip advO_reg advO_seq advO_block advO_exit advO_endb advO_opsNil advO_ops advG_yes advG_no advG_none advS_some advS_none advO_cond advO_loop advO_dreg advO_ret advO_bad advO_inv advO_nil advO_zero wantedV Lamb.step ev_t ev_k put_some put_none argEnv popTo cellsAt V.cellsV V.rows V.toC toCs fillV bytesC byteRows appV rowsV boundV boundL binV binInt binStr eqC eqL V.isNil leaves V.leaf Ins.quiet Ins.pure List.getD_cons_zero List.getD_cons_succ List.getD_nil List.all_cons List.all_nil List.length_cons List.length_nil List.take_succ_cons List.take_zero List.drop_succ_cons List.drop_zero List.cons_append List.nil_append List.append_nil List.append_assoc List.map_cons List.map_nil List.getElem?_cons_zero List.getElem?_cons_succ List.length_append List.length_set hget0 hget hset0 hset hsets hgs0 hgs hss0 hss List.set_cons_zero List.set_cons_succ List.forall_mem_cons List.not_mem_nil false_implies implies_true Option.map_some Bool.and_true Bool.true_and Bool.not_not Bool.not_true Bool.not_false Bool.and_self Bool.or_true Bool.true_or Bool.or_false Bool.false_or Bool.and_false Bool.false_and Bool.false_eq_true beq_self_eq_true and_self and_true true_and if_true if_false Nat.zero_add Nat.add_zero Nat.le_refl Int.toNat_natCast decide_true decide_false beq_t beq_f List.length_map List.getElem?_map I S B opsC toksC OpT.v OpT.cs OpT.zero Tok.v Tok.cs Pre.v Pre.cs_eq k_mk name_mk n_mk l_mk pos_mk Pre.app applyL natCast0 natCast1 natCast2 AOp.o AOp.m AOp.f AOp.l AOp.d AOp.n AOp.x AOp.s AOp.k AOp.y AOp.z EOp.q low_c low_void low_any low_csl low_nilf low_ptr low_osl low_agg low_tup low_fn resEval advPO_nil advPO_loud advPO_quiet pL_yes pL_no pLS_some pLS_none pQ_yes pQ_no pQS_some pQS_loud eq_self Nat.sub_zero
section
attribute [local go_sem] strsC sdX rz_len rz_g0 rz_g rz_s0 rz_s rz_sb zeroB

theorem back_end : ∀ {l : List Tok}, BackOk l → ∃ h : l ≠ [], (l.getLast h).key = (0, [], 0)
  | [], h => h.elim
  | t :: l, h => by
    rcases h with ⟨rfl, h⟩ | ⟨_, h⟩
    · exact ⟨by simp, h⟩
    · obtain ⟨hn, hk⟩ := back_end h
      exact ⟨by simp, by rw [List.getLast_cons hn]; exact hk⟩
theorem lex_back {s : List UInt8} (hs : s.length ≤ 65536) (he : (lexL s).err = 0) : BackOk (lexL s).toks := by
  have eS : lexL s = lexAt s.length (skipL false s) := if_neg (by omega)
  have h := (back_ok s.length _ (skipL false s) (Nat.lt_succ_self _) (by rw [eS] at he; exact he)).1
  rwa [show lexF s.length (skipL false s).length.succ (skipL false s) = lexL s from eS.symm] at h
theorem lex_end {s : List UInt8} (hs : s.length ≤ 65536) (he : (lexL s).err = 0) : TEnd (lexL s).toks := by
  obtain ⟨hn, hk⟩ := back_end (lex_back hs he)
  have hc := lexL_count s
  refine ⟨hn, fun h => ?_, by omega⟩
  rw [← List.getLast_eq_getElem hn]
  have hp : lastPos (lexL s).toks = ((lexL s).toks.getLast hn).pos := by
    unfold lastPos
    rw [List.getLast?_eq_some_getLast hn]; rfl
  rw [hp]
  generalize (lexL s).toks.getLast hn = x at hk
  obtain ⟨k, tx, n, ps⟩ := x
  simp only [Tok.key, Prod.mk.injEq] at hk
  obtain ⟨rfl, rfl, rfl⟩ := hk
  rfl
noncomputable def readS (s : List UInt8) : Except Bad (List Sent × List OpT) := if (lexL s).err = 0 then allS (lexL s).toks ops0 0 [] else .error ⟨(lexL s).err, (lexL s).pos⟩
def srcV : Except Bad (List Sent × List OpT) → V
  | .ok (xs, l) => .tup [.c (sentsC xs), .c (opsC l), I 0, I 0]
  | .error x => .tup [.c (.sl []), .c (.sl []), I x.e, I x.pos]
theorem sent_ops {t : List Tok} {l l' : List OpT} {i j : Nat} {s : Sent} (hl : l.length ≤ 64) (hn : l ≠ []) (h : sentS t l i = .ok (s, j, l')) : l'.length ≤ 64 ∧ l' ≠ [] := by
  have hend : ∀ {s0 : Sent} {k : Nat}, endS t s0 k l = .ok (s, j, l') → l'.length ≤ 64 ∧ l' ≠ [] := fun h => by
    unfold endS at h
    split at h
    · injection h with h; injection h with _ h; injection h with _ h
      subst h; exact ⟨hl, hn⟩
    · cases h
  have hop : ∀ fix, opSent t (i + 1) (tokL t i).pos fix l = .ok (s, j, l') → l'.length ≤ 64 ∧ l' ≠ [] := fun fix h => by
    unfold opSent at h
    split at h
    · cases h
    · split at h
      · split at h
        · split at h
          · cases h
          · rename_i hd
            injection h with h; injection h with _ h; injection h with _ h
            subst h
            exact declL_len hl hn hd
        · cases h
      · cases h
  unfold sentS at h
  simp only at h
  split at h
  · unfold kindSent at h
    split at h
    · cases h
    · split at h
      · cases h
      · exact hend h
  · split at h
    · unfold typeSent at h
      split at h
      · cases h
      · split at h
        · cases h
        · exact hend h
    · split at h
      · exact hop _ h
      · split at h
        · exact hop _ h
        · split at h
          · exact hop _ h
          · unfold clauseSent at h
            split at h
            · cases h
            · exact hend h
theorem sent_cs (s : Sent) : s.cs = [.int .i64 s.k, strsC s.names, .int .i64 s.n, .int .i64 s.ty.k, .str s.ty.name, .int .i64 s.ty.n, .sl (s.ty.l.map Typ.cs), .str s.op.name, .int .i64 s.op.prec, .int .i64 s.op.fix, .int .i64 s.body.k, .str s.body.name, .int .i64 s.body.n, .sl (s.body.l.map Pre.cs), .int .i64 s.body.pos, .int .i64 s.pos] := rfl
structure AllSt where
  acc : List Sent
  i : Nat
  l : List OpT
theorem source_Read {w0 : World} (hG : Glob w0) (s : List UInt8) (hs : s.length ≤ 65536) (σ : H) : DC Tryz.prog w0 8 [S s] σ (Same (srcV (readS s)) σ) := by
  refine k8.go rfl (fun hok hsz => ?_)
  generalize hr : readS s = r
  unfold readS at hr
  ((try refine W.a ?_); simp only [go_sem, seval, reduceCtorEq, c8])
  (refine W.c1 (lex_Lex hG s (by omega) _) ?_; simp only [go_sem, seval, reduceCtorEq])
  by_cases he : (lexL s).err = 0
  · have hb : ((lexL s).err != 0) = false := by simpa using he
    rw [if_pos he] at hr
    have hT := lex_end hs he
    have hle := hT.le
    have hlen := lexL_count s
    generalize (lexL s).toks = t at *
    ((try refine W.a ?_); simp only [go_sem, seval, reduceCtorEq, hb])
    refine W.no rfl ?_
    ((try refine W.a ?_); simp only [go_sem, seval, reduceCtorEq])
    (refine W.c1 (ops_Default w0 _) ?_; simp only [go_sem, seval, reduceCtorEq])
    refine W.own 10 44 16 rfl ?_
    obtain ⟨τ, D, hτl, hrz⟩ : ∃ τ : H, σ.length < τ.length ∧ τ.length = σ.length + 1 ∧ ∀ X L, σ ++ X :: L = rz τ σ.length X ++ L := ⟨σ ++ [.gone], by simp, by simp, fun X L => by unfold rz; simp⟩
    have ho : ops0.length ≤ 64 ∧ ops0 ≠ [] := by decide
    have hokz : ∀ (i : Int) (l : List OpT) (e p : Int), H.ok (srd τ σ.length t i l e p) := fun i l e p => by
      have : srd τ σ.length t i l e p = σ ++ [sdX t i l e p] := by
        have := hrz (sdX t i l e p) []
        rw [List.append_nil] at this
        exact this.symm
      rw [this]
      refine H.ok_append hok fun b hb cs tg hc x hx => ?_
      simp only [List.mem_cons, List.not_mem_nil, or_false] at hb
      subst hb
      unfold sdX at hc
      injection hc with hc _
      subst hc
      simp only [List.mem_cons, List.not_mem_nil, or_false] at hx
      rcases hx with rfl | rfl | rfl | rfl | rfl <;> exact .c _
    ((try refine W.a ?_); simp only [go_sem, seval, reduceCtorEq, hrz])
    have hstart : ∀ {Q k ρ}, W Tryz.prog w0 σ.length Q k ⟨ρ, srd τ σ.length t (0 : Nat) ops0 0 0 ++ [.spare 44 16 0]⟩ → W Tryz.prog w0 σ.length Q k ⟨ρ, rz τ σ.length (.cells [.c (.sl (t.map Tok.cs)), .c (.int .i64 0), .c (.sl (firstRows.flatten.map OpT.cs)), .c (.int .i64 0), .c (.int .i64 0)]) ++ [.spare 44 16 0]⟩ := fun h => h
    let I0 : AllSt → Prop := fun x => x.acc.length ≤ x.i ∧ x.i ≤ t.length ∧ x.l.length ≤ 64 ∧ x.l ≠ [] ∧ r = allS t x.l x.i x.acc
    let I1 : AllSt × Int × Int → Prop := fun x => (x.2.1 = 0 ∧ x.2.2 = 0 ∧ I0 x.1) ∨ ((x.2.1 == 0) = false ∧ r = .error ⟨x.2.1, x.2.2⟩)
    refine W.loopP (α := AllSt × Int × Int × Int) (fun x => I1 (x.1, x.2.1, x.2.2.1) ∧ (x.2.1 = 0 → x.2.2.2 = x.1.i))
      (fun x => ⟨((base.put (some 9) (.ptr σ.length 0)).put (some 10) (.osl τ.length (x.1.acc.map Sent.cs))), srd τ σ.length t x.2.2.2 x.1.l x.2.1 x.2.2.1 ++ [.spare 44 16 x.1.acc.length]⟩) (fun x => if x.2.1 = 0 then t.length + 1 - x.1.i else 0) (⟨[], 0, ops0⟩, 0, 0, 0) ⟨.inl ⟨rfl, rfl, Nat.zero_le _, Nat.zero_le _, ho.1, ho.2, hr.symm⟩, fun _ => rfl⟩ ?_ (fun x hx => ?_)
    · (refine Lew.env ?_; exact lee_here)
    · obtain ⟨⟨acc, i, l⟩, e, p, j⟩ := x
      obtain ⟨hx, hj⟩ := hx
      simp only [I1] at hx hj
      rcases hx with ⟨rfl, rfl, h1, h2, h3, h4, h5⟩ | ⟨he1, h1⟩
      · obtain rfl := hj rfl
        simp only at h1 h2 h3 h4 h5
        rw [allS_eq] at h5
        by_cases hk0 : (tokL t i).kind = 0
        · have n0 : ((tokL t i).kind != 0) = false := by simpa using hk0
          rw [if_pos hk0] at h5
          subst h5
          ((try refine W.a ?_); simp only [go_sem, seval, reduceCtorEq, rzA D])
          (refine W.c1 (DC.lift1 D (fun D' => sr_tok w0 t hT i (by omega) l 0 0 _ σ.length D')) ?_; simp only [go_sem, seval, reduceCtorEq, rzA D, n0])
          refine W.no rfl ?_
          ((try refine W.a ?_); simp only [go_sem, seval, reduceCtorEq, rzA D])
          refine W.no rfl ?_
          ((try refine W.a ?_); simp only [go_sem, seval, reduceCtorEq, rzA D])
          (apply W.dregE (List.cons_ne_nil _ _); case hc => ((apply CanonE.advPO; simp only [go_sem, seval, reduceCtorEq, rzA D]); exact CanonE.nil))
          ((try refine W.a ?_); simp only [go_sem, seval, reduceCtorEq, rzA D])
          rw [← hrz]
          (refine W.fs (hok) (by simp only [r8, go_sem, seval, reduceCtorEq, srcV, sentsC]; rfl) ?_ (hl := by (first | exact .c _ | (simp only [go_sem, seval, reduceCtorEq, srcV, sentsC]; done))); simp only [resV, srcV, sentsC]; try exact V.wk.rfl _)
          (all_goals exact wk_here)
        · have n0 : ((tokL t i).kind != 0) = true := by simpa using hk0
          rw [if_neg hk0] at h5
          have hil := tokL_lt hk0
          ((try refine W.a ?_); simp only [go_sem, seval, reduceCtorEq, rzA D])
          (refine W.c1 (DC.lift1 D (fun D' => sr_tok w0 t hT i (by omega) l 0 0 _ σ.length D')) ?_; simp only [go_sem, seval, reduceCtorEq, rzA D, n0])
          refine W.yes rfl ?_
          ((try refine W.a ?_); simp only [go_sem, seval, reduceCtorEq, rzA D])
          (refine W.call (DC.lift1R D (fun D' => sr_sentence w0 t hT i h2 l h3 h4 _ σ.length D')) rfl rfl (by first | rfl | simp) ?_)
          intro d σ1 hR
          obtain ⟨s', j, l', e, p, rfl, rfl, hst⟩ := rsen_out hR
          have hb1 : (acc.length + 1) * 200 ≤ 140737488355328 := by omega
          have hb2 : acc.length + 1 ≤ 140737488355328 := by omega
          ((try refine W.a ?_); simp only [go_sem, seval, reduceCtorEq, rzA D, sent_v, hb1, hb2])
          rcases hst with ⟨rfl, rfl, k, rfl, hs'⟩ | ⟨he1, hs'⟩
          · rw [hs'] at h5
            have hf := sentS_far hs'
            have hop := sent_ops h3 h4 hs'
            refine .inv ⟨(⟨acc ++ [s'], k, l'⟩, 0, 0, k), ⟨.inl ⟨rfl, rfl, by simp; omega, hf.2, hop.1, hop.2, h5⟩, fun _ => rfl⟩, by simp only [if_true]; omega, ?_⟩
            simp only [go_sem, seval, reduceCtorEq, List.map_append, List.length_append, sent_cs]
            (refine Lew.env ?_; exact lee_here)
          · rw [hs'] at h5
            have hne : ¬ e = 0 := by simpa using he1
            refine .inv ⟨(⟨acc ++ [s'], 0, l'⟩, e, p, j), ⟨.inr ⟨he1, h5⟩, fun h => absurd h hne⟩, by simp only [if_neg hne, if_true]; omega, ?_⟩
            simp only [go_sem, seval, reduceCtorEq, List.map_append, List.length_append, sent_cs]
            (refine Lew.env ?_; exact lee_here)
      · subst h1
        have hb1 : (e != 0) = true := by rw [bne, he1]; rfl
        ((try refine W.a ?_); simp only [go_sem, seval, reduceCtorEq, rzA D, he1])
        refine W.no rfl ?_
        ((try refine W.a ?_); simp only [go_sem, seval, reduceCtorEq, rzA D, hb1])
        refine W.yes rfl ?_
        ((try refine W.a ?_); simp only [go_sem, seval, reduceCtorEq, rzA D])
        (apply W.dregE (List.cons_ne_nil _ _); case hc => ((apply CanonE.advPO; simp only [go_sem, seval, reduceCtorEq, rzA D]); exact CanonE.nil))
        ((try refine W.a ?_); simp only [go_sem, seval, reduceCtorEq, rzA D])
        rw [← hrz]
        (refine W.fs (hok) (by simp only [r8, go_sem, seval, reduceCtorEq, srcV]; rfl) ?_ (hl := by (first | exact .c _ | (simp only [go_sem, seval, reduceCtorEq, srcV]; done))); simp only [resV, srcV]; try exact V.wk.rfl _)
        (all_goals exact wk_here)
  · have hb : ((lexL s).err != 0) = true := by simpa using he
    rw [if_neg he] at hr
    subst hr
    ((try refine W.a ?_); simp only [go_sem, seval, reduceCtorEq, hb])
    refine W.yes rfl ?_
    ((try refine W.a ?_); simp only [go_sem, seval, reduceCtorEq])
    (refine W.fs (hok) (by simp only [r8, go_sem, seval, reduceCtorEq, srcV]; rfl) ?_ (hl := by (first | exact .c _ | (simp only [go_sem, seval, reduceCtorEq, srcV]; done))); simp only [resV, srcV]; try exact V.wk.rfl _)
    (all_goals exact wk_here)
end
section
attribute [local go_sem] strsC rz_len rz_g0 rz_g rz_s0 rz_s rz_sb

theorem sr_tokC (w0 : World) (t : List Tok) (hT : TEnd t) (i : Nat) (hi : i ≤ 1000000) (c : V) (e p : Int) (σ : H) (b : Nat) (hb : σ[b]? = some (.cells [.c (toksC t), I i, c, I e, I p])) :
    DC Tryz.prog w0 34 [.ptr b 0] σ (Same (tokL t i).v σ) := by
  refine k34.go rfl (fun hok hsz => ?_)
  have hp := hT.pos
  have hle := hT.le
  have hw2 : IntKind.i64.wrap ((t.length : Int) - 1) = ((t.length - 1 : Nat) : Int) := by rw [wrap_in] <;> omega
  have hmn : (if ((t.length - 1 : Nat) : Int) < (i : Int) then ((t.length - 1 : Nat) : Int) else (i : Int)) = ((min i (t.length - 1) : Nat) : Int) := by
    split <;> omega
  have hlt : ((min i (t.length - 1) : Nat) : Int) < (t.length : Int) := by omega
  have hx := hT.tok i
  ((try refine W.a ?_); simp only [go_sem, seval, reduceCtorEq, c34, hG hb, hb])
  (apply W.dregE (List.cons_ne_nil _ _); case hc => ((apply CanonE.advPO; simp only [go_sem, seval, reduceCtorEq, hG hb, hb, hw2, hmn, nat0, hlt, hx]); exact CanonE.nil))
  ((try refine W.a ?_); simp only [go_sem, seval, reduceCtorEq])
  (refine W.fs (hok) (by simp only [r34, go_sem, seval, reduceCtorEq]; rfl) ?_; simp only [resV]; try exact V.wk.rfl _)
  (all_goals exact wk_here)
noncomputable def queryS (l : List OpT) (s : List UInt8) : Except Bad Pre := if (lexL s).err = 0 then (match exprT l (lexL s).toks 0 with
    | .error b => .error b
    | .ok (m, j) => if (tokL (lexL s).toks (if (tokL (lexL s).toks j).kind = 7 then j + 1 else j)).kind = 0 then .ok m.p else .error ⟨101, (tokL (lexL s).toks (if (tokL (lexL s).toks j).kind = 7 then j + 1 else j)).pos⟩)
  else .error ⟨(lexL s).err, (lexL s).pos⟩
def queryV : Except Bad Pre → V
  | .ok p => .tup [p.v, I 0, I 0]
  | .error x => .tup [Pre.none.v, I x.e, I x.pos]
theorem source_Query {w0 : World} (hG : Glob w0) (l : List OpT) (s : List UInt8) (hs : s.length ≤ 65536) (σ : H) : DC Tryz.prog w0 31 [.c (opsC l), S s] σ (Same (queryV (queryS l s)) σ) := by
  refine k31.go rfl (fun hok hsz => ?_)
  generalize hr : queryS l s = r
  unfold queryS at hr
  ((try refine W.a ?_); simp only [go_sem, seval, reduceCtorEq, c31])
  (refine W.c1 (lex_Lex hG s (by omega) _) ?_; simp only [go_sem, seval, reduceCtorEq])
  by_cases he : (lexL s).err = 0
  · have hb : ((lexL s).err != 0) = false := by simpa using he
    rw [if_pos he] at hr
    have hT := lex_end hs he
    have hle := hT.le
    generalize (lexL s).toks = t at *
    have hE := exprT_is l t 0
    have hrd := fun (r : Except Bad (Made × Nat)) (h : Lamb.Expr l t 0 0 0 r) σ => (read_Read w0 l t 0 r σ h (Nat.zero_le _) (by omega) : DC Tryz.prog w0 81 [.c (opsC l), .c (toksC t), I 0] σ (Same (readV 0 r) σ))
    ((try refine W.a ?_); simp only [go_sem, seval, reduceCtorEq, hb])
    refine W.no rfl ?_
    ((try refine W.a ?_); simp only [go_sem, seval, reduceCtorEq])
    cases hx : exprT l t 0 with
    | error x =>
      rw [hx] at hr hE
      subst hr
      have hxn := Lamb.Expr.err hE
      (refine W.c1 (hrd _ hE _) ?_; simp only [go_sem, seval, reduceCtorEq, readV, Pre.none, hxn])
      refine W.yes rfl ?_
      ((try refine W.a ?_); simp only [go_sem, seval, reduceCtorEq])
      (refine W.fs (hok) (by simp only [r31, go_sem, seval, reduceCtorEq, queryV, Pre.none]; rfl) ?_ (hl := by (first | exact .c _ | (simp only [go_sem, seval, reduceCtorEq, queryV, Pre.none]; done))); simp only [resV, queryV, Pre.none]; try exact V.wk.rfl _)
      (all_goals exact wk_here)
    | ok x =>
      obtain ⟨m, j⟩ := x
      rw [hx] at hr hE
      simp only at hr
      have hj := (exprT_far hx).2
      have hwj : IntKind.i64.wrap ((j : Int) + 1) = ((j + 1 : Nat) : Int) := by rw [wrap_in] <;> omega
      (refine W.c1 (hrd _ hE _) ?_; simp only [go_sem, seval, reduceCtorEq, readV])
      refine W.no rfl ?_
      ((try refine W.a ?_); simp only [go_sem, seval, reduceCtorEq])
      by_cases h7 : (tokL t j).kind = 7
      · have n7 : ((tokL t j).kind == 7) = true := by simpa using h7
        simp only [if_pos h7] at hr
        (refine W.c1 (sr_tokC w0 t hT j (by omega) (.csl []) 0 0 _ (σ.length + 2) (hget σ _ 2)) ?_; simp only [go_sem, seval, reduceCtorEq, n7])
        refine W.yes rfl ?_
        ((try refine W.a ?_); simp only [go_sem, seval, reduceCtorEq, hwj])
        (refine W.c1 (sr_tokC w0 t hT (j + 1) (by omega) (.csl []) 0 0 _ (σ.length + 2) (hget σ _ 2)) ?_; simp only [go_sem, seval, reduceCtorEq])
        by_cases h0 : (tokL t (j + 1)).kind = 0
        · have n0 : ((tokL t (j + 1)).kind != 0) = false := by simpa using h0
          rw [if_pos h0] at hr
          subst hr
          ((try refine W.a ?_); simp only [go_sem, seval, reduceCtorEq, n0])
          refine W.no rfl ?_
          ((try refine W.a ?_); simp only [go_sem, seval, reduceCtorEq])
          (refine W.fs (hok) (by simp only [r31, go_sem, seval, reduceCtorEq, queryV]; rfl) ?_ (hl := by (first | exact .c _ | (simp only [go_sem, seval, reduceCtorEq, queryV]; done))); simp only [resV, queryV]; try exact V.wk.rfl _)
          (all_goals exact wk_here)
        · have n0 : ((tokL t (j + 1)).kind != 0) = true := by simpa using h0
          rw [if_neg h0] at hr
          subst hr
          ((try refine W.a ?_); simp only [go_sem, seval, reduceCtorEq, n0])
          refine W.yes rfl ?_
          ((try refine W.a ?_); simp only [go_sem, seval, reduceCtorEq])
          (apply W.dregE (List.cons_ne_nil _ _); case hc => ((apply CanonE.advPO; simp only [go_sem, seval, reduceCtorEq]); exact CanonE.nil))
          ((try refine W.a ?_); simp only [go_sem, seval, reduceCtorEq])
          (refine W.fs (hok) (by simp only [r31, go_sem, seval, reduceCtorEq, queryV, Pre.none]; rfl) ?_ (hl := by (first | exact .c _ | (simp only [go_sem, seval, reduceCtorEq, queryV, Pre.none]; done))); simp only [resV, queryV, Pre.none]; try exact V.wk.rfl _)
          (all_goals exact wk_here)
      · have n7 : ((tokL t j).kind == 7) = false := by simpa using h7
        simp only [if_neg h7] at hr
        (refine W.c1 (sr_tokC w0 t hT j (by omega) (.csl []) 0 0 _ (σ.length + 2) (hget σ _ 2)) ?_; simp only [go_sem, seval, reduceCtorEq, n7])
        refine W.no rfl ?_
        ((try refine W.a ?_); simp only [go_sem, seval, reduceCtorEq])
        (refine W.c1 (sr_tokC w0 t hT j (by omega) (.csl []) 0 0 _ (σ.length + 2) (hget σ _ 2)) ?_; simp only [go_sem, seval, reduceCtorEq])
        by_cases h0 : (tokL t j).kind = 0
        · have n0 : ((tokL t j).kind != 0) = false := by simpa using h0
          rw [if_pos h0] at hr
          subst hr
          ((try refine W.a ?_); simp only [go_sem, seval, reduceCtorEq, n0])
          refine W.no rfl ?_
          ((try refine W.a ?_); simp only [go_sem, seval, reduceCtorEq])
          (refine W.fs (hok) (by simp only [r31, go_sem, seval, reduceCtorEq, queryV]; rfl) ?_ (hl := by (first | exact .c _ | (simp only [go_sem, seval, reduceCtorEq, queryV]; done))); simp only [resV, queryV]; try exact V.wk.rfl _)
          (all_goals exact wk_here)
        · have n0 : ((tokL t j).kind != 0) = true := by simpa using h0
          rw [if_neg h0] at hr
          subst hr
          ((try refine W.a ?_); simp only [go_sem, seval, reduceCtorEq, n0])
          refine W.yes rfl ?_
          ((try refine W.a ?_); simp only [go_sem, seval, reduceCtorEq])
          (apply W.dregE (List.cons_ne_nil _ _); case hc => ((apply CanonE.advPO; simp only [go_sem, seval, reduceCtorEq]); exact CanonE.nil))
          ((try refine W.a ?_); simp only [go_sem, seval, reduceCtorEq])
          (refine W.fs (hok) (by simp only [r31, go_sem, seval, reduceCtorEq, queryV, Pre.none]; rfl) ?_ (hl := by (first | exact .c _ | (simp only [go_sem, seval, reduceCtorEq, queryV, Pre.none]; done))); simp only [resV, queryV, Pre.none]; try exact V.wk.rfl _)
          (all_goals exact wk_here)
  · have hb : ((lexL s).err != 0) = true := by simpa using he
    rw [if_neg he] at hr
    subst hr
    ((try refine W.a ?_); simp only [go_sem, seval, reduceCtorEq, hb])
    refine W.yes rfl ?_
    ((try refine W.a ?_); simp only [go_sem, seval, reduceCtorEq])
    (refine W.fs (hok) (by simp only [r31, go_sem, seval, reduceCtorEq, queryV, Pre.none]; rfl) ?_ (hl := by (first | exact .c _ | (simp only [go_sem, seval, reduceCtorEq, queryV, Pre.none]; done))); simp only [resV, queryV, Pre.none]; try exact V.wk.rfl _)
    (all_goals exact wk_here)
end
section
--absent /-- (*ref10.State).fail -/
--absent /-- (*ref10.State).tok -/
--absent /-- (*ref10.State).word -/
--absent /-- (*ref10.State).Names -/
--absent /-- (*ref10.State).end -/
--absent /-- (*ref10.State).kind -/
--absent /-- (*ref10.State).types -/
--absent /-- (*ref10.State).op -/
--absent /-- (*ref10.State).clause -/
--absent /-- (*ref10.State).One -/
--absent /-- ref10.Read -/
--absent /-- ref02.Declare -/
--absent /-- ref02.Default -/
--absent /-- ref02.one -/
def c15 : AC :=
  .seq (.reg [.o 4 (.mov (.k (.c (.bool false))))])
  (.seq (.seq (.reg [.m 6 0, .o 7 (.lenr (.t 6)), .m 8 1, .o 9 (.lenr (.t 8)), .o 10 (.bin .neq (.t 7) (.t 9))])
  (.cond (.t 10)
  (.seq (.reg [.o 4 (.mov (.k (.c (.bool false))))])
  (.ret))
  (.skip)))
  (.seq (.seq (.reg [.o 5 (.mov (.k (.c (.int .i64 0))))])
  (.block 0 (.loop (.seq (.seq (.reg [.m 11 5, .m 12 0, .o 13 (.lenr (.t 12)), .o 14 (.bin .lss (.t 11) (.t 13))])
  (.cond (.t 14)
  (.skip)
  (.exit 0)))
  (.seq (.block 1 (.seq (.dreg [.m 17 0, .m 18 5, .o 19 (.iadd 3 (.t 17) (.t 18)), .d 20 3 19, .m 21 1, .m 22 5, .o 23 (.iadd 3 (.t 21) (.t 22)), .d 24 3 23, .o 25 (.eqs true [2, 1, 1] (.t 20) (.t 24))]
    [.q (.m 17 0), .q (.m 18 5), .q (.o 19 (.iadd 3 (.t 17) (.t 18))), .q (.d 20 3 19), .q (.m 21 1), .q (.m 22 5), .q (.o 23 (.iadd 3 (.t 21) (.t 22))), .q (.d 24 3 23), .q (.o 25 (.eqs true [2, 1, 1] (.t 20) (.t 24)))])
  (.cond (.t 25)
  (.seq (.reg [.o 4 (.mov (.k (.c (.bool false))))])
  (.ret))
  (.skip))))
  (.reg [.m 15 5, .o 16 (.bin .add (.t 15) (.k (.c (.int .i64 1)))), .m 5 16]))))))
  (.seq (.reg [.o 4 (.mov (.k (.c (.bool true))))])
  (.ret))))
def r15 : List ResV := [.tmp 4]
theorem k15 : CodeIs Tryz.prog 15 2 Tryz.f15 c15 r15 := ⟨by kernel_rfl, Tryz.func15, rfl, by kernel_rfl, by kernel_rfl, by decide, enters_fn Tryz.func15 (by kernel_rfl) rfl⟩
--absent /-- ref10.Same -/
--absent /-- ref10.SameAll -/
def c7 : AC :=
  .seq (.reg [.o 0 (.mov (.k (.c (.bool false))))])
  (.seq (.reg [.k 14 8 [(.k (.c (.str [107, 105, 110, 100, 32, 108, 105, 115, 116, 32, 116, 121, 112, 101, 32, 45, 62, 32, 116, 121, 112, 101, 46, 32, 116, 121, 112, 101, 32, 110, 105, 108, 44, 32, 110, 111, 110, 101, 32, 108, 105, 115, 116, 32, 65, 46, 32, 105, 110, 102, 105, 120, 114, 32, 99, 111, 110, 115, 32, 49, 50, 48, 46, 32, 112, 32, 40, 97, 32, 99, 111, 110, 115, 32, 88, 41, 32, 58, 45, 32, 113, 46])))], .m 13 14, .x 15 13 0, .x 16 13 1, .x 17 13 2, .x 18 13 3, .m 1 15, .m 2 16, .m 3 17, .m 4 18])
  (.seq (.seq (.reg [.m 19 1, .o 20 (.lenr (.t 19)), .o 21 (.bin .neq (.t 20) (.k (.c (.int .i64 4))))])
  (.cond (.t 21)
  (.seq (.reg [.o 0 (.mov (.k (.c (.bool false))))])
  (.ret))
  (.skip)))
  (.seq (.reg [.k 23 8 [(.k (.c (.str [112])))], .m 22 23, .x 24 22 0, .x 25 22 1, .x 26 22 2, .x 27 22 3, .m 5 24, .m 6 25, .m 7 26, .m 8 27])
  (.seq (.reg [.k 29 9 [], .k 30 31 [(.t 29), (.k (.c (.str [112, 32, 88, 44, 32, 113, 46])))], .m 28 30, .x 31 28 0, .x 32 28 1, .x 33 28 2, .o 9 (.box (.k (.agg [.c (.int .i64 0), .c (.str []), .c (.int .i64 0), .csl [], .c (.int .i64 0)]))), .s 5 9 31, .m 10 32, .m 11 33])
  (.seq (.reg [.k 34 32 [], .m 12 34])
  (.seq (.reg [.m 35 3, .o 36 (.bin .eql (.t 35) (.k (.c (.int .i64 0)))), .m 37 36, .y 38 (.mov (.t 1)) 37, .y 39 (.iadd 16 (.t 38) (.k (.c (.int .i64 0)))) 37, .y 40 (.fadd 0 (.t 39)) 37, .y 41 (.load1 (.t 40)) 37, .y 42 (.bin .eql (.t 41) (.k (.c (.int .i64 0)))) 37, .o 43 (.pick (.t 37) (.t 42) (.k (.c (.bool false)))), .m 44 43, .y 45 (.mov (.t 1)) 44, .y 46 (.iadd 16 (.t 45) (.k (.c (.int .i64 0)))) 44, .y 47 (.fadd 2 (.t 46)) 44, .y 48 (.load1 (.t 47)) 44, .y 49 (.bin .eql (.t 48) (.k (.c (.int .i64 1)))) 44, .o 50 (.pick (.t 44) (.t 49) (.k (.c (.bool false)))), .m 51 50, .y 52 (.mov (.t 1)) 51, .y 53 (.iadd 16 (.t 52) (.k (.c (.int .i64 1)))) 51, .y 54 (.fadd 1 (.t 53)) 51, .y 55 (.load1 (.t 54)) 51, .y 56 (.lenr (.t 55)) 51, .y 57 (.bin .eql (.t 56) (.k (.c (.int .i64 2)))) 51, .o 58 (.pick (.t 51) (.t 57) (.k (.c (.bool false)))), .m 59 58, .y 60 (.mov (.t 1)) 59, .y 61 (.iadd 16 (.t 60) (.k (.c (.int .i64 2)))) 59, .y 62 (.fadd 7 (.t 61)) 59, .y 63 (.fadd 1 (.t 62)) 59, .y 64 (.load1 (.t 63)) 59, .y 65 (.bin .eql (.t 64) (.k (.c (.int .i64 120)))) 59, .o 66 (.pick (.t 59) (.t 65) (.k (.c (.bool false)))), .m 67 66, .y 68 (.mov (.t 1)) 67, .y 69 (.iadd 16 (.t 68) (.k (.c (.int .i64 3)))) 67, .y 70 (.fadd 0 (.t 69)) 67, .y 71 (.load1 (.t 70)) 67, .y 72 (.bin .eql (.t 71) (.k (.c (.int .i64 3)))) 67, .o 73 (.pick (.t 67) (.t 72) (.k (.c (.bool false)))), .m 74 73, .y 75 (.mov (.t 2)) 74, .y 76 (.lenr (.t 75)) 74, .y 77 (.bin .eql (.t 76) (.k (.c (.int .i64 16)))) 74, .o 78 (.pick (.t 74) (.t 77) (.k (.c (.bool false)))), .m 79 78, .y 80 (.mov (.t 7)) 79, .y 81 (.bin .eql (.t 80) (.k (.c (.int .i64 101)))) 79, .o 82 (.pick (.t 79) (.t 81) (.k (.c (.bool false)))), .m 83 82, .y 84 (.mov (.t 8)) 83, .y 85 (.bin .eql (.t 84) (.k (.c (.int .i64 1)))) 83, .o 86 (.pick (.t 83) (.t 85) (.k (.c (.bool false)))), .m 87 86, .y 88 (.fadd 3 (.t 9)) 87, .y 89 (.load1 (.t 88)) 87, .y 90 (.lenr (.t 89)) 87, .y 91 (.bin .eql (.t 90) (.k (.c (.int .i64 2)))) 87, .o 92 (.pick (.t 87) (.t 91) (.k (.c (.bool false)))), .m 93 92, .y 94 (.mov (.t 10)) 93, .y 95 (.bin .eql (.t 94) (.k (.c (.int .i64 0)))) 93, .o 96 (.pick (.t 93) (.t 95) (.k (.c (.bool false)))), .m 97 96, .y 98 (.mov (.t 12)) 97, .y 99 (.lenr (.t 98)) 97, .y 100 (.bin .eql (.t 99) (.k (.c (.int .i64 5)))) 97, .o 101 (.pick (.t 97) (.t 100) (.k (.c (.bool false)))), .m 0 101])
  (.ret)))))))
def r7 : List ResV := [.tmp 0]
theorem k7 : CodeIs Tryz.prog 7 0 Tryz.f7 c7 r7 := ⟨by kernel_rfl, Tryz.func7, rfl, by kernel_rfl, by kernel_rfl, by decide, enters_fn Tryz.func7 (by kernel_rfl) rfl⟩
def c14 : AC :=
  .seq (.reg [.o 2 (.box (.t 0)), .o 3 (.box (.t 1)), .o 4 (.mov (.k (.c (.bool false))))])
  (.seq (.seq (.reg [.f 8 0 2, .l 9 8, .f 10 0 3, .l 11 10, .o 12 (.bin .neq (.t 9) (.t 11)), .m 13 12, .z 14 (.fadd 1 (.t 2)) 13, .z 15 (.load1 (.t 14)) 13, .z 16 (.lenr (.t 15)) 13, .z 17 (.fadd 1 (.t 3)) 13, .z 18 (.load1 (.t 17)) 13, .z 19 (.lenr (.t 18)) 13, .z 20 (.bin .neq (.t 16) (.t 19)) 13, .o 21 (.pick (.t 13) (.k (.c (.bool true))) (.t 20)), .m 22 21, .z 23 (.fadd 2 (.t 2)) 22, .z 24 (.load1 (.t 23)) 22, .z 25 (.fadd 2 (.t 3)) 22, .z 26 (.load1 (.t 25)) 22, .z 27 (.bin .neq (.t 24) (.t 26)) 22, .o 28 (.pick (.t 22) (.k (.c (.bool true))) (.t 27)), .m 29 28, .z 30 (.fadd 7 (.t 2)) 29, .z 31 (.loadn 3 (.t 30)) 29, .z 32 (.fadd 7 (.t 3)) 29, .z 33 (.loadn 3 (.t 32)) 29, .z 34 (.eqs true [2, 1, 1] (.t 31) (.t 33)) 29, .o 35 (.pick (.t 29) (.k (.c (.bool true))) (.t 34))])
  (.cond (.t 35)
  (.seq (.reg [.o 4 (.mov (.k (.c (.bool false))))])
  (.ret))
  (.skip)))
  (.seq (.seq (.reg [.o 5 (.mov (.k (.c (.int .i64 0))))])
  (.block 0 (.loop (.seq (.seq (.reg [.m 36 5, .f 37 1 2, .l 38 37, .o 39 (.lenr (.t 38)), .o 40 (.bin .lss (.t 36) (.t 39))])
  (.cond (.t 40)
  (.skip)
  (.exit 0)))
  (.seq (.block 1 (.seq (.dreg [.f 43 1 2, .l 44 43, .m 45 5, .o 46 (.iadd 1 (.t 44) (.t 45)), .l 47 46, .f 48 1 3, .l 49 48, .m 50 5, .o 51 (.iadd 1 (.t 49) (.t 50)), .l 52 51, .o 53 (.bin .neq (.t 47) (.t 52))]
    [.q (.f 43 1 2), .q (.l 44 43), .q (.m 45 5), .q (.o 46 (.iadd 1 (.t 44) (.t 45))), .q (.l 47 46), .q (.f 48 1 3), .q (.l 49 48), .q (.m 50 5), .q (.o 51 (.iadd 1 (.t 49) (.t 50))), .q (.l 52 51), .q (.o 53 (.bin .neq (.t 47) (.t 52)))])
  (.cond (.t 53)
  (.seq (.reg [.o 4 (.mov (.k (.c (.bool false))))])
  (.ret))
  (.skip))))
  (.reg [.m 41 5, .o 42 (.bin .add (.t 41) (.k (.c (.int .i64 1)))), .m 5 42]))))))
  (.seq (.reg [.f 54 3 2, .d 55 4 54, .f 56 3 3, .d 57 4 56, .k 58 44 [(.t 55), (.t 57)], .m 6 58])
  (.seq (.reg [.f 59 10 2, .d 60 5 59, .f 61 10 3, .d 62 5 61, .k 63 45 [(.t 60), (.t 62)], .m 7 63])
  (.seq (.reg [.m 64 6, .m 65 64, .y 66 (.mov (.t 7)) 65, .o 67 (.pick (.t 65) (.t 66) (.k (.c (.bool false)))), .m 4 67])
  (.ret))))))
def r14 : List ResV := [.tmp 4]
theorem k14 : CodeIs Tryz.prog 14 2 Tryz.f14 c14 r14 := ⟨by kernel_rfl, Tryz.func14, rfl, by kernel_rfl, by kernel_rfl, by decide, enters_fn Tryz.func14 (by kernel_rfl) rfl⟩
--absent /-- law10.SourceReads -/
--absent /-- law10.SourceGlue -/
--absent /-- law10.SourceOne -/
--absent /-- ref01.Lex -/
end
section

end
section

def src0 : List UInt8 := [107, 105, 110, 100, 32, 108, 105, 115, 116, 32, 116, 121, 112, 101, 32, 45, 62, 32, 116, 121, 112, 101, 46, 32, 116, 121, 112, 101, 32, 110, 105, 108, 44, 32, 110, 111, 110, 101, 32, 108, 105, 115, 116, 32, 65, 46, 32, 105, 110, 102, 105, 120, 114, 32, 99, 111, 110, 115, 32, 49, 50, 48, 46, 32, 112, 32, 40, 97, 32, 99, 111, 110, 115, 32, 88, 41, 32, 58, 45, 32, 113, 46]
theorem src0_err : (lexL src0).err = 0 := by kernel_rfl
def facts0 (r : Option (Except Bad (List Sent × List OpT))) : Bool := match r with
  | some (.ok ([x0, x1, x2, x3], l)) => x0.k == 0 && x0.n == 1 && x1.names.length == 2 && x2.op.prec == 120 && x3.k == 3 && l.length == 16
  | _ => false
theorem src0_facts : facts0 (allC 60 (lexL src0).toks 10 ops0 0 []) = true := by kernel_rfl
theorem src0_read : ∃ x0 x1 x2 x3 l, readS src0 = .ok ([x0, x1, x2, x3], l) ∧ x0.k = 0 ∧ x0.n = 1 ∧ x1.names.length = 2 ∧ x2.op.prec = 120 ∧ x3.k = 3 ∧ l.length = 16 := by
  have h := src0_facts
  unfold facts0 at h
  split at h
  · rename_i x0 x1 x2 x3 l he
    simp only [Bool.and_eq_true, beq_iff_eq] at h
    refine ⟨x0, x1, x2, x3, l, ?_, h.1.1.1.1.1, h.1.1.1.1.2, h.1.1.1.2, h.1.1.2, h.1.2, h.2⟩
    unfold readS
    rw [if_pos src0_err]
    exact allC_is he
  · cases h
theorem src1_read : readS [112] = .error ⟨101, 1⟩ := by
  unfold readS
  rw [if_pos (by kernel_rfl)]
  exact allC_is (f := 40) (g := 10) (by kernel_rfl)
def facts2 (r : Option (Except Bad (Made × Nat))) : Bool := match r with
  | some (.ok (m, j)) => j == 4 && m.p.l.length == 2
  | _ => false
theorem src2_facts : facts2 (exprF 60 ops0 (lexL [112, 32, 88, 44, 32, 113, 46]).toks 0 0 0) = true := by kernel_rfl
theorem src2_query : ∃ p : Pre, queryS ops0 [112, 32, 88, 44, 32, 113, 46] = .ok p ∧ p.l.length = 2 := by
  have h := src2_facts
  unfold facts2 at h
  split at h
  · rename_i m j he
    simp only [Bool.and_eq_true, beq_iff_eq] at h
    refine ⟨m.p, ?_, h.2⟩
    unfold queryS
    rw [if_pos (by kernel_rfl), exprT_eq ⟨60, he⟩]
    simp only
    rw [h.1]
    have h7 : (tokL (lexL [112, 32, 88, 44, 32, 113, 46]).toks 4).kind = 7 := by kernel_rfl
    have h0 : (tokL (lexL [112, 32, 88, 44, 32, 113, 46]).toks (4 + 1)).kind = 0 := by kernel_rfl
    rw [if_pos h7, if_pos h0]
  · cases h
theorem law10_works {w0 : World} (hG : Glob w0) (σ : H) : DC Tryz.prog w0 7 [] σ (Same (B true) σ) := by
  refine k7.go rfl (fun hok hsz => ?_)
  obtain ⟨x0, x1, x2, x3, l, h0, h1, h2, h3, h4, h5, h6⟩ := src0_read
  obtain ⟨p, h7, h8⟩ := src2_query
  have e0 : DC Tryz.prog w0 8 [S src0] σ (Same (.tup [.c (sentsC [x0, x1, x2, x3]), .c (opsC l), I 0, I 0]) σ) := by
    have := source_Read hG src0 (by decide) σ
    rw [h0] at this
    exact this
  have e1 : DC Tryz.prog w0 8 [S [112]] σ (Same (.tup [.c (.sl []), .c (.sl []), I 101, I 1]) σ) := by
    have := source_Read hG [112] (by decide) σ
    rw [src1_read] at this
    exact this
  have e2 : DC Tryz.prog w0 31 [.c (opsC ops0), S [112, 32, 88, 44, 32, 113, 46]] σ (Same (.tup [p.v, I 0, I 0]) σ) := by
    have := source_Query hG ops0 [112, 32, 88, 44, 32, 113, 46] (by decide) σ
    rw [h7] at this
    exact this
  have h3' : (x1.names.length : Int) = 2 := by omega
  have h6' : (l.length : Int) = 16 := by omega
  have h8' : (p.l.length : Int) = 2 := by omega
  ((try refine W.a ?_); simp only [go_sem, seval, reduceCtorEq, c7])
  (refine W.c1 (e0) ?_; simp only [go_sem, seval, reduceCtorEq, sentsC, sent_cs, strsC])
  refine W.no rfl ?_
  ((try refine W.a ?_); simp only [go_sem, seval, reduceCtorEq])
  (refine W.c1 (e1) ?_; simp only [go_sem, seval, reduceCtorEq])
  (refine W.c1 (ops_Default w0 _) ?_; simp only [go_sem, seval, reduceCtorEq])
  (refine W.c1 (e2) ?_; simp only [go_sem, seval, reduceCtorEq])
  (refine W.c1 (source_Words w0 _) ?_; simp only [go_sem, seval, reduceCtorEq, sentsC, sent_cs, strsC, h1, h2, h3', h4, h5, h6', h8', strsR, words5, Int.cast_ofNat_Int])
  (refine W.fs (hok) (by simp only [r7, go_sem, seval, reduceCtorEq]; rfl) ?_; simp only [resV]; try exact V.wk.rfl _)
theorem ref02_Same (w0 : World) (l : List OpT) (σ : H) : DC Tryz.prog w0 15 [.c (opsC l), .c (opsC l)] σ (Same (B true) σ) := by
  refine k15.go rfl (fun hok hsz => ?_)
  have hlen : l.length ≤ 9223372036854775807 := sz_rows (hsz _ (List.mem_cons_self ..))
  have hll : ((l.length : Int) != (l.length : Int)) = false := by simp
  ((try refine W.a ?_); simp only [go_sem, seval, reduceCtorEq, c15, hll])
  refine W.no rfl ?_
  ((try refine W.a ?_); simp only [go_sem, seval, reduceCtorEq])
  refine W.loopP (fun i => i ≤ l.length) (fun i => ⟨(((base.put (some 0) (.c (opsC l))).put (some 1) (.c (opsC l))).put (some 5) (I (i : Nat))), σ⟩) (fun i => l.length - i) 0 (Nat.zero_le _) ?_ (fun i hi => ?_)
  · (refine Lew.env ?_; exact lee_here)
  · by_cases hlt : i < l.length
    · have h1 : ((i : Int) < (l.length : Int)) := by omega
      have hx : l[i]? = some l[i] := List.getElem?_eq_getElem hlt
      have hw : IntKind.i64.wrap ((i : Int) + 1) = ((i + 1 : Nat) : Int) := wrap_next hlt hlen
      ((try refine W.a ?_); simp only [go_sem, seval, reduceCtorEq, h1])
      refine W.yes rfl ?_
      ((try refine W.a ?_); simp only [go_sem, seval, reduceCtorEq])
      (apply W.dregE (List.cons_ne_nil _ _); case hc => ((apply CanonE.advPO; simp only [go_sem, seval, reduceCtorEq, h1, nat0, hx]); exact CanonE.nil))
      ((try refine W.a ?_); simp only [go_sem, seval, reduceCtorEq])
      refine W.no rfl ?_
      ((try refine W.a ?_); simp only [go_sem, seval, reduceCtorEq, hw])
      refine .inv ⟨i + 1, hlt, by omega, ?_⟩
      (refine Lew.env ?_; exact lee_here)
    · have h1 : ¬ ((i : Int) < (l.length : Int)) := by omega
      ((try refine W.a ?_); simp only [go_sem, seval, reduceCtorEq, h1])
      refine W.no rfl ?_
      ((try refine W.a ?_); simp only [go_sem, seval, reduceCtorEq])
      (refine W.fs (hok) (by simp only [r15, go_sem, seval, reduceCtorEq]; rfl) ?_; simp only [resV]; try exact V.wk.rfl _)
end
section
def c45 : AC :=
  .seq (.reg [.o 2 (.box (.t 0)), .o 3 (.box (.t 1)), .o 4 (.mov (.k (.c (.bool false))))])
  (.seq (.seq (.reg [.f 7 0 2, .l 8 7, .f 9 0 3, .l 10 9, .o 11 (.bin .neq (.t 8) (.t 10)), .m 12 11, .z 13 (.fadd 1 (.t 2)) 12, .z 14 (.load1 (.t 13)) 12, .z 15 (.fadd 1 (.t 3)) 12, .z 16 (.load1 (.t 15)) 12, .z 17 (.bin .neq (.t 14) (.t 16)) 12, .o 18 (.pick (.t 12) (.k (.c (.bool true))) (.t 17)), .m 19 18, .z 20 (.fadd 2 (.t 2)) 19, .z 21 (.load1 (.t 20)) 19, .z 22 (.fadd 2 (.t 3)) 19, .z 23 (.load1 (.t 22)) 19, .z 24 (.bin .neq (.t 21) (.t 23)) 19, .o 25 (.pick (.t 19) (.k (.c (.bool true))) (.t 24)), .m 26 25, .z 27 (.fadd 3 (.t 2)) 26, .z 28 (.load1 (.t 27)) 26, .z 29 (.lenr (.t 28)) 26, .z 30 (.fadd 3 (.t 3)) 26, .z 31 (.load1 (.t 30)) 26, .z 32 (.lenr (.t 31)) 26, .z 33 (.bin .neq (.t 29) (.t 32)) 26, .o 34 (.pick (.t 26) (.k (.c (.bool true))) (.t 33))])
  (.cond (.t 34)
  (.seq (.reg [.o 4 (.mov (.k (.c (.bool false))))])
  (.ret))
  (.skip)))
  (.seq (.seq (.reg [.o 5 (.mov (.k (.c (.int .i64 0))))])
  (.block 0 (.loop (.seq (.seq (.reg [.m 35 5, .f 36 3 2, .l 37 36, .o 38 (.lenr (.t 37)), .o 39 (.bin .lss (.t 35) (.t 38))])
  (.cond (.t 39)
  (.skip)
  (.exit 0)))
  (.seq (.block 1 (.seq (.dreg [.f 42 3 2, .l 43 42, .m 44 5, .o 45 (.iadd 5 (.t 43) (.t 44)), .d 46 5 45, .f 47 3 3, .l 48 47, .m 49 5, .o 50 (.iadd 5 (.t 48) (.t 49)), .d 51 5 50, .k 52 45 [(.t 46), (.t 51)], .m 6 52]
    [.q (.f 42 3 2), .q (.l 43 42), .q (.m 44 5), .q (.o 45 (.iadd 5 (.t 43) (.t 44))), .q (.d 46 5 45), .q (.f 47 3 3), .q (.l 48 47), .q (.m 49 5), .q (.o 50 (.iadd 5 (.t 48) (.t 49))), .q (.d 51 5 50), ⟨.k 52 45 [(.t 46), (.t 51)], true, 0⟩, ⟨.m 6 52, false, 1⟩])
  (.seq (.reg [.m 53 6, .o 54 (.un .not (.t 53))])
  (.cond (.t 54)
  (.seq (.reg [.o 4 (.mov (.k (.c (.bool false))))])
  (.ret))
  (.skip)))))
  (.reg [.m 40 5, .o 41 (.bin .add (.t 40) (.k (.c (.int .i64 1)))), .m 5 41]))))))
  (.seq (.reg [.o 4 (.mov (.k (.c (.bool true))))])
  (.ret))))
def r45 : List ResV := [.tmp 4]
theorem k45 : CodeIs Tryz.prog 45 2 Tryz.f45 c45 r45 := ⟨by kernel_rfl, Tryz.func45, rfl, by kernel_rfl, by kernel_rfl, by decide, enters_fn Tryz.func45 (by kernel_rfl) rfl⟩
--absent /-- law03.over -/
--absent /-- law03.works -/
--absent /-- law03.ReadTexts -/
--absent /-- law03.ReadTrees -/
--absent /-- law03.ReadParts -/
--absent /-- law03.ReadDeep -/
end
end Go.Proofs.YtplgnfciipceiaaGreatDoor
namespace Go.Proofs.YtplgnfciipceiaaGreatDoor
open Go.RowKit Go.Lamb
--absent /-- lambentref03.Same -/
end Go.Proofs.YtplgnfciipceiaaGreatDoor
namespace Go.Proofs.YtplgnfciipceiaaGreatDoor
open Go.RowKit Go.Lamb
--absent /-- (*ref05.State).fail -/
--absent /-- (*ref05.State).atom -/
--absent /-- (*ref05.State).Atom -/
--absent /-- (*ref05.State).Type -/
--absent /-- ref05.Read -/
def c44 : AC :=
  .seq (.reg [.o 2 (.box (.t 0)), .o 3 (.box (.t 1)), .o 4 (.mov (.k (.c (.bool false))))])
  (.seq (.seq (.reg [.f 7 0 2, .l 8 7, .f 9 0 3, .l 10 9, .o 11 (.bin .neq (.t 8) (.t 10)), .m 12 11, .z 13 (.fadd 1 (.t 2)) 12, .z 14 (.load1 (.t 13)) 12, .z 15 (.fadd 1 (.t 3)) 12, .z 16 (.load1 (.t 15)) 12, .z 17 (.bin .neq (.t 14) (.t 16)) 12, .o 18 (.pick (.t 12) (.k (.c (.bool true))) (.t 17)), .m 19 18, .z 20 (.fadd 2 (.t 2)) 19, .z 21 (.load1 (.t 20)) 19, .z 22 (.fadd 2 (.t 3)) 19, .z 23 (.load1 (.t 22)) 19, .z 24 (.bin .neq (.t 21) (.t 23)) 19, .o 25 (.pick (.t 19) (.k (.c (.bool true))) (.t 24)), .m 26 25, .z 27 (.fadd 3 (.t 2)) 26, .z 28 (.load1 (.t 27)) 26, .z 29 (.lenr (.t 28)) 26, .z 30 (.fadd 3 (.t 3)) 26, .z 31 (.load1 (.t 30)) 26, .z 32 (.lenr (.t 31)) 26, .z 33 (.bin .neq (.t 29) (.t 32)) 26, .o 34 (.pick (.t 26) (.k (.c (.bool true))) (.t 33))])
  (.cond (.t 34)
  (.seq (.reg [.o 4 (.mov (.k (.c (.bool false))))])
  (.ret))
  (.skip)))
  (.seq (.seq (.reg [.o 5 (.mov (.k (.c (.int .i64 0))))])
  (.block 0 (.loop (.seq (.seq (.reg [.m 35 5, .f 36 3 2, .l 37 36, .o 38 (.lenr (.t 37)), .o 39 (.bin .lss (.t 35) (.t 38))])
  (.cond (.t 39)
  (.skip)
  (.exit 0)))
  (.seq (.block 1 (.seq (.dreg [.f 42 3 2, .l 43 42, .m 44 5, .o 45 (.iadd 4 (.t 43) (.t 44)), .d 46 4 45, .f 47 3 3, .l 48 47, .m 49 5, .o 50 (.iadd 4 (.t 48) (.t 49)), .d 51 4 50, .k 52 44 [(.t 46), (.t 51)], .m 6 52]
    [.q (.f 42 3 2), .q (.l 43 42), .q (.m 44 5), .q (.o 45 (.iadd 4 (.t 43) (.t 44))), .q (.d 46 4 45), .q (.f 47 3 3), .q (.l 48 47), .q (.m 49 5), .q (.o 50 (.iadd 4 (.t 48) (.t 49))), .q (.d 51 4 50), ⟨.k 52 44 [(.t 46), (.t 51)], true, 0⟩, ⟨.m 6 52, false, 1⟩])
  (.seq (.reg [.m 53 6, .o 54 (.un .not (.t 53))])
  (.cond (.t 54)
  (.seq (.reg [.o 4 (.mov (.k (.c (.bool false))))])
  (.ret))
  (.skip)))))
  (.reg [.m 40 5, .o 41 (.bin .add (.t 40) (.k (.c (.int .i64 1)))), .m 5 41]))))))
  (.seq (.reg [.o 4 (.mov (.k (.c (.bool true))))])
  (.ret))))
def r44 : List ResV := [.tmp 4]
theorem k44 : CodeIs Tryz.prog 44 2 Tryz.f44 c44 r44 := ⟨by kernel_rfl, Tryz.func44, rfl, by kernel_rfl, by kernel_rfl, by decide, enters_fn Tryz.func44 (by kernel_rfl) rfl⟩
--absent /-- ref05.left -/
--absent /-- ref05.Large -/
end Go.Proofs.YtplgnfciipceiaaGreatDoor
namespace Go.Proofs.YtplgnfciipceiaaGreatDoor
open Go.RowKit Go.Lamb
--absent /-- ref03.Tok -/
--absent /-- (*ref03.State).fail -/
--absent /-- (*ref03.State).begins -/
--absent /-- (*ref03.State).deep -/
--absent /-- (*ref03.State).Atom -/
--absent /-- (*ref03.State).Operand -/
--absent /-- (*ref03.State).Expr -/
--absent /-- ref03.Read -/
end Go.Proofs.YtplgnfciipceiaaGreatDoor
namespace Go.Proofs.YtplgnfciipceiaaGreatDoor
open Go.RowKit Go.Lamb

end Go.Proofs.YtplgnfciipceiaaGreatDoor
namespace Go.Proofs.YtplgnfciipceiaaGreatDoor
open Go.RowKit Go.Lamb

def tqX (t : List Tok) (i : Int) (v : Nat) (vs : List Str) (e p : Int) : Blk := .cells [.c (toksC t), I i, I e, I p, .osl v (strsR vs)]
abbrev tqs (σ : H) (b v : Nat) (t : List Tok) (i : Int) (vs : List Str) (e p : Int) : H := rs σ b v (tqX t i v vs e p) (tyY vs)
attribute [local go_sem] tqX tyY rs_len rs_g0 rs_g rs_s0 rs_s rs_sv Typ.v Typ.cs_eq tk_mk tname_mk tn_mk tl_mk tysC
end Go.Proofs.YtplgnfciipceiaaGreatDoor
namespace Go.Proofs.YtplgnfciipceiaaGreatDoor
open Go.RowKit Go.Lamb

abbrev tqo (σ : H) (b v : Nat) (t : List Tok) (o : TyO) : H := tqs σ b v t o.j o.ws o.e o.p
attribute [local go_sem] tqX tyY rs_len rs_g0 rs_g rs_s0 rs_s rs_sv Typ.v Typ.cs_eq tk_mk tname_mk tn_mk tl_mk tysC
end Go.Proofs.YtplgnfciipceiaaGreatDoor
namespace Go.Proofs.YtplgnfciipceiaaGreatDoor
open Go.RowKit Go.Lamb
attribute [local go_sem] tqX tyY rs_len rs_g0 rs_g rs_s0 rs_s rs_sv Typ.v Typ.cs_eq tk_mk tname_mk tn_mk tl_mk tysC

end Go.Proofs.YtplgnfciipceiaaGreatDoor
namespace Go.Proofs.YtplgnfciipceiaaGreatDoor
open Go.RowKit Go.Lamb
attribute [local go_sem] advO_skip advO_reg advO_seq advO_block advO_exit advO_endb advO_opsNil advO_ops advG_yes advG_no advG_none advS_some advS_none advO_cond advO_loop advO_dreg advO_ret advO_bad advO_inv advO_nil advO_zero wantedV Lamb.step ev_t ev_k put_some put_none argEnv popTo cellsAt V.cellsV V.rows V.toC toCs fillV bytesC byteRows appV rowsV boundV boundL binV binInt binStr eqC eqL V.isNil leaves V.leaf Ins.quiet Ins.pure List.getD_cons_zero List.getD_cons_succ List.getD_nil List.all_cons List.all_nil List.length_cons List.length_nil List.take_succ_cons List.take_zero List.drop_succ_cons List.drop_zero List.cons_append List.nil_append List.append_nil List.append_assoc List.map_cons List.map_nil List.getElem?_cons_zero List.getElem?_cons_succ List.length_append List.length_set hget0 hget hset0 hset hsets hgs0 hgs hss0 hss List.set_cons_zero List.set_cons_succ List.forall_mem_cons List.not_mem_nil false_implies implies_true Option.map_some Bool.and_true Bool.true_and Bool.not_not Bool.not_true Bool.not_false Bool.and_self Bool.or_true Bool.true_or Bool.or_false Bool.false_or Bool.and_false Bool.false_and Bool.false_eq_true beq_self_eq_true and_self and_true true_and if_true if_false Nat.zero_add Nat.add_zero Nat.le_refl Int.toNat_natCast decide_true decide_false beq_t beq_f List.length_map List.getElem?_map I S B opsC toksC OpT.v OpT.cs OpT.zero Tok.v Tok.cs Pre.v Pre.cs_eq k_mk name_mk n_mk l_mk pos_mk Pre.app applyL natCast0 natCast1 natCast2 AOp.o AOp.m AOp.f AOp.l AOp.d AOp.n AOp.x AOp.s AOp.k AOp.y AOp.z EOp.q low_c low_void low_any low_csl low_nilf low_ptr low_osl low_agg low_tup low_fn resEval advPO_nil advPO_loud advPO_quiet pL_yes pL_no pLS_some pLS_none pQ_yes pQ_no pQS_some pQS_loud eq_self Nat.sub_zero
section
attribute [local go_sem] tqX tyY rs_len rs_g0 rs_g rs_s0 rs_s rs_sv Typ.v Typ.cs_eq tk_mk tname_mk tn_mk tl_mk tysC

theorem typ_len {p : Typ} {args : List V} (h : ∀ y ∈ args, V.Sz y) (hx : p.v ∈ args) : p.l.length ≤ 9223372036854775807 := by
  have := h _ hx
  rw [Typ.v, sz_agg] at this
  exact sz_rows (this (.c (.sl (p.l.map Typ.cs))) (by simp))
theorem ref05_Same (w0 : World) (p : Typ) : ∀ (q : Typ) (σ : H), DC Tryz.prog w0 44 [p.v, q.v] σ (Same (B (sameTy p q)) σ) := by
  refine Typ.ind (P := fun p => ∀ (q : Typ) (σ : H), DC Tryz.prog w0 44 [p.v, q.v] σ (Same (B (sameTy p q)) σ)) (fun p ih q σ => ?_) p
  refine k44.go rfl (fun hok hsz => ?_)
  have hlen := typ_len hsz (List.mem_cons_self ..)
  have hlq : ((p.l.length : Int) == (q.l.length : Int)) = (p.l.length == q.l.length) := by rw [Bool.eq_iff_iff]; simp; omega
  have hnl : p.l.length ≠ q.l.length → zipAll sameTy p.l q.l = false := zipAll_len
  (((try refine W.a ?_); (try simp only [bne, go_sem, seval, reduceCtorEq, c44, hlq, *])); (repeat' (first | (refine W.yes rfl ?_; (refine W.a ?_; simp only [bne, go_sem, seval, reduceCtorEq, c44, hlq, *])) | (refine W.no rfl ?_; (refine W.a ?_; simp only [bne, go_sem, seval, reduceCtorEq, c44, hlq, *])) | (refine W.testn rfl (fun hT => ?_) (fun hT => ?_) <;> (refine W.a ?_; simp only [bne, go_sem, seval, reduceCtorEq, c44, hlq, *])) | (refine W.test rfl (fun hT => ?_) (fun hT => ?_) <;> (refine W.a ?_; simp only [bne, go_sem, seval, reduceCtorEq, c44, hlq, *])) | (refine advG_ifn _ _ _ _ (fun hT => ?_) (fun hT => ?_) <;> simp only [bne, go_sem, seval, reduceCtorEq, c44, hlq, *]) | (refine advG_if _ _ _ _ (fun hT => ?_) (fun hT => ?_) <;> simp only [bne, go_sem, seval, reduceCtorEq, c44, hlq, *]))))
  all_goals (try (refine W.fs (hok) (by simp only [r44, go_sem, seval, reduceCtorEq]; rfl) ?_; simp only [resV]; (first | exact V.wk.rfl _ | (refine wk_bool ?_; clear hsz hok; rw [sameTy_eq] <;> ((try simp only [beq_iff_eq, beq_eq_false_iff_ne, ne_eq, decide_eq_true_eq, decide_eq_false_iff_not] at *); first | (exfalso; omega) | (simp [hnl, *]; done) | (simp [hnl, *]; omega) | (simp [hnl, *]))))))
  simp only [beq_iff_eq, beq_eq_false_iff_ne, Bool.not_eq_true', Bool.not_eq_false'] at *
  have hl : p.l.length = q.l.length := by assumption
  have hs0 : sameTy p q = zipAll sameTy p.l q.l := by rw [sameTy_eq]; simp [*]
  refine W.loopP (fun i => i ≤ p.l.length ∧ ∀ j (hj : j < p.l.length) (hj' : j < q.l.length), j < i → sameTy p.l[j] q.l[j] = true) (fun i => ⟨((((base.put (some 2) (.ptr σ.length 0)).put (some 3) (.ptr (σ.length + 1) 0)).put (some 4) (B false)).put (some 5) (I (i : Nat))), σ ++ [.cells p.v.cellsV, .cells q.v.cellsV]⟩) (fun i => p.l.length - i) 0 ⟨Nat.zero_le _, fun _ _ _ h => absurd h (by omega)⟩ ?_ (fun i hi => ?_)
  · (refine Lew.env ?_; exact lee_here)
  · obtain ⟨hi, hinv⟩ := hi
    by_cases hlt : i < p.l.length
    · have h1 : ((i : Int) < (p.l.length : Int)) := by omega
      have h2 : ((i : Int) < (q.l.length : Int)) := by omega
      have hltr : i < q.l.length := by omega
      have hx : p.l[i]? = some p.l[i] := List.getElem?_eq_getElem hlt
      have hy : q.l[i]? = some q.l[i] := List.getElem?_eq_getElem hltr
      have hw : IntKind.i64.wrap ((i : Int) + 1) = ((i + 1 : Nat) : Int) := wrap_next hlt hlen
      ((try refine W.a ?_); simp only [go_sem, seval, reduceCtorEq, h1])
      refine W.yes rfl ?_
      ((try refine W.a ?_); simp only [go_sem, seval, reduceCtorEq])
      apply W.dregE (List.cons_ne_nil _ _)
      case hc =>
        (apply CanonE.advPO; simp only [go_sem, seval, reduceCtorEq, h1, h2, nat0, hx, hy])
        (apply CanonE.call (ih p.l[i] (List.getElem_mem hlt) q.l[i] _); (case hg => rfl); (case hf => rfl); (case ha => first | rfl | simp))
        (apply CanonE.advPO; simp only [go_sem, seval, reduceCtorEq])
        exact CanonE.nil
      ((try refine W.a ?_); simp only [go_sem, seval, reduceCtorEq])
      refine W.testn rfl (fun h => ?_) (fun h => ?_)
      · ((try refine W.a ?_); simp only [go_sem, seval, reduceCtorEq, hw])
        refine .inv ⟨i + 1, ⟨hlt, fun j hj hj' hji => ?_⟩, by omega, ?_⟩
        · rcases Nat.lt_succ_iff_lt_or_eq.1 hji with h' | h'
          · exact hinv j hj hj' h'
          · subst h'; exact h
        · (refine Lew.env ?_; exact lee_here)
      · ((try refine W.a ?_); simp only [go_sem, seval, reduceCtorEq])
        (refine W.fs (hok) (by simp only [r44, go_sem, seval, reduceCtorEq]; rfl) ?_; simp only [resV]; try exact V.wk.rfl _)
        rw [hs0, zipAll_no hlt hltr h]
        exact .rfl _
    · have h1 : ¬ ((i : Int) < (p.l.length : Int)) := by omega
      ((try refine W.a ?_); simp only [go_sem, seval, reduceCtorEq, h1])
      refine W.no rfl ?_
      ((try refine W.a ?_); simp only [go_sem, seval, reduceCtorEq])
      (refine W.fs (hok) (by simp only [r44, go_sem, seval, reduceCtorEq]; rfl) ?_; simp only [resV]; try exact V.wk.rfl _)
      rw [hs0, zipAll_yes hl (fun j hj hj' => hinv j hj hj' (by omega))]
      exact .rfl _
end
section

theorem pre_len {p : Pre} {args : List V} (h : ∀ y ∈ args, V.Sz y) (hx : p.v ∈ args) : p.l.length ≤ 9223372036854775807 := by
  have := h _ hx
  rw [Pre.v, sz_agg] at this
  exact sz_rows (this (.c (.sl (p.l.map Pre.cs))) (by simp))
theorem ref03_Same (w0 : World) (p : Pre) : ∀ (q : Pre) (σ : H), DC Tryz.prog w0 45 [p.v, q.v] σ (Same (B (samePre p q)) σ) := by
  refine Pre.ind (P := fun p => ∀ (q : Pre) (σ : H), DC Tryz.prog w0 45 [p.v, q.v] σ (Same (B (samePre p q)) σ)) (fun p ih q σ => ?_) p
  refine k45.go rfl (fun hok hsz => ?_)
  have hlen := pre_len hsz (List.mem_cons_self ..)
  have hlq : ((p.l.length : Int) == (q.l.length : Int)) = (p.l.length == q.l.length) := by rw [Bool.eq_iff_iff]; simp; omega
  have hnl : p.l.length ≠ q.l.length → zipAll samePre p.l q.l = false := zipAll_len
  (((try refine W.a ?_); (try simp only [bne, go_sem, seval, reduceCtorEq, c45, hlq, *])); (repeat' (first | (refine W.yes rfl ?_; (refine W.a ?_; simp only [bne, go_sem, seval, reduceCtorEq, c45, hlq, *])) | (refine W.no rfl ?_; (refine W.a ?_; simp only [bne, go_sem, seval, reduceCtorEq, c45, hlq, *])) | (refine W.testn rfl (fun hT => ?_) (fun hT => ?_) <;> (refine W.a ?_; simp only [bne, go_sem, seval, reduceCtorEq, c45, hlq, *])) | (refine W.test rfl (fun hT => ?_) (fun hT => ?_) <;> (refine W.a ?_; simp only [bne, go_sem, seval, reduceCtorEq, c45, hlq, *])) | (refine advG_ifn _ _ _ _ (fun hT => ?_) (fun hT => ?_) <;> simp only [bne, go_sem, seval, reduceCtorEq, c45, hlq, *]) | (refine advG_if _ _ _ _ (fun hT => ?_) (fun hT => ?_) <;> simp only [bne, go_sem, seval, reduceCtorEq, c45, hlq, *]))))
  all_goals (try (refine W.fs (hok) (by simp only [r45, go_sem, seval, reduceCtorEq]; rfl) ?_; simp only [resV]; (first | exact V.wk.rfl _ | (refine wk_bool ?_; clear hsz hok; rw [samePre_eq] <;> ((try simp only [beq_iff_eq, beq_eq_false_iff_ne, ne_eq, decide_eq_true_eq, decide_eq_false_iff_not] at *); first | (exfalso; omega) | (simp [hnl, *]; done) | (simp [hnl, *]; omega) | (simp [hnl, *]))))))
  simp only [beq_iff_eq, beq_eq_false_iff_ne, Bool.not_eq_true', Bool.not_eq_false'] at *
  have hl : p.l.length = q.l.length := by assumption
  have hs0 : samePre p q = zipAll samePre p.l q.l := by rw [samePre_eq]; simp [*]
  refine W.loopP (fun i => i ≤ p.l.length ∧ ∀ j (hj : j < p.l.length) (hj' : j < q.l.length), j < i → samePre p.l[j] q.l[j] = true) (fun i => ⟨((((base.put (some 2) (.ptr σ.length 0)).put (some 3) (.ptr (σ.length + 1) 0)).put (some 4) (B false)).put (some 5) (I (i : Nat))), σ ++ [.cells p.v.cellsV, .cells q.v.cellsV]⟩) (fun i => p.l.length - i) 0 ⟨Nat.zero_le _, fun _ _ _ h => absurd h (by omega)⟩ ?_ (fun i hi => ?_)
  · (refine Lew.env ?_; exact lee_here)
  · obtain ⟨hi, hinv⟩ := hi
    by_cases hlt : i < p.l.length
    · have h1 : ((i : Int) < (p.l.length : Int)) := by omega
      have h2 : ((i : Int) < (q.l.length : Int)) := by omega
      have hltr : i < q.l.length := by omega
      have hx : p.l[i]? = some p.l[i] := List.getElem?_eq_getElem hlt
      have hy : q.l[i]? = some q.l[i] := List.getElem?_eq_getElem hltr
      have hw : IntKind.i64.wrap ((i : Int) + 1) = ((i + 1 : Nat) : Int) := wrap_next hlt hlen
      ((try refine W.a ?_); simp only [go_sem, seval, reduceCtorEq, h1])
      refine W.yes rfl ?_
      ((try refine W.a ?_); simp only [go_sem, seval, reduceCtorEq])
      apply W.dregE (List.cons_ne_nil _ _)
      case hc =>
        (apply CanonE.advPO; simp only [go_sem, seval, reduceCtorEq, h1, h2, nat0, hx, hy])
        (apply CanonE.call (ih p.l[i] (List.getElem_mem hlt) q.l[i] _); (case hg => rfl); (case hf => rfl); (case ha => first | rfl | simp))
        (apply CanonE.advPO; simp only [go_sem, seval, reduceCtorEq])
        exact CanonE.nil
      ((try refine W.a ?_); simp only [go_sem, seval, reduceCtorEq])
      refine W.testn rfl (fun h => ?_) (fun h => ?_)
      · ((try refine W.a ?_); simp only [go_sem, seval, reduceCtorEq, hw])
        refine .inv ⟨i + 1, ⟨hlt, fun j hj hj' hji => ?_⟩, by omega, ?_⟩
        · rcases Nat.lt_succ_iff_lt_or_eq.1 hji with h' | h'
          · exact hinv j hj hj' h'
          · subst h'; exact h
        · (refine Lew.env ?_; exact lee_here)
      · ((try refine W.a ?_); simp only [go_sem, seval, reduceCtorEq])
        (refine W.fs (hok) (by simp only [r45, go_sem, seval, reduceCtorEq]; rfl) ?_; simp only [resV]; try exact V.wk.rfl _)
        rw [hs0, zipAll_no hlt hltr h]
        exact .rfl _
    · have h1 : ¬ ((i : Int) < (p.l.length : Int)) := by omega
      ((try refine W.a ?_); simp only [go_sem, seval, reduceCtorEq, h1])
      refine W.no rfl ?_
      ((try refine W.a ?_); simp only [go_sem, seval, reduceCtorEq])
      (refine W.fs (hok) (by simp only [r45, go_sem, seval, reduceCtorEq]; rfl) ?_; simp only [resV]; try exact V.wk.rfl _)
      rw [hs0, zipAll_yes hl (fun j hj hj' => hinv j hj hj' (by omega))]
      exact .rfl _
theorem names_len {x : Sent} {l : List V} (h : ∀ y ∈ x.v :: l, V.Sz y) : x.names.length ≤ 9223372036854775807 := by
  have h := h _ (List.mem_cons_self ..)
  rw [Sent.v, sz_agg] at h
  have h1 := h (.c (strsC x.names)) (by simp)
  rw [strsC] at h1
  exact sz_rows h1
end
end Go.Proofs.YtplgnfciipceiaaGreatDoor
namespace Go.Proofs.YtplgnfciipceiaaGreatDoor
open Go.RowKit Go.Lamb

theorem namesS_e {t : List Tok} {s : Bool} : ∀ (n i : Nat) (acc : List Tok) (x : Bad), t.length - i ≤ n → namesS t s i acc = .error x → x.e ≠ 0
  | n, i, acc, x, hn, h => by
    rw [namesS_eq] at h
    split at h
    · rename_i hh
      split at h
      · cases n with
        | zero => rw [nameHere_far s (by omega)] at hh; cases hh
        | succ n => exact namesS_e n (i + 2) _ x (by omega) h
      · cases h
    · injection h with h; subst h; simp
theorem kindS_e {t : List Tok} : ∀ (n i m : Nat) (x : Bad), t.length - i ≤ n → kindS t i m = .error x → x.e ≠ 0
  | n, i, m, x, hn, h => by
    rw [kindS_eq] at h
    split at h
    · rename_i hh
      split at h
      · cases n with
        | zero => rw [typeHere_far (by omega)] at hh; cases hh
        | succ n => exact kindS_e n (i + 2) _ x (by omega) h
      · cases h
    · injection h with h; subst h; simp
theorem declL_e {prec fix : Int} : ∀ (ns : List Tok) (l : List OpT) (x : Bad), declL prec fix l ns = .error x → x.e ≠ 0
  | [], _, _, h => by cases h
  | y :: ns, l, x, h => by
    rw [declL] at h
    split at h
    · exact declL_e ns _ x h
    · rename_i hh
      injection h with h; subst h; exact hh
theorem endS_e {t : List Tok} {s : Sent} {i : Nat} {l : List OpT} {x : Bad} (h : endS t s i l = .error x) : x.e ≠ 0 := by
  unfold endS at h
  split at h
  · cases h
  · injection h with h; subst h; simp
theorem sentS_e {t : List Tok} {l : List OpT} {i : Nat} {x : Bad} (ht : t.length ≤ 1000000) (h : sentS t l i = .error x) : x.e ≠ 0 := by
  have hop : ∀ fix, opSent t (i + 1) (tokL t i).pos fix l = .error x → x.e ≠ 0 := fun fix h => by
    unfold opSent at h
    split at h
    · rename_i hn
      injection h with h; subst h
      exact namesS_e _ _ _ _ (Nat.le_refl _) hn
    · split at h
      · split at h
        · split at h
          · rename_i hd
            injection h with h; subst h
            exact declL_e _ _ _ hd
          · cases h
        · injection h with h; subst h; simp
      · injection h with h; subst h; simp
  unfold sentS at h
  simp only at h
  split at h
  · unfold kindSent at h
    split at h
    · rename_i hn
      injection h with h; subst h
      exact namesS_e _ _ _ _ (Nat.le_refl _) hn
    · split at h
      · rename_i hk
        injection h with h; subst h
        exact kindS_e _ _ _ _ (Nat.le_refl _) hk
      · exact endS_e h
  · split at h
    · unfold typeSent at h
      split at h
      · rename_i hn
        injection h with h; subst h
        exact namesS_e _ _ _ _ (Nat.le_refl _) hn
      · split at h
        · rename_i hk
          injection h with h; subst h
          have := tyT_err ht hk
          simpa using this
        · exact endS_e h
    · split at h
      · exact hop _ h
      · split at h
        · exact hop _ h
        · split at h
          · exact hop _ h
          · unfold clauseSent at h
            split at h
            · rename_i hk
              injection h with h; subst h
              have hE := exprT_is l t i
              rw [hk] at hE
              have := Lamb.Expr.err hE
              simpa using this
            · exact endS_e h
theorem sentS_pos {t : List Tok} {l l' : List OpT} {i j : Nat} {s : Sent} (h : sentS t l i = .ok (s, j, l')) : s.pos = (tokL t i).pos := by
  rw [sentS_dot] at h
  unfold dotP at h
  split at h
  · cases h
  · split at h
    · injection h with h; injection h with h _; subst h; rfl
    · unfold endS at h
      split at h
      · injection h with h; injection h with h _; subst h; rfl
      · cases h
theorem allS_e {t : List Tok} (ht : t.length ≤ 1000000) : ∀ (n : Nat) (l : List OpT) (i : Nat) (acc : List Sent) (x : Bad), t.length - i ≤ n → allS t l i acc = .error x → x.e ≠ 0
  | n, l, i, acc, x, hn, h => by
    rw [allS_eq] at h
    split at h
    · cases h
    · rename_i h0
      have := tokL_lt h0
      split at h
      · rename_i hs
        injection h with h; subst h
        exact sentS_e ht hs
      · rename_i s j l' hs
        have hf := sentS_far hs
        cases n with
        | zero => omega
        | succ n => exact allS_e ht n l' j _ x (by omega) h
theorem allS_ok {t : List Tok} {P : Int → Prop} (hP : ∀ i, P (tokL t i).pos) : ∀ (n : Nat) (l : List OpT) (i : Nat) (acc : List Sent) (xs : List Sent) (l' : List OpT), t.length - i ≤ n → i ≤ t.length → (∀ x ∈ acc, P x.pos) → allS t l i acc = .ok (xs, l') → xs.length + i ≤ acc.length + t.length ∧ ∀ x ∈ xs, P x.pos
  | n, l, i, acc, xs, l', hn, hi, ha, h => by
    rw [allS_eq] at h
    split at h
    · injection h with h; injection h with h _; subst h
      exact ⟨by omega, ha⟩
    · rename_i h0
      have := tokL_lt h0
      split at h
      · cases h
      · rename_i s j l2 hs
        have hf := sentS_far hs
        cases n with
        | zero => omega
        | succ n =>
          have := allS_ok hP n l2 j (acc ++ [s]) xs l' (by omega) hf.2 (fun x hx => by
            rcases List.mem_append.1 hx with h' | h'
            · exact ha x h'
            · rw [List.mem_singleton.1 h', sentS_pos hs]; exact hP i) h
          rw [List.length_append] at this
          simp only [List.length_cons, List.length_nil] at this
          exact ⟨by omega, this.2⟩
theorem tok_place {s : List UInt8} (hs : s.length ≤ 65536) (he : (lexL s).err = 0) (i : Nat) : 0 ≤ (tokL (lexL s).toks i).pos ∧ (tokL (lexL s).toks i).pos ≤ s.length := by
  obtain ⟨hg, hne, _⟩ := good_lexL hs he
  have hp : 0 < (lexL s).toks.length := List.length_pos_iff.2 hne
  have hk : ∀ k (h : k < (lexL s).toks.length), 0 ≤ ((lexL s).toks[k]).pos ∧ ((lexL s).toks[k]).pos ≤ s.length := fun k h => by
    have := toAt_ok h hg
    have h1 := this.pos
    have h2 := this.le
    omega
  rcases Nat.lt_or_ge i (lexL s).toks.length with h | h
  · rw [tokL_in h]; exact hk i h
  · rw [tokL_out h]
    obtain ⟨x, h1, h2⟩ := lastPos_at hp
    have h3 := hk ((lexL s).toks.length - 1) (by omega)
    rw [List.getElem?_eq_getElem (by omega)] at h1
    injection h1 with h1
    show 0 ≤ lastPos (lexL s).toks ∧ lastPos (lexL s).toks ≤ s.length
    rw [h2, ← h1]; exact h3
theorem readS_e {s : List UInt8} {x : Bad} (hs : s.length ≤ 65536) (h : readS s = .error x) : (x.e != 0) = true := by
  have : x.e ≠ 0 := by
    unfold readS at h
    by_cases he : (lexL s).err = 0
    · rw [if_pos he] at h
      exact allS_e (by have := lexL_count s; omega) _ _ _ _ _ (Nat.le_refl _) h
    · rw [if_neg he] at h
      injection h with h; subst h; exact he
  simpa using this
theorem readS_k {s : List UInt8} {xs : List Sent} {l : List OpT} (hs : s.length ≤ 65536) (h : readS s = .ok (xs, l)) : (lexL s).err = 0 ∧ allS (lexL s).toks ops0 0 [] = .ok (xs, l) ∧ xs.length ≤ s.length + 1 ∧ ∀ x ∈ xs, 0 ≤ x.pos ∧ x.pos ≤ s.length := by
  unfold readS at h
  by_cases he : (lexL s).err = 0
  · rw [if_pos he] at h
    have := allS_ok (t := (lexL s).toks) (P := fun p => 0 ≤ p ∧ p ≤ s.length) (fun i => tok_place (by omega) he i) _ ops0 0 [] xs l (Nat.le_refl _) (Nat.zero_le _) (fun _ h => by cases h) h
    have hc := lexL_count s
    simp only [List.length_nil] at this
    exact ⟨he, h, by omega, this.2⟩
  · rw [if_neg he] at h; cases h
end Go.Proofs.YtplgnfciipceiaaGreatDoor
namespace Go.Proofs.YtplgnfciipceiaaGreatDoor
open Go.RowKit Go.Lamb

theorem size_builder : (Tryz.prog.info? 130).map (·.size) = some 2 := by kernel_rfl
theorem lies_builder : liesAt Tryz.prog Tryz.prog.depth 150 (3 / Tryz.prog.cellsOf 150) 1 130 1 = true := by kernel_rfl
set_option maxHeartbeats 1000000 in
set_option maxRecDepth 100000 in
theorem copyCheck_used (w : World) (p : Nat) (h0 : w.cell? ⟨p, 1, none⟩ = some (.pointer (some ⟨p, 1, none⟩))) :
    Calls Tryz.prog 130 #[.pointer (some ⟨p, 1, none⟩)] w fun e w' => e = .returned (.tuple #[]) ∧ w' = w := by
  obtain ⟨j, hj, _⟩ := Option.map_eq_some_iff.1 size_builder
  go_enter Tryz.func130, Tryz.ntmps130
  go_wp2
  rw [Lib.run_neq_ptr_same w _ Tryz.underlying127 hj]
  go_wp2
  go_end0
  exact ⟨rfl, rfl⟩
set_option maxHeartbeats 1000000 in
set_option maxRecDepth 100000 in
theorem copyCheck_fresh (w : World) (p : Nat) (h0 : w.cell? ⟨p, 1, none⟩ = some (.pointer none)) (hsh : w.shape? p = some (150, 3)) (hfz : w.frozen? ⟨p, 1, none⟩ = false) :
    Calls Tryz.prog 130 #[.pointer (some ⟨p, 1, none⟩)] w fun e w' => e = .returned (.tuple #[]) ∧ w' = w.setCell ⟨p, 1, none⟩ (.pointer (some ⟨p, 1, none⟩)) := by
  obtain ⟨j, hj, hjs⟩ := Option.map_eq_some_iff.1 size_builder
  go_enter Tryz.func130, Tryz.ntmps130
  go_wp2
  rw [Lib.run_to_unsafe w ⟨p, 1, none⟩ Tryz.underlying127 Tryz.underlying218 hj (by rw [hjs]; decide) hsh (show 1 < 3 by decide)]
  simp only [Result.andThen]
  rw [Oper.upon_value]
  go_wp2
  rw [run_callFunc_extern Tryz.func169 (by kernel_rfl) (by kernel_rfl) (by kernel_rfl) (e := Extern.AbiNoEscape.same) (by kernel_rfl)]
  rw [Lib.run_noEscape]
  simp only [Result.andThen]
  rw [Oper.upon_value]
  go_wp2
  rw [Lib.run_from_unsafe w ⟨p, 1, none⟩ Tryz.underlying218 Tryz.underlying127 hj hsh lies_builder]
  simp only [Result.andThen]
  rw [Oper.upon_value]
  go_wp2
  go_end0
  exact ⟨rfl, rfl⟩
theorem setCell_row {w : World} {p o : Nat} {vs : Array Value} {t : TypeId} {fr : Nat × Nat} (h : w.heap[p]? = some (.cells vs t fr)) (v : Value) : w.setCell ⟨p, o, none⟩ v = w.setRow p (vs.setIfInBounds o v) := by
  unfold World.setCell World.setRow
  congr 1
  apply Array.ext_getElem?
  intro i
  rw [Array.getElem?_modify, Array.getElem?_modify]
  by_cases hi : p = i
  · subst hi
    rw [if_pos rfl, if_pos rfl, h]
    rfl
  · rw [if_neg hi, if_neg hi]
theorem copyCheckD (w0 : World) (σ : H) (b : Nat) (x A y : V) (hb : σ[b]? = some (.cells [x, A, y] (some 150))) (hA : A = .c .nilp ∨ A = .ptr b 1) :
    DC Tryz.prog w0 130 [.ptr b 1] σ (fun d σ' => d = .tup [] ∧ σ' = σ.set b (.cells [x, .ptr b 1, y] (some 150))) := by
  refine ⟨enters_fn Tryz.func130 (by kernel_rfl) rfl, fun κ w vs hrep hfit => ?_⟩
  obtain ⟨v, ys, rfl, hv, hfit⟩ := hfit.cons_inv
  have := hfit.nil_inv
  subst this
  obtain ⟨hlt, hb'⟩ := List.getElem?_eq_some_iff.1 hb
  have hblk := hrep.blk b hlt
  rw [hb'] at hblk
  obtain ⟨us, T, k1, k2, k3⟩ := hblk.row
  obtain ⟨us', k4⟩ := hblk.ty _ rfl
  have hT : T = 150 := by rw [k1] at k4; injection k4 with k4; injection k4
  subst hT
  have k2 : us.size = 3 := k2
  have hc1 : w.cell? ⟨κ.pos b, 1, none⟩ = us[1]? := Lib.cell_of_heap k1 1
  have hu1 : us[1]? = some (us.getD 1 undef) := by rw [Array.getElem?_eq_getElem (by omega)]; simp [Array.getD, k2]
  have h1 := (k3 1 (by simp)).2
  have hvp : v = .pointer (some ⟨κ.pos b, 1, none⟩) := by cases hv; rfl
  subst hvp
  have hn : κ.n = σ.length := hrep.n
  rcases hA with rfl | rfl
  · have h2 : us.getD 1 undef = .pointer none := by
      generalize us.getD 1 undef = z at h1
      cases h1 with | c h => cases h; rfl
    refine (copyCheck_fresh w (κ.pos b) (by rw [hc1, hu1, h2]) (by simp [World.shape?, k1, k2]) (Lib.frozen_of_heap k1 1)).mono ?_
    rintro e w' ⟨rfl, rfl⟩
    refine ⟨_, .tup [], _, κ, rfl, ⟨rfl, rfl⟩, K.le_refl κ, ?_, .tup rfl (fun j hj => absurd hj (Nat.not_lt_zero _))⟩
    rw [setCell_row k1]
    have hw := hrep.wrote (cs' := [x, .ptr b 1, y]) (vs := (us.setIfInBounds 1 (.pointer (some ⟨κ.pos b, 1, none⟩))).toList) hb (by
      have l0 := (k3 0 (by simp)).1; have l2 := (k3 2 (by simp)).1
      simp only [List.getElem_cons_zero, List.getElem_cons_succ] at l0 l2
      unfold leaves
      simp only [List.all_cons, List.all_nil, l0, l2]
      rfl) (by simp [k2]) (fun j hj => by
      have r0 := (k3 0 (by simp)).2; have r2 := (k3 2 (by simp)).2
      match j, hj with
      | 0, _ => simpa [List.getD, Array.getD, k2] using r0
      | 1, _ => simpa [List.getD, k2] using RV.ptr (κ := κ) (b := b) (o := 1) (by omega) hblk.fr
      | 2, _ => simpa [List.getD, Array.getD, k2] using r2)
    rwa [Array.toArray_toList] at hw
  · have h2 : us.getD 1 undef = .pointer (some ⟨κ.pos b, 1, none⟩) := by
      generalize us.getD 1 undef = z at h1
      cases h1; rfl
    refine (copyCheck_used w (κ.pos b) (by rw [hc1, hu1, h2])).mono ?_
    rintro e w' ⟨rfl, rfl⟩
    refine ⟨_, .tup [], σ, κ, rfl, ⟨rfl, ?_⟩, K.le_refl κ, hrep, .tup rfl (fun j hj => absurd hj (Nat.not_lt_zero _))⟩
    apply List.ext_getElem?
    intro i
    rw [List.getElem?_set]
    by_cases hi : b = i
    · subst hi; rw [if_pos rfl, if_pos hlt, hb]
    · rw [if_neg hi]
end Go.Proofs.YtplgnfciipceiaaGreatDoor
namespace Go.Proofs.YtplgnfciipceiaaGreatDoor
open Go.RowKit Go.Lamb
def c79 : AC :=
  .seq (.reg [.o 4 (.mov (.k (.c (.int .i64 0)))), .o 5 (.mov (.k (.c (.nili))))])
  (.seq (.reg [.m 6 0, .k 7 130 [(.t 6)]])
  (.seq (.reg [.m 8 0, .m 9 0, .n 10 9, .f 11 1 10, .l 12 11, .m 13 1, .o 14 (.appS 5 1 (.t 12) (.t 13)), .n 15 8, .f 16 1 15, .s 1 16 14])
  (.seq (.reg [.m 17 1, .o 18 (.lens (.t 17)), .m 4 18, .o 5 (.mov (.k (.c (.nili))))])
  (.ret))))
def r79 : List ResV := [.tmp 4, .tmp 5]
theorem k79 : CodeIs Tryz.prog 79 2 Tryz.f79 c79 r79 := ⟨by kernel_rfl, Tryz.func79, rfl, by kernel_rfl, by kernel_rfl, by decide, enters_fn Tryz.func79 (by kernel_rfl) rfl⟩
def c157 : AC :=
  .seq (.reg [.o 4 (.mov (.k (.c (.nili))))])
  (.seq (.reg [.m 5 0, .k 6 130 [(.t 5)]])
  (.seq (.reg [.m 7 0, .m 8 0, .n 9 8, .f 10 1 9, .l 11 10, .m 12 1, .o 13 (.bsl 1 [(.t 12)]), .o 14 (.app 5 1 1 (.t 11) (.t 13)), .n 15 7, .f 16 1 15, .s 1 16 14])
  (.seq (.reg [.o 4 (.mov (.k (.c (.nili))))])
  (.ret))))
def r157 : List ResV := [.tmp 4]
theorem k157 : CodeIs Tryz.prog 157 2 Tryz.f157 c157 r157 := ⟨by kernel_rfl, Tryz.func157, rfl, by kernel_rfl, by kernel_rfl, by decide, enters_fn Tryz.func157 (by kernel_rfl) rfl⟩
--absent /-- (*strings.Builder).Len -/
end Go.Proofs.YtplgnfciipceiaaGreatDoor
namespace Go.Lamb
def infR (l : List OpT) (p : Pre) : OpT × Pre × Pre × Bool :=
  if appP p = true then match p.l with
    | [f, b] => if appP f = true then match f.l with
        | [c, a] => if c.k = 0 then ((findL l c.name).getD .zero, a, b, (findL l c.name).isSome) else (.zero, .none, .none, false)
        | _ => (.zero, .none, .none, false)
      else (.zero, .none, .none, false)
    | _ => (.zero, .none, .none, false)
  else (.zero, .none, .none, false)
def infV (l : List OpT) (p : Pre) : V := .tup [(infR l p).1.v, (infR l p).2.1.v, (infR l p).2.2.1.v, B (infR l p).2.2.2]
end Go.Lamb
namespace Go.Proofs.YtplgnfciipceiaaGreatDoor
open Go.RowKit Go.Lamb
attribute [local go_sem] advO_skip advO_reg advO_seq advO_block advO_exit advO_endb advO_opsNil advO_ops advG_yes advG_no advG_none advS_some advS_none advO_cond advO_loop advO_dreg advO_ret advO_bad advO_inv advO_nil advO_zero wantedV Lamb.step ev_t ev_k put_some put_none argEnv popTo cellsAt V.cellsV V.rows V.toC toCs fillV bytesC byteRows appV rowsV boundV boundL binV binInt binStr eqC eqL V.isNil leaves V.leaf Ins.quiet Ins.pure List.getD_cons_zero List.getD_cons_succ List.getD_nil List.all_cons List.all_nil List.length_cons List.length_nil List.take_succ_cons List.take_zero List.drop_succ_cons List.drop_zero List.cons_append List.nil_append List.append_nil List.append_assoc List.map_cons List.map_nil List.getElem?_cons_zero List.getElem?_cons_succ List.length_append List.length_set hget0 hget hset0 hset hsets hgs0 hgs hss0 hss List.set_cons_zero List.set_cons_succ List.forall_mem_cons List.not_mem_nil false_implies implies_true Option.map_some Bool.and_true Bool.true_and Bool.not_not Bool.not_true Bool.not_false Bool.and_self Bool.or_true Bool.true_or Bool.or_false Bool.false_or Bool.and_false Bool.false_and Bool.false_eq_true beq_self_eq_true and_self and_true true_and if_true if_false Nat.zero_add Nat.add_zero Nat.le_refl Int.toNat_natCast decide_true decide_false beq_t beq_f List.length_map List.getElem?_map I S B opsC toksC OpT.v OpT.cs OpT.zero Tok.v Tok.cs Pre.v Pre.cs_eq k_mk name_mk n_mk l_mk pos_mk Pre.app applyL natCast0 natCast1 natCast2 AOp.o AOp.m AOp.f AOp.l AOp.d AOp.n AOp.x AOp.s AOp.k AOp.y AOp.z EOp.q low_c low_void low_any low_csl low_nilf low_ptr low_osl low_agg low_tup low_fn resEval advPO_nil advPO_loud advPO_quiet pL_yes pL_no pLS_some pLS_none pQ_yes pQ_no pQS_some pQS_loud eq_self Nat.sub_zero
section
def wrC (l : List OpT) (A : V) (v : Nat) (s : List UInt8) : Blk := .cells [.c (opsC l), A, .osl v (byteRows s)] (some 150)
def wrY (s : List UInt8) : Blk := .spare 5 1 s.length
abbrev wrs (σ : H) (b v : Nat) (l : List OpT) (A : V) (s : List UInt8) : H := rs σ b v (wrC l A v s) (wrY s)
theorem wrs_ok {σ : H} {b v : Nat} (D : Two σ b v) {X Y : Blk} (h : H.ok (rs σ b v X Y)) (l : List OpT) (s : List UInt8) : H.ok (wrs σ b v l (.ptr b 1) s) :=
  rs_ok D h (fun cs tg hc x hx => by
    unfold wrC at hc
    injection hc with hc _
    subst hc
    simp only [List.mem_cons, List.not_mem_nil, or_false] at hx
    rcases hx with rfl | rfl | rfl
    · exact .c _
    · exact .ptr D.lb
    · exact .osl D.lv) (fun cs tg hc => by unfold wrY at hc; cases hc)
theorem copyCheckW (w0 : World) (σ : H) (b v : Nat) (D : Two σ b v) (l : List OpT) (A : V) (hA : A = .c .nilp ∨ A = .ptr b 1) (s : List UInt8) :
    DC Tryz.prog w0 130 [.ptr b 1] (wrs σ b v l A s) (Same (.tup []) (wrs σ b v l (.ptr b 1) s)) :=
  (copyCheckD w0 _ b _ A _ (rs_b D _ _) hA).mono fun d σ' ⟨h1, h2⟩ => ⟨h1, by rw [h2]; exact rs_sb D _ _ _⟩
theorem wrs_push (σ : H) (b v : Nat) (l : List OpT) (A : V) (s t : List UInt8) : wrs σ b v l A (s ++ t) = rs σ b v (.cells [.c (opsC l), A, .osl v (byteRows s ++ byteRows t)] (some 150)) (.spare 5 1 (s.length + t.length)) := by
  show rs σ b v (wrC l A v (s ++ t)) (wrY (s ++ t)) = _
  simp only [wrC, wrY, byteRows, List.map_append, List.length_append]
attribute [local go_sem] wrC wrY rs_len rs_g0 rs_g rs_s0 rs_s rs_sv
theorem builder_WriteString (w0 : World) (σ : H) (b v : Nat) (D : Two σ b v) (l : List OpT) (A : V) (hA : A = .c .nilp ∨ A = .ptr b 1) (s t : List UInt8) (hn : s.length + t.length ≤ 100000000) :
    DC Tryz.prog w0 79 [.ptr b 1, S t] (wrs σ b v l A s) (Same (.tup [I t.length, .c .nili]) (wrs σ b v l (.ptr b 1) (s ++ t))) := by
  refine k79.go rfl (fun hok hsz => ?_)
  have hok2 := wrs_ok D hok l (s ++ t)
  rw [wrs_push] at hok2 ⊢
  have hl1 : (byteRows s).length = s.length := by simp [byteRows]
  have hl2 : (byteRows t).length = t.length := by simp [byteRows]
  have hr : ∀ r ∈ t.map (fun b => [C.int .u8 b.toNat]), r.length = 1 := fun r hr => by
    obtain ⟨c, _, rfl⟩ := List.mem_map.1 hr
    rfl
  have hb1 : (s.length + t.length) * 1 ≤ 140737488355328 := by omega
  have hb2 : s.length + t.length ≤ 140737488355328 := by omega
  ((try refine W.a ?_); simp only [go_sem, seval, reduceCtorEq, c79, rsA D])
  (refine W.c1 (copyCheckW w0 σ b v D l A hA s) ?_; simp only [go_sem, seval, reduceCtorEq])
  ((try refine W.a ?_); simp only [go_sem, seval, reduceCtorEq, rsA D, hl1, hl2, eq_true hr, hb1, hb2])
  (refine W.fs (hok2) (by simp only [r79, go_sem, seval, reduceCtorEq]; rfl) ?_; simp only [resV]; try exact V.wk.rfl _)
theorem builder_WriteByte (w0 : World) (σ : H) (b v : Nat) (D : Two σ b v) (l : List OpT) (A : V) (hA : A = .c .nilp ∨ A = .ptr b 1) (s : List UInt8) (t : UInt8) (hn : s.length + 1 ≤ 100000000) :
    DC Tryz.prog w0 157 [.ptr b 1, .c (.int .u8 t.toNat)] (wrs σ b v l A s) (Same (.c .nili) (wrs σ b v l (.ptr b 1) (s ++ [t]))) := by
  refine k157.go rfl (fun hok hsz => ?_)
  have hok2 := wrs_ok D hok l (s ++ [t])
  rw [wrs_push] at hok2 ⊢
  have hl1 : (byteRows s).length = s.length := by simp [byteRows]
  have hb1 : (s.length + 1) * 1 ≤ 140737488355328 := by omega
  have hb2 : s.length + 1 ≤ 140737488355328 := by omega
  ((try refine W.a ?_); simp only [go_sem, seval, reduceCtorEq, c157, rsA D])
  (refine W.c1 (copyCheckW w0 σ b v D l A hA s) ?_; simp only [go_sem, seval, reduceCtorEq])
  ((try refine W.a ?_); simp only [go_sem, seval, reduceCtorEq, rsA D, hl1, hb1, hb2])
  (refine W.fs (hok2) (by simp only [r157, go_sem, seval, reduceCtorEq]; rfl) ?_; simp only [resV]; try exact V.wk.rfl _)
end
section
def c154 : AC :=
  .seq (.reg [.o 1 (.box (.t 0)), .o 2 (.mov (.k (.c (.bool false))))])
  (.seq (.reg [.f 3 0 1, .l 4 3, .o 5 (.bin .eql (.t 4) (.k (.c (.int .i64 4)))), .m 6 5, .y 7 (.fadd 3 (.t 1)) 6, .y 8 (.load1 (.t 7)) 6, .y 9 (.lenr (.t 8)) 6, .y 10 (.bin .eql (.t 9) (.k (.c (.int .i64 1)))) 6, .o 11 (.pick (.t 6) (.t 10) (.k (.c (.bool false)))), .m 2 11])
  (.ret))
def r154 : List ResV := [.tmp 2]
theorem k154 : CodeIs Tryz.prog 154 1 Tryz.f154 c154 r154 := ⟨by kernel_rfl, Tryz.func154, rfl, by kernel_rfl, by kernel_rfl, by decide, enters_fn Tryz.func154 (by kernel_rfl) rfl⟩
def c155 : AC :=
  .seq (.reg [.o 1 (.box (.t 0)), .o 2 (.mov (.k (.c (.bool false))))])
  (.seq (.reg [.f 3 0 1, .l 4 3, .o 5 (.bin .eql (.t 4) (.k (.c (.int .i64 3)))), .m 6 5, .y 7 (.fadd 3 (.t 1)) 6, .y 8 (.load1 (.t 7)) 6, .y 9 (.lenr (.t 8)) 6, .y 10 (.bin .eql (.t 9) (.k (.c (.int .i64 2)))) 6, .o 11 (.pick (.t 6) (.t 10) (.k (.c (.bool false)))), .m 2 11])
  (.ret))
def r155 : List ResV := [.tmp 2]
theorem k155 : CodeIs Tryz.prog 155 1 Tryz.f155 c155 r155 := ⟨by kernel_rfl, Tryz.func155, rfl, by kernel_rfl, by kernel_rfl, by decide, enters_fn Tryz.func155 (by kernel_rfl) rfl⟩
def c148 : AC :=
  .seq (.reg [.o 3 (.box (.t 1)), .o 4 (.box (.k (.agg [.c (.str []), .c (.int .i64 0), .c (.int .i64 0)]))), .o 5 (.box (.k (.agg [.c (.int .i64 0), .c (.str []), .c (.int .i64 0), .csl [], .c (.int .i64 0)]))), .o 6 (.box (.k (.agg [.c (.int .i64 0), .c (.str []), .c (.int .i64 0), .csl [], .c (.int .i64 0)]))), .o 7 (.mov (.k (.c (.bool false))))])
  (.seq (.seq (.reg [.d 8 5 3, .k 9 155 [(.t 8)], .o 10 (.un .not (.t 9)), .m 11 10, .z 12 (.fadd 3 (.t 3)) 11, .z 13 (.load1 (.t 12)) 11, .z 14 (.iadd 5 (.t 13) (.k (.c (.int .i64 0)))) 11, .z 15 (.loadn 5 (.t 14)) 11, .z 16 (.call (.k (.fn 155 [])) [(.t 15)]) 11, .z 17 (.un .not (.t 16)) 11, .o 18 (.pick (.t 11) (.k (.c (.bool true))) (.t 17)), .m 19 18, .z 20 (.fadd 3 (.t 3)) 19, .z 21 (.load1 (.t 20)) 19, .z 22 (.iadd 5 (.t 21) (.k (.c (.int .i64 0)))) 19, .z 23 (.fadd 3 (.t 22)) 19, .z 24 (.load1 (.t 23)) 19, .z 25 (.iadd 5 (.t 24) (.k (.c (.int .i64 0)))) 19, .z 26 (.fadd 0 (.t 25)) 19, .z 27 (.load1 (.t 26)) 19, .z 28 (.bin .neq (.t 27) (.k (.c (.int .i64 0)))) 19, .o 29 (.pick (.t 19) (.k (.c (.bool true))) (.t 28))])
  (.cond (.t 29)
  (.ret)
  (.skip)))
  (.seq (.dreg [.m 31 0, .n 32 31, .f 33 0 32, .l 34 33, .f 35 3 3, .l 36 35, .o 37 (.iadd 5 (.t 36) (.k (.c (.int .i64 0)))), .f 38 3 37, .l 39 38, .o 40 (.iadd 5 (.t 39) (.k (.c (.int .i64 0)))), .f 41 1 40, .l 42 41, .k 43 59 [(.t 34), (.t 42)], .m 30 43, .x 44 30 0, .x 45 30 1, .s 3 4 44, .m 7 45]
    [.q (.m 31 0), .q (.n 32 31), .q (.f 33 0 32), .q (.l 34 33), .q (.f 35 3 3), .q (.l 36 35), .q (.o 37 (.iadd 5 (.t 36) (.k (.c (.int .i64 0))))), .q (.f 38 3 37), .q (.l 39 38), .q (.o 40 (.iadd 5 (.t 39) (.k (.c (.int .i64 0))))), .q (.f 41 1 40), .q (.l 42 41), ⟨.k 43 59 [(.t 34), (.t 42)], true, 0⟩, ⟨.m 30 43, false, 1⟩, ⟨.x 44 30 0, false, 1⟩, ⟨.s 3 4 44, true, 1⟩, ⟨.x 45 30 1, false, 1⟩, ⟨.m 7 45, false, 2⟩])
  (.seq (.dreg [.d 46 3 4, .f 47 3 3, .l 48 47, .o 49 (.iadd 5 (.t 48) (.k (.c (.int .i64 0)))), .f 50 3 49, .l 51 50, .o 52 (.iadd 5 (.t 51) (.k (.c (.int .i64 1)))), .d 53 5 52, .f 54 3 3, .l 55 54, .o 56 (.iadd 5 (.t 55) (.k (.c (.int .i64 1)))), .d 57 5 56, .m 58 7, .s 3 4 46, .s 5 5 53, .s 5 6 57, .m 7 58]
    [.q (.d 46 3 4), ⟨.s 3 4 46, true, 0⟩, .q (.f 47 3 3), .q (.l 48 47), .q (.o 49 (.iadd 5 (.t 48) (.k (.c (.int .i64 0))))), .q (.f 50 3 49), .q (.l 51 50), .q (.o 52 (.iadd 5 (.t 51) (.k (.c (.int .i64 1))))), .q (.d 53 5 52), ⟨.s 5 5 53, true, 1⟩, .q (.f 54 3 3), .q (.l 55 54), .q (.o 56 (.iadd 5 (.t 55) (.k (.c (.int .i64 1))))), .q (.d 57 5 56), ⟨.s 5 6 57, true, 2⟩, .q (.m 58 7), ⟨.m 7 58, false, 3⟩])
  (.ret))))
def r148 : List ResV := [.celln 3 4, .celln 5 5, .celln 5 6, .tmp 7]
theorem k148 : CodeIs Tryz.prog 148 2 Tryz.f148 c148 r148 := ⟨by kernel_rfl, Tryz.func148, rfl, by kernel_rfl, by kernel_rfl, by decide, enters_fn Tryz.func148 (by kernel_rfl) rfl⟩
def c158 : AC :=
  .seq (.reg [.o 3 (.box (.t 1))])
  (.seq (.reg [.o 4 (.mov (.k (.c (.str [63]))))])
  (.seq (.seq (.reg [.f 7 0 3, .l 8 7])
  (.block 0 (.seq (.reg [.o 10 (.bin .eql (.t 8) (.k (.c (.int .i64 0)))), .m 9 10])
  (.cond (.t 9)
  (.seq (.reg [.f 11 1 3, .l 12 11, .m 4 12])
  (.seq (.reg [.m 14 0, .n 15 14, .f 16 0 15, .l 17 16, .m 18 4, .k 19 59 [(.t 17), (.t 18)], .m 13 19, .x 20 13 0, .x 21 13 1, .o 5 (.box (.k (.agg [.c (.str []), .c (.int .i64 0), .c (.int .i64 0)]))), .s 3 5 20, .m 6 21])
  (.seq (.reg [.m 22 6])
  (.cond (.t 22)
  (.reg [.m 23 4, .o 24 (.bin .add (.k (.c (.str [40]))) (.t 23)), .o 25 (.bin .add (.t 24) (.k (.c (.str [41])))), .m 4 25])
  (.skip)))))
  (.seq (.reg [.o 27 (.bin .eql (.t 8) (.k (.c (.int .i64 1)))), .m 26 27])
  (.cond (.t 26)
  (.reg [.f 28 1 3, .l 29 28, .m 4 29])
  (.seq (.reg [.o 31 (.bin .eql (.t 8) (.k (.c (.int .i64 2)))), .m 30 31])
  (.cond (.t 30)
  (.reg [.f 32 2 3, .l 33 32, .o 34 (.mx (.t 33) (.k (.c (.int .i64 0)))), .k 35 62 [(.t 34)], .m 4 35])
  (.skip)))))))))
  (.reg [.m 36 0, .n 37 36, .f 38 1 37, .m 39 4, .k 40 79 [(.t 38), (.t 39)]])))
def r158 : List ResV := []
theorem k158 : CodeIs Tryz.prog 158 2 Tryz.f158 c158 r158 := ⟨by kernel_rfl, Tryz.func158, rfl, by kernel_rfl, by kernel_rfl, by decide, enters_fn Tryz.func158 (by kernel_rfl) rfl⟩
end
section
theorem show_lambda (w0 : World) (p : Pre) (σ : H) : DC Tryz.prog w0 154 [p.v] σ (Same (B (lamP p)) σ) := by
  refine k154.go rfl (fun hok hsz => ?_)
  have hl : ((p.l.length : Int) == 1) = (p.l.length == 1) := by rw [Bool.eq_iff_iff]; simp; omega
  unfold lamP
  cases hk : p.k == 4
  · ((try refine W.a ?_); simp only [go_sem, seval, reduceCtorEq, c154, hk])
    (refine W.fs (hok) (by simp only [r154, go_sem, seval, reduceCtorEq]; rfl) ?_; simp only [resV]; try exact V.wk.rfl _)
  · ((try refine W.a ?_); simp only [go_sem, seval, reduceCtorEq, c154, hk, hl])
    (refine W.fs (hok) (by simp only [r154, go_sem, seval, reduceCtorEq]; rfl) ?_; simp only [resV]; try exact V.wk.rfl _)
theorem show_application (w0 : World) (p : Pre) (σ : H) : DC Tryz.prog w0 155 [p.v] σ (Same (B (appP p)) σ) := by
  refine k155.go rfl (fun hok hsz => ?_)
  have hl : ((p.l.length : Int) == 2) = (p.l.length == 2) := by rw [Bool.eq_iff_iff]; simp; omega
  unfold appP
  cases hk : p.k == 3
  · ((try refine W.a ?_); simp only [go_sem, seval, reduceCtorEq, c155, hk])
    (refine W.fs (hok) (by simp only [r155, go_sem, seval, reduceCtorEq]; rfl) ?_; simp only [resV]; try exact V.wk.rfl _)
  · ((try refine W.a ?_); simp only [go_sem, seval, reduceCtorEq, c155, hk, hl])
    (refine W.fs (hok) (by simp only [r155, go_sem, seval, reduceCtorEq]; rfl) ?_; simp only [resV]; try exact V.wk.rfl _)
theorem app_two {p : Pre} (h : appP p = true) : ∃ f b, p.l = [f, b] := by
  unfold appP at h
  simp only [Bool.and_eq_true, beq_iff_eq] at h
  match p.l, h.2 with
  | [f, b], _ => exact ⟨f, b, rfl⟩
attribute [local go_sem] wrC wrY rs_len rs_g0 rs_g rs_s0 rs_s rs_sv Pre.v Pre.cs_eq
theorem writer_infix (w0 : World) (σ : H) (b v : Nat) (D : Two σ b v) (l : List OpT) (A : V) (s : List UInt8) (p : Pre) :
    DC Tryz.prog w0 148 [.ptr b 0, p.v] (wrs σ b v l A s) (Same (infV l p) (wrs σ b v l A s)) := by
  refine k148.go rfl (fun hok hsz => ?_)
  have a1 := fun σ => show_application w0 p σ
  have e0 : infR l p = (.zero, .none, .none, false) → infV l p = .tup [.agg [S [], I 0, I 0], .agg [I 0, S [], I 0, .c (.sl []), I 0], .agg [I 0, S [], I 0, .c (.sl []), I 0], B false] := fun e => by
    unfold infV
    rw [e]
    rfl
  cases h1 : appP p
  · rw [h1] at a1
    rw [e0 (by unfold infR; rw [h1]; rfl)]
    ((try refine W.a ?_); simp only [go_sem, seval, reduceCtorEq, c148, rsA D])
    (refine W.c1 (a1 _) ?_; simp only [go_sem, seval, reduceCtorEq, rsA D])
    refine W.yes rfl ?_
    ((try refine W.a ?_); simp only [go_sem, seval, reduceCtorEq, rsA D])
    (refine W.fs (hok) (by simp only [r148, go_sem, seval, reduceCtorEq]; rfl) ?_; simp only [resV]; try exact V.wk.rfl _)
    (all_goals exact wk_here)
  obtain ⟨f, t, hl⟩ := app_two h1
  have a2 := fun σ => show_application w0 f σ
  rw [h1] at a1
  cases h2 : appP f
  · rw [h2] at a2
    rw [e0 (by unfold infR; rw [h1, if_pos rfl, hl]; simp only [h2]; rfl)]
    ((try refine W.a ?_); simp only [go_sem, seval, reduceCtorEq, c148, rsA D])
    (refine W.c1 (a1 _) ?_; simp only [go_sem, seval, reduceCtorEq, rsA D, hl, nat0])
    (refine W.c1 (a2 _) ?_; simp only [go_sem, seval, reduceCtorEq, rsA D])
    refine W.yes rfl ?_
    ((try refine W.a ?_); simp only [go_sem, seval, reduceCtorEq, rsA D])
    (refine W.fs (hok) (by simp only [r148, go_sem, seval, reduceCtorEq]; rfl) ?_; simp only [resV]; try exact V.wk.rfl _)
    (all_goals exact wk_here)
  obtain ⟨c, a, hl2⟩ := app_two h2
  rw [h2] at a2
  by_cases h3 : c.k = 0
  · have k3 : (c.k != 0) = false := by simpa using h3
    have a3 := fun σ => ops_Find w0 l c.name σ
    have e1 : infV l p = .tup [((findL l c.name).getD .zero).v, a.v, t.v, B (findL l c.name).isSome] := by
      unfold infV infR
      rw [h1, if_pos rfl, hl]
      simp only [h2, if_true, hl2, h3]
    rw [e1]
    unfold foundV at a3
    generalize (findL l c.name).getD .zero = o at *
    generalize (findL l c.name).isSome = is at *
    ((try refine W.a ?_); simp only [go_sem, seval, reduceCtorEq, c148, rsA D])
    (refine W.c1 (a1 _) ?_; simp only [go_sem, seval, reduceCtorEq, rsA D, hl, nat0])
    (refine W.c1 (a2 _) ?_; simp only [go_sem, seval, reduceCtorEq, rsA D, hl2, nat0, k3])
    refine W.no rfl ?_
    ((try refine W.a ?_); simp only [go_sem, seval, reduceCtorEq, rsA D])
    apply W.dregE (List.cons_ne_nil _ _)
    case hc =>
      (apply CanonE.advPO; simp only [go_sem, seval, reduceCtorEq, rsA D, hl, hl2, nat0])
      (apply CanonE.call (a3 _); (case hg => rfl); (case hf => rfl); (case ha => first | rfl | simp))
      (apply CanonE.advPO; simp only [go_sem, seval, reduceCtorEq, rsA D])
      exact CanonE.nil
    ((try refine W.a ?_); simp only [go_sem, seval, reduceCtorEq, rsA D])
    (apply W.dregE (List.cons_ne_nil _ _); case hc => ((apply CanonE.advPO; simp only [go_sem, seval, reduceCtorEq, rsA D, hl, hl2, nat0]); exact CanonE.nil))
    ((try refine W.a ?_); simp only [go_sem, seval, reduceCtorEq, rsA D])
    (refine W.fs (hok) (by simp only [r148, go_sem, seval, reduceCtorEq]; rfl) ?_; simp only [resV]; try exact V.wk.rfl _)
  · have k3 : (c.k != 0) = true := by simpa using h3
    rw [e0 (by unfold infR; rw [h1, if_pos rfl, hl]; simp only [h2, if_true, hl2, if_neg h3])]
    ((try refine W.a ?_); simp only [go_sem, seval, reduceCtorEq, c148, rsA D])
    (refine W.c1 (a1 _) ?_; simp only [go_sem, seval, reduceCtorEq, rsA D, hl, nat0])
    (refine W.c1 (a2 _) ?_; simp only [go_sem, seval, reduceCtorEq, rsA D, hl2, nat0, k3])
    refine W.yes rfl ?_
    ((try refine W.a ?_); simp only [go_sem, seval, reduceCtorEq, rsA D])
    (refine W.fs (hok) (by simp only [r148, go_sem, seval, reduceCtorEq]; rfl) ?_; simp only [resV]; try exact V.wk.rfl _)
    (all_goals exact wk_here)
end
section
theorem strconv_ItoaS {w0 : World} (hG : Glob w0) (n : Int) (h0 : -9223372036854775808 ≤ n) (h1 : n ≤ 9223372036854775807) (σ : H) : DC Tryz.prog w0 62 [I n] σ (Same (S (Lib.itoa n)) σ) := by
  refine DC.of_calls (enters_fn Tryz.func62 (by kernel_rfl) rfl) fun κ w vs hrep hfit => ?_
  obtain ⟨v, ys, rfl, hv, hfit⟩ := hfit.cons_inv
  have := hfit.nil_inv
  subst this
  cases hv with
  | c hv =>
    cases hv with
    | int _ _ =>
      refine ⟨_, .c (.str _ (by have := Lib.itoa_length_le n h0 h1; unfold maxLen; omega)), (itoaC n w h0 h1 (hG.ext hrep.ext)).mono ?_⟩
      rintro e w' ⟨rfl, hb⟩
      exact ⟨rfl, hb⟩
attribute [local go_sem] wrC wrY rs_len rs_g0 rs_g rs_s0 rs_s rs_sv Pre.v
theorem wrs_put (σ : H) (b v : Nat) (l : List OpT) (A : V) (s t : List UInt8) : wrs σ b v l A (s ++ t) = rs σ b v (.cells [.c (opsC l), A, .osl v (byteRows (s ++ t))] (some 150)) (.spare 5 1 (s.length + t.length)) := by
  show rs σ b v (wrC l A v (s ++ t)) (wrY (s ++ t)) = _
  simp only [wrC, wrY, List.length_append]
theorem writer_word {w0 : World} (hG : Glob w0) (σ : H) (b v : Nat) (D : Two σ b v) (l : List OpT) (A : V) (hA : A = .c .nilp ∨ A = .ptr b 1) (s : List UInt8) (p : Pre) (hn : p.n ≤ 9223372036854775807) (hlen : s.length + (wordP l p).length ≤ 100000000) :
    DC Tryz.prog w0 158 [.ptr b 0, p.v] (wrs σ b v l A s) (Same (.tup []) (wrs σ b v l (.ptr b 1) (s ++ wordP l p))) := by
  refine k158.go rfl (fun hok hsz => ?_)
  by_cases k0 : p.k = 0
  · have e0 : (p.k == 0) = true := by simpa using k0
    have a3 := fun σ => ops_Find w0 l p.name σ
    unfold foundV at a3
    have ew : wordP l p = if (findL l p.name).isSome = true then 40 :: p.name ++ [41] else p.name := by unfold wordP; rw [if_pos k0]
    generalize (findL l p.name).getD .zero = o at a3
    generalize (findL l p.name).isSome = is at a3 ew
    cases is
    · rw [if_neg (by decide)] at ew
      rw [ew] at hlen ⊢
      have hok2 := wrs_ok D hok l (s ++ p.name)
      rw [wrs_put] at hok2 ⊢
      ((try refine W.a ?_); simp only [go_sem, seval, reduceCtorEq, c158, rsA D, e0])
      refine W.yes rfl ?_
      ((try refine W.a ?_); simp only [go_sem, seval, reduceCtorEq, rsA D])
      (refine W.c1 (a3 _) ?_; simp only [go_sem, seval, reduceCtorEq, rsA D])
      refine W.no rfl ?_
      ((try refine W.a ?_); simp only [go_sem, seval, reduceCtorEq, rsA D])
      (refine W.c1 (DC.lift D (fun D' => builder_WriteString w0 _ b v D' l A hA s p.name hlen)) ?_; simp only [go_sem, seval, reduceCtorEq, rsA D])
      (refine W.done (Fin.sameW (hok2) (by (first | rfl | exact List.length_set .. | simp)) (by simp only [r158, go_sem, seval, reduceCtorEq]; rfl) ?_ (by (first | exact .c _ | (simp only [go_sem, seval, reduceCtorEq]; done))) (by (first | rfl | exact (List.append_nil _).symm))); simp only [resV]; try exact V.wk.rfl _)
    · rw [if_pos rfl, List.cons_append] at ew
      have hln : (40 :: (p.name ++ [41])).length = p.name.length + 1 + 1 := by simp
      rw [ew] at hlen ⊢
      have hok2 := wrs_ok D hok l (s ++ (40 :: (p.name ++ [41])))
      rw [wrs_put, hln] at hok2 ⊢
      have hl : p.name.length + 2 ≤ 100000000 := by simp only [List.length_append, List.length_cons, List.length_nil] at hlen; omega
      have h1 : 1 + p.name.length ≤ 9223372036854775807 := by omega
      have h2 : p.name.length + 1 + 1 ≤ 9223372036854775807 := by omega
      have h3 : p.name.length + 1 ≤ 9223372036854775806 := by omega
      have h4 : p.name.length + 1 ≤ 9223372036854775807 := by omega
      ((try refine W.a ?_); simp only [go_sem, seval, reduceCtorEq, c158, rsA D, e0])
      refine W.yes rfl ?_
      ((try refine W.a ?_); simp only [go_sem, seval, reduceCtorEq, rsA D])
      (refine W.c1 (a3 _) ?_; simp only [go_sem, seval, reduceCtorEq, rsA D])
      refine W.yes rfl ?_
      ((try refine W.a ?_); simp only [go_sem, seval, reduceCtorEq, rsA D, h1, h2, h3, h4])
      (refine W.c1 (DC.lift D (fun D' => builder_WriteString w0 _ b v D' l A hA s (40 :: (p.name ++ [41])) hlen)) ?_; simp only [go_sem, seval, reduceCtorEq, rsA D])
      (refine W.done (Fin.sameW (hok2) (by (first | rfl | exact List.length_set .. | simp)) (by simp only [r158, go_sem, seval, reduceCtorEq]; rfl) ?_ (by (first | exact .c _ | (simp only [go_sem, seval, reduceCtorEq]; done))) (by (first | rfl | exact (List.append_nil _).symm))); simp only [resV]; try exact V.wk.rfl _)
  have e0 : (p.k == 0) = false := by simpa using k0
  by_cases k1 : p.k = 1
  · have e1 : (p.k == 1) = true := by simpa using k1
    have ew : wordP l p = p.name := by unfold wordP; rw [if_neg k0, if_pos k1]
    rw [ew] at hlen ⊢
    have hok2 := wrs_ok D hok l (s ++ p.name)
    rw [wrs_put] at hok2 ⊢
    ((try refine W.a ?_); simp only [go_sem, seval, reduceCtorEq, c158, rsA D, e0])
    refine W.no rfl ?_
    ((try refine W.a ?_); simp only [go_sem, seval, reduceCtorEq, rsA D, e1])
    refine W.yes rfl ?_
    ((try refine W.a ?_); simp only [go_sem, seval, reduceCtorEq, rsA D])
    (refine W.c1 (DC.lift D (fun D' => builder_WriteString w0 _ b v D' l A hA s p.name hlen)) ?_; simp only [go_sem, seval, reduceCtorEq, rsA D])
    (refine W.done (Fin.sameW (hok2) (by (first | rfl | exact List.length_set .. | simp)) (by simp only [r158, go_sem, seval, reduceCtorEq]; rfl) ?_ (by (first | exact .c _ | (simp only [go_sem, seval, reduceCtorEq]; done))) (by (first | rfl | exact (List.append_nil _).symm))); simp only [resV]; try exact V.wk.rfl _)
  have e1 : (p.k == 1) = false := by simpa using k1
  by_cases k2 : p.k = 2
  · have e2 : (p.k == 2) = true := by simpa using k2
    have ew : wordP l p = Lib.itoa (max p.n 0) := by unfold wordP; rw [if_neg k0, if_neg k1, if_pos k2]
    have hm : (if p.n < 0 then 0 else p.n) = max p.n 0 := by split <;> omega
    have hi := fun σ => strconv_ItoaS hG (max p.n 0) (by omega) (by omega) σ
    rw [ew] at hlen ⊢
    have hok2 := wrs_ok D hok l (s ++ (Lib.itoa (max p.n 0)))
    rw [wrs_put] at hok2 ⊢
    ((try refine W.a ?_); simp only [go_sem, seval, reduceCtorEq, c158, rsA D, e0])
    refine W.no rfl ?_
    ((try refine W.a ?_); simp only [go_sem, seval, reduceCtorEq, rsA D, e1])
    refine W.no rfl ?_
    ((try refine W.a ?_); simp only [go_sem, seval, reduceCtorEq, rsA D, e2])
    refine W.yes rfl ?_
    ((try refine W.a ?_); simp only [go_sem, seval, reduceCtorEq, rsA D, hm])
    (refine W.c1 (hi _) ?_; simp only [go_sem, seval, reduceCtorEq, rsA D])
    (refine W.c1 (DC.lift D (fun D' => builder_WriteString w0 _ b v D' l A hA s (Lib.itoa (max p.n 0)) hlen)) ?_; simp only [go_sem, seval, reduceCtorEq, rsA D])
    (refine W.done (Fin.sameW (hok2) (by (first | rfl | exact List.length_set .. | simp)) (by simp only [r158, go_sem, seval, reduceCtorEq]; rfl) ?_ (by (first | exact .c _ | (simp only [go_sem, seval, reduceCtorEq]; done))) (by (first | rfl | exact (List.append_nil _).symm))); simp only [resV]; try exact V.wk.rfl _)
  have e2 : (p.k == 2) = false := by simpa using k2
  have ew : wordP l p = [63] := by unfold wordP; rw [if_neg k0, if_neg k1, if_neg k2]
  rw [ew] at hlen ⊢
  have hok2 := wrs_ok D hok l (s ++ [63])
  rw [wrs_put] at hok2 ⊢
  ((try refine W.a ?_); simp only [go_sem, seval, reduceCtorEq, c158, rsA D, e0])
  refine W.no rfl ?_
  ((try refine W.a ?_); simp only [go_sem, seval, reduceCtorEq, rsA D, e1])
  refine W.no rfl ?_
  ((try refine W.a ?_); simp only [go_sem, seval, reduceCtorEq, rsA D, e2])
  refine W.no rfl ?_
  ((try refine W.a ?_); simp only [go_sem, seval, reduceCtorEq, rsA D])
  (refine W.c1 (DC.lift D (fun D' => builder_WriteString w0 _ b v D' l A hA s [63] hlen)) ?_; simp only [go_sem, seval, reduceCtorEq, rsA D])
  (refine W.done (Fin.sameW (hok2) (by (first | rfl | exact List.length_set .. | simp)) (by simp only [r158, go_sem, seval, reduceCtorEq]; rfl) ?_ (by (first | exact .c _ | (simp only [go_sem, seval, reduceCtorEq]; done))) (by (first | rfl | exact (List.append_nil _).symm))); simp only [resV]; try exact V.wk.rfl _)
end
section
def c149 : AC :=
  .seq (.reg [.o 4 (.box (.t 1))])
  (.seq (.reg [.m 11 0, .d 12 5 4, .k 13 148 [(.t 11), (.t 12)], .m 10 13, .x 14 10 0, .x 15 10 1, .x 16 10 2, .x 17 10 3, .o 6 (.box (.k (.agg [.c (.str []), .c (.int .i64 0), .c (.int .i64 0)]))), .o 7 (.box (.k (.agg [.c (.int .i64 0), .c (.str []), .c (.int .i64 0), .csl [], .c (.int .i64 0)]))), .o 8 (.box (.k (.agg [.c (.int .i64 0), .c (.str []), .c (.int .i64 0), .csl [], .c (.int .i64 0)]))), .s 3 6 14, .s 5 7 15, .s 5 8 16, .m 9 17])
  (.dreg [.m 18 0, .d 19 5 4, .d 20 5 4, .k 21 154 [(.t 20)], .m 22 21, .z 23 (.mov (.t 9)) 22, .z 24 (.mov (.t 23)) 22, .y 25 (.mov (.t 2)) 24, .y 26 (.loadn 3 (.t 6)) 24, .y 27 (.call (.t 25) [(.t 26)]) 24, .y 28 (.un .not (.t 27)) 24, .z 29 (.pick (.t 24) (.t 28) (.k (.c (.bool false)))) 22, .o 30 (.pick (.t 22) (.k (.c (.bool true))) (.t 29)), .k 31 156 [(.t 18), (.t 19), (.t 30)]]
    [.q (.d 20 5 4), ⟨.k 21 154 [(.t 20)], true, 0⟩, ⟨.m 22 21, false, 1⟩, ⟨.z 23 (.mov (.t 9)) 22, false, 1⟩, ⟨.z 24 (.mov (.t 23)) 22, false, 1⟩, ⟨.y 25 (.mov (.t 2)) 24, false, 1⟩, ⟨.y 26 (.loadn 3 (.t 6)) 24, false, 1⟩, ⟨.y 27 (.call (.t 25) [(.t 26)]) 24, true, 1⟩, .q (.m 18 0), .q (.d 19 5 4), ⟨.y 28 (.un .not (.t 27)) 24, false, 2⟩, ⟨.z 29 (.pick (.t 24) (.t 28) (.k (.c (.bool false)))) 22, false, 2⟩, ⟨.o 30 (.pick (.t 22) (.k (.c (.bool true))) (.t 29)), false, 2⟩, ⟨.k 31 156 [(.t 18), (.t 19), (.t 30)], true, 2⟩]))
def r149 : List ResV := []
theorem k149 : CodeIs Tryz.prog 149 3 Tryz.f149 c149 r149 := ⟨by kernel_rfl, Tryz.func149, rfl, by kernel_rfl, by kernel_rfl, by decide, enters_fn Tryz.func149 (by kernel_rfl) rfl⟩
def c93 : AC :=
  .seq (.reg [.o 3 (.box (.t 1))])
  (.seq (.reg [.m 13 0, .d 14 5 3, .k 15 148 [(.t 13), (.t 14)], .m 12 15, .x 16 12 0, .x 17 12 1, .x 18 12 2, .x 19 12 3, .o 4 (.box (.k (.agg [.c (.str []), .c (.int .i64 0), .c (.int .i64 0)]))), .o 5 (.box (.k (.agg [.c (.int .i64 0), .c (.str []), .c (.int .i64 0), .csl [], .c (.int .i64 0)]))), .o 6 (.box (.k (.agg [.c (.int .i64 0), .c (.str []), .c (.int .i64 0), .csl [], .c (.int .i64 0)]))), .s 3 4 16, .s 5 5 17, .s 5 6 18, .m 7 19])
  (.block 0 (.seq (.reg [.m 24 7, .m 23 24])
  (.cond (.t 23)
  (.seq (.reg [.m 25 0, .d 26 5 5, .o 27 (.mkfn 150 [(.t 4)]), .k 28 149 [(.t 25), (.t 26), (.t 27)]])
  (.seq (.dreg [.m 29 0, .n 30 29, .f 31 1 30, .f 32 0 4, .l 33 32, .o 34 (.bin .add (.k (.c (.str [32]))) (.t 33)), .o 35 (.bin .add (.t 34) (.k (.c (.str [32])))), .k 36 79 [(.t 31), (.t 35)]]
    [.q (.m 29 0), .q (.n 30 29), .q (.f 31 1 30), .q (.f 32 0 4), .q (.l 33 32), .q (.o 34 (.bin .add (.k (.c (.str [32]))) (.t 33))), .q (.o 35 (.bin .add (.t 34) (.k (.c (.str [32]))))), ⟨.k 36 79 [(.t 31), (.t 35)], true, 0⟩])
  (.reg [.m 37 0, .d 38 5 6, .o 39 (.mkfn 152 [(.t 4)]), .k 40 149 [(.t 37), (.t 38), (.t 39)]])))
  (.seq (.reg [.d 42 5 3, .k 43 154 [(.t 42)], .m 41 43])
  (.cond (.t 41)
  (.seq (.dreg [.m 44 0, .n 45 44, .f 46 1 45, .f 47 1 3, .l 48 47, .o 49 (.bin .add (.t 48) (.k (.c (.str [92, 32])))), .k 50 79 [(.t 46), (.t 49)]]
    [.q (.m 44 0), .q (.n 45 44), .q (.f 46 1 45), .q (.f 47 1 3), .q (.l 48 47), .q (.o 49 (.bin .add (.t 48) (.k (.c (.str [92, 32]))))), ⟨.k 50 79 [(.t 46), (.t 49)], true, 0⟩])
  (.reg [.m 51 0, .f 52 3 3, .l 53 52, .o 54 (.iadd 5 (.t 53) (.k (.c (.int .i64 0)))), .d 55 5 54, .k 56 93 [(.t 51), (.t 55)]]))
  (.seq (.reg [.d 58 5 3, .k 59 155 [(.t 58)], .m 57 59])
  (.cond (.t 57)
  (.seq (.reg [.m 61 0, .f 62 3 3, .l 63 62, .o 64 (.iadd 5 (.t 63) (.k (.c (.int .i64 0)))), .d 65 5 64, .k 66 148 [(.t 61), (.t 65)], .m 60 66, .x 67 60 0, .x 68 60 1, .x 69 60 2, .x 70 60 3, .o 8 (.box (.k (.agg [.c (.str []), .c (.int .i64 0), .c (.int .i64 0)]))), .o 9 (.box (.k (.agg [.c (.int .i64 0), .c (.str []), .c (.int .i64 0), .csl [], .c (.int .i64 0)]))), .o 10 (.box (.k (.agg [.c (.int .i64 0), .c (.str []), .c (.int .i64 0), .csl [], .c (.int .i64 0)]))), .s 3 8 67, .s 5 9 68, .s 5 10 69, .m 11 70])
  (.seq (.dreg [.m 71 0, .f 72 3 3, .l 73 72, .o 74 (.iadd 5 (.t 73) (.k (.c (.int .i64 0)))), .d 75 5 74, .m 76 11, .m 77 76, .z 78 (.fadd 3 (.t 3)) 77, .z 79 (.load1 (.t 78)) 77, .z 80 (.iadd 5 (.t 79) (.k (.c (.int .i64 0)))) 77, .z 81 (.loadn 5 (.t 80)) 77, .z 82 (.call (.k (.fn 154 [])) [(.t 81)]) 77, .o 83 (.pick (.t 77) (.k (.c (.bool true))) (.t 82)), .k 84 156 [(.t 71), (.t 75), (.t 83)]]
    [.q (.m 76 11), .q (.m 77 76), .q (.z 78 (.fadd 3 (.t 3)) 77), .q (.z 79 (.load1 (.t 78)) 77), .q (.z 80 (.iadd 5 (.t 79) (.k (.c (.int .i64 0)))) 77), .q (.z 81 (.loadn 5 (.t 80)) 77), ⟨.z 82 (.call (.k (.fn 154 [])) [(.t 81)]) 77, true, 0⟩, .q (.m 71 0), .q (.f 72 3 3), .q (.l 73 72), .q (.o 74 (.iadd 5 (.t 73) (.k (.c (.int .i64 0))))), .q (.d 75 5 74), ⟨.o 83 (.pick (.t 77) (.k (.c (.bool true))) (.t 82)), false, 1⟩, ⟨.k 84 156 [(.t 71), (.t 75), (.t 83)], true, 1⟩])
  (.seq (.reg [.m 85 0, .n 86 85, .f 87 1 86, .k 88 157 [(.t 87), (.k (.c (.int .u8 32)))]])
  (.dreg [.m 89 0, .f 90 3 3, .l 91 90, .o 92 (.iadd 5 (.t 91) (.k (.c (.int .i64 1)))), .d 93 5 92, .f 94 3 3, .l 95 94, .o 96 (.iadd 5 (.t 95) (.k (.c (.int .i64 1)))), .d 97 5 96, .k 98 154 [(.t 97)], .m 99 98, .z 100 (.fadd 3 (.t 3)) 99, .z 101 (.load1 (.t 100)) 99, .z 102 (.iadd 5 (.t 101) (.k (.c (.int .i64 1)))) 99, .z 103 (.loadn 5 (.t 102)) 99, .z 104 (.call (.k (.fn 155 [])) [(.t 103)]) 99, .o 105 (.pick (.t 99) (.k (.c (.bool true))) (.t 104)), .k 106 156 [(.t 89), (.t 93), (.t 105)]]
    [.q (.f 94 3 3), .q (.l 95 94), .q (.o 96 (.iadd 5 (.t 95) (.k (.c (.int .i64 1))))), .q (.d 97 5 96), ⟨.k 98 154 [(.t 97)], true, 0⟩, ⟨.m 99 98, false, 1⟩, ⟨.z 100 (.fadd 3 (.t 3)) 99, false, 1⟩, ⟨.z 101 (.load1 (.t 100)) 99, false, 1⟩, ⟨.z 102 (.iadd 5 (.t 101) (.k (.c (.int .i64 1)))) 99, false, 1⟩, ⟨.z 103 (.loadn 5 (.t 102)) 99, false, 1⟩, ⟨.z 104 (.call (.k (.fn 155 [])) [(.t 103)]) 99, true, 1⟩, .q (.m 89 0), .q (.f 90 3 3), .q (.l 91 90), .q (.o 92 (.iadd 5 (.t 91) (.k (.c (.int .i64 1))))), .q (.d 93 5 92), ⟨.o 105 (.pick (.t 99) (.k (.c (.bool true))) (.t 104)), false, 2⟩, ⟨.k 106 156 [(.t 89), (.t 93), (.t 105)], true, 2⟩]))))
  (.reg [.m 20 0, .d 21 5 3, .k 22 158 [(.t 20), (.t 21)]])))))))))
def r93 : List ResV := []
theorem k93 : CodeIs Tryz.prog 93 2 Tryz.f93 c93 r93 := ⟨by kernel_rfl, Tryz.func93, rfl, by kernel_rfl, by kernel_rfl, by decide, enters_fn Tryz.func93 (by kernel_rfl) rfl⟩
def c150 : AC :=
  .seq (.reg [.o 2 (.box (.t 0)), .o 3 (.mov (.k (.c (.bool false))))])
  (.seq (.reg [.d 4 3 1, .d 5 3 2, .k 6 151 [(.t 4), (.t 5)], .m 3 6])
  (.ret))
def r150 : List ResV := [.tmp 3]
theorem k150 : CodeIs Tryz.prog 150 2 Tryz.f150 c150 r150 := ⟨by kernel_rfl, Tryz.func150, rfl, by kernel_rfl, by kernel_rfl, by decide, enters_fn Tryz.func150 (by kernel_rfl) rfl⟩
def c152 : AC :=
  .seq (.reg [.o 2 (.box (.t 0)), .o 3 (.mov (.k (.c (.bool false))))])
  (.seq (.reg [.d 4 3 1, .d 5 3 2, .k 6 153 [(.t 4), (.t 5)], .m 3 6])
  (.ret))
def r152 : List ResV := [.tmp 3]
theorem k152 : CodeIs Tryz.prog 152 2 Tryz.f152 c152 r152 := ⟨by kernel_rfl, Tryz.func152, rfl, by kernel_rfl, by kernel_rfl, by decide, enters_fn Tryz.func152 (by kernel_rfl) rfl⟩
def c156 : AC :=
  .seq (.reg [.o 4 (.box (.t 1))])
  (.seq (.seq (.reg [.m 6 2])
  (.cond (.t 6)
  (.seq (.reg [.m 7 0, .n 8 7, .f 9 1 8, .k 10 157 [(.t 9), (.k (.c (.int .u8 40)))]])
  (.reg [.m 11 0, .n 12 11, .f 13 1 12, ⟨none, .bad, none⟩]))
  (.skip)))
  (.reg [.m 14 0, .d 15 5 4, .k 16 93 [(.t 14), (.t 15)]]))
def r156 : List ResV := []
theorem k156 : CodeIs Tryz.prog 156 3 Tryz.f156 c156 r156 := ⟨by kernel_rfl, Tryz.func156, rfl, by kernel_rfl, by kernel_rfl, by decide, enters_fn Tryz.func156 (by kernel_rfl) rfl⟩
end
end Go.Proofs.YtplgnfciipceiaaGreatDoor

/-
  Walks: the document's reader, an atom.
  Walks: the document's reader, atoms applied.
  Walks: the document's reader, an expression; and its Read.
  Walks: the document's Read.
  Walks: what is more than is looked at; the statements' own functions.
  Walks: the document's examples of trees; whatever text is lexed and read.
  Walks: what is read hangs on the tokens that are read alone.
  Walks: how deep may be nested.
-/
import Derived.Test.YtpgkhkojjklakaaGreatDoorQJ26
import Derived.Test.YtpgkhkojjklakaaGreatDoorQJ25
import Derived.Test.YtpgkhkojjklakaaGreatDoorQLxD
import Derived.Test.YtpgkhkojjklakaaGreatDoorQLexGl
import Derived.Test.YtpgkhkojjklakaaGreatDoorQJ8
import Derived.Test.YtpgkhkojjklakaaGreatDoorQJ9
set_option linter.unusedSimpArgs false
set_option linter.unusedVariables false
set_option maxHeartbeats 8000000
set_option maxRecDepth 20000
namespace Go.Proofs.YtpgkhkojjklakaaGreatDoor
open Go.RowKit Go.Lamb
attribute [local go_sem] advO_skip advO_reg advO_seq advO_block advO_exit advO_endb advO_opsNil advO_ops advG_yes advG_no advG_none advS_some advS_none advO_cond advO_loop advO_dreg advO_ret advO_bad advO_inv advO_nil advO_zero wantedV Lamb.step ev_t ev_k put_some put_none argEnv popTo cellsAt V.cellsV V.rows V.toC toCs fillV rowsV boundV boundL binV binInt binStr eqC eqL V.isNil leaves V.leaf Ins.quiet Ins.pure List.getD_cons_zero List.getD_cons_succ List.getD_nil List.all_cons List.all_nil List.length_cons List.length_nil List.take_succ_cons List.take_zero List.drop_succ_cons List.drop_zero List.cons_append List.nil_append List.append_nil List.append_assoc List.map_cons List.map_nil List.getElem?_cons_zero List.getElem?_cons_succ List.length_append List.length_set hget0 hget hset0 hset hsets hgs0 hgs hss0 hss List.set_cons_zero List.set_cons_succ List.forall_mem_cons List.not_mem_nil false_implies implies_true Option.map_some Bool.and_true Bool.true_and Bool.not_not Bool.not_true Bool.not_false Bool.and_self Bool.or_true Bool.true_or Bool.or_false Bool.false_or Bool.and_false Bool.false_and Bool.false_eq_true beq_self_eq_true and_self and_true true_and if_true if_false Nat.zero_add Nat.add_zero Nat.le_refl Int.toNat_natCast decide_true decide_false beq_t beq_f List.length_map List.getElem?_map I S B opsC toksC OpT.v OpT.cs OpT.zero Tok.v Tok.cs Pre.v Pre.cs_eq k_mk name_mk n_mk l_mk pos_mk Pre.app applyL natCast0 natCast1 natCast2

def byO (m : Made) : OpT := match m.by_ with
  | none => OpT.zero
  | some (o, _) => o
def byP (m : Made) : Int := match m.by_ with
  | none => 0
  | some (_, p) => p
def rmadeV (m : Made) : V := .agg [I m.p.k, S m.p.name, I m.p.n, .c (.sl (m.p.l.map Pre.cs)), I m.p.pos, B m.by_.isSome, S (byO m).name, I (byO m).prec, I (byO m).fix, I (byP m)]
def QAtom (l : List OpT) (t : List Tok) (σ : H) (b : Nat) (lam : Bool) (r : Except Bad (Pre × Nat)) : V → H → Prop := fun d σ' => match r with
  | .ok (p, j) => d = .tup [p.v, B lam] ∧ σ' = σ.set b (rst l t j 0 0)
  | .error x => (x.e == 0) = false ∧ ∃ (q : Pre) (la : Bool) (j : Nat), d = .tup [q.v, B la] ∧ σ' = σ.set b (rst l t j x.e x.pos)
def QOper (l : List OpT) (t : List Tok) (σ : H) (b : Nat) (r : Except Bad (Pre × Nat)) : V → H → Prop := fun d σ' => match r with
  | .ok (p, j) => d = p.v ∧ σ' = σ.set b (rst l t j 0 0)
  | .error x => (x.e == 0) = false ∧ ∃ (q : Pre) (j : Nat), d = q.v ∧ σ' = σ.set b (rst l t j x.e x.pos)
def QExpr (l : List OpT) (t : List Tok) (σ : H) (b : Nat) (r : Except Bad (Made × Nat)) : V → H → Prop := fun d σ' => match r with
  | .ok (m, j) => d = rmadeV m ∧ σ' = σ.set b (rst l t j 0 0)
  | .error x => (x.e == 0) = false ∧ ∃ (m : Made) (j : Nat), d = rmadeV m ∧ σ' = σ.set b (rst l t j x.e x.pos)
def QExprOK (w0 : World) (f : Nat) : Prop := ∀ (l : List OpT) (t : List Tok) (least : Int) (depth i : Nat) (r : Except Bad (Made × Nat)) (σ : H) (b : Nat), exprF f l t least depth i = some r → σ[b]? = some (rst l t i 0 0) → i ≤ t.length → t.length ≤ 1000000 → depth ≤ 200 →
  DC Tryz.prog w0 38 [.ptr b 0, I least, I depth] σ (QExpr l t σ b r)
def QAtomOK (w0 : World) (f : Nat) : Prop := ∀ (l : List OpT) (t : List Tok) (depth i : Nat) (r : Except Bad (Pre × Nat)) (σ : H) (b : Nat), atomF f l t depth i = some r → σ[b]? = some (rst l t i 0 0) → i ≤ t.length → t.length ≤ 1000000 → depth ≤ 200 →
  DC Tryz.prog w0 124 [.ptr b 0, I depth] σ (QAtom l t σ b (lamAt t i) r)
theorem lamAt_no {t : List Tok} {i : Nat} (h : ¬ ((tokL t i).kind ≠ 4 ∧ (tokL t (i + 1)).kind = 8)) : lamAt t i = false := by
  rw [lamAt, decide_eq_false_iff_not]
  rintro ⟨h1, h2⟩
  refine h ⟨?_, h2⟩
  rcases h1 with h1 | h1 <;> rw [h1] <;> decide
theorem lamAt_kind {t : List Tok} {i : Nat} (h1 : (tokL t i).kind ≠ 1) (h2 : (tokL t i).kind ≠ 2) : lamAt t i = false := by
  rw [lamAt, decide_eq_false_iff_not]
  rintro ⟨h | h, _⟩
  · exact h1 h
  · exact h2 h
set_option maxHeartbeats 4000000 in
theorem ref03_Atom {w0 : World} {f : Nat} (hE : QExprOK w0 f) : QAtomOK w0 (f + 1) := by
  intro l t depth i r σ b h hb hi ht hd
  have hlt := (List.getElem?_eq_some_iff.1 hb).1
  have hbe : σ[b]? = some (.cells [.c (opsC l), .c (toksC t), I i, I 0, I 0]) := hb
  rw [atomF_eq] at h
  refine go124 rfl (fun hok hsz => ?_)
  have hw : IntKind.i64.wrap ((i : Int) + 1) = ((i + 1 : Nat) : Int) := by rw [wrap_in] <;> omega
  have hw2 : IntKind.i64.wrap ((i : Int) + 2) = ((i + 2 : Nat) : Int) := by rw [wrap_in] <;> omega
  have hw3 : IntKind.i64.wrap ((i : Int) + 3) = ((i + 3 : Nat) : Int) := by rw [wrap_in] <;> omega
  have hwd : IntKind.i64.wrap ((depth : Int) + 1) = ((depth + 1 : Nat) : Int) := by rw [wrap_in] <;> omega
  ((first | refine W.advO 5000 _ _ ?_ | skip); simp only [go_sem, ↓reduceIte, Nat.reduceEqDiff, Nat.reduceAdd, Nat.reduceSub, Nat.reduceMul, Nat.reduceLeDiff, Nat.reduceBEq, reduceCtorEq, Int.reduceLT, Int.reduceLE, Int.reduceToNat, Int.reduceAdd, Int.reduceSub, Int.reduceBEq, Int.reduceBNe, c124])
  apply W.dregE (List.cons_ne_nil _ _)
  case hc =>
    (apply CanonE.advPO; simp only [advPO_nil, advPO_loud, advPO_quiet, pL_yes, pL_no, pLS_some, pLS_none, pQ_yes, pQ_no, pQS_some, pQS_loud, eq_self, Nat.sub_zero, go_sem, ↓reduceIte, Nat.reduceEqDiff, Nat.reduceAdd, Nat.reduceSub, Nat.reduceMul, Nat.reduceLeDiff, Nat.reduceBEq, reduceCtorEq, Int.reduceLT, Int.reduceLE, Int.reduceToNat, Int.reduceAdd, Int.reduceSub, Int.reduceBEq, Int.reduceBNe, hG hbe, hbe])
    (apply CanonE.pcall (fun τ => ref03_Tok w0 t i τ); (case hg => rfl); (case hf => rfl); (case ha => first | rfl | simp))
    (apply CanonE.advPO; simp only [advPO_nil, advPO_loud, advPO_quiet, pL_yes, pL_no, pLS_some, pLS_none, pQ_yes, pQ_no, pQS_some, pQS_loud, eq_self, Nat.sub_zero, go_sem, ↓reduceIte, Nat.reduceEqDiff, Nat.reduceAdd, Nat.reduceSub, Nat.reduceMul, Nat.reduceLeDiff, Nat.reduceBEq, reduceCtorEq, Int.reduceLT, Int.reduceLE, Int.reduceToNat, Int.reduceAdd, Int.reduceSub, Int.reduceBEq, Int.reduceBNe])
    exact CanonE.nil
  ((first | refine W.advO 5000 _ _ ?_ | skip); simp only [go_sem, ↓reduceIte, Nat.reduceEqDiff, Nat.reduceAdd, Nat.reduceSub, Nat.reduceMul, Nat.reduceLeDiff, Nat.reduceBEq, reduceCtorEq, Int.reduceLT, Int.reduceLE, Int.reduceToNat, Int.reduceAdd, Int.reduceSub, Int.reduceBEq, Int.reduceBNe])
  cases hB : beginsL l (tokL t i)
  · rw [if_pos hB] at h
    injection h with h
    subst h
    (refine W.call1 (ref03_begins w0 l t i 0 0 _ b (hG hb _)) rfl rfl (by first | rfl | simp) ?_; refine W.advO 5000 _ _ ?_; simp only [go_sem, ↓reduceIte, Nat.reduceEqDiff, Nat.reduceAdd, Nat.reduceSub, Nat.reduceMul, Nat.reduceLeDiff, Nat.reduceBEq, reduceCtorEq, Int.reduceLT, Int.reduceLE, Int.reduceToNat, Int.reduceAdd, Int.reduceSub, Int.reduceBEq, Int.reduceBNe, hB])
    refine W.yes rfl ?_
    ((first | refine W.advO 5000 _ _ ?_ | skip); simp only [go_sem, ↓reduceIte, Nat.reduceEqDiff, Nat.reduceAdd, Nat.reduceSub, Nat.reduceMul, Nat.reduceLeDiff, Nat.reduceBEq, reduceCtorEq, Int.reduceLT, Int.reduceLE, Int.reduceToNat, Int.reduceAdd, Int.reduceSub, Int.reduceBEq, Int.reduceBNe])
    (refine W.call1 (ref03_fail w0 l t i 30 (tokL t i).pos _ b (hG hb _)) rfl rfl (by first | rfl | simp) ?_; refine W.advO 5000 _ _ ?_; simp only [go_sem, ↓reduceIte, Nat.reduceEqDiff, Nat.reduceAdd, Nat.reduceSub, Nat.reduceMul, Nat.reduceLeDiff, Nat.reduceBEq, reduceCtorEq, Int.reduceLT, Int.reduceLE, Int.reduceToNat, Int.reduceAdd, Int.reduceSub, Int.reduceBEq, Int.reduceBNe, hS hb])
    (refine W.ret (Fin.gen (d := .tup [Pre.none.v, B false]) (rst_ok hok b l t i 30 (tokL t i).pos) (by (first | rfl | exact List.length_set .. | simp)) (by simp only [resEval, r124, go_sem, ↓reduceIte, Nat.reduceEqDiff, Nat.reduceAdd, Nat.reduceSub, Nat.reduceMul, Nat.reduceLeDiff, Nat.reduceBEq, reduceCtorEq, Int.reduceLT, Int.reduceLE, Int.reduceToNat, Int.reduceAdd, Int.reduceSub, Int.reduceBEq, Int.reduceBNe, Pre.none]; rfl) (by simp only [resV, I, S, B, Pre.v, OpT.v, Tok.v, k_mk, name_mk, n_mk, l_mk, pos_mk, Pre.app, List.map_cons, List.map_nil, Pre.cs_eq, Pre.none]; (repeat' (first | exact V.wk.rfl _ | exact V.wk.csl _ | exact V.wk.osl _ _ | exact wk_agg_nil | exact wk_tup_nil | refine wk_agg_cons ?_ ?_ | refine wk_tup_cons ?_ ?_))) (by (first | exact .c _ | (simp only [I, S, B, opsC, toksC, Pre.v, Tok.v, OpT.v, low_c, low_void, low_any, low_csl, low_nilf, low_ptr, low_osl, low_agg, low_tup, low_fn, List.forall_mem_cons, List.not_mem_nil, false_implies, implies_true, and_self, and_true, true_and, Pre.none]; done))) (by (first | rfl | exact (List.append_nil _).symm)) ?_))
    exact ⟨rfl, Pre.none, false, i, rfl, rfl⟩
  · rw [if_neg (by rw [hB]; decide)] at h
    have hil : i < t.length := begins_lt (l := l) (by rw [hB]; decide)
    (refine W.call1 (ref03_begins w0 l t i 0 0 _ b (hG hb _)) rfl rfl (by first | rfl | simp) ?_; refine W.advO 5000 _ _ ?_; simp only [go_sem, ↓reduceIte, Nat.reduceEqDiff, Nat.reduceAdd, Nat.reduceSub, Nat.reduceMul, Nat.reduceLeDiff, Nat.reduceBEq, reduceCtorEq, Int.reduceLT, Int.reduceLE, Int.reduceToNat, Int.reduceAdd, Int.reduceSub, Int.reduceBEq, Int.reduceBNe, hB])
    refine W.no rfl ?_
    ((first | refine W.advO 5000 _ _ ?_ | skip); simp only [go_sem, ↓reduceIte, Nat.reduceEqDiff, Nat.reduceAdd, Nat.reduceSub, Nat.reduceMul, Nat.reduceLeDiff, Nat.reduceBEq, reduceCtorEq, Int.reduceLT, Int.reduceLE, Int.reduceToNat, Int.reduceAdd, Int.reduceSub, Int.reduceBEq, Int.reduceBNe])
    apply W.dregE (List.cons_ne_nil _ _)
    case hc =>
      (apply CanonE.advPO; simp only [advPO_nil, advPO_loud, advPO_quiet, pL_yes, pL_no, pLS_some, pLS_none, pQ_yes, pQ_no, pQS_some, pQS_loud, eq_self, Nat.sub_zero, go_sem, ↓reduceIte, Nat.reduceEqDiff, Nat.reduceAdd, Nat.reduceSub, Nat.reduceMul, Nat.reduceLeDiff, Nat.reduceBEq, reduceCtorEq, Int.reduceLT, Int.reduceLE, Int.reduceToNat, Int.reduceAdd, Int.reduceSub, Int.reduceBEq, Int.reduceBNe, hG hbe, hw])
      (apply CanonE.pcall (fun τ => ref03_Tok w0 t (i + 1) τ); (case hg => rfl); (case hf => rfl); (case ha => first | rfl | simp))
      (apply CanonE.advPO; simp only [advPO_nil, advPO_loud, advPO_quiet, pL_yes, pL_no, pLS_some, pLS_none, pQ_yes, pQ_no, pQS_some, pQS_loud, eq_self, Nat.sub_zero, go_sem, ↓reduceIte, Nat.reduceEqDiff, Nat.reduceAdd, Nat.reduceSub, Nat.reduceMul, Nat.reduceLeDiff, Nat.reduceBEq, reduceCtorEq, Int.reduceLT, Int.reduceLE, Int.reduceToNat, Int.reduceAdd, Int.reduceSub, Int.reduceBEq, Int.reduceBNe])
      exact CanonE.nil
    cases h3 : ((tokL t i).kind == 3)
    · have h3' : ¬ (tokL t i).kind = 3 := by simpa using h3
      ((first | refine W.advO 5000 _ _ ?_ | skip); simp only [go_sem, ↓reduceIte, Nat.reduceEqDiff, Nat.reduceAdd, Nat.reduceSub, Nat.reduceMul, Nat.reduceLeDiff, Nat.reduceBEq, reduceCtorEq, Int.reduceLT, Int.reduceLE, Int.reduceToNat, Int.reduceAdd, Int.reduceSub, Int.reduceBEq, Int.reduceBNe, h3])
      refine W.no rfl ?_
      cases h4 : ((tokL t i).kind == 4)
      · have h4' : ¬ (tokL t i).kind = 4 := by simpa using h4
        ((first | refine W.advO 5000 _ _ ?_ | skip); simp only [go_sem, ↓reduceIte, Nat.reduceEqDiff, Nat.reduceAdd, Nat.reduceSub, Nat.reduceMul, Nat.reduceLeDiff, Nat.reduceBEq, reduceCtorEq, Int.reduceLT, Int.reduceLE, Int.reduceToNat, Int.reduceAdd, Int.reduceSub, Int.reduceBEq, Int.reduceBNe, h4])
        refine W.no rfl ?_
        cases h5 : ((tokL t i).kind == 5)
        · rw [if_neg (by simpa using h5), if_neg h3'] at h
          ((first | refine W.advO 5000 _ _ ?_ | skip); simp only [go_sem, ↓reduceIte, Nat.reduceEqDiff, Nat.reduceAdd, Nat.reduceSub, Nat.reduceMul, Nat.reduceLeDiff, Nat.reduceBEq, reduceCtorEq, Int.reduceLT, Int.reduceLE, Int.reduceToNat, Int.reduceAdd, Int.reduceSub, Int.reduceBEq, Int.reduceBNe, h5])
          refine W.no rfl ?_
          by_cases hc8 : (tokL t (i + 1)).kind = 8
          · rw [if_pos ⟨h4', hc8⟩] at h
            have hlam : lamAt t i = true := by
              rw [beginsL] at hB
              rw [lamAt, decide_eq_true_iff]
              refine ⟨?_, hc8⟩
              split at hB
              · rename_i hk; exact .inl (hk.resolve_right h4')
              · have := of_decide_eq_true hB
                rcases this with h | h | h
                · exact .inr h
                · exact absurd h h3'
                · rw [h] at h5; cases h5
            have hi1 := tokL_lt (t := t) (i := i + 1) (by rw [hc8]; decide)
            ((first | refine W.advO 5000 _ _ ?_ | skip); simp only [go_sem, ↓reduceIte, Nat.reduceEqDiff, Nat.reduceAdd, Nat.reduceSub, Nat.reduceMul, Nat.reduceLeDiff, Nat.reduceBEq, reduceCtorEq, Int.reduceLT, Int.reduceLE, Int.reduceToNat, Int.reduceAdd, Int.reduceSub, Int.reduceBEq, Int.reduceBNe, hc8])
            refine W.yes rfl ?_
            ((first | refine W.advO 5000 _ _ ?_ | skip); simp only [go_sem, ↓reduceIte, Nat.reduceEqDiff, Nat.reduceAdd, Nat.reduceSub, Nat.reduceMul, Nat.reduceLeDiff, Nat.reduceBEq, reduceCtorEq, Int.reduceLT, Int.reduceLE, Int.reduceToNat, Int.reduceAdd, Int.reduceSub, Int.reduceBEq, Int.reduceBNe])
            rw [innerF] at h
            by_cases hdd : 200 ≤ depth
            · rw [if_pos hdd] at h
              injection h with h
              subst h
              (refine W.call1 (ref03_deep_no w0 l t i depth (tokL t i).pos _ b (hG hb _) hdd (by omega)) rfl rfl (by first | rfl | simp) ?_; refine W.advO 5000 _ _ ?_; simp only [go_sem, ↓reduceIte, Nat.reduceEqDiff, Nat.reduceAdd, Nat.reduceSub, Nat.reduceMul, Nat.reduceLeDiff, Nat.reduceBEq, reduceCtorEq, Int.reduceLT, Int.reduceLE, Int.reduceToNat, Int.reduceAdd, Int.reduceSub, Int.reduceBEq, Int.reduceBNe, hS hb])
              refine W.yes rfl ?_
              ((first | refine W.advO 5000 _ _ ?_ | skip); simp only [go_sem, ↓reduceIte, Nat.reduceEqDiff, Nat.reduceAdd, Nat.reduceSub, Nat.reduceMul, Nat.reduceLeDiff, Nat.reduceBEq, reduceCtorEq, Int.reduceLT, Int.reduceLE, Int.reduceToNat, Int.reduceAdd, Int.reduceSub, Int.reduceBEq, Int.reduceBNe])
              (refine W.ret (Fin.gen (d := .tup [Pre.none.v, B false]) (rst_ok hok b l t i 31 (tokL t i).pos) (by (first | rfl | exact List.length_set .. | simp)) (by simp only [resEval, r124, go_sem, ↓reduceIte, Nat.reduceEqDiff, Nat.reduceAdd, Nat.reduceSub, Nat.reduceMul, Nat.reduceLeDiff, Nat.reduceBEq, reduceCtorEq, Int.reduceLT, Int.reduceLE, Int.reduceToNat, Int.reduceAdd, Int.reduceSub, Int.reduceBEq, Int.reduceBNe, Pre.none]; rfl) (by simp only [resV, I, S, B, Pre.v, OpT.v, Tok.v, k_mk, name_mk, n_mk, l_mk, pos_mk, Pre.app, List.map_cons, List.map_nil, Pre.cs_eq, Pre.none]; (repeat' (first | exact V.wk.rfl _ | exact V.wk.csl _ | exact V.wk.osl _ _ | exact wk_agg_nil | exact wk_tup_nil | refine wk_agg_cons ?_ ?_ | refine wk_tup_cons ?_ ?_))) (by (first | exact .c _ | (simp only [I, S, B, opsC, toksC, Pre.v, Tok.v, OpT.v, low_c, low_void, low_any, low_csl, low_nilf, low_ptr, low_osl, low_agg, low_tup, low_fn, List.forall_mem_cons, List.not_mem_nil, false_implies, implies_true, and_self, and_true, true_and, Pre.none]; done))) (by (first | rfl | exact (List.append_nil _).symm)) ?_))
              exact ⟨rfl, Pre.none, false, i, rfl, rfl⟩
            · rw [if_neg hdd] at h
              (refine W.call1 (ref03_deep_yes w0 depth (.ptr b 0) (tokL t i).pos _ (by omega)) rfl rfl (by first | rfl | simp) ?_; refine W.advO 5000 _ _ ?_; simp only [go_sem, ↓reduceIte, Nat.reduceEqDiff, Nat.reduceAdd, Nat.reduceSub, Nat.reduceMul, Nat.reduceLeDiff, Nat.reduceBEq, reduceCtorEq, Int.reduceLT, Int.reduceLE, Int.reduceToNat, Int.reduceAdd, Int.reduceSub, Int.reduceBEq, Int.reduceBNe])
              refine W.no rfl ?_
              ((first | refine W.advO 5000 _ _ ?_ | skip); simp only [go_sem, ↓reduceIte, Nat.reduceEqDiff, Nat.reduceAdd, Nat.reduceSub, Nat.reduceMul, Nat.reduceLeDiff, Nat.reduceBEq, reduceCtorEq, Int.reduceLT, Int.reduceLE, Int.reduceToNat, Int.reduceAdd, Int.reduceSub, Int.reduceBEq, Int.reduceBNe, hG hbe, hS hb, hw2, hwd])
              cases hr : exprF f l t 0 (depth + 1) (i + 2) with
              | none => rw [hr] at h; cases h
              | some y =>
                rw [hr] at h
                (refine W.call (hE l t 0 (depth + 1) (i + 2) y _ b hr (hG' hb _ _) (by omega) ht (by omega)) rfl rfl (by first | rfl | simp) ?_)
                intro v σ1 hR
                cases y with
                | error x =>
                  injection h with h
                  subst h
                  obtain ⟨he, m, j, rfl, rfl⟩ := hR
                  ((first | refine W.advO 5000 _ _ ?_ | skip); simp only [go_sem, ↓reduceIte, Nat.reduceEqDiff, Nat.reduceAdd, Nat.reduceSub, Nat.reduceMul, Nat.reduceLeDiff, Nat.reduceBEq, reduceCtorEq, Int.reduceLT, Int.reduceLE, Int.reduceToNat, Int.reduceAdd, Int.reduceSub, Int.reduceBEq, Int.reduceBNe, hS' hb, rmadeV])
                  (refine W.ret (Fin.gen (d := .tup [(Pre.mk 4 (tokL t i).text 0 [m.p] (tokL t i).pos).v, B true]) (rst_ok hok b l t j x.e x.pos) (by (first | rfl | exact List.length_set .. | simp)) (by simp only [resEval, r124, go_sem, ↓reduceIte, Nat.reduceEqDiff, Nat.reduceAdd, Nat.reduceSub, Nat.reduceMul, Nat.reduceLeDiff, Nat.reduceBEq, reduceCtorEq, Int.reduceLT, Int.reduceLE, Int.reduceToNat, Int.reduceAdd, Int.reduceSub, Int.reduceBEq, Int.reduceBNe]; rfl) (by simp only [resV, I, S, B, Pre.v, OpT.v, Tok.v, k_mk, name_mk, n_mk, l_mk, pos_mk, Pre.app, List.map_cons, List.map_nil, Pre.cs_eq]; (repeat' (first | exact V.wk.rfl _ | exact V.wk.csl _ | exact V.wk.osl _ _ | exact wk_agg_nil | exact wk_tup_nil | refine wk_agg_cons ?_ ?_ | refine wk_tup_cons ?_ ?_))) (by (first | exact .c _ | (simp only [I, S, B, opsC, toksC, Pre.v, Tok.v, OpT.v, low_c, low_void, low_any, low_csl, low_nilf, low_ptr, low_osl, low_agg, low_tup, low_fn, List.forall_mem_cons, List.not_mem_nil, false_implies, implies_true, and_self, and_true, true_and]; done))) (by (first | rfl | exact (List.append_nil _).symm)) ?_))
                  exact ⟨he, _, true, j, rfl, rfl⟩
                | ok y =>
                  obtain ⟨m, j⟩ := y
                  injection h with h
                  subst h
                  obtain ⟨rfl, rfl⟩ := hR
                  ((first | refine W.advO 5000 _ _ ?_ | skip); simp only [go_sem, ↓reduceIte, Nat.reduceEqDiff, Nat.reduceAdd, Nat.reduceSub, Nat.reduceMul, Nat.reduceLeDiff, Nat.reduceBEq, reduceCtorEq, Int.reduceLT, Int.reduceLE, Int.reduceToNat, Int.reduceAdd, Int.reduceSub, Int.reduceBEq, Int.reduceBNe, hS' hb, rmadeV])
                  (refine W.ret (Fin.gen (d := .tup [(Pre.mk 4 (tokL t i).text 0 [m.p] (tokL t i).pos).v, B true]) (rst_ok hok b l t j 0 0) (by (first | rfl | exact List.length_set .. | simp)) (by simp only [resEval, r124, go_sem, ↓reduceIte, Nat.reduceEqDiff, Nat.reduceAdd, Nat.reduceSub, Nat.reduceMul, Nat.reduceLeDiff, Nat.reduceBEq, reduceCtorEq, Int.reduceLT, Int.reduceLE, Int.reduceToNat, Int.reduceAdd, Int.reduceSub, Int.reduceBEq, Int.reduceBNe]; rfl) (by simp only [resV, I, S, B, Pre.v, OpT.v, Tok.v, k_mk, name_mk, n_mk, l_mk, pos_mk, Pre.app, List.map_cons, List.map_nil, Pre.cs_eq]; (repeat' (first | exact V.wk.rfl _ | exact V.wk.csl _ | exact V.wk.osl _ _ | exact wk_agg_nil | exact wk_tup_nil | refine wk_agg_cons ?_ ?_ | refine wk_tup_cons ?_ ?_))) (by (first | exact .c _ | (simp only [I, S, B, opsC, toksC, Pre.v, Tok.v, OpT.v, low_c, low_void, low_any, low_csl, low_nilf, low_ptr, low_osl, low_agg, low_tup, low_fn, List.forall_mem_cons, List.not_mem_nil, false_implies, implies_true, and_self, and_true, true_and]; done))) (by (first | rfl | exact (List.append_nil _).symm)) ?_))
                  exact ⟨by rw [hlam], rfl⟩
          · have hc : ¬ ((tokL t i).kind ≠ 4 ∧ (tokL t (i + 1)).kind = 8) := fun h => hc8 h.2
            have hlam := lamAt_no hc
            have h8 : ((tokL t (i + 1)).kind == 8) = false := by simpa using hc8
            rw [if_neg hc] at h
            injection h with h
            subst h
            ((first | refine W.advO 5000 _ _ ?_ | skip); simp only [go_sem, ↓reduceIte, Nat.reduceEqDiff, Nat.reduceAdd, Nat.reduceSub, Nat.reduceMul, Nat.reduceLeDiff, Nat.reduceBEq, reduceCtorEq, Int.reduceLT, Int.reduceLE, Int.reduceToNat, Int.reduceAdd, Int.reduceSub, Int.reduceBEq, Int.reduceBNe, h8])
            refine W.no rfl ?_
            ((first | refine W.advO 5000 _ _ ?_ | skip); simp only [go_sem, ↓reduceIte, Nat.reduceEqDiff, Nat.reduceAdd, Nat.reduceSub, Nat.reduceMul, Nat.reduceLeDiff, Nat.reduceBEq, reduceCtorEq, Int.reduceLT, Int.reduceLE, Int.reduceToNat, Int.reduceAdd, Int.reduceSub, Int.reduceBEq, Int.reduceBNe, hG hbe, hS hb, hw])
            cases h2 : ((tokL t i).kind == 2)
            · have h2' : ¬ (tokL t i).kind = 2 := by simpa using h2
              ((first | refine W.advO 5000 _ _ ?_ | skip); simp only [go_sem, ↓reduceIte, Nat.reduceEqDiff, Nat.reduceAdd, Nat.reduceSub, Nat.reduceMul, Nat.reduceLeDiff, Nat.reduceBEq, reduceCtorEq, Int.reduceLT, Int.reduceLE, Int.reduceToNat, Int.reduceAdd, Int.reduceSub, Int.reduceBEq, Int.reduceBNe, h2])
              refine W.no rfl ?_
              ((first | refine W.advO 5000 _ _ ?_ | skip); simp only [go_sem, ↓reduceIte, Nat.reduceEqDiff, Nat.reduceAdd, Nat.reduceSub, Nat.reduceMul, Nat.reduceLeDiff, Nat.reduceBEq, reduceCtorEq, Int.reduceLT, Int.reduceLE, Int.reduceToNat, Int.reduceAdd, Int.reduceSub, Int.reduceBEq, Int.reduceBNe])
              (refine W.ret (Fin.gen (d := .tup [(Pre.mk 0 (tokL t i).text 0 [] (tokL t i).pos).v, B false]) (rst_ok hok b l t (i + 1) 0 0) (by (first | rfl | exact List.length_set .. | simp)) (by simp only [resEval, r124, go_sem, ↓reduceIte, Nat.reduceEqDiff, Nat.reduceAdd, Nat.reduceSub, Nat.reduceMul, Nat.reduceLeDiff, Nat.reduceBEq, reduceCtorEq, Int.reduceLT, Int.reduceLE, Int.reduceToNat, Int.reduceAdd, Int.reduceSub, Int.reduceBEq, Int.reduceBNe]; rfl) (by simp only [resV, I, S, B, Pre.v, OpT.v, Tok.v, k_mk, name_mk, n_mk, l_mk, pos_mk, Pre.app, List.map_cons, List.map_nil, Pre.cs_eq]; (repeat' (first | exact V.wk.rfl _ | exact V.wk.csl _ | exact V.wk.osl _ _ | exact wk_agg_nil | exact wk_tup_nil | refine wk_agg_cons ?_ ?_ | refine wk_tup_cons ?_ ?_))) (by (first | exact .c _ | (simp only [I, S, B, opsC, toksC, Pre.v, Tok.v, OpT.v, low_c, low_void, low_any, low_csl, low_nilf, low_ptr, low_osl, low_agg, low_tup, low_fn, List.forall_mem_cons, List.not_mem_nil, false_implies, implies_true, and_self, and_true, true_and]; done))) (by (first | rfl | exact (List.append_nil _).symm)) ?_))
              exact ⟨by rw [if_neg h2', hlam], rfl⟩
            · have h2' : (tokL t i).kind = 2 := by simpa using h2
              ((first | refine W.advO 5000 _ _ ?_ | skip); simp only [go_sem, ↓reduceIte, Nat.reduceEqDiff, Nat.reduceAdd, Nat.reduceSub, Nat.reduceMul, Nat.reduceLeDiff, Nat.reduceBEq, reduceCtorEq, Int.reduceLT, Int.reduceLE, Int.reduceToNat, Int.reduceAdd, Int.reduceSub, Int.reduceBEq, Int.reduceBNe, h2])
              refine W.yes rfl ?_
              ((first | refine W.advO 5000 _ _ ?_ | skip); simp only [go_sem, ↓reduceIte, Nat.reduceEqDiff, Nat.reduceAdd, Nat.reduceSub, Nat.reduceMul, Nat.reduceLeDiff, Nat.reduceBEq, reduceCtorEq, Int.reduceLT, Int.reduceLE, Int.reduceToNat, Int.reduceAdd, Int.reduceSub, Int.reduceBEq, Int.reduceBNe])
              (refine W.ret (Fin.gen (d := .tup [(Pre.mk 1 (tokL t i).text 0 [] (tokL t i).pos).v, B false]) (rst_ok hok b l t (i + 1) 0 0) (by (first | rfl | exact List.length_set .. | simp)) (by simp only [resEval, r124, go_sem, ↓reduceIte, Nat.reduceEqDiff, Nat.reduceAdd, Nat.reduceSub, Nat.reduceMul, Nat.reduceLeDiff, Nat.reduceBEq, reduceCtorEq, Int.reduceLT, Int.reduceLE, Int.reduceToNat, Int.reduceAdd, Int.reduceSub, Int.reduceBEq, Int.reduceBNe]; rfl) (by simp only [resV, I, S, B, Pre.v, OpT.v, Tok.v, k_mk, name_mk, n_mk, l_mk, pos_mk, Pre.app, List.map_cons, List.map_nil, Pre.cs_eq]; (repeat' (first | exact V.wk.rfl _ | exact V.wk.csl _ | exact V.wk.osl _ _ | exact wk_agg_nil | exact wk_tup_nil | refine wk_agg_cons ?_ ?_ | refine wk_tup_cons ?_ ?_))) (by (first | exact .c _ | (simp only [I, S, B, opsC, toksC, Pre.v, Tok.v, OpT.v, low_c, low_void, low_any, low_csl, low_nilf, low_ptr, low_osl, low_agg, low_tup, low_fn, List.forall_mem_cons, List.not_mem_nil, false_implies, implies_true, and_self, and_true, true_and]; done))) (by (first | rfl | exact (List.append_nil _).symm)) ?_))
              exact ⟨by rw [if_pos h2', hlam], rfl⟩
        · have h5' : (tokL t i).kind = 5 := by simpa using h5
          have hlam : lamAt t i = false := lamAt_kind (by rw [h5']; decide) (by rw [h5']; decide)
          rw [if_pos h5', bracketsF] at h
          ((first | refine W.advO 5000 _ _ ?_ | skip); simp only [go_sem, ↓reduceIte, Nat.reduceEqDiff, Nat.reduceAdd, Nat.reduceSub, Nat.reduceMul, Nat.reduceLeDiff, Nat.reduceBEq, reduceCtorEq, Int.reduceLT, Int.reduceLE, Int.reduceToNat, Int.reduceAdd, Int.reduceSub, Int.reduceBEq, Int.reduceBNe, h5])
          refine W.yes rfl ?_
          ((first | refine W.advO 5000 _ _ ?_ | skip); simp only [go_sem, ↓reduceIte, Nat.reduceEqDiff, Nat.reduceAdd, Nat.reduceSub, Nat.reduceMul, Nat.reduceLeDiff, Nat.reduceBEq, reduceCtorEq, Int.reduceLT, Int.reduceLE, Int.reduceToNat, Int.reduceAdd, Int.reduceSub, Int.reduceBEq, Int.reduceBNe])
          apply W.dregE (List.cons_ne_nil _ _)
          case hc =>
            (apply CanonE.advPO; simp only [advPO_nil, advPO_loud, advPO_quiet, pL_yes, pL_no, pLS_some, pLS_none, pQ_yes, pQ_no, pQS_some, pQS_loud, eq_self, Nat.sub_zero, go_sem, ↓reduceIte, Nat.reduceEqDiff, Nat.reduceAdd, Nat.reduceSub, Nat.reduceMul, Nat.reduceLeDiff, Nat.reduceBEq, reduceCtorEq, Int.reduceLT, Int.reduceLE, Int.reduceToNat, Int.reduceAdd, Int.reduceSub, Int.reduceBEq, Int.reduceBNe, hG hbe])
            (apply CanonE.pcall (fun τ => ref02_Is w0 l (tokL t (i + 1)) τ); (case hg => rfl); (case hf => rfl); (case ha => first | rfl | simp))
            (apply CanonE.advPO; simp only [advPO_nil, advPO_loud, advPO_quiet, pL_yes, pL_no, pLS_some, pLS_none, pQ_yes, pQ_no, pQS_some, pQS_loud, eq_self, Nat.sub_zero, go_sem, ↓reduceIte, Nat.reduceEqDiff, Nat.reduceAdd, Nat.reduceSub, Nat.reduceMul, Nat.reduceLeDiff, Nat.reduceBEq, reduceCtorEq, Int.reduceLT, Int.reduceLE, Int.reduceToNat, Int.reduceAdd, Int.reduceSub, Int.reduceBEq, Int.reduceBNe, foundV])
            exact CanonE.nil
          ((first | refine W.advO 5000 _ _ ?_ | skip); simp only [go_sem, ↓reduceIte, Nat.reduceEqDiff, Nat.reduceAdd, Nat.reduceSub, Nat.reduceMul, Nat.reduceLeDiff, Nat.reduceBEq, reduceCtorEq, Int.reduceLT, Int.reduceLE, Int.reduceToNat, Int.reduceAdd, Int.reduceSub, Int.reduceBEq, Int.reduceBNe])
          by_cases hc : (opOf l (tokL t (i + 1))).isSome ∧ (tokL t (i + 2)).kind = 6
          · rw [if_pos hc] at h
            injection h with h
            subst h
            obtain ⟨hc1, hc2⟩ := hc
            apply W.dreg
            case hc =>
              (apply Canon.advCO; simp only [advCO_nil, advCO_cons, cG_yes, cG_no, cS_some, cS_loud, go_sem, ↓reduceIte, Nat.reduceEqDiff, Nat.reduceAdd, Nat.reduceSub, Nat.reduceMul, Nat.reduceLeDiff, Nat.reduceBEq, reduceCtorEq, Int.reduceLT, Int.reduceLE, Int.reduceToNat, Int.reduceAdd, Int.reduceSub, Int.reduceBEq, Int.reduceBNe, hG hbe, hc1, hw2])
              (apply Canon.call (ref03_Tok w0 t (i + 2) _); (case hg => rfl); (case hf => rfl); (case ha => first | rfl | simp))
              (apply Canon.advCO; simp only [advCO_nil, advCO_cons, cG_yes, cG_no, cS_some, cS_loud, go_sem, ↓reduceIte, Nat.reduceEqDiff, Nat.reduceAdd, Nat.reduceSub, Nat.reduceMul, Nat.reduceLeDiff, Nat.reduceBEq, reduceCtorEq, Int.reduceLT, Int.reduceLE, Int.reduceToNat, Int.reduceAdd, Int.reduceSub, Int.reduceBEq, Int.reduceBNe, hc2])
              exact Canon.nil
            ((first | refine W.advO 5000 _ _ ?_ | skip); simp only [go_sem, ↓reduceIte, Nat.reduceEqDiff, Nat.reduceAdd, Nat.reduceSub, Nat.reduceMul, Nat.reduceLeDiff, Nat.reduceBEq, reduceCtorEq, Int.reduceLT, Int.reduceLE, Int.reduceToNat, Int.reduceAdd, Int.reduceSub, Int.reduceBEq, Int.reduceBNe])
            refine W.yes rfl ?_
            ((first | refine W.advO 5000 _ _ ?_ | skip); simp only [go_sem, ↓reduceIte, Nat.reduceEqDiff, Nat.reduceAdd, Nat.reduceSub, Nat.reduceMul, Nat.reduceLeDiff, Nat.reduceBEq, reduceCtorEq, Int.reduceLT, Int.reduceLE, Int.reduceToNat, Int.reduceAdd, Int.reduceSub, Int.reduceBEq, Int.reduceBNe, hG hbe, hS hb, hw3])
            (refine W.ret (Fin.gen (d := .tup [(Pre.mk 0 (tokL t (i + 1)).text 0 [] (tokL t (i + 1)).pos).v, B false]) (rst_ok hok b l t (i + 3) 0 0) (by (first | rfl | exact List.length_set .. | simp)) (by simp only [resEval, r124, go_sem, ↓reduceIte, Nat.reduceEqDiff, Nat.reduceAdd, Nat.reduceSub, Nat.reduceMul, Nat.reduceLeDiff, Nat.reduceBEq, reduceCtorEq, Int.reduceLT, Int.reduceLE, Int.reduceToNat, Int.reduceAdd, Int.reduceSub, Int.reduceBEq, Int.reduceBNe]; rfl) (by simp only [resV, I, S, B, Pre.v, OpT.v, Tok.v, k_mk, name_mk, n_mk, l_mk, pos_mk, Pre.app, List.map_cons, List.map_nil, Pre.cs_eq]; (repeat' (first | exact V.wk.rfl _ | exact V.wk.csl _ | exact V.wk.osl _ _ | exact wk_agg_nil | exact wk_tup_nil | refine wk_agg_cons ?_ ?_ | refine wk_tup_cons ?_ ?_))) (by (first | exact .c _ | (simp only [I, S, B, opsC, toksC, Pre.v, Tok.v, OpT.v, low_c, low_void, low_any, low_csl, low_nilf, low_ptr, low_osl, low_agg, low_tup, low_fn, List.forall_mem_cons, List.not_mem_nil, false_implies, implies_true, and_self, and_true, true_and]; done))) (by (first | rfl | exact (List.append_nil _).symm)) ?_))
            exact ⟨by rw [hlam], rfl⟩
          · rw [if_neg hc] at h
            have two : (opOf l (tokL t (i + 1))).isSome = false ∨ ((opOf l (tokL t (i + 1))).isSome = true ∧ ((tokL t (i + 2)).kind == 6) = false) := by
              cases ho : (opOf l (tokL t (i + 1))).isSome
              · exact .inl rfl
              · refine .inr ⟨rfl, ?_⟩
                cases h6 : ((tokL t (i + 2)).kind == 6)
                · rfl
                · exact absurd ⟨ho, by simpa using h6⟩ hc
            rcases two with ho | ⟨ho, h6⟩
            all_goals first
              | (apply W.dreg
                 case hc => ((apply Canon.advCO; simp only [advCO_nil, advCO_cons, cG_yes, cG_no, cS_some, cS_loud, go_sem, ↓reduceIte, Nat.reduceEqDiff, Nat.reduceAdd, Nat.reduceSub, Nat.reduceMul, Nat.reduceLeDiff, Nat.reduceBEq, reduceCtorEq, Int.reduceLT, Int.reduceLE, Int.reduceToNat, Int.reduceAdd, Int.reduceSub, Int.reduceBEq, Int.reduceBNe, hG hbe, ho, hw2]); (apply Canon.call (ref03_Tok w0 t (i + 2) _); (case hg => rfl); (case hf => rfl); (case ha => first | rfl | simp)); (apply Canon.advCO; simp only [advCO_nil, advCO_cons, cG_yes, cG_no, cS_some, cS_loud, go_sem, ↓reduceIte, Nat.reduceEqDiff, Nat.reduceAdd, Nat.reduceSub, Nat.reduceMul, Nat.reduceLeDiff, Nat.reduceBEq, reduceCtorEq, Int.reduceLT, Int.reduceLE, Int.reduceToNat, Int.reduceAdd, Int.reduceSub, Int.reduceBEq, Int.reduceBNe, h6]); exact Canon.nil))
              | (apply W.dreg
                 case hc => ((apply Canon.advCO; simp only [advCO_nil, advCO_cons, cG_yes, cG_no, cS_some, cS_loud, go_sem, ↓reduceIte, Nat.reduceEqDiff, Nat.reduceAdd, Nat.reduceSub, Nat.reduceMul, Nat.reduceLeDiff, Nat.reduceBEq, reduceCtorEq, Int.reduceLT, Int.reduceLE, Int.reduceToNat, Int.reduceAdd, Int.reduceSub, Int.reduceBEq, Int.reduceBNe, ho]); exact Canon.nil))
            all_goals
              ((first | refine W.advO 5000 _ _ ?_ | skip); simp only [go_sem, ↓reduceIte, Nat.reduceEqDiff, Nat.reduceAdd, Nat.reduceSub, Nat.reduceMul, Nat.reduceLeDiff, Nat.reduceBEq, reduceCtorEq, Int.reduceLT, Int.reduceLE, Int.reduceToNat, Int.reduceAdd, Int.reduceSub, Int.reduceBEq, Int.reduceBNe])
              refine W.no rfl ?_
              ((first | refine W.advO 5000 _ _ ?_ | skip); simp only [go_sem, ↓reduceIte, Nat.reduceEqDiff, Nat.reduceAdd, Nat.reduceSub, Nat.reduceMul, Nat.reduceLeDiff, Nat.reduceBEq, reduceCtorEq, Int.reduceLT, Int.reduceLE, Int.reduceToNat, Int.reduceAdd, Int.reduceSub, Int.reduceBEq, Int.reduceBNe])
              rw [innerF] at h
              by_cases hdd : 200 ≤ depth
              · rw [if_pos hdd] at h
                injection h with h
                subst h
                (refine W.call1 (ref03_deep_no w0 l t i depth (tokL t i).pos _ b (hG hb _) hdd (by omega)) rfl rfl (by first | rfl | simp) ?_; refine W.advO 5000 _ _ ?_; simp only [go_sem, ↓reduceIte, Nat.reduceEqDiff, Nat.reduceAdd, Nat.reduceSub, Nat.reduceMul, Nat.reduceLeDiff, Nat.reduceBEq, reduceCtorEq, Int.reduceLT, Int.reduceLE, Int.reduceToNat, Int.reduceAdd, Int.reduceSub, Int.reduceBEq, Int.reduceBNe, hS hb])
                refine W.yes rfl ?_
                ((first | refine W.advO 5000 _ _ ?_ | skip); simp only [go_sem, ↓reduceIte, Nat.reduceEqDiff, Nat.reduceAdd, Nat.reduceSub, Nat.reduceMul, Nat.reduceLeDiff, Nat.reduceBEq, reduceCtorEq, Int.reduceLT, Int.reduceLE, Int.reduceToNat, Int.reduceAdd, Int.reduceSub, Int.reduceBEq, Int.reduceBNe])
                (refine W.ret (Fin.gen (d := .tup [Pre.none.v, B false]) (rst_ok hok b l t i 31 (tokL t i).pos) (by (first | rfl | exact List.length_set .. | simp)) (by simp only [resEval, r124, go_sem, ↓reduceIte, Nat.reduceEqDiff, Nat.reduceAdd, Nat.reduceSub, Nat.reduceMul, Nat.reduceLeDiff, Nat.reduceBEq, reduceCtorEq, Int.reduceLT, Int.reduceLE, Int.reduceToNat, Int.reduceAdd, Int.reduceSub, Int.reduceBEq, Int.reduceBNe, Pre.none]; rfl) (by simp only [resV, I, S, B, Pre.v, OpT.v, Tok.v, k_mk, name_mk, n_mk, l_mk, pos_mk, Pre.app, List.map_cons, List.map_nil, Pre.cs_eq, Pre.none]; (repeat' (first | exact V.wk.rfl _ | exact V.wk.csl _ | exact V.wk.osl _ _ | exact wk_agg_nil | exact wk_tup_nil | refine wk_agg_cons ?_ ?_ | refine wk_tup_cons ?_ ?_))) (by (first | exact .c _ | (simp only [I, S, B, opsC, toksC, Pre.v, Tok.v, OpT.v, low_c, low_void, low_any, low_csl, low_nilf, low_ptr, low_osl, low_agg, low_tup, low_fn, List.forall_mem_cons, List.not_mem_nil, false_implies, implies_true, and_self, and_true, true_and, Pre.none]; done))) (by (first | rfl | exact (List.append_nil _).symm)) ?_))
                exact ⟨rfl, Pre.none, false, i, rfl, rfl⟩
              · rw [if_neg hdd] at h
                (refine W.call1 (ref03_deep_yes w0 depth (.ptr b 0) (tokL t i).pos _ (by omega)) rfl rfl (by first | rfl | simp) ?_; refine W.advO 5000 _ _ ?_; simp only [go_sem, ↓reduceIte, Nat.reduceEqDiff, Nat.reduceAdd, Nat.reduceSub, Nat.reduceMul, Nat.reduceLeDiff, Nat.reduceBEq, reduceCtorEq, Int.reduceLT, Int.reduceLE, Int.reduceToNat, Int.reduceAdd, Int.reduceSub, Int.reduceBEq, Int.reduceBNe])
                refine W.no rfl ?_
                ((first | refine W.advO 5000 _ _ ?_ | skip); simp only [go_sem, ↓reduceIte, Nat.reduceEqDiff, Nat.reduceAdd, Nat.reduceSub, Nat.reduceMul, Nat.reduceLeDiff, Nat.reduceBEq, reduceCtorEq, Int.reduceLT, Int.reduceLE, Int.reduceToNat, Int.reduceAdd, Int.reduceSub, Int.reduceBEq, Int.reduceBNe, hG hbe, hS hb, hw, hwd])
                cases hr : exprF f l t 0 (depth + 1) (i + 1) with
                | none => rw [hr] at h; cases h
                | some y =>
                  rw [hr] at h
                  (refine W.call (hE l t 0 (depth + 1) (i + 1) y _ b hr (hG' hb _ _) (by omega) ht (by omega)) rfl rfl (by first | rfl | simp) ?_)
                  intro v σ1 hR
                  cases y with
                  | error x =>
                    injection h with h
                    subst h
                    obtain ⟨he, m, j, rfl, rfl⟩ := hR
                    have hen : (x.e != 0) = true := by rw [bne, he]; rfl
                    ((first | refine W.advO 5000 _ _ ?_ | skip); simp only [go_sem, ↓reduceIte, Nat.reduceEqDiff, Nat.reduceAdd, Nat.reduceSub, Nat.reduceMul, Nat.reduceLeDiff, Nat.reduceBEq, reduceCtorEq, Int.reduceLT, Int.reduceLE, Int.reduceToNat, Int.reduceAdd, Int.reduceSub, Int.reduceBEq, Int.reduceBNe, hS' hb, hG' hb, rmadeV, rst, hen])
                    refine W.yes rfl ?_
                    ((first | refine W.advO 5000 _ _ ?_ | skip); simp only [go_sem, ↓reduceIte, Nat.reduceEqDiff, Nat.reduceAdd, Nat.reduceSub, Nat.reduceMul, Nat.reduceLeDiff, Nat.reduceBEq, reduceCtorEq, Int.reduceLT, Int.reduceLE, Int.reduceToNat, Int.reduceAdd, Int.reduceSub, Int.reduceBEq, Int.reduceBNe])
                    (refine W.ret (Fin.gen (d := .tup [Pre.none.v, B false]) (rst_ok hok b l t j x.e x.pos) (by (first | rfl | exact List.length_set .. | simp)) (by simp only [resEval, r124, go_sem, ↓reduceIte, Nat.reduceEqDiff, Nat.reduceAdd, Nat.reduceSub, Nat.reduceMul, Nat.reduceLeDiff, Nat.reduceBEq, reduceCtorEq, Int.reduceLT, Int.reduceLE, Int.reduceToNat, Int.reduceAdd, Int.reduceSub, Int.reduceBEq, Int.reduceBNe, Pre.none]; rfl) (by simp only [resV, I, S, B, Pre.v, OpT.v, Tok.v, k_mk, name_mk, n_mk, l_mk, pos_mk, Pre.app, List.map_cons, List.map_nil, Pre.cs_eq, Pre.none]; (repeat' (first | exact V.wk.rfl _ | exact V.wk.csl _ | exact V.wk.osl _ _ | exact wk_agg_nil | exact wk_tup_nil | refine wk_agg_cons ?_ ?_ | refine wk_tup_cons ?_ ?_))) (by (first | exact .c _ | (simp only [I, S, B, opsC, toksC, Pre.v, Tok.v, OpT.v, low_c, low_void, low_any, low_csl, low_nilf, low_ptr, low_osl, low_agg, low_tup, low_fn, List.forall_mem_cons, List.not_mem_nil, false_implies, implies_true, and_self, and_true, true_and, Pre.none]; done))) (by (first | rfl | exact (List.append_nil _).symm)) ?_))
                    exact ⟨he, Pre.none, false, j, rfl, rfl⟩
                  | ok y =>
                    obtain ⟨m, j⟩ := y
                    obtain ⟨rfl, rfl⟩ := hR
                    have hj := ((fuel_bounds f).2.2.1 _ _ _ _ _ _ _ hr).2
                    simp only at h
                    have hwj : IntKind.i64.wrap ((j : Int) + 1) = ((j + 1 : Nat) : Int) := by rw [wrap_in] <;> omega
                    ((first | refine W.advO 5000 _ _ ?_ | skip); simp only [go_sem, ↓reduceIte, Nat.reduceEqDiff, Nat.reduceAdd, Nat.reduceSub, Nat.reduceMul, Nat.reduceLeDiff, Nat.reduceBEq, reduceCtorEq, Int.reduceLT, Int.reduceLE, Int.reduceToNat, Int.reduceAdd, Int.reduceSub, Int.reduceBEq, Int.reduceBNe, hS' hb, hG' hb, rmadeV, rst])
                    refine W.no rfl ?_
                    ((first | refine W.advO 5000 _ _ ?_ | skip); simp only [go_sem, ↓reduceIte, Nat.reduceEqDiff, Nat.reduceAdd, Nat.reduceSub, Nat.reduceMul, Nat.reduceLeDiff, Nat.reduceBEq, reduceCtorEq, Int.reduceLT, Int.reduceLE, Int.reduceToNat, Int.reduceAdd, Int.reduceSub, Int.reduceBEq, Int.reduceBNe])
                    apply W.dregE (List.cons_ne_nil _ _)
                    case hc =>
                      (apply CanonE.advPO; simp only [advPO_nil, advPO_loud, advPO_quiet, pL_yes, pL_no, pLS_some, pLS_none, pQ_yes, pQ_no, pQS_some, pQS_loud, eq_self, Nat.sub_zero, go_sem, ↓reduceIte, Nat.reduceEqDiff, Nat.reduceAdd, Nat.reduceSub, Nat.reduceMul, Nat.reduceLeDiff, Nat.reduceBEq, reduceCtorEq, Int.reduceLT, Int.reduceLE, Int.reduceToNat, Int.reduceAdd, Int.reduceSub, Int.reduceBEq, Int.reduceBNe, hG' hb])
                      (apply CanonE.pcall (fun τ => ref03_Tok w0 t j τ); (case hg => rfl); (case hf => rfl); (case ha => first | rfl | simp))
                      (apply CanonE.advPO; simp only [advPO_nil, advPO_loud, advPO_quiet, pL_yes, pL_no, pLS_some, pLS_none, pQ_yes, pQ_no, pQS_some, pQS_loud, eq_self, Nat.sub_zero, go_sem, ↓reduceIte, Nat.reduceEqDiff, Nat.reduceAdd, Nat.reduceSub, Nat.reduceMul, Nat.reduceLeDiff, Nat.reduceBEq, reduceCtorEq, Int.reduceLT, Int.reduceLE, Int.reduceToNat, Int.reduceAdd, Int.reduceSub, Int.reduceBEq, Int.reduceBNe])
                      exact CanonE.nil
                    ((first | refine W.advO 5000 _ _ ?_ | skip); simp only [go_sem, ↓reduceIte, Nat.reduceEqDiff, Nat.reduceAdd, Nat.reduceSub, Nat.reduceMul, Nat.reduceLeDiff, Nat.reduceBEq, reduceCtorEq, Int.reduceLT, Int.reduceLE, Int.reduceToNat, Int.reduceAdd, Int.reduceSub, Int.reduceBEq, Int.reduceBNe])
                    cases h6 : ((tokL t j).kind == 6)
                    · have h6n : ((tokL t j).kind != 6) = true := by rw [bne, h6]; rfl
                      rw [if_neg (by simpa using h6)] at h
                      injection h with h
                      subst h
                      ((first | refine W.advO 5000 _ _ ?_ | skip); simp only [go_sem, ↓reduceIte, Nat.reduceEqDiff, Nat.reduceAdd, Nat.reduceSub, Nat.reduceMul, Nat.reduceLeDiff, Nat.reduceBEq, reduceCtorEq, Int.reduceLT, Int.reduceLE, Int.reduceToNat, Int.reduceAdd, Int.reduceSub, Int.reduceBEq, Int.reduceBNe, h6n])
                      refine W.yes rfl ?_
                      ((first | refine W.advO 5000 _ _ ?_ | skip); simp only [go_sem, ↓reduceIte, Nat.reduceEqDiff, Nat.reduceAdd, Nat.reduceSub, Nat.reduceMul, Nat.reduceLeDiff, Nat.reduceBEq, reduceCtorEq, Int.reduceLT, Int.reduceLE, Int.reduceToNat, Int.reduceAdd, Int.reduceSub, Int.reduceBEq, Int.reduceBNe])
                      (refine W.call1 (ref03_fail w0 l t j 30 (tokL t j).pos _ b (hG' hb _ _)) rfl rfl (by first | rfl | simp) ?_; refine W.advO 5000 _ _ ?_; simp only [go_sem, ↓reduceIte, Nat.reduceEqDiff, Nat.reduceAdd, Nat.reduceSub, Nat.reduceMul, Nat.reduceLeDiff, Nat.reduceBEq, reduceCtorEq, Int.reduceLT, Int.reduceLE, Int.reduceToNat, Int.reduceAdd, Int.reduceSub, Int.reduceBEq, Int.reduceBNe, hS' hb])
                      (refine W.ret (Fin.gen (d := .tup [Pre.none.v, B false]) (rst_ok hok b l t j 30 (tokL t j).pos) (by (first | rfl | exact List.length_set .. | simp)) (by simp only [resEval, r124, go_sem, ↓reduceIte, Nat.reduceEqDiff, Nat.reduceAdd, Nat.reduceSub, Nat.reduceMul, Nat.reduceLeDiff, Nat.reduceBEq, reduceCtorEq, Int.reduceLT, Int.reduceLE, Int.reduceToNat, Int.reduceAdd, Int.reduceSub, Int.reduceBEq, Int.reduceBNe, Pre.none]; rfl) (by simp only [resV, I, S, B, Pre.v, OpT.v, Tok.v, k_mk, name_mk, n_mk, l_mk, pos_mk, Pre.app, List.map_cons, List.map_nil, Pre.cs_eq, Pre.none]; (repeat' (first | exact V.wk.rfl _ | exact V.wk.csl _ | exact V.wk.osl _ _ | exact wk_agg_nil | exact wk_tup_nil | refine wk_agg_cons ?_ ?_ | refine wk_tup_cons ?_ ?_))) (by (first | exact .c _ | (simp only [I, S, B, opsC, toksC, Pre.v, Tok.v, OpT.v, low_c, low_void, low_any, low_csl, low_nilf, low_ptr, low_osl, low_agg, low_tup, low_fn, List.forall_mem_cons, List.not_mem_nil, false_implies, implies_true, and_self, and_true, true_and, Pre.none]; done))) (by (first | rfl | exact (List.append_nil _).symm)) ?_))
                      exact ⟨rfl, Pre.none, false, j, rfl, rfl⟩
                    · have h6n : ((tokL t j).kind != 6) = false := by rw [bne, h6]; rfl
                      rw [if_pos (by simpa using h6)] at h
                      injection h with h
                      subst h
                      ((first | refine W.advO 5000 _ _ ?_ | skip); simp only [go_sem, ↓reduceIte, Nat.reduceEqDiff, Nat.reduceAdd, Nat.reduceSub, Nat.reduceMul, Nat.reduceLeDiff, Nat.reduceBEq, reduceCtorEq, Int.reduceLT, Int.reduceLE, Int.reduceToNat, Int.reduceAdd, Int.reduceSub, Int.reduceBEq, Int.reduceBNe, h6n])
                      refine W.no rfl ?_
                      ((first | refine W.advO 5000 _ _ ?_ | skip); simp only [go_sem, ↓reduceIte, Nat.reduceEqDiff, Nat.reduceAdd, Nat.reduceSub, Nat.reduceMul, Nat.reduceLeDiff, Nat.reduceBEq, reduceCtorEq, Int.reduceLT, Int.reduceLE, Int.reduceToNat, Int.reduceAdd, Int.reduceSub, Int.reduceBEq, Int.reduceBNe, hG' hb, hS' hb, hwj])
                      (refine W.ret (Fin.gen (d := .tup [m.p.v, B false]) (rst_ok hok b l t (j + 1) 0 0) (by (first | rfl | exact List.length_set .. | simp)) (by simp only [resEval, r124, go_sem, ↓reduceIte, Nat.reduceEqDiff, Nat.reduceAdd, Nat.reduceSub, Nat.reduceMul, Nat.reduceLeDiff, Nat.reduceBEq, reduceCtorEq, Int.reduceLT, Int.reduceLE, Int.reduceToNat, Int.reduceAdd, Int.reduceSub, Int.reduceBEq, Int.reduceBNe]; rfl) (by simp only [resV, I, S, B, Pre.v, OpT.v, Tok.v, k_mk, name_mk, n_mk, l_mk, pos_mk, Pre.app, List.map_cons, List.map_nil, Pre.cs_eq]; (repeat' (first | exact V.wk.rfl _ | exact V.wk.csl _ | exact V.wk.osl _ _ | exact wk_agg_nil | exact wk_tup_nil | refine wk_agg_cons ?_ ?_ | refine wk_tup_cons ?_ ?_))) (by (first | exact .c _ | (simp only [I, S, B, opsC, toksC, Pre.v, Tok.v, OpT.v, low_c, low_void, low_any, low_csl, low_nilf, low_ptr, low_osl, low_agg, low_tup, low_fn, List.forall_mem_cons, List.not_mem_nil, false_implies, implies_true, and_self, and_true, true_and]; done))) (by (first | rfl | exact (List.append_nil _).symm)) ?_))
                      exact ⟨by rw [hlam], rfl⟩
      · have h4' : (tokL t i).kind = 4 := by simpa using h4
        have h5' : ¬ (tokL t i).kind = 5 := by rw [h4']; decide
        have hc : ¬ ((tokL t i).kind ≠ 4 ∧ (tokL t (i + 1)).kind = 8) := fun h => h.1 h4'
        have hlam := lamAt_no hc
        have h2' : ¬ (tokL t i).kind = 2 := by rw [h4']; decide
        rw [if_neg h5', if_neg h3', if_neg hc, if_neg h2'] at h
        injection h with h
        subst h
        ((first | refine W.advO 5000 _ _ ?_ | skip); simp only [go_sem, ↓reduceIte, Nat.reduceEqDiff, Nat.reduceAdd, Nat.reduceSub, Nat.reduceMul, Nat.reduceLeDiff, Nat.reduceBEq, reduceCtorEq, Int.reduceLT, Int.reduceLE, Int.reduceToNat, Int.reduceAdd, Int.reduceSub, Int.reduceBEq, Int.reduceBNe, h4])
        refine W.yes rfl ?_
        ((first | refine W.advO 5000 _ _ ?_ | skip); simp only [go_sem, ↓reduceIte, Nat.reduceEqDiff, Nat.reduceAdd, Nat.reduceSub, Nat.reduceMul, Nat.reduceLeDiff, Nat.reduceBEq, reduceCtorEq, Int.reduceLT, Int.reduceLE, Int.reduceToNat, Int.reduceAdd, Int.reduceSub, Int.reduceBEq, Int.reduceBNe, hG hbe, hS hb, hw])
        (refine W.ret (Fin.gen (d := .tup [(Pre.mk 0 (tokL t i).text 0 [] (tokL t i).pos).v, B false]) (rst_ok hok b l t (i + 1) 0 0) (by (first | rfl | exact List.length_set .. | simp)) (by simp only [resEval, r124, go_sem, ↓reduceIte, Nat.reduceEqDiff, Nat.reduceAdd, Nat.reduceSub, Nat.reduceMul, Nat.reduceLeDiff, Nat.reduceBEq, reduceCtorEq, Int.reduceLT, Int.reduceLE, Int.reduceToNat, Int.reduceAdd, Int.reduceSub, Int.reduceBEq, Int.reduceBNe]; rfl) (by simp only [resV, I, S, B, Pre.v, OpT.v, Tok.v, k_mk, name_mk, n_mk, l_mk, pos_mk, Pre.app, List.map_cons, List.map_nil, Pre.cs_eq]; (repeat' (first | exact V.wk.rfl _ | exact V.wk.csl _ | exact V.wk.osl _ _ | exact wk_agg_nil | exact wk_tup_nil | refine wk_agg_cons ?_ ?_ | refine wk_tup_cons ?_ ?_))) (by (first | exact .c _ | (simp only [I, S, B, opsC, toksC, Pre.v, Tok.v, OpT.v, low_c, low_void, low_any, low_csl, low_nilf, low_ptr, low_osl, low_agg, low_tup, low_fn, List.forall_mem_cons, List.not_mem_nil, false_implies, implies_true, and_self, and_true, true_and]; done))) (by (first | rfl | exact (List.append_nil _).symm)) ?_))
        exact ⟨by rw [hlam], rfl⟩
    · have h3' : (tokL t i).kind = 3 := by simpa using h3
      have h5' : ¬ (tokL t i).kind = 5 := by rw [h3']; decide
      have hlam : lamAt t i = false := lamAt_kind (by rw [h3']; decide) (by rw [h3']; decide)
      rw [if_neg h5', if_pos h3'] at h
      injection h with h
      subst h
      ((first | refine W.advO 5000 _ _ ?_ | skip); simp only [go_sem, ↓reduceIte, Nat.reduceEqDiff, Nat.reduceAdd, Nat.reduceSub, Nat.reduceMul, Nat.reduceLeDiff, Nat.reduceBEq, reduceCtorEq, Int.reduceLT, Int.reduceLE, Int.reduceToNat, Int.reduceAdd, Int.reduceSub, Int.reduceBEq, Int.reduceBNe, h3])
      refine W.yes rfl ?_
      ((first | refine W.advO 5000 _ _ ?_ | skip); simp only [go_sem, ↓reduceIte, Nat.reduceEqDiff, Nat.reduceAdd, Nat.reduceSub, Nat.reduceMul, Nat.reduceLeDiff, Nat.reduceBEq, reduceCtorEq, Int.reduceLT, Int.reduceLE, Int.reduceToNat, Int.reduceAdd, Int.reduceSub, Int.reduceBEq, Int.reduceBNe, hG hbe, hS hb, hw])
      (refine W.ret (Fin.gen (d := .tup [(Pre.mk 2 [] (tokL t i).n [] (tokL t i).pos).v, B false]) (rst_ok hok b l t (i + 1) 0 0) (by (first | rfl | exact List.length_set .. | simp)) (by simp only [resEval, r124, go_sem, ↓reduceIte, Nat.reduceEqDiff, Nat.reduceAdd, Nat.reduceSub, Nat.reduceMul, Nat.reduceLeDiff, Nat.reduceBEq, reduceCtorEq, Int.reduceLT, Int.reduceLE, Int.reduceToNat, Int.reduceAdd, Int.reduceSub, Int.reduceBEq, Int.reduceBNe]; rfl) (by simp only [resV, I, S, B, Pre.v, OpT.v, Tok.v, k_mk, name_mk, n_mk, l_mk, pos_mk, Pre.app, List.map_cons, List.map_nil, Pre.cs_eq]; (repeat' (first | exact V.wk.rfl _ | exact V.wk.csl _ | exact V.wk.osl _ _ | exact wk_agg_nil | exact wk_tup_nil | refine wk_agg_cons ?_ ?_ | refine wk_tup_cons ?_ ?_))) (by (first | exact .c _ | (simp only [I, S, B, opsC, toksC, Pre.v, Tok.v, OpT.v, low_c, low_void, low_any, low_csl, low_nilf, low_ptr, low_osl, low_agg, low_tup, low_fn, List.forall_mem_cons, List.not_mem_nil, false_implies, implies_true, and_self, and_true, true_and]; done))) (by (first | rfl | exact (List.append_nil _).symm)) ?_))
      exact ⟨by rw [hlam], rfl⟩
end Go.Proofs.YtpgkhkojjklakaaGreatDoor
namespace Go.Proofs.YtpgkhkojjklakaaGreatDoor
open Go.RowKit Go.Lamb
attribute [local go_sem] advO_skip advO_reg advO_seq advO_block advO_exit advO_endb advO_opsNil advO_ops advG_yes advG_no advG_none advS_some advS_none advO_cond advO_loop advO_dreg advO_ret advO_bad advO_inv advO_nil advO_zero wantedV Lamb.step ev_t ev_k put_some put_none argEnv popTo cellsAt V.cellsV V.rows V.toC toCs fillV rowsV boundV boundL binV binInt binStr eqC eqL V.isNil leaves V.leaf Ins.quiet Ins.pure List.getD_cons_zero List.getD_cons_succ List.getD_nil List.all_cons List.all_nil List.length_cons List.length_nil List.take_succ_cons List.take_zero List.drop_succ_cons List.drop_zero List.cons_append List.nil_append List.append_nil List.append_assoc List.map_cons List.map_nil List.getElem?_cons_zero List.getElem?_cons_succ List.length_append List.length_set hget0 hget hset0 hset hsets hgs0 hgs hss0 hss List.set_cons_zero List.set_cons_succ List.forall_mem_cons List.not_mem_nil false_implies implies_true Option.map_some Bool.and_true Bool.true_and Bool.not_not Bool.not_true Bool.not_false Bool.and_self Bool.or_true Bool.true_or Bool.or_false Bool.false_or Bool.and_false Bool.false_and Bool.false_eq_true beq_self_eq_true and_self and_true true_and if_true if_false Nat.zero_add Nat.add_zero Nat.le_refl Int.toNat_natCast decide_true decide_false beq_t beq_f List.length_map List.getElem?_map I S B opsC toksC OpT.v OpT.cs OpT.zero Tok.v Tok.cs Pre.v Pre.cs_eq k_mk name_mk n_mk l_mk pos_mk Pre.app applyL natCast0 natCast1 natCast2

theorem ref03_Operand {w0 : World} {f : Nat} (hA : ∀ g, g ≤ f → QAtomOK w0 g) (l : List OpT) (t : List Tok) (depth i : Nat) (r : Except Bad (Pre × Nat)) (σ : H) (b : Nat) (h : operandF f l t depth i = some r) (hb : σ[b]? = some (rst l t i 0 0)) (hi : i ≤ t.length) (ht : t.length ≤ 1000000) (hd : depth ≤ 200) :
    DC Tryz.prog w0 85 [.ptr b 0, I depth] σ (QOper l t σ b r) := by
  have hlt := (List.getElem?_eq_some_iff.1 hb).1
  rw [operandF] at h
  refine go85 rfl (fun hok hsz => ?_)
  ((first | refine W.advO 5000 _ _ ?_ | skip); simp only [go_sem, ↓reduceIte, Nat.reduceEqDiff, Nat.reduceAdd, Nat.reduceSub, Nat.reduceMul, Nat.reduceLeDiff, Nat.reduceBEq, reduceCtorEq, Int.reduceLT, Int.reduceLE, Int.reduceToNat, Int.reduceAdd, Int.reduceSub, Int.reduceBEq, Int.reduceBNe, c85])
  cases ha : atomF f l t depth i with
  | none => rw [ha] at h; cases h
  | some ra =>
    rw [ha] at h
    (refine W.call (hA f (Nat.le_refl f) l t depth i ra _ b ha (hG hb _) hi ht hd) rfl rfl (by first | rfl | simp) ?_)
    intro v σ1 hR
    have hx : ∃ x : ArgsSt, (x.e = 0 ∧ x.pos = 0 ∧ argsF x.g l t depth x.i x.p x.p.pos x.last = some r ∧ x.i ≤ t.length ∧ x.g ≤ f ∨ (x.e == 0) = false ∧ r = .error ⟨x.e, x.pos⟩) ∧
        v = .tup [x.p.v, B x.last] ∧ σ1 = (σ ++ [Blk.cells [I 0, S [], I 0, .csl [], I 0]]).set b (rst l t x.i x.e x.pos) := by
      cases ra with
      | ok y =>
        obtain ⟨rfl, rfl⟩ := hR
        exact ⟨⟨f, y.1, y.2, lamAt t i, 0, 0⟩, .inl ⟨rfl, rfl, h, ((fuel_bounds f).1 _ _ _ _ _ _ ha).2, Nat.le_refl f⟩, rfl, rfl⟩
      | error y =>
        obtain ⟨he, q, la, j, rfl, rfl⟩ := hR
        injection h with h
        exact ⟨⟨0, q, j, la, y.e, y.pos⟩, .inr ⟨he, h.symm⟩, rfl, rfl⟩
    obtain ⟨x0, hinv0, rfl, rfl⟩ := hx
    ((first | refine W.advO 5000 _ _ ?_ | skip); simp only [go_sem, ↓reduceIte, Nat.reduceEqDiff, Nat.reduceAdd, Nat.reduceSub, Nat.reduceMul, Nat.reduceLeDiff, Nat.reduceBEq, reduceCtorEq, Int.reduceLT, Int.reduceLE, Int.reduceToNat, Int.reduceAdd, Int.reduceSub, Int.reduceBEq, Int.reduceBNe, hS hb])
    refine W.loopP (fun x : ArgsSt => (x.e = 0 ∧ x.pos = 0 ∧ argsF x.g l t depth x.i x.p x0.p.pos x.last = some r ∧ x.i ≤ t.length ∧ x.g ≤ f ∨ (x.e == 0) = false ∧ r = .error ⟨x.e, x.pos⟩))
      (fun x => ⟨((((((base.put (some 0) (.ptr b 0)).put (some 1) (I depth)).put (some 4) (.ptr σ.length 0)).put (some 5) (.ptr (σ.length + 1) 0)).put (some 6) (B x.last)).put (some 7) (I x0.p.pos)), σ.set b (rst l t x.i x.e x.pos) ++ [.cells [I 0, S [], I 0, .csl [], I 0], .cells x.p.v.cellsV]⟩)
      (fun x => if x.e = 0 then x.g + 1 else 0) x0 hinv0 ?_ (fun x hx => ?_)
    · (refine Lew.env ?_; (repeat' (first | exact LeE.base _ | (refine LeE.put ?_ (by first | exact V.wk.rfl _ | exact V.wk.osl _ _ | exact V.wk.csl _)))))
    · obtain ⟨g, p, i', last, e, pos⟩ := x
      simp only at hx
      rcases hx with ⟨rfl, rfl, hx, hi', hg⟩ | ⟨he, rfl⟩
      · obtain ⟨g', rfl⟩ : ∃ g', g = g' + 1 := by
          cases g with
          | zero => simp [argsF] at hx
          | succ g' => exact ⟨g', rfl⟩
        rw [argsF] at hx
        by_cases hc : last = true ∨ beginsL l (tokL t i') = false
        · rw [if_pos hc] at hx
          injection hx with hx
          subst hx
          have two : last = true ∨ (last = false ∧ beginsL l (tokL t i') = false) := by
            cases last
            · exact .inr ⟨rfl, by simpa using hc⟩
            · exact .inl rfl
          rcases two with rfl | ⟨rfl, hB⟩
          all_goals first
            | (((first | refine W.advO 5000 _ _ ?_ | skip); simp only [go_sem, ↓reduceIte, Nat.reduceEqDiff, Nat.reduceAdd, Nat.reduceSub, Nat.reduceMul, Nat.reduceLeDiff, Nat.reduceBEq, reduceCtorEq, Int.reduceLT, Int.reduceLE, Int.reduceToNat, Int.reduceAdd, Int.reduceSub, Int.reduceBEq, Int.reduceBNe, hG' hb, rst])
               (refine W.call1 (ref03_begins w0 l t i' 0 0 _ b (hG' hb _ _)) rfl rfl (by first | rfl | simp) ?_; refine W.advO 5000 _ _ ?_; simp only [go_sem, ↓reduceIte, Nat.reduceEqDiff, Nat.reduceAdd, Nat.reduceSub, Nat.reduceMul, Nat.reduceLeDiff, Nat.reduceBEq, reduceCtorEq, Int.reduceLT, Int.reduceLE, Int.reduceToNat, Int.reduceAdd, Int.reduceSub, Int.reduceBEq, Int.reduceBNe, hB])
               refine W.no rfl ?_)
            | (((first | refine W.advO 5000 _ _ ?_ | skip); simp only [go_sem, ↓reduceIte, Nat.reduceEqDiff, Nat.reduceAdd, Nat.reduceSub, Nat.reduceMul, Nat.reduceLeDiff, Nat.reduceBEq, reduceCtorEq, Int.reduceLT, Int.reduceLE, Int.reduceToNat, Int.reduceAdd, Int.reduceSub, Int.reduceBEq, Int.reduceBNe, hG' hb, rst])
               refine W.no rfl ?_)
          all_goals
            ((first | refine W.advO 5000 _ _ ?_ | skip); simp only [go_sem, ↓reduceIte, Nat.reduceEqDiff, Nat.reduceAdd, Nat.reduceSub, Nat.reduceMul, Nat.reduceLeDiff, Nat.reduceBEq, reduceCtorEq, Int.reduceLT, Int.reduceLE, Int.reduceToNat, Int.reduceAdd, Int.reduceSub, Int.reduceBEq, Int.reduceBNe])
            (refine W.ret (Fin.gen (d := p.v) (rst_ok hok b l t i' 0 0) (by (first | rfl | exact List.length_set .. | simp)) (by simp only [resEval, r85, go_sem, ↓reduceIte, Nat.reduceEqDiff, Nat.reduceAdd, Nat.reduceSub, Nat.reduceMul, Nat.reduceLeDiff, Nat.reduceBEq, reduceCtorEq, Int.reduceLT, Int.reduceLE, Int.reduceToNat, Int.reduceAdd, Int.reduceSub, Int.reduceBEq, Int.reduceBNe]; rfl) (by simp only [resV, I, S, B, Pre.v, OpT.v, Tok.v, k_mk, name_mk, n_mk, l_mk, pos_mk, Pre.app, List.map_cons, List.map_nil, Pre.cs_eq]; (repeat' (first | exact V.wk.rfl _ | exact V.wk.csl _ | exact V.wk.osl _ _ | exact wk_agg_nil | exact wk_tup_nil | refine wk_agg_cons ?_ ?_ | refine wk_tup_cons ?_ ?_))) (by (first | exact .c _ | (simp only [I, S, B, opsC, toksC, Pre.v, Tok.v, OpT.v, low_c, low_void, low_any, low_csl, low_nilf, low_ptr, low_osl, low_agg, low_tup, low_fn, List.forall_mem_cons, List.not_mem_nil, false_implies, implies_true, and_self, and_true, true_and]; done))) (by (first | rfl | exact (List.append_nil _).symm)) ?_))
            exact ⟨rfl, rfl⟩
        · rw [if_neg hc] at hx
          have hl : last = false := by cases last; rfl; exact absurd (.inl rfl) hc
          have hB : beginsL l (tokL t i') = true := by
            cases h : beginsL l (tokL t i')
            · exact absurd (.inr h) hc
            · rfl
          subst hl
          have hil : i' < t.length := begins_lt (l := l) (by rw [hB]; decide)
          ((first | refine W.advO 5000 _ _ ?_ | skip); simp only [go_sem, ↓reduceIte, Nat.reduceEqDiff, Nat.reduceAdd, Nat.reduceSub, Nat.reduceMul, Nat.reduceLeDiff, Nat.reduceBEq, reduceCtorEq, Int.reduceLT, Int.reduceLE, Int.reduceToNat, Int.reduceAdd, Int.reduceSub, Int.reduceBEq, Int.reduceBNe, hG' hb, rst])
          (refine W.call1 (ref03_begins w0 l t i' 0 0 _ b (hG' hb _ _)) rfl rfl (by first | rfl | simp) ?_; refine W.advO 5000 _ _ ?_; simp only [go_sem, ↓reduceIte, Nat.reduceEqDiff, Nat.reduceAdd, Nat.reduceSub, Nat.reduceMul, Nat.reduceLeDiff, Nat.reduceBEq, reduceCtorEq, Int.reduceLT, Int.reduceLE, Int.reduceToNat, Int.reduceAdd, Int.reduceSub, Int.reduceBEq, Int.reduceBNe, hB])
          refine W.yes rfl ?_
          ((first | refine W.advO 5000 _ _ ?_ | skip); simp only [go_sem, ↓reduceIte, Nat.reduceEqDiff, Nat.reduceAdd, Nat.reduceSub, Nat.reduceMul, Nat.reduceLeDiff, Nat.reduceBEq, reduceCtorEq, Int.reduceLT, Int.reduceLE, Int.reduceToNat, Int.reduceAdd, Int.reduceSub, Int.reduceBEq, Int.reduceBNe])
          cases ha' : atomF g' l t depth i' with
          | none => rw [ha'] at hx; cases hx
          | some ra' =>
            rw [ha'] at hx
            (refine W.call (hA g' (by omega) l t depth i' ra' _ b ha' (hG' hb _ _) hi' ht hd) rfl rfl (by first | rfl | simp) ?_)
            intro v σ1 hR
            cases ra' with
            | ok y =>
              obtain ⟨q, j⟩ := y
              obtain ⟨rfl, rfl⟩ := hR
              ((first | refine W.advO 5000 _ _ ?_ | skip); simp only [go_sem, ↓reduceIte, Nat.reduceEqDiff, Nat.reduceAdd, Nat.reduceSub, Nat.reduceMul, Nat.reduceLeDiff, Nat.reduceBEq, reduceCtorEq, Int.reduceLT, Int.reduceLE, Int.reduceToNat, Int.reduceAdd, Int.reduceSub, Int.reduceBEq, Int.reduceBNe, hS' hb])
              refine .inv ⟨⟨g', Pre.app p q x0.p.pos, j, lamAt t i', 0, 0⟩, .inl ⟨rfl, rfl, hx, ((fuel_bounds g').1 _ _ _ _ _ _ ha').2, Nat.le_of_succ_le hg⟩, by simp, ?_⟩
              simp only [go_sem, ↓reduceIte, Nat.reduceEqDiff, Nat.reduceAdd, Nat.reduceSub, Nat.reduceMul, Nat.reduceLeDiff, Nat.reduceBEq, reduceCtorEq, Int.reduceLT, Int.reduceLE, Int.reduceToNat, Int.reduceAdd, Int.reduceSub, Int.reduceBEq, Int.reduceBNe]
              (refine Lew.cutL (rst_ok hok b l t j 0 0) ?_ (by simp) (by simp) ?_ ?_ ?_; (repeat' (first | exact LeE.base _ | (refine LeE.put ?_ (by first | exact V.wk.rfl _ | exact V.wk.osl _ _ | exact V.wk.csl _)))); ((try simp only [List.length_cons, List.length_nil, List.length_set, List.length_append, Nat.reduceAdd, List.take_succ_cons, List.take_zero, okB, wkB, I, S, B, opsC, toksC, Pre.v, Tok.v, OpT.v, low_c, low_void, low_any, low_csl, low_nilf, low_ptr, low_osl, low_agg, low_tup, low_fn, List.forall_mem_cons, List.not_mem_nil, false_implies, implies_true, and_self, and_true, true_and]) <;> omega); (simp only [List.length_cons, List.length_nil, Nat.reduceAdd, List.take_succ_cons, List.take_zero, wkB, and_true]; (repeat' (refine And.intro ?_ ?_)) <;> (first | exact Blk.wk.rfl _ | (refine Blk.wk_cells ?_ rfl; (repeat' (first | exact V.wk.rfl _ | exact V.wk.csl _ | exact V.wk.osl _ _ | exact wk_agg_nil | exact wk_tup_nil | refine wk_agg_cons ?_ ?_ | refine wk_tup_cons ?_ ?_))))); (repeat' (first | exact LowE.base _ | (refine LowE.put ?_ (by first | exact .c _ | ((try simp only [List.length_cons, List.length_nil, List.length_set, List.length_append, Nat.reduceAdd, List.take_succ_cons, List.take_zero, okB, wkB, I, S, B, opsC, toksC, Pre.v, Tok.v, OpT.v, low_c, low_void, low_any, low_csl, low_nilf, low_ptr, low_osl, low_agg, low_tup, low_fn, List.forall_mem_cons, List.not_mem_nil, false_implies, implies_true, and_self, and_true, true_and]) <;> omega))))))
            | error y =>
              obtain ⟨he, q, la, j, rfl, rfl⟩ := hR
              injection hx with hx
              subst hx
              have he' : ¬ y.e = 0 := by simpa using he
              ((first | refine W.advO 5000 _ _ ?_ | skip); simp only [go_sem, ↓reduceIte, Nat.reduceEqDiff, Nat.reduceAdd, Nat.reduceSub, Nat.reduceMul, Nat.reduceLeDiff, Nat.reduceBEq, reduceCtorEq, Int.reduceLT, Int.reduceLE, Int.reduceToNat, Int.reduceAdd, Int.reduceSub, Int.reduceBEq, Int.reduceBNe, hS' hb])
              refine .inv ⟨⟨g', Pre.app p q x0.p.pos, j, la, y.e, y.pos⟩, .inr ⟨he, rfl⟩, by simp [he'], ?_⟩
              simp only [go_sem, ↓reduceIte, Nat.reduceEqDiff, Nat.reduceAdd, Nat.reduceSub, Nat.reduceMul, Nat.reduceLeDiff, Nat.reduceBEq, reduceCtorEq, Int.reduceLT, Int.reduceLE, Int.reduceToNat, Int.reduceAdd, Int.reduceSub, Int.reduceBEq, Int.reduceBNe]
              (refine Lew.cutL (rst_ok hok b l t j y.e y.pos) ?_ (by simp) (by simp) ?_ ?_ ?_; (repeat' (first | exact LeE.base _ | (refine LeE.put ?_ (by first | exact V.wk.rfl _ | exact V.wk.osl _ _ | exact V.wk.csl _)))); ((try simp only [List.length_cons, List.length_nil, List.length_set, List.length_append, Nat.reduceAdd, List.take_succ_cons, List.take_zero, okB, wkB, I, S, B, opsC, toksC, Pre.v, Tok.v, OpT.v, low_c, low_void, low_any, low_csl, low_nilf, low_ptr, low_osl, low_agg, low_tup, low_fn, List.forall_mem_cons, List.not_mem_nil, false_implies, implies_true, and_self, and_true, true_and]) <;> omega); (simp only [List.length_cons, List.length_nil, Nat.reduceAdd, List.take_succ_cons, List.take_zero, wkB, and_true]; (repeat' (refine And.intro ?_ ?_)) <;> (first | exact Blk.wk.rfl _ | (refine Blk.wk_cells ?_ rfl; (repeat' (first | exact V.wk.rfl _ | exact V.wk.csl _ | exact V.wk.osl _ _ | exact wk_agg_nil | exact wk_tup_nil | refine wk_agg_cons ?_ ?_ | refine wk_tup_cons ?_ ?_))))); (repeat' (first | exact LowE.base _ | (refine LowE.put ?_ (by first | exact .c _ | ((try simp only [List.length_cons, List.length_nil, List.length_set, List.length_append, Nat.reduceAdd, List.take_succ_cons, List.take_zero, okB, wkB, I, S, B, opsC, toksC, Pre.v, Tok.v, OpT.v, low_c, low_void, low_any, low_csl, low_nilf, low_ptr, low_osl, low_agg, low_tup, low_fn, List.forall_mem_cons, List.not_mem_nil, false_implies, implies_true, and_self, and_true, true_and]) <;> omega))))))
      · ((first | refine W.advO 5000 _ _ ?_ | skip); simp only [go_sem, ↓reduceIte, Nat.reduceEqDiff, Nat.reduceAdd, Nat.reduceSub, Nat.reduceMul, Nat.reduceLeDiff, Nat.reduceBEq, reduceCtorEq, Int.reduceLT, Int.reduceLE, Int.reduceToNat, Int.reduceAdd, Int.reduceSub, Int.reduceBEq, Int.reduceBNe, hG' hb, rst, he])
        refine W.no rfl ?_
        ((first | refine W.advO 5000 _ _ ?_ | skip); simp only [go_sem, ↓reduceIte, Nat.reduceEqDiff, Nat.reduceAdd, Nat.reduceSub, Nat.reduceMul, Nat.reduceLeDiff, Nat.reduceBEq, reduceCtorEq, Int.reduceLT, Int.reduceLE, Int.reduceToNat, Int.reduceAdd, Int.reduceSub, Int.reduceBEq, Int.reduceBNe])
        (refine W.ret (Fin.gen (d := p.v) (rst_ok hok b l t i' e pos) (by (first | rfl | exact List.length_set .. | simp)) (by simp only [resEval, r85, go_sem, ↓reduceIte, Nat.reduceEqDiff, Nat.reduceAdd, Nat.reduceSub, Nat.reduceMul, Nat.reduceLeDiff, Nat.reduceBEq, reduceCtorEq, Int.reduceLT, Int.reduceLE, Int.reduceToNat, Int.reduceAdd, Int.reduceSub, Int.reduceBEq, Int.reduceBNe]; rfl) (by simp only [resV, I, S, B, Pre.v, OpT.v, Tok.v, k_mk, name_mk, n_mk, l_mk, pos_mk, Pre.app, List.map_cons, List.map_nil, Pre.cs_eq]; (repeat' (first | exact V.wk.rfl _ | exact V.wk.csl _ | exact V.wk.osl _ _ | exact wk_agg_nil | exact wk_tup_nil | refine wk_agg_cons ?_ ?_ | refine wk_tup_cons ?_ ?_))) (by (first | exact .c _ | (simp only [I, S, B, opsC, toksC, Pre.v, Tok.v, OpT.v, low_c, low_void, low_any, low_csl, low_nilf, low_ptr, low_osl, low_agg, low_tup, low_fn, List.forall_mem_cons, List.not_mem_nil, false_implies, implies_true, and_self, and_true, true_and]; done))) (by (first | rfl | exact (List.append_nil _).symm)) ?_))
        exact ⟨he, p, i', rfl, rfl⟩
end Go.Proofs.YtpgkhkojjklakaaGreatDoor
namespace Go.Proofs.YtpgkhkojjklakaaGreatDoor
open Go.RowKit Go.Lamb
attribute [local go_sem] advO_skip advO_reg advO_seq advO_block advO_exit advO_endb advO_opsNil advO_ops advG_yes advG_no advG_none advS_some advS_none advO_cond advO_loop advO_dreg advO_ret advO_bad advO_inv advO_nil advO_zero wantedV Lamb.step ev_t ev_k put_some put_none argEnv popTo cellsAt V.cellsV V.rows V.toC toCs fillV rowsV boundV boundL binV binInt binStr eqC eqL V.isNil leaves V.leaf Ins.quiet Ins.pure List.getD_cons_zero List.getD_cons_succ List.getD_nil List.all_cons List.all_nil List.length_cons List.length_nil List.take_succ_cons List.take_zero List.drop_succ_cons List.drop_zero List.cons_append List.nil_append List.append_nil List.append_assoc List.map_cons List.map_nil List.getElem?_cons_zero List.getElem?_cons_succ List.length_append List.length_set hget0 hget hset0 hset hsets hgs0 hgs hss0 hss List.set_cons_zero List.set_cons_succ List.forall_mem_cons List.not_mem_nil false_implies implies_true Option.map_some Bool.and_true Bool.true_and Bool.not_not Bool.not_true Bool.not_false Bool.and_self Bool.or_true Bool.true_or Bool.or_false Bool.false_or Bool.and_false Bool.false_and Bool.false_eq_true beq_self_eq_true and_self and_true true_and if_true if_false Nat.zero_add Nat.add_zero Nat.le_refl Int.toNat_natCast decide_true decide_false beq_t beq_f List.length_map List.getElem?_map I S B opsC toksC OpT.v OpT.cs OpT.zero Tok.v Tok.cs Pre.v Pre.cs_eq k_mk name_mk n_mk l_mk pos_mk Pre.app applyL natCast0 natCast1 natCast2

structure QSt where
  g : Nat
  m : Made
  i : Nat
  e : Int
  pos : Int
theorem clash_eq (o : OpT) (m : Made) : clashL o m = (m.by_.isSome && !besideL o (byO m) 1) := by
  rw [clashL, byO]
  cases m.by_ with
  | none => rfl
  | some y => rfl
theorem byO_mk (p : Pre) (o : OpT) (q : Int) : byO ⟨p, some (o, q)⟩ = o := rfl
theorem byP_mk (p : Pre) (o : OpT) (q : Int) : byP ⟨p, some (o, q)⟩ = q := rfl
theorem byO_some {m : Made} {o : OpT} {q : Int} (h : m.by_ = some (o, q)) : byO m = o ∧ byP m = q := by rw [byO, byP, h]; exact ⟨rfl, rfl⟩
theorem rmade_none (p : Pre) : rmadeV ⟨p, none⟩ = .agg [I p.k, S p.name, I p.n, .c (.sl (p.l.map Pre.cs)), I p.pos, B false, S [], I 0, I 0, I 0] := rfl
set_option maxHeartbeats 8000000 in
set_option maxRecDepth 20000 in
theorem ref03_Expr {w0 : World} {f : Nat} (hA : ∀ g, g ≤ f → QAtomOK w0 g) (hE : ∀ g, g ≤ f → QExprOK w0 g) : QExprOK w0 (f + 1) := by
  intro l t least depth i r σ b h hb hi ht hd
  have hlt := (List.getElem?_eq_some_iff.1 hb).1
  have hbe : σ[b]? = some (.cells [.c (opsC l), .c (toksC t), I i, I 0, I 0]) := hb
  have hwd : IntKind.i64.wrap ((depth : Int) + 1) = ((depth + 1 : Nat) : Int) := by rw [wrap_in] <;> omega
  rw [exprF_eq] at h
  refine go38 rfl (fun hok hsz => ?_)
  ((first | refine W.advO 5000 _ _ ?_ | skip); simp only [go_sem, ↓reduceIte, Nat.reduceEqDiff, Nat.reduceAdd, Nat.reduceSub, Nat.reduceMul, Nat.reduceLeDiff, Nat.reduceBEq, reduceCtorEq, Int.reduceLT, Int.reduceLE, Int.reduceToNat, Int.reduceAdd, Int.reduceSub, Int.reduceBEq, Int.reduceBNe, c38])
  cases ha : operandF f l t depth i with
  | none => rw [ha] at h; cases h
  | some ra =>
    rw [ha] at h
    (refine W.call (ref03_Operand hA l t depth i ra _ b ha (hG hb _) hi ht hd) rfl rfl (by first | rfl | simp) ?_)
    intro v σ1 hR
    have hx : ∃ (q : Pre) (x : QSt), (x.e = 0 ∧ x.pos = 0 ∧ chainF x.g l t least depth x.i x.m = some r ∧ x.i ≤ t.length ∧ x.g ≤ f ∨ (x.e == 0) = false ∧ r = .error ⟨x.e, x.pos⟩) ∧ x.m = ⟨q, none⟩ ∧
        v = q.v ∧ σ1 = (σ ++ [Blk.cells [I 0, S [], I 0, .csl [], I 0, B false, S [], I 0, I 0, I 0]]).set b (rst l t x.i x.e x.pos) := by
      cases ra with
      | ok y =>
        obtain ⟨rfl, rfl⟩ := hR
        exact ⟨y.1, ⟨f, ⟨y.1, none⟩, y.2, 0, 0⟩, .inl ⟨rfl, rfl, h, (operandF_bound ha).2, Nat.le_refl f⟩, rfl, rfl, rfl⟩
      | error y =>
        obtain ⟨he, q, j, rfl, rfl⟩ := hR
        injection h with h
        exact ⟨q, ⟨0, ⟨q, none⟩, j, y.e, y.pos⟩, .inr ⟨he, h.symm⟩, rfl, rfl, rfl⟩
    obtain ⟨q0, x0, hinv0, hm0, rfl, rfl⟩ := hx
    ((first | refine W.advO 5000 _ _ ?_ | skip); simp only [go_sem, ↓reduceIte, Nat.reduceEqDiff, Nat.reduceAdd, Nat.reduceSub, Nat.reduceMul, Nat.reduceLeDiff, Nat.reduceBEq, reduceCtorEq, Int.reduceLT, Int.reduceLE, Int.reduceToNat, Int.reduceAdd, Int.reduceSub, Int.reduceBEq, Int.reduceBNe, hS hb])
    refine W.loopP (fun x : QSt => (x.e = 0 ∧ x.pos = 0 ∧ chainF x.g l t least depth x.i x.m = some r ∧ x.i ≤ t.length ∧ x.g ≤ f ∨ (x.e == 0) = false ∧ r = .error ⟨x.e, x.pos⟩))
      (fun x => ⟨(((((base.put (some 0) (.ptr b 0)).put (some 1) (I least)).put (some 2) (I depth)).put (some 6) (.ptr σ.length 0)).put (some 7) (.ptr (σ.length + 1) 0)), σ.set b (rst l t x.i x.e x.pos) ++ [.cells [I 0, S [], I 0, .csl [], I 0, B false, S [], I 0, I 0, I 0], .cells (rmadeV x.m).cellsV]⟩)
      (fun x => if x.e = 0 then x.g + 1 else 0) x0 hinv0 ?_ (fun x hx => ?_)
    · simp only [go_sem, ↓reduceIte, Nat.reduceEqDiff, Nat.reduceAdd, Nat.reduceSub, Nat.reduceMul, Nat.reduceLeDiff, Nat.reduceBEq, reduceCtorEq, Int.reduceLT, Int.reduceLE, Int.reduceToNat, Int.reduceAdd, Int.reduceSub, Int.reduceBEq, Int.reduceBNe, hm0, rmade_none]
      (refine Lew.env ?_; (repeat' (first | exact LeE.base _ | (refine LeE.put ?_ (by first | exact V.wk.rfl _ | exact V.wk.osl _ _ | exact V.wk.csl _)))))
    · obtain ⟨g, m, i', e, pos⟩ := x
      simp only at hx
      rcases hx with ⟨rfl, rfl, hx, hi', hg⟩ | ⟨he, rfl⟩
      · obtain ⟨g', rfl⟩ : ∃ g', g = g' + 1 := by
          cases g with
          | zero => simp [chainF] at hx
          | succ g' => exact ⟨g', rfl⟩
        rw [chainF_eq] at hx
        ((first | refine W.advO 5000 _ _ ?_ | skip); simp only [go_sem, ↓reduceIte, Nat.reduceEqDiff, Nat.reduceAdd, Nat.reduceSub, Nat.reduceMul, Nat.reduceLeDiff, Nat.reduceBEq, reduceCtorEq, Int.reduceLT, Int.reduceLE, Int.reduceToNat, Int.reduceAdd, Int.reduceSub, Int.reduceBEq, Int.reduceBNe, hG' hb, rst, rmadeV])
        refine W.yes rfl ?_
        ((first | refine W.advO 5000 _ _ ?_ | skip); simp only [go_sem, ↓reduceIte, Nat.reduceEqDiff, Nat.reduceAdd, Nat.reduceSub, Nat.reduceMul, Nat.reduceLeDiff, Nat.reduceBEq, reduceCtorEq, Int.reduceLT, Int.reduceLE, Int.reduceToNat, Int.reduceAdd, Int.reduceSub, Int.reduceBEq, Int.reduceBNe])
        apply W.dregE (List.cons_ne_nil _ _)
        case hc =>
          (apply CanonE.advPO; simp only [advPO_nil, advPO_loud, advPO_quiet, pL_yes, pL_no, pLS_some, pLS_none, pQ_yes, pQ_no, pQS_some, pQS_loud, eq_self, Nat.sub_zero, go_sem, ↓reduceIte, Nat.reduceEqDiff, Nat.reduceAdd, Nat.reduceSub, Nat.reduceMul, Nat.reduceLeDiff, Nat.reduceBEq, reduceCtorEq, Int.reduceLT, Int.reduceLE, Int.reduceToNat, Int.reduceAdd, Int.reduceSub, Int.reduceBEq, Int.reduceBNe, hG' hb])
          (apply CanonE.pcall (fun τ => ref03_Tok w0 t i' τ); (case hg => rfl); (case hf => rfl); (case ha => first | rfl | simp))
          (apply CanonE.advPO; simp only [advPO_nil, advPO_loud, advPO_quiet, pL_yes, pL_no, pLS_some, pLS_none, pQ_yes, pQ_no, pQS_some, pQS_loud, eq_self, Nat.sub_zero, go_sem, ↓reduceIte, Nat.reduceEqDiff, Nat.reduceAdd, Nat.reduceSub, Nat.reduceMul, Nat.reduceLeDiff, Nat.reduceBEq, reduceCtorEq, Int.reduceLT, Int.reduceLE, Int.reduceToNat, Int.reduceAdd, Int.reduceSub, Int.reduceBEq, Int.reduceBNe])
          exact CanonE.nil
        ((first | refine W.advO 5000 _ _ ?_ | skip); simp only [go_sem, ↓reduceIte, Nat.reduceEqDiff, Nat.reduceAdd, Nat.reduceSub, Nat.reduceMul, Nat.reduceLeDiff, Nat.reduceBEq, reduceCtorEq, Int.reduceLT, Int.reduceLE, Int.reduceToNat, Int.reduceAdd, Int.reduceSub, Int.reduceBEq, Int.reduceBNe])
        apply W.dregE (List.cons_ne_nil _ _)
        case hc =>
          (apply CanonE.advPO; simp only [advPO_nil, advPO_loud, advPO_quiet, pL_yes, pL_no, pLS_some, pLS_none, pQ_yes, pQ_no, pQS_some, pQS_loud, eq_self, Nat.sub_zero, go_sem, ↓reduceIte, Nat.reduceEqDiff, Nat.reduceAdd, Nat.reduceSub, Nat.reduceMul, Nat.reduceLeDiff, Nat.reduceBEq, reduceCtorEq, Int.reduceLT, Int.reduceLE, Int.reduceToNat, Int.reduceAdd, Int.reduceSub, Int.reduceBEq, Int.reduceBNe, hG' hb])
          (apply CanonE.pcall (fun τ => ref02_Is w0 l (tokL t i') τ); (case hg => rfl); (case hf => rfl); (case ha => first | rfl | simp))
          (apply CanonE.advPO; simp only [advPO_nil, advPO_loud, advPO_quiet, pL_yes, pL_no, pLS_some, pLS_none, pQ_yes, pQ_no, pQS_some, pQS_loud, eq_self, Nat.sub_zero, go_sem, ↓reduceIte, Nat.reduceEqDiff, Nat.reduceAdd, Nat.reduceSub, Nat.reduceMul, Nat.reduceLeDiff, Nat.reduceBEq, reduceCtorEq, Int.reduceLT, Int.reduceLE, Int.reduceToNat, Int.reduceAdd, Int.reduceSub, Int.reduceBEq, Int.reduceBNe, foundV])
          exact CanonE.nil
        cases ho : opOf l (tokL t i') with
        | none =>
          rw [ho] at hx
          injection hx with hx
          subst hx
          ((first | refine W.advO 5000 _ _ ?_ | skip); simp only [go_sem, ↓reduceIte, Nat.reduceEqDiff, Nat.reduceAdd, Nat.reduceSub, Nat.reduceMul, Nat.reduceLeDiff, Nat.reduceBEq, reduceCtorEq, Int.reduceLT, Int.reduceLE, Int.reduceToNat, Int.reduceAdd, Int.reduceSub, Int.reduceBEq, Int.reduceBNe, ho, Option.isSome_none, Option.getD_none])
          refine W.yes rfl ?_
          ((first | refine W.advO 5000 _ _ ?_ | skip); simp only [go_sem, ↓reduceIte, Nat.reduceEqDiff, Nat.reduceAdd, Nat.reduceSub, Nat.reduceMul, Nat.reduceLeDiff, Nat.reduceBEq, reduceCtorEq, Int.reduceLT, Int.reduceLE, Int.reduceToNat, Int.reduceAdd, Int.reduceSub, Int.reduceBEq, Int.reduceBNe])
          (refine W.ret (Fin.gen (d := rmadeV m) (rst_ok hok b l t i' 0 0) (by (first | rfl | exact List.length_set .. | simp)) (by simp only [resEval, r38, go_sem, ↓reduceIte, Nat.reduceEqDiff, Nat.reduceAdd, Nat.reduceSub, Nat.reduceMul, Nat.reduceLeDiff, Nat.reduceBEq, reduceCtorEq, Int.reduceLT, Int.reduceLE, Int.reduceToNat, Int.reduceAdd, Int.reduceSub, Int.reduceBEq, Int.reduceBNe, rmadeV]; rfl) (by simp only [resV, I, S, B, Pre.v, OpT.v, Tok.v, k_mk, name_mk, n_mk, l_mk, pos_mk, Pre.app, List.map_cons, List.map_nil, Pre.cs_eq, rmadeV]; (repeat' (first | exact V.wk.rfl _ | exact V.wk.csl _ | exact V.wk.osl _ _ | exact wk_agg_nil | exact wk_tup_nil | refine wk_agg_cons ?_ ?_ | refine wk_tup_cons ?_ ?_))) (by (first | exact .c _ | (simp only [I, S, B, opsC, toksC, Pre.v, Tok.v, OpT.v, low_c, low_void, low_any, low_csl, low_nilf, low_ptr, low_osl, low_agg, low_tup, low_fn, List.forall_mem_cons, List.not_mem_nil, false_implies, implies_true, and_self, and_true, true_and, rmadeV]; done))) (by (first | rfl | exact (List.append_nil _).symm)) ?_))
          exact ⟨rfl, rfl⟩
        | some o =>
          rw [ho] at hx
          simp only at hx
          have hil : i' < t.length := opOf_lt ho
          have hw : IntKind.i64.wrap ((i' : Int) + 1) = ((i' + 1 : Nat) : Int) := by rw [wrap_in] <;> omega
          by_cases hp : o.prec < least
          · rw [if_pos hp] at hx
            injection hx with hx
            subst hx
            ((first | refine W.advO 5000 _ _ ?_ | skip); simp only [go_sem, ↓reduceIte, Nat.reduceEqDiff, Nat.reduceAdd, Nat.reduceSub, Nat.reduceMul, Nat.reduceLeDiff, Nat.reduceBEq, reduceCtorEq, Int.reduceLT, Int.reduceLE, Int.reduceToNat, Int.reduceAdd, Int.reduceSub, Int.reduceBEq, Int.reduceBNe, ho, Option.isSome_some, Option.getD_some, hp])
            refine W.yes rfl ?_
            ((first | refine W.advO 5000 _ _ ?_ | skip); simp only [go_sem, ↓reduceIte, Nat.reduceEqDiff, Nat.reduceAdd, Nat.reduceSub, Nat.reduceMul, Nat.reduceLeDiff, Nat.reduceBEq, reduceCtorEq, Int.reduceLT, Int.reduceLE, Int.reduceToNat, Int.reduceAdd, Int.reduceSub, Int.reduceBEq, Int.reduceBNe])
            (refine W.ret (Fin.gen (d := rmadeV m) (rst_ok hok b l t i' 0 0) (by (first | rfl | exact List.length_set .. | simp)) (by simp only [resEval, r38, go_sem, ↓reduceIte, Nat.reduceEqDiff, Nat.reduceAdd, Nat.reduceSub, Nat.reduceMul, Nat.reduceLeDiff, Nat.reduceBEq, reduceCtorEq, Int.reduceLT, Int.reduceLE, Int.reduceToNat, Int.reduceAdd, Int.reduceSub, Int.reduceBEq, Int.reduceBNe, rmadeV]; rfl) (by simp only [resV, I, S, B, Pre.v, OpT.v, Tok.v, k_mk, name_mk, n_mk, l_mk, pos_mk, Pre.app, List.map_cons, List.map_nil, Pre.cs_eq, rmadeV]; (repeat' (first | exact V.wk.rfl _ | exact V.wk.csl _ | exact V.wk.osl _ _ | exact wk_agg_nil | exact wk_tup_nil | refine wk_agg_cons ?_ ?_ | refine wk_tup_cons ?_ ?_))) (by (first | exact .c _ | (simp only [I, S, B, opsC, toksC, Pre.v, Tok.v, OpT.v, low_c, low_void, low_any, low_csl, low_nilf, low_ptr, low_osl, low_agg, low_tup, low_fn, List.forall_mem_cons, List.not_mem_nil, false_implies, implies_true, and_self, and_true, true_and, rmadeV]; done))) (by (first | rfl | exact (List.append_nil _).symm)) ?_))
            exact ⟨rfl, rfl⟩
          · rw [if_neg hp] at hx
            ((first | refine W.advO 5000 _ _ ?_ | skip); simp only [go_sem, ↓reduceIte, Nat.reduceEqDiff, Nat.reduceAdd, Nat.reduceSub, Nat.reduceMul, Nat.reduceLeDiff, Nat.reduceBEq, reduceCtorEq, Int.reduceLT, Int.reduceLE, Int.reduceToNat, Int.reduceAdd, Int.reduceSub, Int.reduceBEq, Int.reduceBNe, ho, Option.isSome_some, Option.getD_some, hp])
            refine W.no rfl ?_
            rw [clash_eq] at hx
            have three : m.by_.isSome = false ∨ (m.by_.isSome = true ∧ besideL o (byO m) 1 = true) ∨ (m.by_.isSome = true ∧ besideL o (byO m) 1 = false) := by
              cases m.by_.isSome <;> cases besideL o (byO m) 1 <;> simp
            rcases three with hs | ⟨hs, hbes⟩ | ⟨hs, hbes⟩
            rotate_left 2
            · rw [if_pos (by rw [hs, hbes]; rfl)] at hx
              injection hx with hx
              subst hx
              ((first | refine W.advO 5000 _ _ ?_ | skip); simp only [go_sem, ↓reduceIte, Nat.reduceEqDiff, Nat.reduceAdd, Nat.reduceSub, Nat.reduceMul, Nat.reduceLeDiff, Nat.reduceBEq, reduceCtorEq, Int.reduceLT, Int.reduceLE, Int.reduceToNat, Int.reduceAdd, Int.reduceSub, Int.reduceBEq, Int.reduceBNe, hs])
              (refine W.call1 (ref02_Left w0 o (byO m) _) rfl rfl (by first | rfl | simp) ?_; refine W.advO 5000 _ _ ?_; simp only [go_sem, ↓reduceIte, Nat.reduceEqDiff, Nat.reduceAdd, Nat.reduceSub, Nat.reduceMul, Nat.reduceLeDiff, Nat.reduceBEq, reduceCtorEq, Int.reduceLT, Int.reduceLE, Int.reduceToNat, Int.reduceAdd, Int.reduceSub, Int.reduceBEq, Int.reduceBNe, hbes])
              refine W.yes rfl ?_
              ((first | refine W.advO 5000 _ _ ?_ | skip); simp only [go_sem, ↓reduceIte, Nat.reduceEqDiff, Nat.reduceAdd, Nat.reduceSub, Nat.reduceMul, Nat.reduceLeDiff, Nat.reduceBEq, reduceCtorEq, Int.reduceLT, Int.reduceLE, Int.reduceToNat, Int.reduceAdd, Int.reduceSub, Int.reduceBEq, Int.reduceBNe])
              (refine W.call1 (ref03_fail w0 l t i' 32 (tokL t i').pos _ b (hG' hb _ _)) rfl rfl (by first | rfl | simp) ?_; refine W.advO 5000 _ _ ?_; simp only [go_sem, ↓reduceIte, Nat.reduceEqDiff, Nat.reduceAdd, Nat.reduceSub, Nat.reduceMul, Nat.reduceLeDiff, Nat.reduceBEq, reduceCtorEq, Int.reduceLT, Int.reduceLE, Int.reduceToNat, Int.reduceAdd, Int.reduceSub, Int.reduceBEq, Int.reduceBNe, hS' hb])
              (refine W.ret (Fin.gen (d := rmadeV ⟨Pre.none, none⟩) (rst_ok hok b l t i' 32 (tokL t i').pos) (by (first | rfl | exact List.length_set .. | simp)) (by simp only [resEval, r38, go_sem, ↓reduceIte, Nat.reduceEqDiff, Nat.reduceAdd, Nat.reduceSub, Nat.reduceMul, Nat.reduceLeDiff, Nat.reduceBEq, reduceCtorEq, Int.reduceLT, Int.reduceLE, Int.reduceToNat, Int.reduceAdd, Int.reduceSub, Int.reduceBEq, Int.reduceBNe, rmade_none, Pre.none]; rfl) (by simp only [resV, I, S, B, Pre.v, OpT.v, Tok.v, k_mk, name_mk, n_mk, l_mk, pos_mk, Pre.app, List.map_cons, List.map_nil, Pre.cs_eq, rmade_none, Pre.none]; (repeat' (first | exact V.wk.rfl _ | exact V.wk.csl _ | exact V.wk.osl _ _ | exact wk_agg_nil | exact wk_tup_nil | refine wk_agg_cons ?_ ?_ | refine wk_tup_cons ?_ ?_))) (by (first | exact .c _ | (simp only [I, S, B, opsC, toksC, Pre.v, Tok.v, OpT.v, low_c, low_void, low_any, low_csl, low_nilf, low_ptr, low_osl, low_agg, low_tup, low_fn, List.forall_mem_cons, List.not_mem_nil, false_implies, implies_true, and_self, and_true, true_and, rmade_none, Pre.none]; done))) (by (first | rfl | exact (List.append_nil _).symm)) ?_))
              exact ⟨rfl, ⟨Pre.none, none⟩, i', rfl, rfl⟩
            all_goals
              rw [if_neg (by first | (rw [hs, hbes]; decide) | simp [hs])] at hx
            all_goals first
              | (((first | refine W.advO 5000 _ _ ?_ | skip); simp only [go_sem, ↓reduceIte, Nat.reduceEqDiff, Nat.reduceAdd, Nat.reduceSub, Nat.reduceMul, Nat.reduceLeDiff, Nat.reduceBEq, reduceCtorEq, Int.reduceLT, Int.reduceLE, Int.reduceToNat, Int.reduceAdd, Int.reduceSub, Int.reduceBEq, Int.reduceBNe, hs])
                 (refine W.call1 (ref02_Left w0 o (byO m) _) rfl rfl (by first | rfl | simp) ?_; refine W.advO 5000 _ _ ?_; simp only [go_sem, ↓reduceIte, Nat.reduceEqDiff, Nat.reduceAdd, Nat.reduceSub, Nat.reduceMul, Nat.reduceLeDiff, Nat.reduceBEq, reduceCtorEq, Int.reduceLT, Int.reduceLE, Int.reduceToNat, Int.reduceAdd, Int.reduceSub, Int.reduceBEq, Int.reduceBNe, hbes])
                 refine W.no rfl ?_)
              | (((first | refine W.advO 5000 _ _ ?_ | skip); simp only [go_sem, ↓reduceIte, Nat.reduceEqDiff, Nat.reduceAdd, Nat.reduceSub, Nat.reduceMul, Nat.reduceLeDiff, Nat.reduceBEq, reduceCtorEq, Int.reduceLT, Int.reduceLE, Int.reduceToNat, Int.reduceAdd, Int.reduceSub, Int.reduceBEq, Int.reduceBNe, hs])
                 refine W.no rfl ?_)
            all_goals
              ((first | refine W.advO 5000 _ _ ?_ | skip); simp only [go_sem, ↓reduceIte, Nat.reduceEqDiff, Nat.reduceAdd, Nat.reduceSub, Nat.reduceMul, Nat.reduceLeDiff, Nat.reduceBEq, reduceCtorEq, Int.reduceLT, Int.reduceLE, Int.reduceToNat, Int.reduceAdd, Int.reduceSub, Int.reduceBEq, Int.reduceBNe])
              rw [innerF] at hx
              by_cases hdd : 200 ≤ depth
              · rw [if_pos hdd] at hx
                injection hx with hx
                subst hx
                (refine W.call1 (ref03_deep_no w0 l t i' depth (tokL t i').pos _ b (hG' hb _ _) hdd (by omega)) rfl rfl (by first | rfl | simp) ?_; refine W.advO 5000 _ _ ?_; simp only [go_sem, ↓reduceIte, Nat.reduceEqDiff, Nat.reduceAdd, Nat.reduceSub, Nat.reduceMul, Nat.reduceLeDiff, Nat.reduceBEq, reduceCtorEq, Int.reduceLT, Int.reduceLE, Int.reduceToNat, Int.reduceAdd, Int.reduceSub, Int.reduceBEq, Int.reduceBNe, hS' hb])
                refine W.yes rfl ?_
                ((first | refine W.advO 5000 _ _ ?_ | skip); simp only [go_sem, ↓reduceIte, Nat.reduceEqDiff, Nat.reduceAdd, Nat.reduceSub, Nat.reduceMul, Nat.reduceLeDiff, Nat.reduceBEq, reduceCtorEq, Int.reduceLT, Int.reduceLE, Int.reduceToNat, Int.reduceAdd, Int.reduceSub, Int.reduceBEq, Int.reduceBNe])
                (refine W.ret (Fin.gen (d := rmadeV ⟨Pre.none, none⟩) (rst_ok hok b l t i' 31 (tokL t i').pos) (by (first | rfl | exact List.length_set .. | simp)) (by simp only [resEval, r38, go_sem, ↓reduceIte, Nat.reduceEqDiff, Nat.reduceAdd, Nat.reduceSub, Nat.reduceMul, Nat.reduceLeDiff, Nat.reduceBEq, reduceCtorEq, Int.reduceLT, Int.reduceLE, Int.reduceToNat, Int.reduceAdd, Int.reduceSub, Int.reduceBEq, Int.reduceBNe, rmade_none, Pre.none]; rfl) (by simp only [resV, I, S, B, Pre.v, OpT.v, Tok.v, k_mk, name_mk, n_mk, l_mk, pos_mk, Pre.app, List.map_cons, List.map_nil, Pre.cs_eq, rmade_none, Pre.none]; (repeat' (first | exact V.wk.rfl _ | exact V.wk.csl _ | exact V.wk.osl _ _ | exact wk_agg_nil | exact wk_tup_nil | refine wk_agg_cons ?_ ?_ | refine wk_tup_cons ?_ ?_))) (by (first | exact .c _ | (simp only [I, S, B, opsC, toksC, Pre.v, Tok.v, OpT.v, low_c, low_void, low_any, low_csl, low_nilf, low_ptr, low_osl, low_agg, low_tup, low_fn, List.forall_mem_cons, List.not_mem_nil, false_implies, implies_true, and_self, and_true, true_and, rmade_none, Pre.none]; done))) (by (first | rfl | exact (List.append_nil _).symm)) ?_))
                exact ⟨rfl, ⟨Pre.none, none⟩, i', rfl, rfl⟩
              · rw [if_neg hdd] at hx
                (refine W.call1 (ref03_deep_yes w0 depth (.ptr b 0) (tokL t i').pos _ (by omega)) rfl rfl (by first | rfl | simp) ?_; refine W.advO 5000 _ _ ?_; simp only [go_sem, ↓reduceIte, Nat.reduceEqDiff, Nat.reduceAdd, Nat.reduceSub, Nat.reduceMul, Nat.reduceLeDiff, Nat.reduceBEq, reduceCtorEq, Int.reduceLT, Int.reduceLE, Int.reduceToNat, Int.reduceAdd, Int.reduceSub, Int.reduceBEq, Int.reduceBNe])
                refine W.no rfl ?_
                ((first | refine W.advO 5000 _ _ ?_ | skip); simp only [go_sem, ↓reduceIte, Nat.reduceEqDiff, Nat.reduceAdd, Nat.reduceSub, Nat.reduceMul, Nat.reduceLeDiff, Nat.reduceBEq, reduceCtorEq, Int.reduceLT, Int.reduceLE, Int.reduceToNat, Int.reduceAdd, Int.reduceSub, Int.reduceBEq, Int.reduceBNe, hG' hb, hS' hb, rst, hw])
                have hin := fun y σx (hb' : σx[b]? = some (rst l t (i' + 1) 0 0)) (hr : exprF g' l t (nextL o) (depth + 1) (i' + 1) = some y) => hE g' (by omega) l t (nextL o) (depth + 1) (i' + 1) y σx b hr hb' (by omega) ht (by omega)
                have two : (nextL o = IntKind.i64.wrap (o.prec + 1) ∧ (o.fix == 2) = false) ∨ (nextL o = o.prec ∧ (o.fix == 2) = true) := by
                  rw [nextL]
                  cases h : (o.fix == 2)
                  · exact .inl ⟨if_neg (by simpa using h), rfl⟩
                  · exact .inr ⟨if_pos (by simpa using h), rfl⟩
                rcases two with ⟨hn, hfix⟩ | ⟨hn, hfix⟩
                all_goals first
                  | (((first | refine W.advO 5000 _ _ ?_ | skip); simp only [go_sem, ↓reduceIte, Nat.reduceEqDiff, Nat.reduceAdd, Nat.reduceSub, Nat.reduceMul, Nat.reduceLeDiff, Nat.reduceBEq, reduceCtorEq, Int.reduceLT, Int.reduceLE, Int.reduceToNat, Int.reduceAdd, Int.reduceSub, Int.reduceBEq, Int.reduceBNe, hfix])
                     refine W.no rfl ?_)
                  | (((first | refine W.advO 5000 _ _ ?_ | skip); simp only [go_sem, ↓reduceIte, Nat.reduceEqDiff, Nat.reduceAdd, Nat.reduceSub, Nat.reduceMul, Nat.reduceLeDiff, Nat.reduceBEq, reduceCtorEq, Int.reduceLT, Int.reduceLE, Int.reduceToNat, Int.reduceAdd, Int.reduceSub, Int.reduceBEq, Int.reduceBNe, hfix])
                     refine W.yes rfl ?_)
                all_goals
                  ((first | refine W.advO 5000 _ _ ?_ | skip); simp only [go_sem, ↓reduceIte, Nat.reduceEqDiff, Nat.reduceAdd, Nat.reduceSub, Nat.reduceMul, Nat.reduceLeDiff, Nat.reduceBEq, reduceCtorEq, Int.reduceLT, Int.reduceLE, Int.reduceToNat, Int.reduceAdd, Int.reduceSub, Int.reduceBEq, Int.reduceBNe, hwd])
                  rw [hn] at hin
                  cases hr : exprF g' l t (nextL o) (depth + 1) (i' + 1) with
                  | none => rw [hr] at hx; cases hx
                  | some y =>
                    rw [hr] at hx
                    rw [hn] at hr
                    (refine W.call (hin y _ (hG' hb _ _) hr) rfl rfl (by first | rfl | simp) ?_)
                    intro v σ1 hR
                    cases y with
                    | error x =>
                      injection hx with hx
                      subst hx
                      obtain ⟨he, m', j, rfl, rfl⟩ := hR
                      have hen : (x.e != 0) = true := by rw [bne, he]; rfl
                      ((first | refine W.advO 5000 _ _ ?_ | skip); simp only [go_sem, ↓reduceIte, Nat.reduceEqDiff, Nat.reduceAdd, Nat.reduceSub, Nat.reduceMul, Nat.reduceLeDiff, Nat.reduceBEq, reduceCtorEq, Int.reduceLT, Int.reduceLE, Int.reduceToNat, Int.reduceAdd, Int.reduceSub, Int.reduceBEq, Int.reduceBNe, hS' hb, hG' hb, rmadeV, rst, hen])
                      refine W.yes rfl ?_
                      ((first | refine W.advO 5000 _ _ ?_ | skip); simp only [go_sem, ↓reduceIte, Nat.reduceEqDiff, Nat.reduceAdd, Nat.reduceSub, Nat.reduceMul, Nat.reduceLeDiff, Nat.reduceBEq, reduceCtorEq, Int.reduceLT, Int.reduceLE, Int.reduceToNat, Int.reduceAdd, Int.reduceSub, Int.reduceBEq, Int.reduceBNe])
                      (refine W.ret (Fin.gen (d := rmadeV ⟨Pre.none, none⟩) (rst_ok hok b l t j x.e x.pos) (by (first | rfl | exact List.length_set .. | simp)) (by simp only [resEval, r38, go_sem, ↓reduceIte, Nat.reduceEqDiff, Nat.reduceAdd, Nat.reduceSub, Nat.reduceMul, Nat.reduceLeDiff, Nat.reduceBEq, reduceCtorEq, Int.reduceLT, Int.reduceLE, Int.reduceToNat, Int.reduceAdd, Int.reduceSub, Int.reduceBEq, Int.reduceBNe, rmade_none, Pre.none]; rfl) (by simp only [resV, I, S, B, Pre.v, OpT.v, Tok.v, k_mk, name_mk, n_mk, l_mk, pos_mk, Pre.app, List.map_cons, List.map_nil, Pre.cs_eq, rmade_none, Pre.none]; (repeat' (first | exact V.wk.rfl _ | exact V.wk.csl _ | exact V.wk.osl _ _ | exact wk_agg_nil | exact wk_tup_nil | refine wk_agg_cons ?_ ?_ | refine wk_tup_cons ?_ ?_))) (by (first | exact .c _ | (simp only [I, S, B, opsC, toksC, Pre.v, Tok.v, OpT.v, low_c, low_void, low_any, low_csl, low_nilf, low_ptr, low_osl, low_agg, low_tup, low_fn, List.forall_mem_cons, List.not_mem_nil, false_implies, implies_true, and_self, and_true, true_and, rmade_none, Pre.none]; done))) (by (first | rfl | exact (List.append_nil _).symm)) ?_))
                      exact ⟨he, ⟨Pre.none, none⟩, j, rfl, rfl⟩
                    | ok y =>
                      obtain ⟨m', j⟩ := y
                      obtain ⟨rfl, rfl⟩ := hR
                      have hj := ((fuel_bounds g').2.2.1 _ _ _ _ _ _ _ hr).2
                      simp only at hx
                      ((first | refine W.advO 5000 _ _ ?_ | skip); simp only [go_sem, ↓reduceIte, Nat.reduceEqDiff, Nat.reduceAdd, Nat.reduceSub, Nat.reduceMul, Nat.reduceLeDiff, Nat.reduceBEq, reduceCtorEq, Int.reduceLT, Int.reduceLE, Int.reduceToNat, Int.reduceAdd, Int.reduceSub, Int.reduceBEq, Int.reduceBNe, hS' hb, hG' hb, rmadeV, rst])
                      refine W.no rfl ?_
                      ((first | refine W.advO 5000 _ _ ?_ | skip); simp only [go_sem, ↓reduceIte, Nat.reduceEqDiff, Nat.reduceAdd, Nat.reduceSub, Nat.reduceMul, Nat.reduceLeDiff, Nat.reduceBEq, reduceCtorEq, Int.reduceLT, Int.reduceLE, Int.reduceToNat, Int.reduceAdd, Int.reduceSub, Int.reduceBEq, Int.reduceBNe])
                      cases hby' : m'.by_ with
                      | none =>
                        rw [hby'] at hx
                        ((first | refine W.advO 5000 _ _ ?_ | skip); simp only [go_sem, ↓reduceIte, Nat.reduceEqDiff, Nat.reduceAdd, Nat.reduceSub, Nat.reduceMul, Nat.reduceLeDiff, Nat.reduceBEq, reduceCtorEq, Int.reduceLT, Int.reduceLE, Int.reduceToNat, Int.reduceAdd, Int.reduceSub, Int.reduceBEq, Int.reduceBNe, hby', Option.isSome_none])
                        refine W.no rfl ?_
                        ((first | refine W.advO 5000 _ _ ?_ | skip); simp only [go_sem, ↓reduceIte, Nat.reduceEqDiff, Nat.reduceAdd, Nat.reduceSub, Nat.reduceMul, Nat.reduceLeDiff, Nat.reduceBEq, reduceCtorEq, Int.reduceLT, Int.reduceLE, Int.reduceToNat, Int.reduceAdd, Int.reduceSub, Int.reduceBEq, Int.reduceBNe])
                        refine .inv ⟨⟨g', ⟨applyL o (tokL t i').pos m.p m'.p, some (o, (tokL t i').pos)⟩, j, 0, 0⟩, .inl ⟨rfl, rfl, hx, hj, Nat.le_of_succ_le hg⟩, by simp, ?_⟩
                        simp only [go_sem, ↓reduceIte, Nat.reduceEqDiff, Nat.reduceAdd, Nat.reduceSub, Nat.reduceMul, Nat.reduceLeDiff, Nat.reduceBEq, reduceCtorEq, Int.reduceLT, Int.reduceLE, Int.reduceToNat, Int.reduceAdd, Int.reduceSub, Int.reduceBEq, Int.reduceBNe, rmadeV, byO_mk, byP_mk, Option.isSome_some]
                        (refine Lew.cutL (rst_ok hok b l t j 0 0) ?_ (by simp) (by simp) ?_ ?_ ?_; (repeat' (first | exact LeE.base _ | (refine LeE.put ?_ (by first | exact V.wk.rfl _ | exact V.wk.osl _ _ | exact V.wk.csl _)))); ((try simp only [List.length_cons, List.length_nil, List.length_set, List.length_append, Nat.reduceAdd, List.take_succ_cons, List.take_zero, okB, wkB, I, S, B, opsC, toksC, Pre.v, Tok.v, OpT.v, low_c, low_void, low_any, low_csl, low_nilf, low_ptr, low_osl, low_agg, low_tup, low_fn, List.forall_mem_cons, List.not_mem_nil, false_implies, implies_true, and_self, and_true, true_and]) <;> omega); (simp only [List.length_cons, List.length_nil, Nat.reduceAdd, List.take_succ_cons, List.take_zero, wkB, and_true]; (repeat' (refine And.intro ?_ ?_)) <;> (first | exact Blk.wk.rfl _ | (refine Blk.wk_cells ?_ rfl; (repeat' (first | exact V.wk.rfl _ | exact V.wk.csl _ | exact V.wk.osl _ _ | exact wk_agg_nil | exact wk_tup_nil | refine wk_agg_cons ?_ ?_ | refine wk_tup_cons ?_ ?_))))); (repeat' (first | exact LowE.base _ | (refine LowE.put ?_ (by first | exact .c _ | ((try simp only [List.length_cons, List.length_nil, List.length_set, List.length_append, Nat.reduceAdd, List.take_succ_cons, List.take_zero, okB, wkB, I, S, B, opsC, toksC, Pre.v, Tok.v, OpT.v, low_c, low_void, low_any, low_csl, low_nilf, low_ptr, low_osl, low_agg, low_tup, low_fn, List.forall_mem_cons, List.not_mem_nil, false_implies, implies_true, and_self, and_true, true_and]) <;> omega))))))
                      | some y =>
                        obtain ⟨o2, p2⟩ := y
                        rw [hby'] at hx
                        simp only at hx
                        obtain ⟨hz1, hz2⟩ := byO_some hby'
                        cases hb2 : besideL o o2 2
                        · rw [if_neg (by rw [hb2]; decide)] at hx
                          injection hx with hx
                          subst hx
                          ((first | refine W.advO 5000 _ _ ?_ | skip); simp only [go_sem, ↓reduceIte, Nat.reduceEqDiff, Nat.reduceAdd, Nat.reduceSub, Nat.reduceMul, Nat.reduceLeDiff, Nat.reduceBEq, reduceCtorEq, Int.reduceLT, Int.reduceLE, Int.reduceToNat, Int.reduceAdd, Int.reduceSub, Int.reduceBEq, Int.reduceBNe, hby', hz1, hz2, Option.isSome_some])
                          (refine W.call1 (ref02_Right w0 o o2 _) rfl rfl (by first | rfl | simp) ?_; refine W.advO 5000 _ _ ?_; simp only [go_sem, ↓reduceIte, Nat.reduceEqDiff, Nat.reduceAdd, Nat.reduceSub, Nat.reduceMul, Nat.reduceLeDiff, Nat.reduceBEq, reduceCtorEq, Int.reduceLT, Int.reduceLE, Int.reduceToNat, Int.reduceAdd, Int.reduceSub, Int.reduceBEq, Int.reduceBNe, hb2])
                          refine W.yes rfl ?_
                          ((first | refine W.advO 5000 _ _ ?_ | skip); simp only [go_sem, ↓reduceIte, Nat.reduceEqDiff, Nat.reduceAdd, Nat.reduceSub, Nat.reduceMul, Nat.reduceLeDiff, Nat.reduceBEq, reduceCtorEq, Int.reduceLT, Int.reduceLE, Int.reduceToNat, Int.reduceAdd, Int.reduceSub, Int.reduceBEq, Int.reduceBNe])
                          (refine W.call1 (ref03_fail w0 l t j 32 p2 _ b (hG' hb _ _)) rfl rfl (by first | rfl | simp) ?_; refine W.advO 5000 _ _ ?_; simp only [go_sem, ↓reduceIte, Nat.reduceEqDiff, Nat.reduceAdd, Nat.reduceSub, Nat.reduceMul, Nat.reduceLeDiff, Nat.reduceBEq, reduceCtorEq, Int.reduceLT, Int.reduceLE, Int.reduceToNat, Int.reduceAdd, Int.reduceSub, Int.reduceBEq, Int.reduceBNe, hS' hb])
                          (refine W.ret (Fin.gen (d := rmadeV ⟨Pre.none, none⟩) (rst_ok hok b l t j 32 p2) (by (first | rfl | exact List.length_set .. | simp)) (by simp only [resEval, r38, go_sem, ↓reduceIte, Nat.reduceEqDiff, Nat.reduceAdd, Nat.reduceSub, Nat.reduceMul, Nat.reduceLeDiff, Nat.reduceBEq, reduceCtorEq, Int.reduceLT, Int.reduceLE, Int.reduceToNat, Int.reduceAdd, Int.reduceSub, Int.reduceBEq, Int.reduceBNe, rmade_none, Pre.none]; rfl) (by simp only [resV, I, S, B, Pre.v, OpT.v, Tok.v, k_mk, name_mk, n_mk, l_mk, pos_mk, Pre.app, List.map_cons, List.map_nil, Pre.cs_eq, rmade_none, Pre.none]; (repeat' (first | exact V.wk.rfl _ | exact V.wk.csl _ | exact V.wk.osl _ _ | exact wk_agg_nil | exact wk_tup_nil | refine wk_agg_cons ?_ ?_ | refine wk_tup_cons ?_ ?_))) (by (first | exact .c _ | (simp only [I, S, B, opsC, toksC, Pre.v, Tok.v, OpT.v, low_c, low_void, low_any, low_csl, low_nilf, low_ptr, low_osl, low_agg, low_tup, low_fn, List.forall_mem_cons, List.not_mem_nil, false_implies, implies_true, and_self, and_true, true_and, rmade_none, Pre.none]; done))) (by (first | rfl | exact (List.append_nil _).symm)) ?_))
                          exact ⟨rfl, ⟨Pre.none, none⟩, j, rfl, rfl⟩
                        · rw [if_pos hb2] at hx
                          ((first | refine W.advO 5000 _ _ ?_ | skip); simp only [go_sem, ↓reduceIte, Nat.reduceEqDiff, Nat.reduceAdd, Nat.reduceSub, Nat.reduceMul, Nat.reduceLeDiff, Nat.reduceBEq, reduceCtorEq, Int.reduceLT, Int.reduceLE, Int.reduceToNat, Int.reduceAdd, Int.reduceSub, Int.reduceBEq, Int.reduceBNe, hby', hz1, hz2, Option.isSome_some])
                          (refine W.call1 (ref02_Right w0 o o2 _) rfl rfl (by first | rfl | simp) ?_; refine W.advO 5000 _ _ ?_; simp only [go_sem, ↓reduceIte, Nat.reduceEqDiff, Nat.reduceAdd, Nat.reduceSub, Nat.reduceMul, Nat.reduceLeDiff, Nat.reduceBEq, reduceCtorEq, Int.reduceLT, Int.reduceLE, Int.reduceToNat, Int.reduceAdd, Int.reduceSub, Int.reduceBEq, Int.reduceBNe, hb2])
                          refine W.no rfl ?_
                          ((first | refine W.advO 5000 _ _ ?_ | skip); simp only [go_sem, ↓reduceIte, Nat.reduceEqDiff, Nat.reduceAdd, Nat.reduceSub, Nat.reduceMul, Nat.reduceLeDiff, Nat.reduceBEq, reduceCtorEq, Int.reduceLT, Int.reduceLE, Int.reduceToNat, Int.reduceAdd, Int.reduceSub, Int.reduceBEq, Int.reduceBNe])
                          refine .inv ⟨⟨g', ⟨applyL o (tokL t i').pos m.p m'.p, some (o, (tokL t i').pos)⟩, j, 0, 0⟩, .inl ⟨rfl, rfl, hx, hj, Nat.le_of_succ_le hg⟩, by simp, ?_⟩
                          simp only [go_sem, ↓reduceIte, Nat.reduceEqDiff, Nat.reduceAdd, Nat.reduceSub, Nat.reduceMul, Nat.reduceLeDiff, Nat.reduceBEq, reduceCtorEq, Int.reduceLT, Int.reduceLE, Int.reduceToNat, Int.reduceAdd, Int.reduceSub, Int.reduceBEq, Int.reduceBNe, rmadeV, byO_mk, byP_mk, Option.isSome_some]
                          (refine Lew.cutL (rst_ok hok b l t j 0 0) ?_ (by simp) (by simp) ?_ ?_ ?_; (repeat' (first | exact LeE.base _ | (refine LeE.put ?_ (by first | exact V.wk.rfl _ | exact V.wk.osl _ _ | exact V.wk.csl _)))); ((try simp only [List.length_cons, List.length_nil, List.length_set, List.length_append, Nat.reduceAdd, List.take_succ_cons, List.take_zero, okB, wkB, I, S, B, opsC, toksC, Pre.v, Tok.v, OpT.v, low_c, low_void, low_any, low_csl, low_nilf, low_ptr, low_osl, low_agg, low_tup, low_fn, List.forall_mem_cons, List.not_mem_nil, false_implies, implies_true, and_self, and_true, true_and]) <;> omega); (simp only [List.length_cons, List.length_nil, Nat.reduceAdd, List.take_succ_cons, List.take_zero, wkB, and_true]; (repeat' (refine And.intro ?_ ?_)) <;> (first | exact Blk.wk.rfl _ | (refine Blk.wk_cells ?_ rfl; (repeat' (first | exact V.wk.rfl _ | exact V.wk.csl _ | exact V.wk.osl _ _ | exact wk_agg_nil | exact wk_tup_nil | refine wk_agg_cons ?_ ?_ | refine wk_tup_cons ?_ ?_))))); (repeat' (first | exact LowE.base _ | (refine LowE.put ?_ (by first | exact .c _ | ((try simp only [List.length_cons, List.length_nil, List.length_set, List.length_append, Nat.reduceAdd, List.take_succ_cons, List.take_zero, okB, wkB, I, S, B, opsC, toksC, Pre.v, Tok.v, OpT.v, low_c, low_void, low_any, low_csl, low_nilf, low_ptr, low_osl, low_agg, low_tup, low_fn, List.forall_mem_cons, List.not_mem_nil, false_implies, implies_true, and_self, and_true, true_and]) <;> omega))))))
      · ((first | refine W.advO 5000 _ _ ?_ | skip); simp only [go_sem, ↓reduceIte, Nat.reduceEqDiff, Nat.reduceAdd, Nat.reduceSub, Nat.reduceMul, Nat.reduceLeDiff, Nat.reduceBEq, reduceCtorEq, Int.reduceLT, Int.reduceLE, Int.reduceToNat, Int.reduceAdd, Int.reduceSub, Int.reduceBEq, Int.reduceBNe, hG' hb, rst, he])
        refine W.no rfl ?_
        ((first | refine W.advO 5000 _ _ ?_ | skip); simp only [go_sem, ↓reduceIte, Nat.reduceEqDiff, Nat.reduceAdd, Nat.reduceSub, Nat.reduceMul, Nat.reduceLeDiff, Nat.reduceBEq, reduceCtorEq, Int.reduceLT, Int.reduceLE, Int.reduceToNat, Int.reduceAdd, Int.reduceSub, Int.reduceBEq, Int.reduceBNe])
        (refine W.ret (Fin.gen (d := rmadeV ⟨Pre.none, none⟩) (rst_ok hok b l t i' e pos) (by (first | rfl | exact List.length_set .. | simp)) (by simp only [resEval, r38, go_sem, ↓reduceIte, Nat.reduceEqDiff, Nat.reduceAdd, Nat.reduceSub, Nat.reduceMul, Nat.reduceLeDiff, Nat.reduceBEq, reduceCtorEq, Int.reduceLT, Int.reduceLE, Int.reduceToNat, Int.reduceAdd, Int.reduceSub, Int.reduceBEq, Int.reduceBNe, rmade_none, Pre.none]; rfl) (by simp only [resV, I, S, B, Pre.v, OpT.v, Tok.v, k_mk, name_mk, n_mk, l_mk, pos_mk, Pre.app, List.map_cons, List.map_nil, Pre.cs_eq, rmade_none, Pre.none]; (repeat' (first | exact V.wk.rfl _ | exact V.wk.csl _ | exact V.wk.osl _ _ | exact wk_agg_nil | exact wk_tup_nil | refine wk_agg_cons ?_ ?_ | refine wk_tup_cons ?_ ?_))) (by (first | exact .c _ | (simp only [I, S, B, opsC, toksC, Pre.v, Tok.v, OpT.v, low_c, low_void, low_any, low_csl, low_nilf, low_ptr, low_osl, low_agg, low_tup, low_fn, List.forall_mem_cons, List.not_mem_nil, false_implies, implies_true, and_self, and_true, true_and, rmade_none, Pre.none]; done))) (by (first | rfl | exact (List.append_nil _).symm)) ?_))
        exact ⟨he, ⟨Pre.none, none⟩, i', rfl, rfl⟩
end Go.Proofs.YtpgkhkojjklakaaGreatDoor
namespace Go.Proofs.YtpgkhkojjklakaaGreatDoor
open Go.RowKit Go.Lamb
attribute [local go_sem] advO_skip advO_reg advO_seq advO_block advO_exit advO_endb advO_opsNil advO_ops advG_yes advG_no advG_none advS_some advS_none advO_cond advO_loop advO_dreg advO_ret advO_bad advO_inv advO_nil advO_zero wantedV Lamb.step ev_t ev_k put_some put_none argEnv popTo cellsAt V.cellsV V.rows V.toC toCs fillV rowsV boundV boundL binV binInt binStr eqC eqL V.isNil leaves V.leaf Ins.quiet Ins.pure List.getD_cons_zero List.getD_cons_succ List.getD_nil List.all_cons List.all_nil List.length_cons List.length_nil List.take_succ_cons List.take_zero List.drop_succ_cons List.drop_zero List.cons_append List.nil_append List.append_nil List.append_assoc List.map_cons List.map_nil List.getElem?_cons_zero List.getElem?_cons_succ List.length_append List.length_set hget0 hget hset0 hset hsets hgs0 hgs hss0 hss List.set_cons_zero List.set_cons_succ List.forall_mem_cons List.not_mem_nil false_implies implies_true Option.map_some Bool.and_true Bool.true_and Bool.not_not Bool.not_true Bool.not_false Bool.and_self Bool.or_true Bool.true_or Bool.or_false Bool.false_or Bool.and_false Bool.false_and Bool.false_eq_true beq_self_eq_true and_self and_true true_and if_true if_false Nat.zero_add Nat.add_zero Nat.le_refl Int.toNat_natCast decide_true decide_false beq_t beq_f List.length_map List.getElem?_map I S B opsC toksC OpT.v OpT.cs OpT.zero Tok.v Tok.cs Pre.v Pre.cs_eq k_mk name_mk n_mk l_mk pos_mk Pre.app applyL natCast0 natCast1 natCast2

theorem ref03_all (w0 : World) : ∀ f, (∀ g, g ≤ f → QAtomOK w0 g) ∧ (∀ g, g ≤ f → QExprOK w0 g)
  | 0 => ⟨fun g hg => by
      have : g = 0 := by omega
      subst this
      intro l t depth i r σ b h
      simp [atomF] at h, fun g hg => by
      have : g = 0 := by omega
      subst this
      intro l t least depth i r σ b h
      simp [exprF] at h⟩
  | f + 1 => by
    obtain ⟨h1, h2⟩ := ref03_all w0 f
    refine ⟨fun g hg => ?_, fun g hg => ?_⟩
    · rcases Nat.lt_or_ge f g with h | h
      · have : g = f + 1 := by omega
        subst this
        exact ref03_Atom (h2 f (Nat.le_refl f))
      · exact h1 g h
    · rcases Nat.lt_or_ge f g with h | h
      · have : g = f + 1 := by omega
        subst this
        exact ref03_Expr h1 h2
      · exact h2 g h
theorem ref03_Read (w0 : World) (l : List OpT) (t : List Tok) (i : Nat) (r : Except Bad (Made × Nat)) (σ : H) (h : Lamb.Expr l t 0 0 i r) (hi : i ≤ t.length) (ht : t.length ≤ 1000000) :
    DC Tryz.prog w0 16 [.c (opsC l), .c (toksC t), I i] σ (Same (readV i r) σ) := by
  obtain ⟨f, h⟩ := h
  refine go16 rfl (fun hok hsz => ?_)
  ((first | refine W.advO 5000 _ _ ?_ | skip); simp only [go_sem, ↓reduceIte, Nat.reduceEqDiff, Nat.reduceAdd, Nat.reduceSub, Nat.reduceMul, Nat.reduceLeDiff, Nat.reduceBEq, reduceCtorEq, Int.reduceLT, Int.reduceLE, Int.reduceToNat, Int.reduceAdd, Int.reduceSub, Int.reduceBEq, Int.reduceBNe, c16])
  (refine W.call ((ref03_all w0 f).2 f (Nat.le_refl f) l t 0 0 i r _ (σ.length + 1) h (hget σ _ 1) hi ht (by omega)) rfl rfl (by first | rfl | simp) ?_)
  intro v σ1 hR
  cases r with
  | ok x =>
    obtain ⟨m, j⟩ := x
    obtain ⟨rfl, rfl⟩ := hR
    ((first | refine W.advO 5000 _ _ ?_ | skip); simp only [go_sem, ↓reduceIte, Nat.reduceEqDiff, Nat.reduceAdd, Nat.reduceSub, Nat.reduceMul, Nat.reduceLeDiff, Nat.reduceBEq, reduceCtorEq, Int.reduceLT, Int.reduceLE, Int.reduceToNat, Int.reduceAdd, Int.reduceSub, Int.reduceBEq, Int.reduceBNe, rmadeV, rst])
    refine W.no rfl ?_
    ((first | refine W.advO 5000 _ _ ?_ | skip); simp only [go_sem, ↓reduceIte, Nat.reduceEqDiff, Nat.reduceAdd, Nat.reduceSub, Nat.reduceMul, Nat.reduceLeDiff, Nat.reduceBEq, reduceCtorEq, Int.reduceLT, Int.reduceLE, Int.reduceToNat, Int.reduceAdd, Int.reduceSub, Int.reduceBEq, Int.reduceBNe])
    (apply W.dregE (List.cons_ne_nil _ _); case hc => ((apply CanonE.advPO; simp only [advPO_nil, advPO_loud, advPO_quiet, pL_yes, pL_no, pLS_some, pLS_none, pQ_yes, pQ_no, pQS_some, pQS_loud, eq_self, Nat.sub_zero, go_sem, ↓reduceIte, Nat.reduceEqDiff, Nat.reduceAdd, Nat.reduceSub, Nat.reduceMul, Nat.reduceLeDiff, Nat.reduceBEq, reduceCtorEq, Int.reduceLT, Int.reduceLE, Int.reduceToNat, Int.reduceAdd, Int.reduceSub, Int.reduceBEq, Int.reduceBNe, rst]); exact CanonE.nil))
    ((first | refine W.advO 5000 _ _ ?_ | skip); simp only [go_sem, ↓reduceIte, Nat.reduceEqDiff, Nat.reduceAdd, Nat.reduceSub, Nat.reduceMul, Nat.reduceLeDiff, Nat.reduceBEq, reduceCtorEq, Int.reduceLT, Int.reduceLE, Int.reduceToNat, Int.reduceAdd, Int.reduceSub, Int.reduceBEq, Int.reduceBNe])
    (refine W.ret (Fin.sameW (hok) (by (first | rfl | exact List.length_set .. | simp)) (by simp only [resEval, r16, go_sem, ↓reduceIte, Nat.reduceEqDiff, Nat.reduceAdd, Nat.reduceSub, Nat.reduceMul, Nat.reduceLeDiff, Nat.reduceBEq, reduceCtorEq, Int.reduceLT, Int.reduceLE, Int.reduceToNat, Int.reduceAdd, Int.reduceSub, Int.reduceBEq, Int.reduceBNe, readV]; rfl) ?_ (by (first | exact .c _ | (simp only [I, S, B, opsC, toksC, Pre.v, Tok.v, OpT.v, low_c, low_void, low_any, low_csl, low_nilf, low_ptr, low_osl, low_agg, low_tup, low_fn, List.forall_mem_cons, List.not_mem_nil, false_implies, implies_true, and_self, and_true, true_and, readV]; done))) (by (first | rfl | exact (List.append_nil _).symm))); simp only [resV, readV]; try exact V.wk.rfl _)
    (repeat' (first | exact V.wk.rfl _ | exact V.wk.csl _ | exact V.wk.osl _ _ | exact wk_agg_nil | exact wk_tup_nil | refine wk_agg_cons ?_ ?_ | refine wk_tup_cons ?_ ?_))
  | error x =>
    obtain ⟨he, m, j, rfl, rfl⟩ := hR
    have hen : (x.e != 0) = true := by rw [bne, he]; rfl
    ((first | refine W.advO 5000 _ _ ?_ | skip); simp only [go_sem, ↓reduceIte, Nat.reduceEqDiff, Nat.reduceAdd, Nat.reduceSub, Nat.reduceMul, Nat.reduceLeDiff, Nat.reduceBEq, reduceCtorEq, Int.reduceLT, Int.reduceLE, Int.reduceToNat, Int.reduceAdd, Int.reduceSub, Int.reduceBEq, Int.reduceBNe, rmadeV, rst, hen])
    refine W.yes rfl ?_
    ((first | refine W.advO 5000 _ _ ?_ | skip); simp only [go_sem, ↓reduceIte, Nat.reduceEqDiff, Nat.reduceAdd, Nat.reduceSub, Nat.reduceMul, Nat.reduceLeDiff, Nat.reduceBEq, reduceCtorEq, Int.reduceLT, Int.reduceLE, Int.reduceToNat, Int.reduceAdd, Int.reduceSub, Int.reduceBEq, Int.reduceBNe])
    (apply W.dregE (List.cons_ne_nil _ _); case hc => ((apply CanonE.advPO; simp only [advPO_nil, advPO_loud, advPO_quiet, pL_yes, pL_no, pLS_some, pLS_none, pQ_yes, pQ_no, pQS_some, pQS_loud, eq_self, Nat.sub_zero, go_sem, ↓reduceIte, Nat.reduceEqDiff, Nat.reduceAdd, Nat.reduceSub, Nat.reduceMul, Nat.reduceLeDiff, Nat.reduceBEq, reduceCtorEq, Int.reduceLT, Int.reduceLE, Int.reduceToNat, Int.reduceAdd, Int.reduceSub, Int.reduceBEq, Int.reduceBNe, rst]); exact CanonE.nil))
    ((first | refine W.advO 5000 _ _ ?_ | skip); simp only [go_sem, ↓reduceIte, Nat.reduceEqDiff, Nat.reduceAdd, Nat.reduceSub, Nat.reduceMul, Nat.reduceLeDiff, Nat.reduceBEq, reduceCtorEq, Int.reduceLT, Int.reduceLE, Int.reduceToNat, Int.reduceAdd, Int.reduceSub, Int.reduceBEq, Int.reduceBNe])
    (refine W.ret (Fin.sameW (hok) (by (first | rfl | exact List.length_set .. | simp)) (by simp only [resEval, r16, go_sem, ↓reduceIte, Nat.reduceEqDiff, Nat.reduceAdd, Nat.reduceSub, Nat.reduceMul, Nat.reduceLeDiff, Nat.reduceBEq, reduceCtorEq, Int.reduceLT, Int.reduceLE, Int.reduceToNat, Int.reduceAdd, Int.reduceSub, Int.reduceBEq, Int.reduceBNe, readV, Pre.none]; rfl) ?_ (by (first | exact .c _ | (simp only [I, S, B, opsC, toksC, Pre.v, Tok.v, OpT.v, low_c, low_void, low_any, low_csl, low_nilf, low_ptr, low_osl, low_agg, low_tup, low_fn, List.forall_mem_cons, List.not_mem_nil, false_implies, implies_true, and_self, and_true, true_and, readV, Pre.none]; done))) (by (first | rfl | exact (List.append_nil _).symm))); simp only [resV, readV, Pre.none]; try exact V.wk.rfl _)
    (repeat' (first | exact V.wk.rfl _ | exact V.wk.csl _ | exact V.wk.osl _ _ | exact wk_agg_nil | exact wk_tup_nil | refine wk_agg_cons ?_ ?_ | refine wk_tup_cons ?_ ?_))
end Go.Proofs.YtpgkhkojjklakaaGreatDoor
namespace Go.Proofs.YtpgkhkojjklakaaGreatDoor
open Go.RowKit Go.Lamb
attribute [local go_sem] advO_skip advO_reg advO_seq advO_block advO_exit advO_endb advO_opsNil advO_ops advG_yes advG_no advG_none advS_some advS_none advO_cond advO_loop advO_dreg advO_ret advO_bad advO_inv advO_nil advO_zero wantedV Lamb.step ev_t ev_k put_some put_none argEnv popTo cellsAt V.cellsV V.rows V.toC toCs fillV rowsV boundV boundL binV binInt binStr eqC eqL V.isNil leaves V.leaf Ins.quiet Ins.pure List.getD_cons_zero List.getD_cons_succ List.getD_nil List.all_cons List.all_nil List.length_cons List.length_nil List.take_succ_cons List.take_zero List.drop_succ_cons List.drop_zero List.cons_append List.nil_append List.append_nil List.append_assoc List.map_cons List.map_nil List.getElem?_cons_zero List.getElem?_cons_succ List.length_append List.length_set hget0 hget hset0 hset hsets hgs0 hgs hss0 hss List.set_cons_zero List.set_cons_succ List.forall_mem_cons List.not_mem_nil false_implies implies_true Option.map_some Bool.and_true Bool.true_and Bool.not_not Bool.not_true Bool.not_false Bool.and_self Bool.or_true Bool.true_or Bool.or_false Bool.false_or Bool.and_false Bool.false_and Bool.false_eq_true beq_self_eq_true and_self and_true true_and if_true if_false Nat.zero_add Nat.add_zero Nat.le_refl Int.toNat_natCast decide_true decide_false beq_t beq_f List.length_map List.getElem?_map I S B opsC toksC OpT.v OpT.cs OpT.zero Tok.v Tok.cs Pre.v Pre.cs_eq k_mk name_mk n_mk l_mk pos_mk Pre.app applyL natCast0 natCast1 natCast2

theorem any_at {α : Type} {l : List α} {f : α → Bool} {j : Nat} (hj : j < l.length) (h : f l[j] = true) : l.any f = true := by
  rw [List.any_eq_true]; exact ⟨_, List.getElem_mem hj, h⟩
theorem any_no {α : Type} {l : List α} {f : α → Bool} (h : ∀ j (hj : j < l.length), f l[j] = false) : l.any f = false := by
  rw [List.any_eq_false]; intro x hx; obtain ⟨j, hj, rfl⟩ := List.getElem_of_mem hx; rw [h j hj]; simp
theorem law03_over (w0 : World) (o : List OpT) (t : List Tok) (σ : H) : DC Tryz.prog w0 18 [.c (opsC o), .c (toksC t)] σ (Same (B (overL o t)) σ) := by
  refine go18 rfl (fun hok hsz => ?_)
  by_cases ho : 100 < o.length
  · have h1 : (o.length : Int) > 100 := by omega
    ((first | refine W.advO 5000 _ _ ?_ | skip); simp only [go_sem, ↓reduceIte, Nat.reduceEqDiff, Nat.reduceAdd, Nat.reduceSub, Nat.reduceMul, Nat.reduceLeDiff, Nat.reduceBEq, reduceCtorEq, Int.reduceLT, Int.reduceLE, Int.reduceToNat, Int.reduceAdd, Int.reduceSub, Int.reduceBEq, Int.reduceBNe, c18, h1])
    refine W.yes rfl ?_
    ((first | refine W.advO 5000 _ _ ?_ | skip); simp only [go_sem, ↓reduceIte, Nat.reduceEqDiff, Nat.reduceAdd, Nat.reduceSub, Nat.reduceMul, Nat.reduceLeDiff, Nat.reduceBEq, reduceCtorEq, Int.reduceLT, Int.reduceLE, Int.reduceToNat, Int.reduceAdd, Int.reduceSub, Int.reduceBEq, Int.reduceBNe])
    (refine W.ret (Fin.sameW (hok) (by (first | rfl | exact List.length_set .. | simp)) (by simp only [resEval, r18, go_sem, ↓reduceIte, Nat.reduceEqDiff, Nat.reduceAdd, Nat.reduceSub, Nat.reduceMul, Nat.reduceLeDiff, Nat.reduceBEq, reduceCtorEq, Int.reduceLT, Int.reduceLE, Int.reduceToNat, Int.reduceAdd, Int.reduceSub, Int.reduceBEq, Int.reduceBNe]; rfl) ?_ (by (first | exact .c _ | (simp only [I, S, B, opsC, toksC, Pre.v, Tok.v, OpT.v, low_c, low_void, low_any, low_csl, low_nilf, low_ptr, low_osl, low_agg, low_tup, low_fn, List.forall_mem_cons, List.not_mem_nil, false_implies, implies_true, and_self, and_true, true_and]; done))) (by (first | rfl | exact (List.append_nil _).symm))); simp only [resV]; try exact V.wk.rfl _)
    rw [overL, decide_eq_true ho]; exact .rfl _
  by_cases ht : 400 < t.length
  · have h1 : ¬ (o.length : Int) > 100 := by omega
    have h2 : (t.length : Int) > 400 := by omega
    ((first | refine W.advO 5000 _ _ ?_ | skip); simp only [go_sem, ↓reduceIte, Nat.reduceEqDiff, Nat.reduceAdd, Nat.reduceSub, Nat.reduceMul, Nat.reduceLeDiff, Nat.reduceBEq, reduceCtorEq, Int.reduceLT, Int.reduceLE, Int.reduceToNat, Int.reduceAdd, Int.reduceSub, Int.reduceBEq, Int.reduceBNe, c18, h1, h2])
    refine W.yes rfl ?_
    ((first | refine W.advO 5000 _ _ ?_ | skip); simp only [go_sem, ↓reduceIte, Nat.reduceEqDiff, Nat.reduceAdd, Nat.reduceSub, Nat.reduceMul, Nat.reduceLeDiff, Nat.reduceBEq, reduceCtorEq, Int.reduceLT, Int.reduceLE, Int.reduceToNat, Int.reduceAdd, Int.reduceSub, Int.reduceBEq, Int.reduceBNe])
    (refine W.ret (Fin.sameW (hok) (by (first | rfl | exact List.length_set .. | simp)) (by simp only [resEval, r18, go_sem, ↓reduceIte, Nat.reduceEqDiff, Nat.reduceAdd, Nat.reduceSub, Nat.reduceMul, Nat.reduceLeDiff, Nat.reduceBEq, reduceCtorEq, Int.reduceLT, Int.reduceLE, Int.reduceToNat, Int.reduceAdd, Int.reduceSub, Int.reduceBEq, Int.reduceBNe]; rfl) ?_ (by (first | exact .c _ | (simp only [I, S, B, opsC, toksC, Pre.v, Tok.v, OpT.v, low_c, low_void, low_any, low_csl, low_nilf, low_ptr, low_osl, low_agg, low_tup, low_fn, List.forall_mem_cons, List.not_mem_nil, false_implies, implies_true, and_self, and_true, true_and]; done))) (by (first | rfl | exact (List.append_nil _).symm))); simp only [resV]; try exact V.wk.rfl _)
    rw [overL, decide_eq_true ht]; simp only [Bool.or_true, Bool.true_or]; exact .rfl _
  have h1 : ¬ (o.length : Int) > 100 := by omega
  have h2 : ¬ (t.length : Int) > 400 := by omega
  have hO : overL o t = (o.any (fun x => decide (100 < x.name.length)) || t.any (fun x => decide (100 < x.text.length))) := by rw [overL, decide_eq_false ho, decide_eq_false ht]; rfl
  ((first | refine W.advO 5000 _ _ ?_ | skip); simp only [go_sem, ↓reduceIte, Nat.reduceEqDiff, Nat.reduceAdd, Nat.reduceSub, Nat.reduceMul, Nat.reduceLeDiff, Nat.reduceBEq, reduceCtorEq, Int.reduceLT, Int.reduceLE, Int.reduceToNat, Int.reduceAdd, Int.reduceSub, Int.reduceBEq, Int.reduceBNe, c18, h1, h2])
  refine W.no rfl ?_
  ((first | refine W.advO 5000 _ _ ?_ | skip); simp only [go_sem, ↓reduceIte, Nat.reduceEqDiff, Nat.reduceAdd, Nat.reduceSub, Nat.reduceMul, Nat.reduceLeDiff, Nat.reduceBEq, reduceCtorEq, Int.reduceLT, Int.reduceLE, Int.reduceToNat, Int.reduceAdd, Int.reduceSub, Int.reduceBEq, Int.reduceBNe])
  refine W.loopP (fun i => i ≤ o.length ∧ ∀ j (hj : j < o.length), j < i → decide (100 < o[j].name.length) = false) (fun i => ⟨(((base.put (some 0) (.c (opsC o))).put (some 1) (.c (toksC t))).put (some 5) (I (i : Nat))), σ⟩) (fun i => o.length - i) 0 ⟨Nat.zero_le _, fun _ _ h => absurd h (by omega)⟩ ?_ (fun i hi => ?_)
  · (refine Lew.env ?_; (repeat' (first | exact LeE.base _ | (refine LeE.put ?_ (by first | exact V.wk.rfl _ | exact V.wk.osl _ _ | exact V.wk.csl _)))))
  · obtain ⟨hi, hinv⟩ := hi
    by_cases hlt : i < o.length
    · have h1 : ((i : Int) < (o.length : Int)) := by omega
      have hx : o[i]? = some o[i] := List.getElem?_eq_getElem hlt
      have hw : IntKind.i64.wrap ((i : Int) + 1) = ((i + 1 : Nat) : Int) := by rw [wrap_in] <;> omega
      ((first | refine W.advO 5000 _ _ ?_ | skip); simp only [go_sem, ↓reduceIte, Nat.reduceEqDiff, Nat.reduceAdd, Nat.reduceSub, Nat.reduceMul, Nat.reduceLeDiff, Nat.reduceBEq, reduceCtorEq, Int.reduceLT, Int.reduceLE, Int.reduceToNat, Int.reduceAdd, Int.reduceSub, Int.reduceBEq, Int.reduceBNe, h1])
      refine W.yes rfl ?_
      ((first | refine W.advO 5000 _ _ ?_ | skip); simp only [go_sem, ↓reduceIte, Nat.reduceEqDiff, Nat.reduceAdd, Nat.reduceSub, Nat.reduceMul, Nat.reduceLeDiff, Nat.reduceBEq, reduceCtorEq, Int.reduceLT, Int.reduceLE, Int.reduceToNat, Int.reduceAdd, Int.reduceSub, Int.reduceBEq, Int.reduceBNe, h1, nat0, hx])
      refine W.test rfl (fun h => ?_) (fun h => ?_)
      · ((first | refine W.advO 5000 _ _ ?_ | skip); simp only [go_sem, ↓reduceIte, Nat.reduceEqDiff, Nat.reduceAdd, Nat.reduceSub, Nat.reduceMul, Nat.reduceLeDiff, Nat.reduceBEq, reduceCtorEq, Int.reduceLT, Int.reduceLE, Int.reduceToNat, Int.reduceAdd, Int.reduceSub, Int.reduceBEq, Int.reduceBNe])
        (refine W.ret (Fin.sameW (hok) (by (first | rfl | exact List.length_set .. | simp)) (by simp only [resEval, r18, go_sem, ↓reduceIte, Nat.reduceEqDiff, Nat.reduceAdd, Nat.reduceSub, Nat.reduceMul, Nat.reduceLeDiff, Nat.reduceBEq, reduceCtorEq, Int.reduceLT, Int.reduceLE, Int.reduceToNat, Int.reduceAdd, Int.reduceSub, Int.reduceBEq, Int.reduceBNe]; rfl) ?_ (by (first | exact .c _ | (simp only [I, S, B, opsC, toksC, Pre.v, Tok.v, OpT.v, low_c, low_void, low_any, low_csl, low_nilf, low_ptr, low_osl, low_agg, low_tup, low_fn, List.forall_mem_cons, List.not_mem_nil, false_implies, implies_true, and_self, and_true, true_and]; done))) (by (first | rfl | exact (List.append_nil _).symm))); simp only [resV]; try exact V.wk.rfl _)
        have : decide (100 < o[i].name.length) = true := by simp only [decide_eq_true_eq] at h ⊢; omega
        rw [hO, any_at hlt this]; exact .rfl _
      · ((first | refine W.advO 5000 _ _ ?_ | skip); simp only [go_sem, ↓reduceIte, Nat.reduceEqDiff, Nat.reduceAdd, Nat.reduceSub, Nat.reduceMul, Nat.reduceLeDiff, Nat.reduceBEq, reduceCtorEq, Int.reduceLT, Int.reduceLE, Int.reduceToNat, Int.reduceAdd, Int.reduceSub, Int.reduceBEq, Int.reduceBNe, hw])
        refine .inv ⟨i + 1, ⟨hlt, fun j hj hji => ?_⟩, by omega, ?_⟩
        · rcases Nat.lt_succ_iff_lt_or_eq.1 hji with h2 | h2
          · exact hinv j hj h2
          · subst h2; simp only [decide_eq_false_iff_not] at h ⊢; omega
        · (refine Lew.env ?_; (repeat' (first | exact LeE.base _ | (refine LeE.put ?_ (by first | exact V.wk.rfl _ | exact V.wk.osl _ _ | exact V.wk.csl _)))))
    · have h1 : ¬ ((i : Int) < (o.length : Int)) := by omega
      have hoF := any_no (l := o) (f := fun x => decide (100 < x.name.length)) (fun j hj => hinv j hj (by omega))
      ((first | refine W.advO 5000 _ _ ?_ | skip); simp only [go_sem, ↓reduceIte, Nat.reduceEqDiff, Nat.reduceAdd, Nat.reduceSub, Nat.reduceMul, Nat.reduceLeDiff, Nat.reduceBEq, reduceCtorEq, Int.reduceLT, Int.reduceLE, Int.reduceToNat, Int.reduceAdd, Int.reduceSub, Int.reduceBEq, Int.reduceBNe, h1])
      refine W.no rfl ?_
      ((first | refine W.advO 5000 _ _ ?_ | skip); simp only [go_sem, ↓reduceIte, Nat.reduceEqDiff, Nat.reduceAdd, Nat.reduceSub, Nat.reduceMul, Nat.reduceLeDiff, Nat.reduceBEq, reduceCtorEq, Int.reduceLT, Int.reduceLE, Int.reduceToNat, Int.reduceAdd, Int.reduceSub, Int.reduceBEq, Int.reduceBNe])
      refine W.loopP (fun i => i ≤ t.length ∧ ∀ j (hj : j < t.length), j < i → decide (100 < t[j].text.length) = false) (fun i => ⟨((base.put (some 1) (.c (toksC t))).put (some 6) (I (i : Nat))), σ⟩) (fun i => t.length - i) 0 ⟨Nat.zero_le _, fun _ _ h => absurd h (by omega)⟩ ?_ (fun i hi => ?_)
      · (refine Lew.env ?_; (repeat' (first | exact LeE.base _ | (refine LeE.put ?_ (by first | exact V.wk.rfl _ | exact V.wk.osl _ _ | exact V.wk.csl _)))))
      · obtain ⟨hi, hinv⟩ := hi
        by_cases hlt : i < t.length
        · have h1 : ((i : Int) < (t.length : Int)) := by omega
          have hx : t[i]? = some t[i] := List.getElem?_eq_getElem hlt
          have hw : IntKind.i64.wrap ((i : Int) + 1) = ((i + 1 : Nat) : Int) := by rw [wrap_in] <;> omega
          ((first | refine W.advO 5000 _ _ ?_ | skip); simp only [go_sem, ↓reduceIte, Nat.reduceEqDiff, Nat.reduceAdd, Nat.reduceSub, Nat.reduceMul, Nat.reduceLeDiff, Nat.reduceBEq, reduceCtorEq, Int.reduceLT, Int.reduceLE, Int.reduceToNat, Int.reduceAdd, Int.reduceSub, Int.reduceBEq, Int.reduceBNe, h1])
          refine W.yes rfl ?_
          ((first | refine W.advO 5000 _ _ ?_ | skip); simp only [go_sem, ↓reduceIte, Nat.reduceEqDiff, Nat.reduceAdd, Nat.reduceSub, Nat.reduceMul, Nat.reduceLeDiff, Nat.reduceBEq, reduceCtorEq, Int.reduceLT, Int.reduceLE, Int.reduceToNat, Int.reduceAdd, Int.reduceSub, Int.reduceBEq, Int.reduceBNe, h1, nat0, hx])
          refine W.test rfl (fun h => ?_) (fun h => ?_)
          · ((first | refine W.advO 5000 _ _ ?_ | skip); simp only [go_sem, ↓reduceIte, Nat.reduceEqDiff, Nat.reduceAdd, Nat.reduceSub, Nat.reduceMul, Nat.reduceLeDiff, Nat.reduceBEq, reduceCtorEq, Int.reduceLT, Int.reduceLE, Int.reduceToNat, Int.reduceAdd, Int.reduceSub, Int.reduceBEq, Int.reduceBNe])
            (refine W.ret (Fin.sameW (hok) (by (first | rfl | exact List.length_set .. | simp)) (by simp only [resEval, r18, go_sem, ↓reduceIte, Nat.reduceEqDiff, Nat.reduceAdd, Nat.reduceSub, Nat.reduceMul, Nat.reduceLeDiff, Nat.reduceBEq, reduceCtorEq, Int.reduceLT, Int.reduceLE, Int.reduceToNat, Int.reduceAdd, Int.reduceSub, Int.reduceBEq, Int.reduceBNe]; rfl) ?_ (by (first | exact .c _ | (simp only [I, S, B, opsC, toksC, Pre.v, Tok.v, OpT.v, low_c, low_void, low_any, low_csl, low_nilf, low_ptr, low_osl, low_agg, low_tup, low_fn, List.forall_mem_cons, List.not_mem_nil, false_implies, implies_true, and_self, and_true, true_and]; done))) (by (first | rfl | exact (List.append_nil _).symm))); simp only [resV]; try exact V.wk.rfl _)
            have : decide (100 < t[i].text.length) = true := by simp only [decide_eq_true_eq] at h ⊢; omega
            rw [hO, any_at hlt this, Bool.or_true]; exact .rfl _
          · ((first | refine W.advO 5000 _ _ ?_ | skip); simp only [go_sem, ↓reduceIte, Nat.reduceEqDiff, Nat.reduceAdd, Nat.reduceSub, Nat.reduceMul, Nat.reduceLeDiff, Nat.reduceBEq, reduceCtorEq, Int.reduceLT, Int.reduceLE, Int.reduceToNat, Int.reduceAdd, Int.reduceSub, Int.reduceBEq, Int.reduceBNe, hw])
            refine .inv ⟨i + 1, ⟨hlt, fun j hj hji => ?_⟩, by omega, ?_⟩
            · rcases Nat.lt_succ_iff_lt_or_eq.1 hji with h2 | h2
              · exact hinv j hj h2
              · subst h2; simp only [decide_eq_false_iff_not] at h ⊢; omega
            · (refine Lew.env ?_; (repeat' (first | exact LeE.base _ | (refine LeE.put ?_ (by first | exact V.wk.rfl _ | exact V.wk.osl _ _ | exact V.wk.csl _)))))
        · have h1 : ¬ ((i : Int) < (t.length : Int)) := by omega
          ((first | refine W.advO 5000 _ _ ?_ | skip); simp only [go_sem, ↓reduceIte, Nat.reduceEqDiff, Nat.reduceAdd, Nat.reduceSub, Nat.reduceMul, Nat.reduceLeDiff, Nat.reduceBEq, reduceCtorEq, Int.reduceLT, Int.reduceLE, Int.reduceToNat, Int.reduceAdd, Int.reduceSub, Int.reduceBEq, Int.reduceBNe, h1])
          refine W.no rfl ?_
          ((first | refine W.advO 5000 _ _ ?_ | skip); simp only [go_sem, ↓reduceIte, Nat.reduceEqDiff, Nat.reduceAdd, Nat.reduceSub, Nat.reduceMul, Nat.reduceLeDiff, Nat.reduceBEq, reduceCtorEq, Int.reduceLT, Int.reduceLE, Int.reduceToNat, Int.reduceAdd, Int.reduceSub, Int.reduceBEq, Int.reduceBNe])
          (refine W.ret (Fin.sameW (hok) (by (first | rfl | exact List.length_set .. | simp)) (by simp only [resEval, r18, go_sem, ↓reduceIte, Nat.reduceEqDiff, Nat.reduceAdd, Nat.reduceSub, Nat.reduceMul, Nat.reduceLeDiff, Nat.reduceBEq, reduceCtorEq, Int.reduceLT, Int.reduceLE, Int.reduceToNat, Int.reduceAdd, Int.reduceSub, Int.reduceBEq, Int.reduceBNe]; rfl) ?_ (by (first | exact .c _ | (simp only [I, S, B, opsC, toksC, Pre.v, Tok.v, OpT.v, low_c, low_void, low_any, low_csl, low_nilf, low_ptr, low_osl, low_agg, low_tup, low_fn, List.forall_mem_cons, List.not_mem_nil, false_implies, implies_true, and_self, and_true, true_and]; done))) (by (first | rfl | exact (List.append_nil _).symm))); simp only [resV]; try exact V.wk.rfl _)
          rw [hO, hoF, any_no (l := t) (f := fun x => decide (100 < x.text.length)) (fun j hj => hinv j hj (by omega))]; exact .rfl _
theorem law03_tokens {w0 : World} (hG : Glob w0) (s : List UInt8) (hs : s.length ≤ 4294967280) (σ : H) : DC Tryz.prog w0 24 [S s] σ (Same (.c (toksC (lexL s).toks)) σ) := by
  refine go24 rfl (fun hok hsz => ?_)
  ((first | refine W.advO 5000 _ _ ?_ | skip); simp only [go_sem, ↓reduceIte, Nat.reduceEqDiff, Nat.reduceAdd, Nat.reduceSub, Nat.reduceMul, Nat.reduceLeDiff, Nat.reduceBEq, reduceCtorEq, Int.reduceLT, Int.reduceLE, Int.reduceToNat, Int.reduceAdd, Int.reduceSub, Int.reduceBEq, Int.reduceBNe, c24])
  (refine W.call1 (lex_Lex hG s hs _) rfl rfl (by first | rfl | simp) ?_; refine W.advO 5000 _ _ ?_; simp only [go_sem, ↓reduceIte, Nat.reduceEqDiff, Nat.reduceAdd, Nat.reduceSub, Nat.reduceMul, Nat.reduceLeDiff, Nat.reduceBEq, reduceCtorEq, Int.reduceLT, Int.reduceLE, Int.reduceToNat, Int.reduceAdd, Int.reduceSub, Int.reduceBEq, Int.reduceBNe])
  (refine W.ret (Fin.sameW (hok) (by (first | rfl | exact List.length_set .. | simp)) (by simp only [resEval, r24, go_sem, ↓reduceIte, Nat.reduceEqDiff, Nat.reduceAdd, Nat.reduceSub, Nat.reduceMul, Nat.reduceLeDiff, Nat.reduceBEq, reduceCtorEq, Int.reduceLT, Int.reduceLE, Int.reduceToNat, Int.reduceAdd, Int.reduceSub, Int.reduceBEq, Int.reduceBNe]; rfl) ?_ (by (first | exact .c _ | (simp only [I, S, B, opsC, toksC, Pre.v, Tok.v, OpT.v, low_c, low_void, low_any, low_csl, low_nilf, low_ptr, low_osl, low_agg, low_tup, low_fn, List.forall_mem_cons, List.not_mem_nil, false_implies, implies_true, and_self, and_true, true_and]; done))) (by (first | rfl | exact (List.append_nil _).symm))); simp only [resV]; try exact V.wk.rfl _)
end Go.Proofs.YtpgkhkojjklakaaGreatDoor
namespace Go.Proofs.YtpgkhkojjklakaaGreatDoor
open Go.RowKit Go.Lamb
attribute [local go_sem] advO_skip advO_reg advO_seq advO_block advO_exit advO_endb advO_opsNil advO_ops advG_yes advG_no advG_none advS_some advS_none advO_cond advO_loop advO_dreg advO_ret advO_bad advO_inv advO_nil advO_zero wantedV Lamb.step ev_t ev_k put_some put_none argEnv popTo cellsAt V.cellsV V.rows V.toC toCs fillV rowsV boundV boundL binV binInt binStr eqC eqL V.isNil leaves V.leaf Ins.quiet Ins.pure List.getD_cons_zero List.getD_cons_succ List.getD_nil List.all_cons List.all_nil List.length_cons List.length_nil List.take_succ_cons List.take_zero List.drop_succ_cons List.drop_zero List.cons_append List.nil_append List.append_nil List.append_assoc List.map_cons List.map_nil List.getElem?_cons_zero List.getElem?_cons_succ List.length_append List.length_set hget0 hget hset0 hset hsets hgs0 hgs hss0 hss List.set_cons_zero List.set_cons_succ List.forall_mem_cons List.not_mem_nil false_implies implies_true Option.map_some Bool.and_true Bool.true_and Bool.not_not Bool.not_true Bool.not_false Bool.and_self Bool.or_true Bool.true_or Bool.or_false Bool.false_or Bool.and_false Bool.false_and Bool.false_eq_true beq_self_eq_true and_self and_true true_and if_true if_false Nat.zero_add Nat.add_zero Nat.le_refl Int.toNat_natCast decide_true decide_false beq_t beq_f List.length_map List.getElem?_map I S B opsC toksC OpT.v OpT.cs OpT.zero Tok.v Tok.cs Pre.v Pre.cs_eq k_mk name_mk n_mk l_mk pos_mk Pre.app applyL natCast0 natCast1 natCast2

def ops0 : List OpT := firstRows.flatten
def opNeck : OpT := ⟨[58, 45], 10, 0⟩
def opIs : OpT := ⟨[61], 60, 0⟩
def tree1 : Pre := Pre.app (Pre.app (.mk 0 [58, 45] 0 [] 4) (Pre.app (.mk 0 [112] 0 [] 0) (.mk 1 [88] 0 [] 2) 0) 4) (Pre.app (Pre.app (.mk 0 [44] 0 [] 10) (Pre.app (.mk 0 [113] 0 [] 7) (.mk 1 [88] 0 [] 9) 7) 10) (.mk 0 [114] 0 [] 12) 10) 4
def tree3 : Pre := .mk 4 [120] 0 [Pre.app (.mk 0 [102] 0 [] 3) (.mk 0 [120] 0 [] 5) 3] 0
def tree4 : Pre := Pre.app (.mk 0 [43] 0 [] 1) (.mk 2 [] 1 [] 4) 1
theorem read1 : Lamb.Expr ops0 (lexL [112, 32, 88, 32, 58, 45, 32, 113, 32, 88, 44, 32, 114, 46]).toks 0 0 0 (.ok (⟨tree1, some (opNeck, 4)⟩, 7)) := ⟨40, by kernel_rfl⟩
theorem read2 : Lamb.Expr ops0 (lexL [97, 32, 61, 32, 98, 32, 61, 32, 99]).toks 0 0 0 (.error ⟨32, 6⟩) := ⟨40, by kernel_rfl⟩
theorem read3 : Lamb.Expr ops0 (lexL [120, 92, 32, 102, 32, 120]).toks 0 0 0 (.ok (⟨tree3, none⟩, 4)) := ⟨40, by kernel_rfl⟩
theorem read4 : Lamb.Expr ops0 (lexL [40, 43, 41, 32, 49]).toks 0 0 0 (.ok (⟨tree4, none⟩, 4)) := ⟨40, by kernel_rfl⟩
theorem valid1 : validPre ops0 tree1 = true := by kernel_rfl
theorem read_at0 (w0 : World) (l : List OpT) (t : List Tok) (r : Except Bad (Made × Nat)) (σ : H) (h : Lamb.Expr l t 0 0 0 r) (ht : t.length ≤ 1000000) : DC Tryz.prog w0 15 [.c (opsC l), .c (toksC t), I 0] σ (Same (readV 0 r) σ) := read_Read w0 l t 0 r σ h (Nat.zero_le _) ht
theorem ref_at0 (w0 : World) (l : List OpT) (t : List Tok) (r : Except Bad (Made × Nat)) (σ : H) (h : Lamb.Expr l t 0 0 0 r) (ht : t.length ≤ 1000000) : DC Tryz.prog w0 16 [.c (opsC l), .c (toksC t), I 0] σ (Same (readV 0 r) σ) := ref03_Read w0 l t 0 r σ h (Nat.zero_le _) ht
theorem law03_works {w0 : World} (hG : Glob w0) (σ : H) : DC Tryz.prog w0 12 [] σ (Same (B true) σ) := by
  refine go12 rfl (fun hok hsz => ?_)
  ((first | refine W.advO 5000 _ _ ?_ | skip); simp only [go_sem, ↓reduceIte, Nat.reduceEqDiff, Nat.reduceAdd, Nat.reduceSub, Nat.reduceMul, Nat.reduceLeDiff, Nat.reduceBEq, reduceCtorEq, Int.reduceLT, Int.reduceLE, Int.reduceToNat, Int.reduceAdd, Int.reduceSub, Int.reduceBEq, Int.reduceBNe, c12])
  (refine W.call1 (ops_Default w0 _) rfl rfl (by first | rfl | simp) ?_; refine W.advO 5000 _ _ ?_; simp only [go_sem, ↓reduceIte, Nat.reduceEqDiff, Nat.reduceAdd, Nat.reduceSub, Nat.reduceMul, Nat.reduceLeDiff, Nat.reduceBEq, reduceCtorEq, Int.reduceLT, Int.reduceLE, Int.reduceToNat, Int.reduceAdd, Int.reduceSub, Int.reduceBEq, Int.reduceBNe])
  (refine W.call1 (law03_tokens hG [112, 32, 88, 32, 58, 45, 32, 113, 32, 88, 44, 32, 114, 46] (by decide) _) rfl rfl (by first | rfl | simp) ?_; refine W.advO 5000 _ _ ?_; simp only [go_sem, ↓reduceIte, Nat.reduceEqDiff, Nat.reduceAdd, Nat.reduceSub, Nat.reduceMul, Nat.reduceLeDiff, Nat.reduceBEq, reduceCtorEq, Int.reduceLT, Int.reduceLE, Int.reduceToNat, Int.reduceAdd, Int.reduceSub, Int.reduceBEq, Int.reduceBNe])
  (refine W.call1 (read_at0 w0 ops0 _ _ _ read1 (by decide +kernel)) rfl rfl (by first | rfl | simp) ?_; refine W.advO 5000 _ _ ?_; simp only [go_sem, ↓reduceIte, Nat.reduceEqDiff, Nat.reduceAdd, Nat.reduceSub, Nat.reduceMul, Nat.reduceLeDiff, Nat.reduceBEq, reduceCtorEq, Int.reduceLT, Int.reduceLE, Int.reduceToNat, Int.reduceAdd, Int.reduceSub, Int.reduceBEq, Int.reduceBNe, readV, tree1, Int.cast_ofNat_Int])
  (refine W.call1 (law03_tokens hG [97, 32, 61, 32, 98, 32, 61, 32, 99] (by decide) _) rfl rfl (by first | rfl | simp) ?_; refine W.advO 5000 _ _ ?_; simp only [go_sem, ↓reduceIte, Nat.reduceEqDiff, Nat.reduceAdd, Nat.reduceSub, Nat.reduceMul, Nat.reduceLeDiff, Nat.reduceBEq, reduceCtorEq, Int.reduceLT, Int.reduceLE, Int.reduceToNat, Int.reduceAdd, Int.reduceSub, Int.reduceBEq, Int.reduceBNe])
  (refine W.call1 (read_at0 w0 ops0 _ _ _ read2 (by decide +kernel)) rfl rfl (by first | rfl | simp) ?_; refine W.advO 5000 _ _ ?_; simp only [go_sem, ↓reduceIte, Nat.reduceEqDiff, Nat.reduceAdd, Nat.reduceSub, Nat.reduceMul, Nat.reduceLeDiff, Nat.reduceBEq, reduceCtorEq, Int.reduceLT, Int.reduceLE, Int.reduceToNat, Int.reduceAdd, Int.reduceSub, Int.reduceBEq, Int.reduceBNe, readV, Pre.none, Int.cast_ofNat_Int])
  (refine W.call1 (law03_tokens hG [120, 92, 32, 102, 32, 120] (by decide) _) rfl rfl (by first | rfl | simp) ?_; refine W.advO 5000 _ _ ?_; simp only [go_sem, ↓reduceIte, Nat.reduceEqDiff, Nat.reduceAdd, Nat.reduceSub, Nat.reduceMul, Nat.reduceLeDiff, Nat.reduceBEq, reduceCtorEq, Int.reduceLT, Int.reduceLE, Int.reduceToNat, Int.reduceAdd, Int.reduceSub, Int.reduceBEq, Int.reduceBNe])
  (refine W.call1 (read_at0 w0 ops0 _ _ _ read3 (by decide +kernel)) rfl rfl (by first | rfl | simp) ?_; refine W.advO 5000 _ _ ?_; simp only [go_sem, ↓reduceIte, Nat.reduceEqDiff, Nat.reduceAdd, Nat.reduceSub, Nat.reduceMul, Nat.reduceLeDiff, Nat.reduceBEq, reduceCtorEq, Int.reduceLT, Int.reduceLE, Int.reduceToNat, Int.reduceAdd, Int.reduceSub, Int.reduceBEq, Int.reduceBNe, readV, tree3, Int.cast_ofNat_Int])
  (refine W.call1 (law03_tokens hG [40, 43, 41, 32, 49] (by decide) _) rfl rfl (by first | rfl | simp) ?_; refine W.advO 5000 _ _ ?_; simp only [go_sem, ↓reduceIte, Nat.reduceEqDiff, Nat.reduceAdd, Nat.reduceSub, Nat.reduceMul, Nat.reduceLeDiff, Nat.reduceBEq, reduceCtorEq, Int.reduceLT, Int.reduceLE, Int.reduceToNat, Int.reduceAdd, Int.reduceSub, Int.reduceBEq, Int.reduceBNe])
  (refine W.call1 (read_at0 w0 ops0 _ _ _ read4 (by decide +kernel)) rfl rfl (by first | rfl | simp) ?_; refine W.advO 5000 _ _ ?_; simp only [go_sem, ↓reduceIte, Nat.reduceEqDiff, Nat.reduceAdd, Nat.reduceSub, Nat.reduceMul, Nat.reduceLeDiff, Nat.reduceBEq, reduceCtorEq, Int.reduceLT, Int.reduceLE, Int.reduceToNat, Int.reduceAdd, Int.reduceSub, Int.reduceBEq, Int.reduceBNe, readV, tree4, Int.cast_ofNat_Int])
  refine W.no rfl ?_
  ((first | refine W.advO 5000 _ _ ?_ | skip); simp only [go_sem, ↓reduceIte, Nat.reduceEqDiff, Nat.reduceAdd, Nat.reduceSub, Nat.reduceMul, Nat.reduceLeDiff, Nat.reduceBEq, reduceCtorEq, Int.reduceLT, Int.reduceLE, Int.reduceToNat, Int.reduceAdd, Int.reduceSub, Int.reduceBEq, Int.reduceBNe])
  (refine W.call1 ((read_Valid w0 ops0 tree1 _).toSame (congrArg B valid1)) rfl rfl (by first | rfl | simp) ?_; refine W.advO 5000 _ _ ?_; simp only [go_sem, ↓reduceIte, Nat.reduceEqDiff, Nat.reduceAdd, Nat.reduceSub, Nat.reduceMul, Nat.reduceLeDiff, Nat.reduceBEq, reduceCtorEq, Int.reduceLT, Int.reduceLE, Int.reduceToNat, Int.reduceAdd, Int.reduceSub, Int.reduceBEq, Int.reduceBNe])
  (refine W.call1 ((read_Same w0 tree1 tree1 _).toSame (congrArg B (samePre_refl tree1))) rfl rfl (by first | rfl | simp) ?_; refine W.advO 5000 _ _ ?_; simp only [go_sem, ↓reduceIte, Nat.reduceEqDiff, Nat.reduceAdd, Nat.reduceSub, Nat.reduceMul, Nat.reduceLeDiff, Nat.reduceBEq, reduceCtorEq, Int.reduceLT, Int.reduceLE, Int.reduceToNat, Int.reduceAdd, Int.reduceSub, Int.reduceBEq, Int.reduceBNe])
  (refine W.ret (Fin.sameW (hok) (by (first | rfl | exact List.length_set .. | simp)) (by simp only [resEval, r12, go_sem, ↓reduceIte, Nat.reduceEqDiff, Nat.reduceAdd, Nat.reduceSub, Nat.reduceMul, Nat.reduceLeDiff, Nat.reduceBEq, reduceCtorEq, Int.reduceLT, Int.reduceLE, Int.reduceToNat, Int.reduceAdd, Int.reduceSub, Int.reduceBEq, Int.reduceBNe]; rfl) ?_ (by (first | exact .c _ | (simp only [I, S, B, opsC, toksC, Pre.v, Tok.v, OpT.v, low_c, low_void, low_any, low_csl, low_nilf, low_ptr, low_osl, low_agg, low_tup, low_fn, List.forall_mem_cons, List.not_mem_nil, false_implies, implies_true, and_self, and_true, true_and]; done))) (by (first | rfl | exact (List.append_nil _).symm))); simp only [resV]; try exact V.wk.rfl _)
theorem law03_ReadTexts {w0 : World} (hG : Glob w0) (s : List UInt8) (σ : H) : DC Tryz.prog w0 3 [S s] σ (Same (B true) σ) := by
  refine go3 rfl (fun hok hsz => ?_)
  ((first | refine W.advO 5000 _ _ ?_ | skip); simp only [go_sem, ↓reduceIte, Nat.reduceEqDiff, Nat.reduceAdd, Nat.reduceSub, Nat.reduceMul, Nat.reduceLeDiff, Nat.reduceBEq, reduceCtorEq, Int.reduceLT, Int.reduceLE, Int.reduceToNat, Int.reduceAdd, Int.reduceSub, Int.reduceBEq, Int.reduceBNe, c3])
  (refine W.call1 (law03_works hG _) rfl rfl (by first | rfl | simp) ?_; refine W.advO 5000 _ _ ?_; simp only [go_sem, ↓reduceIte, Nat.reduceEqDiff, Nat.reduceAdd, Nat.reduceSub, Nat.reduceMul, Nat.reduceLeDiff, Nat.reduceBEq, reduceCtorEq, Int.reduceLT, Int.reduceLE, Int.reduceToNat, Int.reduceAdd, Int.reduceSub, Int.reduceBEq, Int.reduceBNe])
  refine W.no rfl ?_
  by_cases hs : s.length > 1000
  · have h1 : (s.length : Int) > 1000 := by omega
    ((first | refine W.advO 5000 _ _ ?_ | skip); simp only [go_sem, ↓reduceIte, Nat.reduceEqDiff, Nat.reduceAdd, Nat.reduceSub, Nat.reduceMul, Nat.reduceLeDiff, Nat.reduceBEq, reduceCtorEq, Int.reduceLT, Int.reduceLE, Int.reduceToNat, Int.reduceAdd, Int.reduceSub, Int.reduceBEq, Int.reduceBNe, h1])
    refine W.yes rfl ?_
    ((first | refine W.advO 5000 _ _ ?_ | skip); simp only [go_sem, ↓reduceIte, Nat.reduceEqDiff, Nat.reduceAdd, Nat.reduceSub, Nat.reduceMul, Nat.reduceLeDiff, Nat.reduceBEq, reduceCtorEq, Int.reduceLT, Int.reduceLE, Int.reduceToNat, Int.reduceAdd, Int.reduceSub, Int.reduceBEq, Int.reduceBNe])
    (refine W.ret (Fin.sameW (hok) (by (first | rfl | exact List.length_set .. | simp)) (by simp only [resEval, r3, go_sem, ↓reduceIte, Nat.reduceEqDiff, Nat.reduceAdd, Nat.reduceSub, Nat.reduceMul, Nat.reduceLeDiff, Nat.reduceBEq, reduceCtorEq, Int.reduceLT, Int.reduceLE, Int.reduceToNat, Int.reduceAdd, Int.reduceSub, Int.reduceBEq, Int.reduceBNe]; rfl) ?_ (by (first | exact .c _ | (simp only [I, S, B, opsC, toksC, Pre.v, Tok.v, OpT.v, low_c, low_void, low_any, low_csl, low_nilf, low_ptr, low_osl, low_agg, low_tup, low_fn, List.forall_mem_cons, List.not_mem_nil, false_implies, implies_true, and_self, and_true, true_and]; done))) (by (first | rfl | exact (List.append_nil _).symm))); simp only [resV]; try exact V.wk.rfl _)
  have h1 : ¬ (s.length : Int) > 1000 := by omega
  ((first | refine W.advO 5000 _ _ ?_ | skip); simp only [go_sem, ↓reduceIte, Nat.reduceEqDiff, Nat.reduceAdd, Nat.reduceSub, Nat.reduceMul, Nat.reduceLeDiff, Nat.reduceBEq, reduceCtorEq, Int.reduceLT, Int.reduceLE, Int.reduceToNat, Int.reduceAdd, Int.reduceSub, Int.reduceBEq, Int.reduceBNe, h1])
  refine W.no rfl ?_
  ((first | refine W.advO 5000 _ _ ?_ | skip); simp only [go_sem, ↓reduceIte, Nat.reduceEqDiff, Nat.reduceAdd, Nat.reduceSub, Nat.reduceMul, Nat.reduceLeDiff, Nat.reduceBEq, reduceCtorEq, Int.reduceLT, Int.reduceLE, Int.reduceToNat, Int.reduceAdd, Int.reduceSub, Int.reduceBEq, Int.reduceBNe])
  (refine W.call1 (lex_Lex hG s (by omega) _) rfl rfl (by first | rfl | simp) ?_; refine W.advO 5000 _ _ ?_; simp only [go_sem, ↓reduceIte, Nat.reduceEqDiff, Nat.reduceAdd, Nat.reduceSub, Nat.reduceMul, Nat.reduceLeDiff, Nat.reduceBEq, reduceCtorEq, Int.reduceLT, Int.reduceLE, Int.reduceToNat, Int.reduceAdd, Int.reduceSub, Int.reduceBEq, Int.reduceBNe])
  cases he : ((lexL s).err != 0)
  · ((first | refine W.advO 5000 _ _ ?_ | skip); simp only [go_sem, ↓reduceIte, Nat.reduceEqDiff, Nat.reduceAdd, Nat.reduceSub, Nat.reduceMul, Nat.reduceLeDiff, Nat.reduceBEq, reduceCtorEq, Int.reduceLT, Int.reduceLE, Int.reduceToNat, Int.reduceAdd, Int.reduceSub, Int.reduceBEq, Int.reduceBNe, he])
    refine W.no rfl ?_
    have ht : (lexL s).toks.length ≤ 1000000 := by have := lexL_count s; omega
    obtain ⟨r, hr⟩ := Expr.some ops0 (lexL s).toks 0 0 0
    ((first | refine W.advO 5000 _ _ ?_ | skip); simp only [go_sem, ↓reduceIte, Nat.reduceEqDiff, Nat.reduceAdd, Nat.reduceSub, Nat.reduceMul, Nat.reduceLeDiff, Nat.reduceBEq, reduceCtorEq, Int.reduceLT, Int.reduceLE, Int.reduceToNat, Int.reduceAdd, Int.reduceSub, Int.reduceBEq, Int.reduceBNe])
    (refine W.call1 (ops_Default w0 _) rfl rfl (by first | rfl | simp) ?_; refine W.advO 5000 _ _ ?_; simp only [go_sem, ↓reduceIte, Nat.reduceEqDiff, Nat.reduceAdd, Nat.reduceSub, Nat.reduceMul, Nat.reduceLeDiff, Nat.reduceBEq, reduceCtorEq, Int.reduceLT, Int.reduceLE, Int.reduceToNat, Int.reduceAdd, Int.reduceSub, Int.reduceBEq, Int.reduceBNe])
    cases r with
    | ok x =>
      obtain ⟨m, j⟩ := x
      (refine W.call1 (read_at0 w0 ops0 _ _ _ hr ht) rfl rfl (by first | rfl | simp) ?_; refine W.advO 5000 _ _ ?_; simp only [go_sem, ↓reduceIte, Nat.reduceEqDiff, Nat.reduceAdd, Nat.reduceSub, Nat.reduceMul, Nat.reduceLeDiff, Nat.reduceBEq, reduceCtorEq, Int.reduceLT, Int.reduceLE, Int.reduceToNat, Int.reduceAdd, Int.reduceSub, Int.reduceBEq, Int.reduceBNe, readV])
      (refine W.call1 (ref_at0 w0 ops0 _ _ _ hr ht) rfl rfl (by first | rfl | simp) ?_; refine W.advO 5000 _ _ ?_; simp only [go_sem, ↓reduceIte, Nat.reduceEqDiff, Nat.reduceAdd, Nat.reduceSub, Nat.reduceMul, Nat.reduceLeDiff, Nat.reduceBEq, reduceCtorEq, Int.reduceLT, Int.reduceLE, Int.reduceToNat, Int.reduceAdd, Int.reduceSub, Int.reduceBEq, Int.reduceBNe, readV])
      (refine W.call1 (ref03_Exact w0 m.p _) rfl rfl (by first | rfl | simp) ?_; refine W.advO 5000 _ _ ?_; simp only [go_sem, ↓reduceIte, Nat.reduceEqDiff, Nat.reduceAdd, Nat.reduceSub, Nat.reduceMul, Nat.reduceLeDiff, Nat.reduceBEq, reduceCtorEq, Int.reduceLT, Int.reduceLE, Int.reduceToNat, Int.reduceAdd, Int.reduceSub, Int.reduceBEq, Int.reduceBNe])
      (refine W.ret (Fin.sameW (hok) (by (first | rfl | exact List.length_set .. | simp)) (by simp only [resEval, r3, go_sem, ↓reduceIte, Nat.reduceEqDiff, Nat.reduceAdd, Nat.reduceSub, Nat.reduceMul, Nat.reduceLeDiff, Nat.reduceBEq, reduceCtorEq, Int.reduceLT, Int.reduceLE, Int.reduceToNat, Int.reduceAdd, Int.reduceSub, Int.reduceBEq, Int.reduceBNe]; rfl) ?_ (by (first | exact .c _ | (simp only [I, S, B, opsC, toksC, Pre.v, Tok.v, OpT.v, low_c, low_void, low_any, low_csl, low_nilf, low_ptr, low_osl, low_agg, low_tup, low_fn, List.forall_mem_cons, List.not_mem_nil, false_implies, implies_true, and_self, and_true, true_and]; done))) (by (first | rfl | exact (List.append_nil _).symm))); simp only [resV]; try exact V.wk.rfl _)
    | error b =>
      (refine W.call1 (read_at0 w0 ops0 _ _ _ hr ht) rfl rfl (by first | rfl | simp) ?_; refine W.advO 5000 _ _ ?_; simp only [go_sem, ↓reduceIte, Nat.reduceEqDiff, Nat.reduceAdd, Nat.reduceSub, Nat.reduceMul, Nat.reduceLeDiff, Nat.reduceBEq, reduceCtorEq, Int.reduceLT, Int.reduceLE, Int.reduceToNat, Int.reduceAdd, Int.reduceSub, Int.reduceBEq, Int.reduceBNe, readV, Pre.none])
      (refine W.call1 (ref_at0 w0 ops0 _ _ _ hr ht) rfl rfl (by first | rfl | simp) ?_; refine W.advO 5000 _ _ ?_; simp only [go_sem, ↓reduceIte, Nat.reduceEqDiff, Nat.reduceAdd, Nat.reduceSub, Nat.reduceMul, Nat.reduceLeDiff, Nat.reduceBEq, reduceCtorEq, Int.reduceLT, Int.reduceLE, Int.reduceToNat, Int.reduceAdd, Int.reduceSub, Int.reduceBEq, Int.reduceBNe, readV, Pre.none])
      (refine W.call1 (ref03_Exact w0 Pre.none _) rfl rfl (by first | rfl | simp) ?_; refine W.advO 5000 _ _ ?_; simp only [go_sem, ↓reduceIte, Nat.reduceEqDiff, Nat.reduceAdd, Nat.reduceSub, Nat.reduceMul, Nat.reduceLeDiff, Nat.reduceBEq, reduceCtorEq, Int.reduceLT, Int.reduceLE, Int.reduceToNat, Int.reduceAdd, Int.reduceSub, Int.reduceBEq, Int.reduceBNe])
      (refine W.ret (Fin.sameW (hok) (by (first | rfl | exact List.length_set .. | simp)) (by simp only [resEval, r3, go_sem, ↓reduceIte, Nat.reduceEqDiff, Nat.reduceAdd, Nat.reduceSub, Nat.reduceMul, Nat.reduceLeDiff, Nat.reduceBEq, reduceCtorEq, Int.reduceLT, Int.reduceLE, Int.reduceToNat, Int.reduceAdd, Int.reduceSub, Int.reduceBEq, Int.reduceBNe]; rfl) ?_ (by (first | exact .c _ | (simp only [I, S, B, opsC, toksC, Pre.v, Tok.v, OpT.v, low_c, low_void, low_any, low_csl, low_nilf, low_ptr, low_osl, low_agg, low_tup, low_fn, List.forall_mem_cons, List.not_mem_nil, false_implies, implies_true, and_self, and_true, true_and]; done))) (by (first | rfl | exact (List.append_nil _).symm))); simp only [resV]; try exact V.wk.rfl _)
  · ((first | refine W.advO 5000 _ _ ?_ | skip); simp only [go_sem, ↓reduceIte, Nat.reduceEqDiff, Nat.reduceAdd, Nat.reduceSub, Nat.reduceMul, Nat.reduceLeDiff, Nat.reduceBEq, reduceCtorEq, Int.reduceLT, Int.reduceLE, Int.reduceToNat, Int.reduceAdd, Int.reduceSub, Int.reduceBEq, Int.reduceBNe, he])
    refine W.yes rfl ?_
    ((first | refine W.advO 5000 _ _ ?_ | skip); simp only [go_sem, ↓reduceIte, Nat.reduceEqDiff, Nat.reduceAdd, Nat.reduceSub, Nat.reduceMul, Nat.reduceLeDiff, Nat.reduceBEq, reduceCtorEq, Int.reduceLT, Int.reduceLE, Int.reduceToNat, Int.reduceAdd, Int.reduceSub, Int.reduceBEq, Int.reduceBNe])
    (refine W.ret (Fin.sameW (hok) (by (first | rfl | exact List.length_set .. | simp)) (by simp only [resEval, r3, go_sem, ↓reduceIte, Nat.reduceEqDiff, Nat.reduceAdd, Nat.reduceSub, Nat.reduceMul, Nat.reduceLeDiff, Nat.reduceBEq, reduceCtorEq, Int.reduceLT, Int.reduceLE, Int.reduceToNat, Int.reduceAdd, Int.reduceSub, Int.reduceBEq, Int.reduceBNe]; rfl) ?_ (by (first | exact .c _ | (simp only [I, S, B, opsC, toksC, Pre.v, Tok.v, OpT.v, low_c, low_void, low_any, low_csl, low_nilf, low_ptr, low_osl, low_agg, low_tup, low_fn, List.forall_mem_cons, List.not_mem_nil, false_implies, implies_true, and_self, and_true, true_and]; done))) (by (first | rfl | exact (List.append_nil _).symm))); simp only [resV]; try exact V.wk.rfl _)
theorem law03_ReadTrees {w0 : World} (hG : Glob w0) (o : List OpT) (p q : Pre) (σ : H) : DC Tryz.prog w0 4 [.c (opsC o), p.v, q.v] σ (Same (B true) σ) := by
  refine go4 rfl (fun hok hsz => ?_)
  ((first | refine W.advO 5000 _ _ ?_ | skip); simp only [go_sem, ↓reduceIte, Nat.reduceEqDiff, Nat.reduceAdd, Nat.reduceSub, Nat.reduceMul, Nat.reduceLeDiff, Nat.reduceBEq, reduceCtorEq, Int.reduceLT, Int.reduceLE, Int.reduceToNat, Int.reduceAdd, Int.reduceSub, Int.reduceBEq, Int.reduceBNe, c4])
  (refine W.call1 (law03_works hG _) rfl rfl (by first | rfl | simp) ?_; refine W.advO 5000 _ _ ?_; simp only [go_sem, ↓reduceIte, Nat.reduceEqDiff, Nat.reduceAdd, Nat.reduceSub, Nat.reduceMul, Nat.reduceLeDiff, Nat.reduceBEq, reduceCtorEq, Int.reduceLT, Int.reduceLE, Int.reduceToNat, Int.reduceAdd, Int.reduceSub, Int.reduceBEq, Int.reduceBNe])
  refine W.no rfl ?_
  ((first | refine W.advO 5000 _ _ ?_ | skip); simp only [go_sem, ↓reduceIte, Nat.reduceEqDiff, Nat.reduceAdd, Nat.reduceSub, Nat.reduceMul, Nat.reduceLeDiff, Nat.reduceBEq, reduceCtorEq, Int.reduceLT, Int.reduceLE, Int.reduceToNat, Int.reduceAdd, Int.reduceSub, Int.reduceBEq, Int.reduceBNe])
  (refine W.call1w (law03_over w0 o [] _) rfl rfl rfl (by (repeat' (first | exact V.wk.rfl _ | exact V.wk.csl _ | exact V.wk.osl _ _ | exact wk_agg_nil | exact wk_tup_nil | refine wk_agg_cons ?_ ?_ | refine wk_tup_cons ?_ ?_))) ?_; refine W.advO 5000 _ _ ?_; simp only [go_sem, ↓reduceIte, Nat.reduceEqDiff, Nat.reduceAdd, Nat.reduceSub, Nat.reduceMul, Nat.reduceLeDiff, Nat.reduceBEq, reduceCtorEq, Int.reduceLT, Int.reduceLE, Int.reduceToNat, Int.reduceAdd, Int.reduceSub, Int.reduceBEq, Int.reduceBNe])
  (refine W.call1 (ref03_Deep w0 p 400 (by omega) (by omega) _) rfl rfl (by first | rfl | simp) ?_; refine W.advO 5000 _ _ ?_; simp only [go_sem, ↓reduceIte, Nat.reduceEqDiff, Nat.reduceAdd, Nat.reduceSub, Nat.reduceMul, Nat.reduceLeDiff, Nat.reduceBEq, reduceCtorEq, Int.reduceLT, Int.reduceLE, Int.reduceToNat, Int.reduceAdd, Int.reduceSub, Int.reduceBEq, Int.reduceBNe])
  (refine W.call1 (ref03_Deep w0 q 400 (by omega) (by omega) _) rfl rfl (by first | rfl | simp) ?_; refine W.advO 5000 _ _ ?_; simp only [go_sem, ↓reduceIte, Nat.reduceEqDiff, Nat.reduceAdd, Nat.reduceSub, Nat.reduceMul, Nat.reduceLeDiff, Nat.reduceBEq, reduceCtorEq, Int.reduceLT, Int.reduceLE, Int.reduceToNat, Int.reduceAdd, Int.reduceSub, Int.reduceBEq, Int.reduceBNe])
  (((first | refine W.advO 5000 _ _ ?_ | skip); (try simp only [bne, go_sem, ↓reduceIte, Nat.reduceEqDiff, Nat.reduceAdd, Nat.reduceSub, Nat.reduceMul, Nat.reduceLeDiff, Nat.reduceBEq, reduceCtorEq, Int.reduceLT, Int.reduceLE, Int.reduceToNat, Int.reduceAdd, Int.reduceSub, Int.reduceBEq, Int.reduceBNe, *])); (repeat' (first | (refine W.yes rfl ?_; (refine W.advO 5000 _ _ ?_; simp only [bne, go_sem, ↓reduceIte, Nat.reduceEqDiff, Nat.reduceAdd, Nat.reduceSub, Nat.reduceMul, Nat.reduceLeDiff, Nat.reduceBEq, reduceCtorEq, Int.reduceLT, Int.reduceLE, Int.reduceToNat, Int.reduceAdd, Int.reduceSub, Int.reduceBEq, Int.reduceBNe, *])) | (refine W.no rfl ?_; (refine W.advO 5000 _ _ ?_; simp only [bne, go_sem, ↓reduceIte, Nat.reduceEqDiff, Nat.reduceAdd, Nat.reduceSub, Nat.reduceMul, Nat.reduceLeDiff, Nat.reduceBEq, reduceCtorEq, Int.reduceLT, Int.reduceLE, Int.reduceToNat, Int.reduceAdd, Int.reduceSub, Int.reduceBEq, Int.reduceBNe, *])) | (refine W.testn rfl (fun hT => ?_) (fun hT => ?_) <;> (refine W.advO 5000 _ _ ?_; simp only [bne, go_sem, ↓reduceIte, Nat.reduceEqDiff, Nat.reduceAdd, Nat.reduceSub, Nat.reduceMul, Nat.reduceLeDiff, Nat.reduceBEq, reduceCtorEq, Int.reduceLT, Int.reduceLE, Int.reduceToNat, Int.reduceAdd, Int.reduceSub, Int.reduceBEq, Int.reduceBNe, *])) | (refine W.test rfl (fun hT => ?_) (fun hT => ?_) <;> (refine W.advO 5000 _ _ ?_; simp only [bne, go_sem, ↓reduceIte, Nat.reduceEqDiff, Nat.reduceAdd, Nat.reduceSub, Nat.reduceMul, Nat.reduceLeDiff, Nat.reduceBEq, reduceCtorEq, Int.reduceLT, Int.reduceLE, Int.reduceToNat, Int.reduceAdd, Int.reduceSub, Int.reduceBEq, Int.reduceBNe, *])) | (refine advG_ifn _ _ _ _ (fun hT => ?_) (fun hT => ?_) <;> simp only [bne, go_sem, ↓reduceIte, Nat.reduceEqDiff, Nat.reduceAdd, Nat.reduceSub, Nat.reduceMul, Nat.reduceLeDiff, Nat.reduceBEq, reduceCtorEq, Int.reduceLT, Int.reduceLE, Int.reduceToNat, Int.reduceAdd, Int.reduceSub, Int.reduceBEq, Int.reduceBNe, *]) | (refine advG_if _ _ _ _ (fun hT => ?_) (fun hT => ?_) <;> simp only [bne, go_sem, ↓reduceIte, Nat.reduceEqDiff, Nat.reduceAdd, Nat.reduceSub, Nat.reduceMul, Nat.reduceLeDiff, Nat.reduceBEq, reduceCtorEq, Int.reduceLT, Int.reduceLE, Int.reduceToNat, Int.reduceAdd, Int.reduceSub, Int.reduceBEq, Int.reduceBNe, *]))))
  all_goals (try (refine W.ret (Fin.sameW (hok) (by (first | rfl | exact List.length_set .. | simp)) (by simp only [resEval, r4, go_sem, ↓reduceIte, Nat.reduceEqDiff, Nat.reduceAdd, Nat.reduceSub, Nat.reduceMul, Nat.reduceLeDiff, Nat.reduceBEq, reduceCtorEq, Int.reduceLT, Int.reduceLE, Int.reduceToNat, Int.reduceAdd, Int.reduceSub, Int.reduceBEq, Int.reduceBNe]; rfl) ?_ (by (first | exact .c _ | (simp only [I, S, B, opsC, toksC, Pre.v, Tok.v, OpT.v, low_c, low_void, low_any, low_csl, low_nilf, low_ptr, low_osl, low_agg, low_tup, low_fn, List.forall_mem_cons, List.not_mem_nil, false_implies, implies_true, and_self, and_true, true_and]; done))) (by (first | rfl | exact (List.append_nil _).symm))); simp only [resV]; try exact V.wk.rfl _))
  apply W.dregE (List.cons_ne_nil _ _)
  case hc =>
    (apply CanonE.advPO; simp only [advPO_nil, advPO_loud, advPO_quiet, pL_yes, pL_no, pLS_some, pLS_none, pQ_yes, pQ_no, pQS_some, pQS_loud, eq_self, Nat.sub_zero, go_sem, ↓reduceIte, Nat.reduceEqDiff, Nat.reduceAdd, Nat.reduceSub, Nat.reduceMul, Nat.reduceLeDiff, Nat.reduceBEq, reduceCtorEq, Int.reduceLT, Int.reduceLE, Int.reduceToNat, Int.reduceAdd, Int.reduceSub, Int.reduceBEq, Int.reduceBNe])
    (apply CanonE.call (read_Valid w0 o p _); (case hg => rfl); (case hf => rfl); (case ha => first | rfl | simp))
    (apply CanonE.advPO; simp only [advPO_nil, advPO_loud, advPO_quiet, pL_yes, pL_no, pLS_some, pLS_none, pQ_yes, pQ_no, pQS_some, pQS_loud, eq_self, Nat.sub_zero, go_sem, ↓reduceIte, Nat.reduceEqDiff, Nat.reduceAdd, Nat.reduceSub, Nat.reduceMul, Nat.reduceLeDiff, Nat.reduceBEq, reduceCtorEq, Int.reduceLT, Int.reduceLE, Int.reduceToNat, Int.reduceAdd, Int.reduceSub, Int.reduceBEq, Int.reduceBNe])
    (apply CanonE.call (ref03_Valid w0 o p _); (case hg => rfl); (case hf => rfl); (case ha => first | rfl | simp))
    (apply CanonE.advPO; simp only [advPO_nil, advPO_loud, advPO_quiet, pL_yes, pL_no, pLS_some, pLS_none, pQ_yes, pQ_no, pQS_some, pQS_loud, eq_self, Nat.sub_zero, go_sem, ↓reduceIte, Nat.reduceEqDiff, Nat.reduceAdd, Nat.reduceSub, Nat.reduceMul, Nat.reduceLeDiff, Nat.reduceBEq, reduceCtorEq, Int.reduceLT, Int.reduceLE, Int.reduceToNat, Int.reduceAdd, Int.reduceSub, Int.reduceBEq, Int.reduceBNe])
    exact CanonE.nil
  ((first | refine W.advO 5000 _ _ ?_ | skip); simp only [go_sem, ↓reduceIte, Nat.reduceEqDiff, Nat.reduceAdd, Nat.reduceSub, Nat.reduceMul, Nat.reduceLeDiff, Nat.reduceBEq, reduceCtorEq, Int.reduceLT, Int.reduceLE, Int.reduceToNat, Int.reduceAdd, Int.reduceSub, Int.reduceBEq, Int.reduceBNe])
  apply W.dregE (List.cons_ne_nil _ _)
  case hc =>
    (apply CanonE.advPO; simp only [advPO_nil, advPO_loud, advPO_quiet, pL_yes, pL_no, pLS_some, pLS_none, pQ_yes, pQ_no, pQS_some, pQS_loud, eq_self, Nat.sub_zero, go_sem, ↓reduceIte, Nat.reduceEqDiff, Nat.reduceAdd, Nat.reduceSub, Nat.reduceMul, Nat.reduceLeDiff, Nat.reduceBEq, reduceCtorEq, Int.reduceLT, Int.reduceLE, Int.reduceToNat, Int.reduceAdd, Int.reduceSub, Int.reduceBEq, Int.reduceBNe])
    (apply CanonE.call (read_Same w0 p q _); (case hg => rfl); (case hf => rfl); (case ha => first | rfl | simp))
    (apply CanonE.advPO; simp only [advPO_nil, advPO_loud, advPO_quiet, pL_yes, pL_no, pLS_some, pLS_none, pQ_yes, pQ_no, pQS_some, pQS_loud, eq_self, Nat.sub_zero, go_sem, ↓reduceIte, Nat.reduceEqDiff, Nat.reduceAdd, Nat.reduceSub, Nat.reduceMul, Nat.reduceLeDiff, Nat.reduceBEq, reduceCtorEq, Int.reduceLT, Int.reduceLE, Int.reduceToNat, Int.reduceAdd, Int.reduceSub, Int.reduceBEq, Int.reduceBNe])
    (apply CanonE.call (ref03_Same w0 p q _); (case hg => rfl); (case hf => rfl); (case ha => first | rfl | simp))
    (apply CanonE.advPO; simp only [advPO_nil, advPO_loud, advPO_quiet, pL_yes, pL_no, pLS_some, pLS_none, pQ_yes, pQ_no, pQS_some, pQS_loud, eq_self, Nat.sub_zero, go_sem, ↓reduceIte, Nat.reduceEqDiff, Nat.reduceAdd, Nat.reduceSub, Nat.reduceMul, Nat.reduceLeDiff, Nat.reduceBEq, reduceCtorEq, Int.reduceLT, Int.reduceLE, Int.reduceToNat, Int.reduceAdd, Int.reduceSub, Int.reduceBEq, Int.reduceBNe])
    exact CanonE.nil
  ((first | refine W.advO 5000 _ _ ?_ | skip); simp only [go_sem, ↓reduceIte, Nat.reduceEqDiff, Nat.reduceAdd, Nat.reduceSub, Nat.reduceMul, Nat.reduceLeDiff, Nat.reduceBEq, reduceCtorEq, Int.reduceLT, Int.reduceLE, Int.reduceToNat, Int.reduceAdd, Int.reduceSub, Int.reduceBEq, Int.reduceBNe])
  (refine W.ret (Fin.sameW (hok) (by (first | rfl | exact List.length_set .. | simp)) (by simp only [resEval, r4, go_sem, ↓reduceIte, Nat.reduceEqDiff, Nat.reduceAdd, Nat.reduceSub, Nat.reduceMul, Nat.reduceLeDiff, Nat.reduceBEq, reduceCtorEq, Int.reduceLT, Int.reduceLE, Int.reduceToNat, Int.reduceAdd, Int.reduceSub, Int.reduceBEq, Int.reduceBNe]; rfl) ?_ (by (first | exact .c _ | (simp only [I, S, B, opsC, toksC, Pre.v, Tok.v, OpT.v, low_c, low_void, low_any, low_csl, low_nilf, low_ptr, low_osl, low_agg, low_tup, low_fn, List.forall_mem_cons, List.not_mem_nil, false_implies, implies_true, and_self, and_true, true_and]; done))) (by (first | rfl | exact (List.append_nil _).symm))); simp only [resV]; try exact V.wk.rfl _)
end Go.Proofs.YtpgkhkojjklakaaGreatDoor
namespace Go.Proofs.YtpgkhkojjklakaaGreatDoor
open Go.RowKit Go.Lamb
attribute [local go_sem] advO_skip advO_reg advO_seq advO_block advO_exit advO_endb advO_opsNil advO_ops advG_yes advG_no advG_none advS_some advS_none advO_cond advO_loop advO_dreg advO_ret advO_bad advO_inv advO_nil advO_zero wantedV Lamb.step ev_t ev_k put_some put_none argEnv popTo cellsAt V.cellsV V.rows V.toC toCs fillV rowsV boundV boundL binV binInt binStr eqC eqL V.isNil leaves V.leaf Ins.quiet Ins.pure List.getD_cons_zero List.getD_cons_succ List.getD_nil List.all_cons List.all_nil List.length_cons List.length_nil List.take_succ_cons List.take_zero List.drop_succ_cons List.drop_zero List.cons_append List.nil_append List.append_nil List.append_assoc List.map_cons List.map_nil List.getElem?_cons_zero List.getElem?_cons_succ List.length_append List.length_set hget0 hget hset0 hset hsets hgs0 hgs hss0 hss List.set_cons_zero List.set_cons_succ List.forall_mem_cons List.not_mem_nil false_implies implies_true Option.map_some Bool.and_true Bool.true_and Bool.not_not Bool.not_true Bool.not_false Bool.and_self Bool.or_true Bool.true_or Bool.or_false Bool.false_or Bool.and_false Bool.false_and Bool.false_eq_true beq_self_eq_true and_self and_true true_and if_true if_false Nat.zero_add Nat.add_zero Nat.le_refl Int.toNat_natCast decide_true decide_false beq_t beq_f List.length_map List.getElem?_map I S B opsC toksC OpT.v OpT.cs OpT.zero Tok.v Tok.cs Pre.v Pre.cs_eq k_mk name_mk n_mk l_mk pos_mk Pre.app applyL natCast0 natCast1 natCast2

theorem over_no {l : List OpT} {t : List Tok} (h : overL l t = false) : l.length ≤ 100 ∧ t.length ≤ 400 := by
  simp only [overL, Bool.or_eq_false_iff, decide_eq_false_iff_not] at h
  omega
theorem law03_ReadParts {w0 : World} (hG : Glob w0) (l : List OpT) (t ahead : List Tok) (σ : H) : DC Tryz.prog w0 5 [.c (opsC l), .c (toksC t), .c (toksC ahead)] σ (Same (B true) σ) := by
  refine go5 rfl (fun hok hsz => ?_)
  ((first | refine W.advO 5000 _ _ ?_ | skip); simp only [go_sem, ↓reduceIte, Nat.reduceEqDiff, Nat.reduceAdd, Nat.reduceSub, Nat.reduceMul, Nat.reduceLeDiff, Nat.reduceBEq, reduceCtorEq, Int.reduceLT, Int.reduceLE, Int.reduceToNat, Int.reduceAdd, Int.reduceSub, Int.reduceBEq, Int.reduceBNe, c5])
  (refine W.call1 (law03_works hG _) rfl rfl (by first | rfl | simp) ?_; refine W.advO 5000 _ _ ?_; simp only [go_sem, ↓reduceIte, Nat.reduceEqDiff, Nat.reduceAdd, Nat.reduceSub, Nat.reduceMul, Nat.reduceLeDiff, Nat.reduceBEq, reduceCtorEq, Int.reduceLT, Int.reduceLE, Int.reduceToNat, Int.reduceAdd, Int.reduceSub, Int.reduceBEq, Int.reduceBNe])
  refine W.no rfl ?_
  ((first | refine W.advO 5000 _ _ ?_ | skip); simp only [go_sem, ↓reduceIte, Nat.reduceEqDiff, Nat.reduceAdd, Nat.reduceSub, Nat.reduceMul, Nat.reduceLeDiff, Nat.reduceBEq, reduceCtorEq, Int.reduceLT, Int.reduceLE, Int.reduceToNat, Int.reduceAdd, Int.reduceSub, Int.reduceBEq, Int.reduceBNe])
  (refine W.call1 (law03_over w0 l t _) rfl rfl (by first | rfl | simp) ?_; refine W.advO 5000 _ _ ?_; simp only [go_sem, ↓reduceIte, Nat.reduceEqDiff, Nat.reduceAdd, Nat.reduceSub, Nat.reduceMul, Nat.reduceLeDiff, Nat.reduceBEq, reduceCtorEq, Int.reduceLT, Int.reduceLE, Int.reduceToNat, Int.reduceAdd, Int.reduceSub, Int.reduceBEq, Int.reduceBNe])
  (refine W.call1w (law03_over w0 [] ahead _) rfl rfl rfl (by (repeat' (first | exact V.wk.rfl _ | exact V.wk.csl _ | exact V.wk.osl _ _ | exact wk_agg_nil | exact wk_tup_nil | refine wk_agg_cons ?_ ?_ | refine wk_tup_cons ?_ ?_))) ?_; refine W.advO 5000 _ _ ?_; simp only [go_sem, ↓reduceIte, Nat.reduceEqDiff, Nat.reduceAdd, Nat.reduceSub, Nat.reduceMul, Nat.reduceLeDiff, Nat.reduceBEq, reduceCtorEq, Int.reduceLT, Int.reduceLE, Int.reduceToNat, Int.reduceAdd, Int.reduceSub, Int.reduceBEq, Int.reduceBNe])
  (((first | refine W.advO 5000 _ _ ?_ | skip); (try simp only [bne, go_sem, ↓reduceIte, Nat.reduceEqDiff, Nat.reduceAdd, Nat.reduceSub, Nat.reduceMul, Nat.reduceLeDiff, Nat.reduceBEq, reduceCtorEq, Int.reduceLT, Int.reduceLE, Int.reduceToNat, Int.reduceAdd, Int.reduceSub, Int.reduceBEq, Int.reduceBNe, *])); (repeat' (first | (refine W.yes rfl ?_; (refine W.advO 5000 _ _ ?_; simp only [bne, go_sem, ↓reduceIte, Nat.reduceEqDiff, Nat.reduceAdd, Nat.reduceSub, Nat.reduceMul, Nat.reduceLeDiff, Nat.reduceBEq, reduceCtorEq, Int.reduceLT, Int.reduceLE, Int.reduceToNat, Int.reduceAdd, Int.reduceSub, Int.reduceBEq, Int.reduceBNe, *])) | (refine W.no rfl ?_; (refine W.advO 5000 _ _ ?_; simp only [bne, go_sem, ↓reduceIte, Nat.reduceEqDiff, Nat.reduceAdd, Nat.reduceSub, Nat.reduceMul, Nat.reduceLeDiff, Nat.reduceBEq, reduceCtorEq, Int.reduceLT, Int.reduceLE, Int.reduceToNat, Int.reduceAdd, Int.reduceSub, Int.reduceBEq, Int.reduceBNe, *])) | (refine W.testn rfl (fun hT => ?_) (fun hT => ?_) <;> (refine W.advO 5000 _ _ ?_; simp only [bne, go_sem, ↓reduceIte, Nat.reduceEqDiff, Nat.reduceAdd, Nat.reduceSub, Nat.reduceMul, Nat.reduceLeDiff, Nat.reduceBEq, reduceCtorEq, Int.reduceLT, Int.reduceLE, Int.reduceToNat, Int.reduceAdd, Int.reduceSub, Int.reduceBEq, Int.reduceBNe, *])) | (refine W.test rfl (fun hT => ?_) (fun hT => ?_) <;> (refine W.advO 5000 _ _ ?_; simp only [bne, go_sem, ↓reduceIte, Nat.reduceEqDiff, Nat.reduceAdd, Nat.reduceSub, Nat.reduceMul, Nat.reduceLeDiff, Nat.reduceBEq, reduceCtorEq, Int.reduceLT, Int.reduceLE, Int.reduceToNat, Int.reduceAdd, Int.reduceSub, Int.reduceBEq, Int.reduceBNe, *])) | (refine advG_ifn _ _ _ _ (fun hT => ?_) (fun hT => ?_) <;> simp only [bne, go_sem, ↓reduceIte, Nat.reduceEqDiff, Nat.reduceAdd, Nat.reduceSub, Nat.reduceMul, Nat.reduceLeDiff, Nat.reduceBEq, reduceCtorEq, Int.reduceLT, Int.reduceLE, Int.reduceToNat, Int.reduceAdd, Int.reduceSub, Int.reduceBEq, Int.reduceBNe, *]) | (refine advG_if _ _ _ _ (fun hT => ?_) (fun hT => ?_) <;> simp only [bne, go_sem, ↓reduceIte, Nat.reduceEqDiff, Nat.reduceAdd, Nat.reduceSub, Nat.reduceMul, Nat.reduceLeDiff, Nat.reduceBEq, reduceCtorEq, Int.reduceLT, Int.reduceLE, Int.reduceToNat, Int.reduceAdd, Int.reduceSub, Int.reduceBEq, Int.reduceBNe, *]))))
  all_goals (try (refine W.ret (Fin.sameW (hok) (by (first | rfl | exact List.length_set .. | simp)) (by simp only [resEval, r5, go_sem, ↓reduceIte, Nat.reduceEqDiff, Nat.reduceAdd, Nat.reduceSub, Nat.reduceMul, Nat.reduceLeDiff, Nat.reduceBEq, reduceCtorEq, Int.reduceLT, Int.reduceLE, Int.reduceToNat, Int.reduceAdd, Int.reduceSub, Int.reduceBEq, Int.reduceBNe]; rfl) ?_ (by (first | exact .c _ | (simp only [I, S, B, opsC, toksC, Pre.v, Tok.v, OpT.v, low_c, low_void, low_any, low_csl, low_nilf, low_ptr, low_osl, low_agg, low_tup, low_fn, List.forall_mem_cons, List.not_mem_nil, false_implies, implies_true, and_self, and_true, true_and]; done))) (by (first | rfl | exact (List.append_nil _).symm))); simp only [resV]; try exact V.wk.rfl _))
  have h1 : overL l t = false := by assumption
  have h2 : overL [] ahead = false := by assumption
  have ht := (over_no h1).2
  have ha := (over_no h2).2
  obtain ⟨r, hr⟩ := Expr.some l t 0 0 0
  cases r with
  | error b =>
    have he := Expr.err hr
    (refine W.call1 (read_at0 w0 l t _ _ hr (by omega)) rfl rfl (by first | rfl | simp) ?_; refine W.advO 5000 _ _ ?_; simp only [go_sem, ↓reduceIte, Nat.reduceEqDiff, Nat.reduceAdd, Nat.reduceSub, Nat.reduceMul, Nat.reduceLeDiff, Nat.reduceBEq, reduceCtorEq, Int.reduceLT, Int.reduceLE, Int.reduceToNat, Int.reduceAdd, Int.reduceSub, Int.reduceBEq, Int.reduceBNe, readV, Pre.none, he])
    refine W.yes rfl ?_
    ((first | refine W.advO 5000 _ _ ?_ | skip); simp only [go_sem, ↓reduceIte, Nat.reduceEqDiff, Nat.reduceAdd, Nat.reduceSub, Nat.reduceMul, Nat.reduceLeDiff, Nat.reduceBEq, reduceCtorEq, Int.reduceLT, Int.reduceLE, Int.reduceToNat, Int.reduceAdd, Int.reduceSub, Int.reduceBEq, Int.reduceBNe])
    (refine W.ret (Fin.sameW (hok) (by (first | rfl | exact List.length_set .. | simp)) (by simp only [resEval, r5, go_sem, ↓reduceIte, Nat.reduceEqDiff, Nat.reduceAdd, Nat.reduceSub, Nat.reduceMul, Nat.reduceLeDiff, Nat.reduceBEq, reduceCtorEq, Int.reduceLT, Int.reduceLE, Int.reduceToNat, Int.reduceAdd, Int.reduceSub, Int.reduceBEq, Int.reduceBNe]; rfl) ?_ (by (first | exact .c _ | (simp only [I, S, B, opsC, toksC, Pre.v, Tok.v, OpT.v, low_c, low_void, low_any, low_csl, low_nilf, low_ptr, low_osl, low_agg, low_tup, low_fn, List.forall_mem_cons, List.not_mem_nil, false_implies, implies_true, and_self, and_true, true_and]; done))) (by (first | rfl | exact (List.append_nil _).symm))); simp only [resV]; try exact V.wk.rfl _)
  | ok x =>
    obtain ⟨m, n⟩ := x
    have hb : 0 < n ∧ n ≤ t.length := by
      obtain ⟨f, hf⟩ := hr
      have := (fuel_bounds f).2.2.1 _ _ _ _ _ _ _ hf
      exact this
    have hn1 : ¬ ((n : Int) < 1) := by omega
    have hn2 : ¬ ((n : Int) > (t.length : Int)) := by omega
    (refine W.call1 (read_at0 w0 l t _ _ hr (by omega)) rfl rfl (by first | rfl | simp) ?_; refine W.advO 5000 _ _ ?_; simp only [go_sem, ↓reduceIte, Nat.reduceEqDiff, Nat.reduceAdd, Nat.reduceSub, Nat.reduceMul, Nat.reduceLeDiff, Nat.reduceBEq, reduceCtorEq, Int.reduceLT, Int.reduceLE, Int.reduceToNat, Int.reduceAdd, Int.reduceSub, Int.reduceBEq, Int.reduceBNe, readV])
    refine W.no rfl ?_
    ((first | refine W.advO 5000 _ _ ?_ | skip); simp only [go_sem, ↓reduceIte, Nat.reduceEqDiff, Nat.reduceAdd, Nat.reduceSub, Nat.reduceMul, Nat.reduceLeDiff, Nat.reduceBEq, reduceCtorEq, Int.reduceLT, Int.reduceLE, Int.reduceToNat, Int.reduceAdd, Int.reduceSub, Int.reduceBEq, Int.reduceBNe, hn1, hn2])
    refine W.no rfl ?_
    have hs1 : ∀ r ∈ ahead.map Tok.cs, r.length = 4 := fun r hr => by obtain ⟨o, _, rfl⟩ := List.mem_map.1 hr; rfl
    have hs2 : ∀ r ∈ t.map Tok.cs, r.length = 4 := fun r hr => by obtain ⟨o, _, rfl⟩ := List.mem_map.1 hr; rfl
    have hs3 : ∀ r ∈ (t.take n).map Tok.cs, r.length = 4 := fun r hr => by obtain ⟨o, _, rfl⟩ := List.mem_map.1 hr; rfl
    have hmt : (t.map Tok.cs).take n = (t.take n).map Tok.cs := List.map_take.symm
    have hln : (t.take n).length = n := by rw [List.length_take]; omega
    have hle : (n : Int) ≤ (t.length : Int) := by omega
    have hx1 : ahead.length * 40 ≤ 140737488355328 := by omega
    have hx2 : ahead.length ≤ 140737488355328 := by omega
    have hx3 : (ahead.length + n) * 40 ≤ 140737488355328 := by omega
    have hx4 : ahead.length + n ≤ 140737488355328 := by omega
    have hma : ahead.map Tok.cs ++ (t.take n).map Tok.cs = (ahead ++ t.take n).map Tok.cs := List.map_append.symm
    ((first | refine W.advO 5000 _ _ ?_ | skip); simp only [go_sem, ↓reduceIte, Nat.reduceEqDiff, Nat.reduceAdd, Nat.reduceSub, Nat.reduceMul, Nat.reduceLeDiff, Nat.reduceBEq, reduceCtorEq, Int.reduceLT, Int.reduceLE, Int.reduceToNat, Int.reduceAdd, Int.reduceSub, Int.reduceBEq, Int.reduceBNe, Nat.sub_zero, true_or, eq_true hs1, eq_true hs2, eq_true hs3, hmt, hln, nat0, hle, hx1, hx2, hx3, hx4, hma])
    have p1 := hr.part (ahead := [])
    have p2 := hr.part (ahead := ahead)
    (refine W.call1 (read_at0 w0 l (t.take n) _ _ p1 (by omega)) rfl rfl (by first | rfl | simp) ?_; refine W.advO 5000 _ _ ?_; simp only [go_sem, ↓reduceIte, Nat.reduceEqDiff, Nat.reduceAdd, Nat.reduceSub, Nat.reduceMul, Nat.reduceLeDiff, Nat.reduceBEq, reduceCtorEq, Int.reduceLT, Int.reduceLE, Int.reduceToNat, Int.reduceAdd, Int.reduceSub, Int.reduceBEq, Int.reduceBNe, readV])
    (refine W.call1w (read_Read w0 l (ahead ++ t.take n) ahead.length _ _ p2 (by simp) (by simp; omega)) rfl rfl rfl (by (repeat' (first | exact V.wk.rfl _ | exact V.wk.csl _ | exact V.wk.osl _ _ | exact wk_agg_nil | exact wk_tup_nil | refine wk_agg_cons ?_ ?_ | refine wk_tup_cons ?_ ?_))) ?_; refine W.advO 5000 _ _ ?_; simp only [go_sem, ↓reduceIte, Nat.reduceEqDiff, Nat.reduceAdd, Nat.reduceSub, Nat.reduceMul, Nat.reduceLeDiff, Nat.reduceBEq, reduceCtorEq, Int.reduceLT, Int.reduceLE, Int.reduceToNat, Int.reduceAdd, Int.reduceSub, Int.reduceBEq, Int.reduceBNe, readV])
    have hw : IntKind.i64.wrap ((n : Int) + (ahead.length : Int)) = ((n + ahead.length : Nat) : Int) := by rw [wrap_in] <;> omega
    (refine W.call1 (ref03_Exact w0 m.p _) rfl rfl (by first | rfl | simp) ?_; refine W.advO 5000 _ _ ?_; simp only [go_sem, ↓reduceIte, Nat.reduceEqDiff, Nat.reduceAdd, Nat.reduceSub, Nat.reduceMul, Nat.reduceLeDiff, Nat.reduceBEq, reduceCtorEq, Int.reduceLT, Int.reduceLE, Int.reduceToNat, Int.reduceAdd, Int.reduceSub, Int.reduceBEq, Int.reduceBNe])
    (refine W.call1 (ref03_Exact w0 m.p _) rfl rfl (by first | rfl | simp) ?_; refine W.advO 5000 _ _ ?_; simp only [go_sem, ↓reduceIte, Nat.reduceEqDiff, Nat.reduceAdd, Nat.reduceSub, Nat.reduceMul, Nat.reduceLeDiff, Nat.reduceBEq, reduceCtorEq, Int.reduceLT, Int.reduceLE, Int.reduceToNat, Int.reduceAdd, Int.reduceSub, Int.reduceBEq, Int.reduceBNe, hw])
    (refine W.ret (Fin.sameW (hok) (by (first | rfl | exact List.length_set .. | simp)) (by simp only [resEval, r5, go_sem, ↓reduceIte, Nat.reduceEqDiff, Nat.reduceAdd, Nat.reduceSub, Nat.reduceMul, Nat.reduceLeDiff, Nat.reduceBEq, reduceCtorEq, Int.reduceLT, Int.reduceLE, Int.reduceToNat, Int.reduceAdd, Int.reduceSub, Int.reduceBEq, Int.reduceBNe]; rfl) ?_ (by (first | exact .c _ | (simp only [I, S, B, opsC, toksC, Pre.v, Tok.v, OpT.v, low_c, low_void, low_any, low_csl, low_nilf, low_ptr, low_osl, low_agg, low_tup, low_fn, List.forall_mem_cons, List.not_mem_nil, false_implies, implies_true, and_self, and_true, true_and]; done))) (by (first | rfl | exact (List.append_nil _).symm))); simp only [resV]; try exact V.wk.rfl _)
end Go.Proofs.YtpgkhkojjklakaaGreatDoor
namespace Go.Proofs.YtpgkhkojjklakaaGreatDoor
open Go.RowKit Go.Lamb
attribute [local go_sem] advO_skip advO_reg advO_seq advO_block advO_exit advO_endb advO_opsNil advO_ops advG_yes advG_no advG_none advS_some advS_none advO_cond advO_loop advO_dreg advO_ret advO_bad advO_inv advO_nil advO_zero wantedV Lamb.step ev_t ev_k put_some put_none argEnv popTo cellsAt V.cellsV V.rows V.toC toCs fillV rowsV boundV boundL binV binInt binStr eqC eqL V.isNil leaves V.leaf Ins.quiet Ins.pure List.getD_cons_zero List.getD_cons_succ List.getD_nil List.all_cons List.all_nil List.length_cons List.length_nil List.take_succ_cons List.take_zero List.drop_succ_cons List.drop_zero List.cons_append List.nil_append List.append_nil List.append_assoc List.map_cons List.map_nil List.getElem?_cons_zero List.getElem?_cons_succ List.length_append List.length_set hget0 hget hset0 hset hsets hgs0 hgs hss0 hss List.set_cons_zero List.set_cons_succ List.forall_mem_cons List.not_mem_nil false_implies implies_true Option.map_some Bool.and_true Bool.true_and Bool.not_not Bool.not_true Bool.not_false Bool.and_self Bool.or_true Bool.true_or Bool.or_false Bool.false_or Bool.and_false Bool.false_and Bool.false_eq_true beq_self_eq_true and_self and_true true_and if_true if_false Nat.zero_add Nat.add_zero Nat.le_refl Int.toNat_natCast decide_true decide_false beq_t beq_f List.length_map List.getElem?_map I S B opsC toksC OpT.v OpT.cs OpT.zero Tok.v Tok.cs Pre.v Pre.cs_eq k_mk name_mk n_mk l_mk pos_mk Pre.app applyL natCast0 natCast1 natCast2

def nestK (kind : Int) (n : Nat) : List UInt8 := if kind.tmod 3 == 1 then nest1 n else if kind.tmod 3 == 2 then nest2 n else nest0 n
theorem nestK_zero (kind : Int) : nestK kind 0 = [97] := by unfold nestK; (repeat' split) <;> rfl
theorem nestK_len (kind : Int) (n : Nat) : (nestK kind n).length ≤ 4 * n + 1 := by
  have := nest_len n
  unfold nestK
  repeat' split
  all_goals omega
theorem nestedK (kind : Int) (n : Nat) (hn : n ≤ 1000) : (n ≤ 200 → ∃ m j, Lamb.Expr ops0 (lexL (nestK kind n)).toks 0 0 0 (.ok (m, j))) ∧ (200 < n → ∃ p, Lamb.Expr ops0 (lexL (nestK kind n)).toks 0 0 0 (.error ⟨31, p⟩)) := by
  have ha : findL ops0 [97] = none := by decide +kernel
  have hx : findL ops0 [120] = none := by decide +kernel
  have hc : findL ops0 [44] = some ⟨[44], 30, 2⟩ := by decide +kernel
  unfold nestK
  repeat' split
  · exact nested1 n hn ha hx
  · exact nested2 n hn ha hc rfl (by decide)
  · exact nested0 n hn ha
theorem law03_ReadDeep {w0 : World} (hG : Glob w0) (n kind : Int) (σ : H) : DC Tryz.prog w0 6 [I n, I kind] σ (Same (B true) σ) := by
  refine go6 rfl (fun hok hsz => ?_)
  ((first | refine W.advO 5000 _ _ ?_ | skip); simp only [go_sem, ↓reduceIte, Nat.reduceEqDiff, Nat.reduceAdd, Nat.reduceSub, Nat.reduceMul, Nat.reduceLeDiff, Nat.reduceBEq, reduceCtorEq, Int.reduceLT, Int.reduceLE, Int.reduceToNat, Int.reduceAdd, Int.reduceSub, Int.reduceBEq, Int.reduceBNe, c6])
  (refine W.call1 (law03_works hG _) rfl rfl (by first | rfl | simp) ?_; refine W.advO 5000 _ _ ?_; simp only [go_sem, ↓reduceIte, Nat.reduceEqDiff, Nat.reduceAdd, Nat.reduceSub, Nat.reduceMul, Nat.reduceLeDiff, Nat.reduceBEq, reduceCtorEq, Int.reduceLT, Int.reduceLE, Int.reduceToNat, Int.reduceAdd, Int.reduceSub, Int.reduceBEq, Int.reduceBNe])
  refine W.no rfl ?_
  by_cases h0 : n < 0
  · ((first | refine W.advO 5000 _ _ ?_ | skip); simp only [go_sem, ↓reduceIte, Nat.reduceEqDiff, Nat.reduceAdd, Nat.reduceSub, Nat.reduceMul, Nat.reduceLeDiff, Nat.reduceBEq, reduceCtorEq, Int.reduceLT, Int.reduceLE, Int.reduceToNat, Int.reduceAdd, Int.reduceSub, Int.reduceBEq, Int.reduceBNe, h0])
    refine W.yes rfl ?_
    ((first | refine W.advO 5000 _ _ ?_ | skip); simp only [go_sem, ↓reduceIte, Nat.reduceEqDiff, Nat.reduceAdd, Nat.reduceSub, Nat.reduceMul, Nat.reduceLeDiff, Nat.reduceBEq, reduceCtorEq, Int.reduceLT, Int.reduceLE, Int.reduceToNat, Int.reduceAdd, Int.reduceSub, Int.reduceBEq, Int.reduceBNe])
    (refine W.ret (Fin.sameW (hok) (by (first | rfl | exact List.length_set .. | simp)) (by simp only [resEval, r6, go_sem, ↓reduceIte, Nat.reduceEqDiff, Nat.reduceAdd, Nat.reduceSub, Nat.reduceMul, Nat.reduceLeDiff, Nat.reduceBEq, reduceCtorEq, Int.reduceLT, Int.reduceLE, Int.reduceToNat, Int.reduceAdd, Int.reduceSub, Int.reduceBEq, Int.reduceBNe]; rfl) ?_ (by (first | exact .c _ | (simp only [I, S, B, opsC, toksC, Pre.v, Tok.v, OpT.v, low_c, low_void, low_any, low_csl, low_nilf, low_ptr, low_osl, low_agg, low_tup, low_fn, List.forall_mem_cons, List.not_mem_nil, false_implies, implies_true, and_self, and_true, true_and]; done))) (by (first | rfl | exact (List.append_nil _).symm))); simp only [resV]; try exact V.wk.rfl _)
  by_cases h1 : n > 260
  · ((first | refine W.advO 5000 _ _ ?_ | skip); simp only [go_sem, ↓reduceIte, Nat.reduceEqDiff, Nat.reduceAdd, Nat.reduceSub, Nat.reduceMul, Nat.reduceLeDiff, Nat.reduceBEq, reduceCtorEq, Int.reduceLT, Int.reduceLE, Int.reduceToNat, Int.reduceAdd, Int.reduceSub, Int.reduceBEq, Int.reduceBNe, h0, h1])
    refine W.yes rfl ?_
    ((first | refine W.advO 5000 _ _ ?_ | skip); simp only [go_sem, ↓reduceIte, Nat.reduceEqDiff, Nat.reduceAdd, Nat.reduceSub, Nat.reduceMul, Nat.reduceLeDiff, Nat.reduceBEq, reduceCtorEq, Int.reduceLT, Int.reduceLE, Int.reduceToNat, Int.reduceAdd, Int.reduceSub, Int.reduceBEq, Int.reduceBNe])
    (refine W.ret (Fin.sameW (hok) (by (first | rfl | exact List.length_set .. | simp)) (by simp only [resEval, r6, go_sem, ↓reduceIte, Nat.reduceEqDiff, Nat.reduceAdd, Nat.reduceSub, Nat.reduceMul, Nat.reduceLeDiff, Nat.reduceBEq, reduceCtorEq, Int.reduceLT, Int.reduceLE, Int.reduceToNat, Int.reduceAdd, Int.reduceSub, Int.reduceBEq, Int.reduceBNe]; rfl) ?_ (by (first | exact .c _ | (simp only [I, S, B, opsC, toksC, Pre.v, Tok.v, OpT.v, low_c, low_void, low_any, low_csl, low_nilf, low_ptr, low_osl, low_agg, low_tup, low_fn, List.forall_mem_cons, List.not_mem_nil, false_implies, implies_true, and_self, and_true, true_and]; done))) (by (first | rfl | exact (List.append_nil _).symm))); simp only [resV]; try exact V.wk.rfl _)
  ((first | refine W.advO 5000 _ _ ?_ | skip); simp only [go_sem, ↓reduceIte, Nat.reduceEqDiff, Nat.reduceAdd, Nat.reduceSub, Nat.reduceMul, Nat.reduceLeDiff, Nat.reduceBEq, reduceCtorEq, Int.reduceLT, Int.reduceLE, Int.reduceToNat, Int.reduceAdd, Int.reduceSub, Int.reduceBEq, Int.reduceBNe, h0, h1])
  refine W.no rfl ?_
  ((first | refine W.advO 5000 _ _ ?_ | skip); simp only [go_sem, ↓reduceIte, Nat.reduceEqDiff, Nat.reduceAdd, Nat.reduceSub, Nat.reduceMul, Nat.reduceLeDiff, Nat.reduceBEq, reduceCtorEq, Int.reduceLT, Int.reduceLE, Int.reduceToNat, Int.reduceAdd, Int.reduceSub, Int.reduceBEq, Int.reduceBNe])
  obtain ⟨N, rfl⟩ : ∃ N : Nat, n = (N : Int) := ⟨n.toNat, by omega⟩
  have hN : N ≤ 260 := by omega
  refine W.loopP (fun i => i ≤ N) (fun i => ⟨((((((base.put (some 0) (I (N : Nat))).put (some 1) (I kind)).put (some 4) (B false)).put (some 5) (B true)).put (some 6) (S (nestK kind i))).put (some 7) (I (i : Nat))), σ⟩) (fun i => N - i) 0 (Nat.zero_le _) ?_ (fun i hi => ?_)
  · rw [nestK_zero]
    (refine Lew.env ?_; (repeat' (first | exact LeE.base _ | (refine LeE.put ?_ (by first | exact V.wk.rfl _ | exact V.wk.osl _ _ | exact V.wk.csl _)))))
  · by_cases hlt : i < N
    · have h1 : ((i : Int) < (N : Int)) := by omega
      have hw : IntKind.i64.wrap ((i : Int) + 1) = ((i + 1 : Nat) : Int) := by rw [wrap_in] <;> omega
      have h3 : ((3 : Int) = 0) = False := by simp
      have hl := nestK_len kind i
      have hb : ∀ c, 9223372036854770000 ≤ c → ((nestK kind i).length ≤ c) = True := fun k hk => by simp only [eq_iff_iff, iff_true]; omega
      have hbA : ∀ k c, k ≤ 100 → 9223372036854770000 ≤ c → (k + (nestK kind i).length ≤ c) = True := fun k c hk hc => by simp only [eq_iff_iff, iff_true]; omega
      have hbB : ∀ k c, k ≤ 100 → 9223372036854770000 ≤ c → ((nestK kind i).length + k ≤ c) = True := fun k c hk hc => by simp only [eq_iff_iff, iff_true]; omega
      ((first | refine W.advO 5000 _ _ ?_ | skip); simp only [go_sem, ↓reduceIte, Nat.reduceEqDiff, Nat.reduceAdd, Nat.reduceSub, Nat.reduceMul, Nat.reduceLeDiff, Nat.reduceBEq, reduceCtorEq, Int.reduceLT, Int.reduceLE, Int.reduceToNat, Int.reduceAdd, Int.reduceSub, Int.reduceBEq, Int.reduceBNe, h1])
      refine W.yes rfl ?_
      cases e1 : (kind.tmod 3 == 1)
      · cases e2 : (kind.tmod 3 == 2)
        · have hE : nestK kind (i + 1) = [40] ++ nestK kind i ++ [41] := by simp only [nestK, e1, e2]; rfl
          ((first | refine W.advO 5000 _ _ ?_ | skip); simp only [go_sem, ↓reduceIte, Nat.reduceEqDiff, Nat.reduceAdd, Nat.reduceSub, Nat.reduceMul, Nat.reduceLeDiff, Nat.reduceBEq, reduceCtorEq, Int.reduceLT, Int.reduceLE, Int.reduceToNat, Int.reduceAdd, Int.reduceSub, Int.reduceBEq, Int.reduceBNe, h3, e1])
          refine W.no rfl ?_
          ((first | refine W.advO 5000 _ _ ?_ | skip); simp only [go_sem, ↓reduceIte, Nat.reduceEqDiff, Nat.reduceAdd, Nat.reduceSub, Nat.reduceMul, Nat.reduceLeDiff, Nat.reduceBEq, reduceCtorEq, Int.reduceLT, Int.reduceLE, Int.reduceToNat, Int.reduceAdd, Int.reduceSub, Int.reduceBEq, Int.reduceBNe, e2])
          refine W.no rfl ?_
          ((first | refine W.advO 5000 _ _ ?_ | skip); simp only [go_sem, ↓reduceIte, Nat.reduceEqDiff, Nat.reduceAdd, Nat.reduceSub, Nat.reduceMul, Nat.reduceLeDiff, Nat.reduceBEq, reduceCtorEq, Int.reduceLT, Int.reduceLE, Int.reduceToNat, Int.reduceAdd, Int.reduceSub, Int.reduceBEq, Int.reduceBNe, hb, hbA, hbB, hw])
          refine .inv ⟨i + 1, hlt, by omega, ?_⟩
          rw [hE]
          (refine Lew.env ?_; (repeat' (first | exact LeE.base _ | (refine LeE.put ?_ (by first | exact V.wk.rfl _ | exact V.wk.osl _ _ | exact V.wk.csl _)))))
        · have hE : nestK kind (i + 1) = [97, 32, 44, 32] ++ nestK kind i := by simp only [nestK, e1, e2]; rfl
          ((first | refine W.advO 5000 _ _ ?_ | skip); simp only [go_sem, ↓reduceIte, Nat.reduceEqDiff, Nat.reduceAdd, Nat.reduceSub, Nat.reduceMul, Nat.reduceLeDiff, Nat.reduceBEq, reduceCtorEq, Int.reduceLT, Int.reduceLE, Int.reduceToNat, Int.reduceAdd, Int.reduceSub, Int.reduceBEq, Int.reduceBNe, h3, e1])
          refine W.no rfl ?_
          ((first | refine W.advO 5000 _ _ ?_ | skip); simp only [go_sem, ↓reduceIte, Nat.reduceEqDiff, Nat.reduceAdd, Nat.reduceSub, Nat.reduceMul, Nat.reduceLeDiff, Nat.reduceBEq, reduceCtorEq, Int.reduceLT, Int.reduceLE, Int.reduceToNat, Int.reduceAdd, Int.reduceSub, Int.reduceBEq, Int.reduceBNe, e2])
          refine W.yes rfl ?_
          ((first | refine W.advO 5000 _ _ ?_ | skip); simp only [go_sem, ↓reduceIte, Nat.reduceEqDiff, Nat.reduceAdd, Nat.reduceSub, Nat.reduceMul, Nat.reduceLeDiff, Nat.reduceBEq, reduceCtorEq, Int.reduceLT, Int.reduceLE, Int.reduceToNat, Int.reduceAdd, Int.reduceSub, Int.reduceBEq, Int.reduceBNe, hb, hbA, hbB, hw])
          refine .inv ⟨i + 1, hlt, by omega, ?_⟩
          rw [hE]
          (refine Lew.env ?_; (repeat' (first | exact LeE.base _ | (refine LeE.put ?_ (by first | exact V.wk.rfl _ | exact V.wk.osl _ _ | exact V.wk.csl _)))))
      · have hE : nestK kind (i + 1) = [120, 92, 32] ++ nestK kind i := by simp only [nestK, e1]; rfl
        ((first | refine W.advO 5000 _ _ ?_ | skip); simp only [go_sem, ↓reduceIte, Nat.reduceEqDiff, Nat.reduceAdd, Nat.reduceSub, Nat.reduceMul, Nat.reduceLeDiff, Nat.reduceBEq, reduceCtorEq, Int.reduceLT, Int.reduceLE, Int.reduceToNat, Int.reduceAdd, Int.reduceSub, Int.reduceBEq, Int.reduceBNe, h3, e1])
        refine W.yes rfl ?_
        ((first | refine W.advO 5000 _ _ ?_ | skip); simp only [go_sem, ↓reduceIte, Nat.reduceEqDiff, Nat.reduceAdd, Nat.reduceSub, Nat.reduceMul, Nat.reduceLeDiff, Nat.reduceBEq, reduceCtorEq, Int.reduceLT, Int.reduceLE, Int.reduceToNat, Int.reduceAdd, Int.reduceSub, Int.reduceBEq, Int.reduceBNe, hb, hbA, hbB, hw])
        refine .inv ⟨i + 1, hlt, by omega, ?_⟩
        rw [hE]
        (refine Lew.env ?_; (repeat' (first | exact LeE.base _ | (refine LeE.put ?_ (by first | exact V.wk.rfl _ | exact V.wk.osl _ _ | exact V.wk.csl _)))))
    · have h1 : ¬ ((i : Int) < (N : Int)) := by omega
      have hiN : i = N := by omega
      subst hiN
      have hlen := nestK_len kind i
      have ht : (lexL (nestK kind i)).toks.length ≤ 1000000 := by have := lexL_count (nestK kind i); omega
      ((first | refine W.advO 5000 _ _ ?_ | skip); simp only [go_sem, ↓reduceIte, Nat.reduceEqDiff, Nat.reduceAdd, Nat.reduceSub, Nat.reduceMul, Nat.reduceLeDiff, Nat.reduceBEq, reduceCtorEq, Int.reduceLT, Int.reduceLE, Int.reduceToNat, Int.reduceAdd, Int.reduceSub, Int.reduceBEq, Int.reduceBNe, h1])
      refine W.no rfl ?_
      ((first | refine W.advO 5000 _ _ ?_ | skip); simp only [go_sem, ↓reduceIte, Nat.reduceEqDiff, Nat.reduceAdd, Nat.reduceSub, Nat.reduceMul, Nat.reduceLeDiff, Nat.reduceBEq, reduceCtorEq, Int.reduceLT, Int.reduceLE, Int.reduceToNat, Int.reduceAdd, Int.reduceSub, Int.reduceBEq, Int.reduceBNe])
      (refine W.call1 (ops_Default w0 _) rfl rfl (by first | rfl | simp) ?_; refine W.advO 5000 _ _ ?_; simp only [go_sem, ↓reduceIte, Nat.reduceEqDiff, Nat.reduceAdd, Nat.reduceSub, Nat.reduceMul, Nat.reduceLeDiff, Nat.reduceBEq, reduceCtorEq, Int.reduceLT, Int.reduceLE, Int.reduceToNat, Int.reduceAdd, Int.reduceSub, Int.reduceBEq, Int.reduceBNe])
      (refine W.call1 (law03_tokens hG (nestK kind i) (by omega) _) rfl rfl (by first | rfl | simp) ?_; refine W.advO 5000 _ _ ?_; simp only [go_sem, ↓reduceIte, Nat.reduceEqDiff, Nat.reduceAdd, Nat.reduceSub, Nat.reduceMul, Nat.reduceLeDiff, Nat.reduceBEq, reduceCtorEq, Int.reduceLT, Int.reduceLE, Int.reduceToNat, Int.reduceAdd, Int.reduceSub, Int.reduceBEq, Int.reduceBNe])
      obtain ⟨a, b⟩ := nestedK kind i (by omega)
      by_cases h2 : i ≤ 200
      · obtain ⟨m, j, hr⟩ := a h2
        have h2' : ((i : Int) ≤ 200) := by omega
        (refine W.call1 (read_at0 w0 ops0 _ _ _ hr ht) rfl rfl (by first | rfl | simp) ?_; refine W.advO 5000 _ _ ?_; simp only [go_sem, ↓reduceIte, Nat.reduceEqDiff, Nat.reduceAdd, Nat.reduceSub, Nat.reduceMul, Nat.reduceLeDiff, Nat.reduceBEq, reduceCtorEq, Int.reduceLT, Int.reduceLE, Int.reduceToNat, Int.reduceAdd, Int.reduceSub, Int.reduceBEq, Int.reduceBNe, readV, h2'])
        (refine W.ret (Fin.sameW (hok) (by (first | rfl | exact List.length_set .. | simp)) (by simp only [resEval, r6, go_sem, ↓reduceIte, Nat.reduceEqDiff, Nat.reduceAdd, Nat.reduceSub, Nat.reduceMul, Nat.reduceLeDiff, Nat.reduceBEq, reduceCtorEq, Int.reduceLT, Int.reduceLE, Int.reduceToNat, Int.reduceAdd, Int.reduceSub, Int.reduceBEq, Int.reduceBNe]; rfl) ?_ (by (first | exact .c _ | (simp only [I, S, B, opsC, toksC, Pre.v, Tok.v, OpT.v, low_c, low_void, low_any, low_csl, low_nilf, low_ptr, low_osl, low_agg, low_tup, low_fn, List.forall_mem_cons, List.not_mem_nil, false_implies, implies_true, and_self, and_true, true_and]; done))) (by (first | rfl | exact (List.append_nil _).symm))); simp only [resV]; try exact V.wk.rfl _)
      · obtain ⟨p, hr⟩ := b (by omega)
        have h2' : ¬ ((i : Int) ≤ 200) := by omega
        have h3' : ((i : Int) > 200) := by omega
        (refine W.call1 (read_at0 w0 ops0 _ _ _ hr ht) rfl rfl (by first | rfl | simp) ?_; refine W.advO 5000 _ _ ?_; simp only [go_sem, ↓reduceIte, Nat.reduceEqDiff, Nat.reduceAdd, Nat.reduceSub, Nat.reduceMul, Nat.reduceLeDiff, Nat.reduceBEq, reduceCtorEq, Int.reduceLT, Int.reduceLE, Int.reduceToNat, Int.reduceAdd, Int.reduceSub, Int.reduceBEq, Int.reduceBNe, readV, Pre.none, h2', h3'])
        (refine W.ret (Fin.sameW (hok) (by (first | rfl | exact List.length_set .. | simp)) (by simp only [resEval, r6, go_sem, ↓reduceIte, Nat.reduceEqDiff, Nat.reduceAdd, Nat.reduceSub, Nat.reduceMul, Nat.reduceLeDiff, Nat.reduceBEq, reduceCtorEq, Int.reduceLT, Int.reduceLE, Int.reduceToNat, Int.reduceAdd, Int.reduceSub, Int.reduceBEq, Int.reduceBNe]; rfl) ?_ (by (first | exact .c _ | (simp only [I, S, B, opsC, toksC, Pre.v, Tok.v, OpT.v, low_c, low_void, low_any, low_csl, low_nilf, low_ptr, low_osl, low_agg, low_tup, low_fn, List.forall_mem_cons, List.not_mem_nil, false_implies, implies_true, and_self, and_true, true_and]; done))) (by (first | rfl | exact (List.append_nil _).symm))); simp only [resV]; try exact V.wk.rfl _)
end Go.Proofs.YtpgkhkojjklakaaGreatDoor

/-
  Walks: the statements ShowTexts and ShowLines.
-/
import Derived.Test.YtljjlhdkkbaehaaGreatDoorQJ29
set_option linter.unusedSimpArgs false
set_option linter.unusedVariables false
set_option maxHeartbeats 8000000
set_option maxRecDepth 20000
namespace Go.Lamb
theorem linesL_len {l : List OpT} : ∀ {ps : List Pre}, (∀ p ∈ ps, (showL l p).length ≤ 30900) → (linesL l ps).length ≤ 30902 * ps.length
  | [], _ => by simp [linesL]
  | p :: r, h => by
    have h1 := h p (List.mem_cons_self ..)
    have h2 := linesL_len (l := l) (ps := r) (fun q hq => h q (List.mem_cons_of_mem _ hq))
    simp only [linesL, List.length_append, List.length_cons, List.length_nil]
    omega
end Go.Lamb
namespace Go.Proofs.YtljjlhdkkbaehaaGreatDoor
open Go.RowKit Go.Lamb
attribute [local go_sem] advO_skip advO_reg advO_seq advO_block advO_exit advO_endb advO_opsNil advO_ops advG_yes advG_no advG_none advS_some advS_none advO_cond advO_loop advO_dreg advO_ret advO_bad advO_inv advO_nil advO_zero wantedV Lamb.step ev_t ev_k put_some put_none argEnv popTo cellsAt V.cellsV V.rows V.toC toCs fillV bytesC byteRows appV rowsV boundV boundL binV binInt binStr eqC eqL V.isNil leaves V.leaf Ins.quiet Ins.pure List.getD_cons_zero List.getD_cons_succ List.getD_nil List.all_cons List.all_nil List.length_cons List.length_nil List.take_succ_cons List.take_zero List.drop_succ_cons List.drop_zero List.cons_append List.nil_append List.append_nil List.append_assoc List.map_cons List.map_nil List.getElem?_cons_zero List.getElem?_cons_succ List.length_append List.length_set hget0 hget hset0 hset hsets hgs0 hgs hss0 hss List.set_cons_zero List.set_cons_succ List.forall_mem_cons List.not_mem_nil false_implies implies_true Option.map_some Bool.and_true Bool.true_and Bool.not_not Bool.not_true Bool.not_false Bool.and_self Bool.or_true Bool.true_or Bool.or_false Bool.false_or Bool.and_false Bool.false_and Bool.false_eq_true beq_self_eq_true and_self and_true true_and if_true if_false Nat.zero_add Nat.add_zero Nat.le_refl Int.toNat_natCast decide_true decide_false beq_t beq_f List.length_map List.getElem?_map I S B opsC toksC OpT.v OpT.cs OpT.zero Tok.v Tok.cs Pre.v Pre.cs_eq k_mk name_mk n_mk l_mk pos_mk Pre.app applyL natCast0 natCast1 natCast2 AOp.o AOp.m AOp.f AOp.l AOp.d AOp.n AOp.x AOp.s AOp.k AOp.y AOp.z EOp.q low_c low_void low_any low_csl low_nilf low_ptr low_osl low_agg low_tup low_fn resEval advPO_nil advPO_loud advPO_quiet pL_yes pL_no pLS_some pLS_none pQ_yes pQ_no pQS_some pQS_loud eq_self Nat.sub_zero
theorem law04_ShowTexts {w0 : World} (hG : Glob w0) (l : List OpT) (p : Pre) (hO : OkP p) (σ : H) : DC Tryz.prog w0 3 [.c (opsC l), p.v] σ (Same (B true) σ) := by
  refine k3.go rfl (fun hok hsz => ?_)
  have ho := fun σ => law04_over w0 l p σ
  ((try refine W.a ?_); simp only [go_sem, seval, reduceCtorEq, c3])
  (refine W.c1 (law04_works hG _) ?_; simp only [go_sem, seval, reduceCtorEq])
  refine W.no rfl ?_
  cases hb : overS l p
  · have hl := overS_len hb hO
    have h1 := fun σ => ref04_Text w0 l p hO (by omega) σ
    have h2 := fun σ => show_Text hG l p hO (by omega) σ
    have h3 := fun σ => show_Width hG l p hO (by omega) σ
    rw [hb] at ho
    generalize showL l p = s at *
    ((try refine W.a ?_); simp only [go_sem, seval, reduceCtorEq])
    (refine W.c1 (ho _) ?_; simp only [go_sem, seval, reduceCtorEq])
    refine W.no rfl ?_
    ((try refine W.a ?_); simp only [go_sem, seval, reduceCtorEq])
    (refine W.c1 (h1 _) ?_; simp only [go_sem, seval, reduceCtorEq])
    (refine W.c1 (h2 _) ?_; simp only [go_sem, seval, reduceCtorEq])
    (refine W.c1 (h3 _) ?_; simp only [go_sem, seval, reduceCtorEq])
    (refine W.fs (hok) (by simp only [r3, go_sem, seval, reduceCtorEq]; rfl) ?_; simp only [resV]; try exact V.wk.rfl _)
  · rw [hb] at ho
    ((try refine W.a ?_); simp only [go_sem, seval, reduceCtorEq])
    (refine W.c1 (ho _) ?_; simp only [go_sem, seval, reduceCtorEq])
    refine W.yes rfl ?_
    ((try refine W.a ?_); simp only [go_sem, seval, reduceCtorEq])
    (refine W.fs (hok) (by simp only [r3, go_sem, seval, reduceCtorEq]; rfl) ?_; simp only [resV]; try exact V.wk.rfl _)
theorem law04_ShowLines {w0 : World} (hG : Glob w0) (l : List OpT) (ps : List Pre) (hO : ∀ p ∈ ps, OkP p) (σ : H) : DC Tryz.prog w0 4 [.c (opsC l), .c (.sl (ps.map Pre.cs))] σ (Same (B true) σ) := by
  refine k4.go rfl (fun hok hsz => ?_)
  ((try refine W.a ?_); simp only [go_sem, seval, reduceCtorEq, c4])
  (refine W.c1 (law04_works hG _) ?_; simp only [go_sem, seval, reduceCtorEq])
  refine W.no rfl ?_
  by_cases hn : (ps.length : Int) > 10
  · ((try refine W.a ?_); simp only [go_sem, seval, reduceCtorEq, hn])
    refine W.yes rfl ?_
    ((try refine W.a ?_); simp only [go_sem, seval, reduceCtorEq])
    (refine W.fs (hok) (by simp only [r4, go_sem, seval, reduceCtorEq]; rfl) ?_; simp only [resV]; try exact V.wk.rfl _)
  ((try refine W.a ?_); simp only [go_sem, seval, reduceCtorEq, hn])
  refine W.no rfl ?_
  ((try refine W.a ?_); simp only [go_sem, seval, reduceCtorEq])
  refine W.loopP (fun i => i ≤ ps.length ∧ UpTo (overS l) ps i) (fun i => ⟨(((((base.put (some 0) (.c (opsC l))).put (some 1) (.c (.sl (ps.map Pre.cs)))).put (some 5) (B true)).put (some 6) (S (linesL l (ps.take i)))).put (some 7) (I (i : Nat))), σ⟩) (fun i => ps.length - i) 0 ⟨Nat.zero_le _, upTo_zero⟩ ?_ (fun i hi => ?_)
  · (refine Lew.env ?_; exact lee_here)
  · obtain ⟨hi, hinv⟩ := hi
    by_cases hlt : i < ps.length
    · have h1 : ((i : Int) < (ps.length : Int)) := by omega
      have hx : ps[i]? = some ps[i] := List.getElem?_eq_getElem hlt
      have hw : IntKind.i64.wrap ((i : Int) + 1) = ((i + 1 : Nat) : Int) := by rw [wrap_in] <;> omega
      have ho := fun σ => law04_over w0 l ps[i] σ
      have hOi := hO _ (List.getElem_mem hlt)
      cases hb : overS l ps[i]
      · have htk := linesL_take l hlt
        have hnx := upTo_next hinv hlt hb
        have hl := overS_len hb hOi
        have hL : (linesL l (ps.take i)).length ≤ 30902 * (ps.take i).length := linesL_len (fun p hp => by
          obtain ⟨j, hj, rfl⟩ := List.getElem_of_mem hp
          rw [List.length_take] at hj
          rw [List.getElem_take]
          exact overS_len (hinv j (by omega) (by omega)) (hO _ (List.getElem_mem _)))
        rw [List.length_take] at hL
        have hr := fun σ => ref04_Text w0 l ps[i] hOi (by omega) σ
        rw [hb] at ho
        generalize linesL l (ps.take i) = s at *
        generalize showL l ps[i] = u at *
        generalize ps[i] = x at *
        have k1 : s.length + u.length ≤ 9223372036854775807 := by omega
        have k2 : s.length + u.length + 2 ≤ 9223372036854775807 := by omega
        ((try refine W.a ?_); simp only [go_sem, seval, reduceCtorEq, h1])
        refine W.yes rfl ?_
        ((try refine W.a ?_); simp only [go_sem, seval, reduceCtorEq, h1, nat0, hx])
        (refine W.c1 (ho _) ?_; simp only [go_sem, seval, reduceCtorEq])
        refine W.no rfl ?_
        ((try refine W.a ?_); simp only [go_sem, seval, reduceCtorEq, h1, nat0, hx])
        (refine W.c1 (hr _) ?_; simp only [go_sem, seval, reduceCtorEq])
        ((try refine W.a ?_); simp only [go_sem, seval, reduceCtorEq, k1, k2, hw])
        refine .inv ⟨i + 1, ⟨hlt, hnx⟩, by omega, ?_⟩
        rw [htk]
        simp only [go_sem, seval, reduceCtorEq]
        (refine Lew.env ?_; exact lee_here)
      · rw [hb] at ho
        generalize ps[i] = x at *
        ((try refine W.a ?_); simp only [go_sem, seval, reduceCtorEq, h1])
        refine W.yes rfl ?_
        ((try refine W.a ?_); simp only [go_sem, seval, reduceCtorEq, h1, nat0, hx])
        (refine W.c1 (ho _) ?_; simp only [go_sem, seval, reduceCtorEq])
        refine W.yes rfl ?_
        ((try refine W.a ?_); simp only [go_sem, seval, reduceCtorEq])
        (refine W.fs (hok) (by simp only [r4, go_sem, seval, reduceCtorEq]; rfl) ?_; simp only [resV]; try exact V.wk.rfl _)
    · have h1 : ¬ ((i : Int) < (ps.length : Int)) := by omega
      have hall : ∀ p ∈ ps, (showL l p).length ≤ 30900 := fun p hp => by
        obtain ⟨j, hj, rfl⟩ := List.getElem_of_mem hp
        exact overS_len (hinv j hj (by omega)) (hO _ hp)
      have hL := linesL_len hall
      have hs := fun σ => show_Lines hG l ps hO (by omega) σ
      have htk : ps.take i = ps := List.take_of_length_le (by omega)
      rw [htk]
      generalize linesL l ps = s at *
      ((try refine W.a ?_); simp only [go_sem, seval, reduceCtorEq, h1])
      refine W.no rfl ?_
      ((try refine W.a ?_); simp only [go_sem, seval, reduceCtorEq])
      (refine W.c1 (hs _) ?_; simp only [go_sem, seval, reduceCtorEq])
      (refine W.fs (hok) (by simp only [r4, go_sem, seval, reduceCtorEq]; rfl) ?_; simp only [resV]; try exact V.wk.rfl _)
end Go.Proofs.YtljjlhdkkbaehaaGreatDoor

/-
  Walks: a type's text.
  Walks: the document's examples of signatures; which are more than is looked at.
  Walks: the document's examples of signatures, reckoned; the statements SigAdds and SigFinds.
  Walks: the statement SigKeeps.
-/
import Derived.Test.YtohcnohllbjlcaaGreatDoorQJ34
import Derived.Test.YtohcnohllbjlcaaGreatDoorQJ13
set_option linter.unusedSimpArgs false
set_option linter.unusedVariables false
set_option maxHeartbeats 8000000
set_option maxRecDepth 20000
namespace Go.Proofs.YtohcnohllbjlcaaGreatDoor
open Go.RowKit Go.Lamb
attribute [local go_sem] advO_skip advO_reg advO_seq advO_block advO_exit advO_endb advO_opsNil advO_ops advG_yes advG_no advG_none advS_some advS_none advO_cond advO_loop advO_dreg advO_ret advO_bad advO_inv advO_nil advO_zero wantedV Lamb.step ev_t ev_k put_some put_none argEnv popTo cellsAt V.cellsV V.rows V.toC toCs fillV bytesC byteRows appV rowsV boundV boundL binV binInt binStr eqC eqL V.isNil leaves V.leaf Ins.quiet Ins.pure List.getD_cons_zero List.getD_cons_succ List.getD_nil List.all_cons List.all_nil List.length_cons List.length_nil List.take_succ_cons List.take_zero List.drop_succ_cons List.drop_zero List.cons_append List.nil_append List.append_nil List.append_assoc List.map_cons List.map_nil List.getElem?_cons_zero List.getElem?_cons_succ List.length_append List.length_set hget0 hget hset0 hset hsets hgs0 hgs hss0 hss List.set_cons_zero List.set_cons_succ List.forall_mem_cons List.not_mem_nil false_implies implies_true Option.map_some Bool.and_true Bool.true_and Bool.not_not Bool.not_true Bool.not_false Bool.and_self Bool.or_true Bool.true_or Bool.or_false Bool.false_or Bool.and_false Bool.false_and Bool.false_eq_true beq_self_eq_true and_self and_true true_and if_true if_false Nat.zero_add Nat.add_zero Nat.le_refl Int.toNat_natCast decide_true decide_false beq_t beq_f List.length_map List.getElem?_map I S B opsC toksC OpT.v OpT.cs OpT.zero Tok.v Tok.cs Pre.v Pre.cs_eq k_mk name_mk n_mk l_mk pos_mk Pre.app applyL natCast0 natCast1 natCast2 AOp.o AOp.m AOp.f AOp.l AOp.d AOp.n AOp.x AOp.s AOp.k AOp.y AOp.z EOp.q low_c low_void low_any low_csl low_nilf low_ptr low_osl low_agg low_tup low_fn resEval advPO_nil advPO_loud advPO_quiet pL_yes pL_no pLS_some pLS_none pQ_yes pQ_no pQS_some pQS_loud eq_self Nat.sub_zero
attribute [local go_sem] Typ.v Typ.cs_eq tk_mk tname_mk tn_mk tl_mk tysC

theorem ty_TextArr {w0 : World} (p a b : Typ) (hA : arrowT p = true) (hl : p.l = [a, b]) (hn : (textT p).length ≤ 1000000) (σ : H)
    (ha : ∀ σ, DC Tryz.prog w0 40 [a.v] σ (Same (S (textT a)) σ)) (hb : ∀ σ, DC Tryz.prog w0 40 [b.v] σ (Same (S (textT b)) σ)) : DC Tryz.prog w0 40 [p.v] σ (Same (S (textT p)) σ) := by
  refine k40.go rfl (fun hok hsz => ?_)
  have hA' := hA
  simp only [arrowT, Bool.and_eq_true, beq_iff_eq] at hA'
  have nk : (p.k == 1) = false := by rw [hA'.1]; rfl
  obtain ⟨hn1, hn2⟩ := text_arr_len hA hl
  rw [text_arr hA hl]
  have h1 : (putL (textT a) (arrowT a)).length + 4 ≤ 9223372036854775807 := by omega
  have h2 : (putL (textT a) (arrowT a)).length + 4 + (textT b).length ≤ 9223372036854775807 := by omega
  have h3 : (putL (textT a) (arrowT a)).length + (4 + (textT b).length) ≤ 9223372036854775807 := by omega
  have h4 : (putL (textT a) (arrowT a)).length ≤ 9223372036854775803 := by omega
  ((try refine W.a ?_); simp only [go_sem, seval, reduceCtorEq, c40, nk])
  refine W.no rfl ?_
  ((try refine W.a ?_); simp only [go_sem, seval, reduceCtorEq, nk])
  refine W.no rfl ?_
  ((try refine W.a ?_); simp only [go_sem, seval, reduceCtorEq])
  (refine W.c1 (ty_arrow w0 p _) ?_; simp only [go_sem, seval, reduceCtorEq, hA])
  refine W.yes rfl ?_
  ((try refine W.a ?_); simp only [go_sem, seval, reduceCtorEq])
  apply W.dregE (List.cons_ne_nil _ _)
  case hc =>
    (apply CanonE.advPO; simp only [go_sem, seval, reduceCtorEq, hl])
    (apply CanonE.call (ha _); (case hg => rfl); (case hf => rfl); (case ha => first | rfl | simp))
    (apply CanonE.advPO; simp only [go_sem, seval, reduceCtorEq, hl])
    (apply CanonE.call (ty_arrow w0 a _); (case hg => rfl); (case hf => rfl); (case ha => first | rfl | simp))
    (apply CanonE.advPO; simp only [go_sem, seval, reduceCtorEq])
    (apply CanonE.call (ty_put w0 (textT a) (arrowT a) (by omega) _); (case hg => rfl); (case hf => rfl); (case ha => first | rfl | simp))
    (apply CanonE.advPO; simp only [go_sem, seval, reduceCtorEq, hl])
    (apply CanonE.call (hb _); (case hg => rfl); (case hf => rfl); (case ha => first | rfl | simp))
    (apply CanonE.advPO; simp only [go_sem, seval, reduceCtorEq, h1, h2, h3, h4])
    exact CanonE.nil
  ((try refine W.a ?_); simp only [go_sem, seval, reduceCtorEq])
  (refine W.fs (hok) (by simp only [r40, go_sem, seval, reduceCtorEq]; rfl) ?_; simp only [resV]; try exact V.wk.rfl _)
theorem many_of {x : Typ} (h : (x.k != 1) = true) : decide ((x.l.length : Int) > 0) = manyT x := by
  unfold manyT
  rw [h, Bool.true_and]
  apply decide_eq_decide.2
  omega
theorem many_no {x : Typ} (h : (x.k != 1) = false) : manyT x = false := by
  unfold manyT
  rw [h, Bool.false_and]
def txtL (l : List Typ) : List Str := l.map fun x => putL (textT x) (manyT x)
theorem ty_TextCon {w0 : World} (p : Typ) (hk : p.k ≠ 1) (hA : arrowT p = false) (hn : (textT p).length ≤ 1000000) (σ : H)
    (ih : ∀ x ∈ p.l, ∀ σ, DC Tryz.prog w0 40 [x.v] σ (Same (S (textT x)) σ)) : DC Tryz.prog w0 40 [p.v] σ (Same (S (textT p)) σ) := by
  refine k40.go rfl (fun hok hsz => ?_)
  have nk : (p.k == 1) = false := by simpa using hk
  obtain ⟨hn1, hn2⟩ := text_con_len hk hA
  have hlen : p.l.length ≤ 9223372036854775807 := by omega
  have hj : (Lib.join (p.name :: txtL p.l) [32]).length ≤ 100000000 := by
    have := text_con hk hA
    unfold txtL
    rw [← this]; omega
  have hj2 : (p.name :: txtL p.l).length ≤ 100000000 := by simp [txtL]; omega
  rw [text_con hk hA]
  ((try refine W.a ?_); simp only [go_sem, seval, reduceCtorEq, c40, nk])
  refine W.no rfl ?_
  ((try refine W.a ?_); simp only [go_sem, seval, reduceCtorEq, nk])
  refine W.no rfl ?_
  ((try refine W.a ?_); simp only [go_sem, seval, reduceCtorEq])
  (refine W.c1 (ty_arrow w0 p _) ?_; simp only [go_sem, seval, reduceCtorEq, hA])
  refine W.no rfl ?_
  ((try refine W.a ?_); simp only [go_sem, seval, reduceCtorEq])
  refine W.loopP (fun i => i ≤ p.l.length) (fun i => match i with
    | 0 => ⟨(((((base.put (some 1) (.ptr σ.length 0)).put (some 5) (.csl [[C.str p.name]])).put (some 63) (.c (tysC p.l))).put (some 64) (I p.l.length)).put (some 65) (I 0)), σ ++ [.cells p.v.cellsV]⟩
    | i + 1 => ⟨(((((base.put (some 1) (.ptr σ.length 0)).put (some 5) (.osl (σ.length + 2) ([C.str p.name] :: strsR (txtL (p.l.take (i + 1)))))).put (some 63) (.c (tysC p.l))).put (some 64) (I p.l.length)).put (some 65) (I ((i + 1 : Nat) : Int))), σ ++ [.cells p.v.cellsV, .gone, .spare 9 1 (i + 2)]⟩) (fun i => p.l.length - i) 0 (Nat.zero_le _) ?_ (fun i hi => ?_)
  · (refine Lew.env ?_; exact lee_here)
  · by_cases hlt : i < p.l.length
    · have hx : p.l[i]? = some p.l[i] := List.getElem?_eq_getElem hlt
      have hw := wrap_next hlt hlen
      have hmem : p.l[i] ∈ p.l := List.getElem_mem hlt
      have hc := ih _ hmem
      obtain ⟨hn3, hn4⟩ := hn2 _ hmem
      have hm : ∀ q, (p.l[i].k != 1) = q → q = (p.l[i].k != 1) := fun q h => h.symm
      have htk : txtL (p.l.take (i + 1)) = txtL (p.l.take i) ++ [putL (textT p.l[i]) (manyT p.l[i])] := by
        unfold txtL
        rw [List.take_succ_eq_append_getElem hlt, List.map_append]; rfl
      generalize p.l[i] = x at hx hc hn3 hn4 hm htk hmem
      rcases i with _ | i
      · have h1 : ((0 : Int) < (p.l.length : Int)) := by omega
        ((try refine W.a ?_); simp only [go_sem, seval, reduceCtorEq, h1])
        refine W.yes rfl ?_
        ((try refine W.a ?_); simp only [go_sem, seval, reduceCtorEq, h1, hx])
        cases hq : (x.k != 1)
        · have hmm := many_no hq
          rw [hmm] at htk
          apply W.dregE (List.cons_ne_nil _ _)
          case hc =>
            (apply CanonE.advPO; simp only [go_sem, seval, reduceCtorEq])
            (apply CanonE.call (hc _); (case hg => rfl); (case hf => rfl); (case ha => first | rfl | simp))
            (apply CanonE.advPO; simp only [go_sem, seval, reduceCtorEq, hq])
            (apply CanonE.call (ty_put w0 (textT x) false (by omega) _); (case hg => rfl); (case hf => rfl); (case ha => first | rfl | simp))
            (apply CanonE.advPO; simp only [go_sem, seval, reduceCtorEq, hq, ne_eq, not_false_eq_true, or_true])
            exact CanonE.nil
          ((try refine W.a ?_); simp only [go_sem, seval, reduceCtorEq, hw])
          refine .inv ⟨1, by omega, by omega, ?_⟩
          simp only [htk, strsR, List.map_append, List.map_cons, List.map_nil]
          (refine Lew.cutL (hok) ?_ (by simp) (by simp) ?_ ?_ ?_; exact lee_here; ((try simp only [okB, wkB, go_sem, seval, reduceCtorEq]) <;> omega); (simp only [List.length_cons, List.length_nil, Nat.reduceAdd, List.take_succ_cons, List.take_zero, wkB, and_true]; (repeat' (refine And.intro ?_ ?_)) <;> (first | exact Blk.wk.rfl _ | exact Blk.wk.gone _ | (refine Blk.wk_cells ?_ rfl; (exact wk_here)))); (repeat' (first | exact LowE.base _ | (refine LowE.put ?_ (by first | exact .c _ | ((try simp only [okB, wkB, go_sem, seval, reduceCtorEq]) <;> omega))))))
        · have hmm := many_of hq
          apply W.dregE (List.cons_ne_nil _ _)
          case hc =>
            (apply CanonE.advPO; simp only [go_sem, seval, reduceCtorEq])
            (apply CanonE.call (hc _); (case hg => rfl); (case hf => rfl); (case ha => first | rfl | simp))
            (apply CanonE.advPO; simp only [go_sem, seval, reduceCtorEq, hq, hmm])
            (apply CanonE.call (ty_put w0 (textT x) (manyT x) (by omega) _); (case hg => rfl); (case hf => rfl); (case ha => first | rfl | simp))
            (apply CanonE.advPO; simp only [go_sem, seval, reduceCtorEq, hq, ne_eq, not_false_eq_true, or_true])
            exact CanonE.nil
          ((try refine W.a ?_); simp only [go_sem, seval, reduceCtorEq, hw])
          refine .inv ⟨1, by omega, by omega, ?_⟩
          simp only [htk, strsR, List.map_append, List.map_cons, List.map_nil]
          (refine Lew.cutL (hok) ?_ (by simp) (by simp) ?_ ?_ ?_; exact lee_here; ((try simp only [okB, wkB, go_sem, seval, reduceCtorEq]) <;> omega); (simp only [List.length_cons, List.length_nil, Nat.reduceAdd, List.take_succ_cons, List.take_zero, wkB, and_true]; (repeat' (refine And.intro ?_ ?_)) <;> (first | exact Blk.wk.rfl _ | exact Blk.wk.gone _ | (refine Blk.wk_cells ?_ rfl; (exact wk_here)))); (repeat' (first | exact LowE.base _ | (refine LowE.put ?_ (by first | exact .c _ | ((try simp only [okB, wkB, go_sem, seval, reduceCtorEq]) <;> omega))))))
      · have h1 : (((i + 1 : Nat) : Int) < (p.l.length : Int)) := by omega
        have hlk : (strsR (txtL (p.l.take (i + 1)))).length = i + 1 := by
          simp only [strsR, txtL, List.length_map, List.length_take]
          omega
        have hb1 : (i + 2 + 1) * 16 ≤ 140737488355328 := by omega
        have hb2 : i + 2 + 1 ≤ 140737488355328 := by omega
        ((try refine W.a ?_); simp only [go_sem, seval, reduceCtorEq, h1])
        refine W.yes rfl ?_
        ((try refine W.a ?_); simp only [go_sem, seval, reduceCtorEq, h1, nat0, hx])
        cases hq : (x.k != 1)
        · have hmm := many_no hq
          rw [hmm] at htk
          apply W.dregE (List.cons_ne_nil _ _)
          case hc =>
            (apply CanonE.advPO; simp only [go_sem, seval, reduceCtorEq])
            (apply CanonE.call (hc _); (case hg => rfl); (case hf => rfl); (case ha => first | rfl | simp))
            (apply CanonE.advPO; simp only [go_sem, seval, reduceCtorEq, hq])
            (apply CanonE.call (ty_put w0 (textT x) false (by omega) _); (case hg => rfl); (case hf => rfl); (case ha => first | rfl | simp))
            (apply CanonE.advPO; simp only [go_sem, seval, reduceCtorEq, hq, hb1, hb2, hlk])
            exact CanonE.nil
          ((try refine W.a ?_); simp only [go_sem, seval, reduceCtorEq, hw])
          refine .inv ⟨i + 2, hlt, by omega, ?_⟩
          simp only [htk, strsR, List.map_append, List.map_cons, List.map_nil]
          (refine Lew.cutL (hok) ?_ (by simp) (by simp) ?_ ?_ ?_; exact lee_here; ((try simp only [okB, wkB, go_sem, seval, reduceCtorEq]) <;> omega); (simp only [List.length_cons, List.length_nil, Nat.reduceAdd, List.take_succ_cons, List.take_zero, wkB, and_true]; (repeat' (refine And.intro ?_ ?_)) <;> (first | exact Blk.wk.rfl _ | exact Blk.wk.gone _ | (refine Blk.wk_cells ?_ rfl; (exact wk_here)))); (repeat' (first | exact LowE.base _ | (refine LowE.put ?_ (by first | exact .c _ | ((try simp only [okB, wkB, go_sem, seval, reduceCtorEq]) <;> omega))))))
        · have hmm := many_of hq
          apply W.dregE (List.cons_ne_nil _ _)
          case hc =>
            (apply CanonE.advPO; simp only [go_sem, seval, reduceCtorEq])
            (apply CanonE.call (hc _); (case hg => rfl); (case hf => rfl); (case ha => first | rfl | simp))
            (apply CanonE.advPO; simp only [go_sem, seval, reduceCtorEq, hq, hmm])
            (apply CanonE.call (ty_put w0 (textT x) (manyT x) (by omega) _); (case hg => rfl); (case hf => rfl); (case ha => first | rfl | simp))
            (apply CanonE.advPO; simp only [go_sem, seval, reduceCtorEq, hq, hb1, hb2, hlk])
            exact CanonE.nil
          ((try refine W.a ?_); simp only [go_sem, seval, reduceCtorEq, hw])
          refine .inv ⟨i + 2, hlt, by omega, ?_⟩
          simp only [htk, strsR, List.map_append, List.map_cons, List.map_nil]
          (refine Lew.cutL (hok) ?_ (by simp) (by simp) ?_ ?_ ?_; exact lee_here; ((try simp only [okB, wkB, go_sem, seval, reduceCtorEq]) <;> omega); (simp only [List.length_cons, List.length_nil, Nat.reduceAdd, List.take_succ_cons, List.take_zero, wkB, and_true]; (repeat' (refine And.intro ?_ ?_)) <;> (first | exact Blk.wk.rfl _ | exact Blk.wk.gone _ | (refine Blk.wk_cells ?_ rfl; (exact wk_here)))); (repeat' (first | exact LowE.base _ | (refine LowE.put ?_ (by first | exact .c _ | ((try simp only [okB, wkB, go_sem, seval, reduceCtorEq]) <;> omega))))))
    · have htk : p.l.take i = p.l := List.take_of_length_le (by omega)
      rcases i with _ | i
      · have h1 : ¬ ((0 : Int) < (p.l.length : Int)) := by omega
        have hnil : p.l = [] := List.eq_nil_of_length_eq_zero (by omega)
        have hJ := strings_JoinD (w0 := w0) (p.name :: txtL p.l) [32] hj hj2
        rw [hnil] at hJ
        ((try refine W.a ?_); simp only [go_sem, seval, reduceCtorEq, h1])
        refine W.no rfl ?_
        ((try refine W.a ?_); simp only [go_sem, seval, reduceCtorEq])
        (refine W.c1w (hJ _) ?_; simp only [go_sem, seval, reduceCtorEq])
        rw [hnil]
        (refine W.fs (hok) (by simp only [r40, go_sem, seval, reduceCtorEq]; rfl) ?_; simp only [resV]; try exact V.wk.rfl _)
      · have h1 : ¬ (((i + 1 : Nat) : Int) < (p.l.length : Int)) := by omega
        have hJ := strings_JoinD (w0 := w0) (p.name :: txtL p.l) [32] hj hj2
        ((try refine W.a ?_); simp only [go_sem, seval, reduceCtorEq, h1])
        refine W.no rfl ?_
        rw [htk]
        ((try refine W.a ?_); simp only [go_sem, seval, reduceCtorEq])
        (refine W.c1w (hJ _) ?_; simp only [go_sem, seval, reduceCtorEq])
        (refine W.fs (hok) (by simp only [r40, go_sem, seval, reduceCtorEq]; rfl) ?_; simp only [resV]; try exact V.wk.rfl _)
end Go.Proofs.YtohcnohllbjlcaaGreatDoor
namespace Go.Lamb
open Go Go.RowKit
/-- Types whose variables are letters. -/
inductive Lets : Typ → Prop where
  | mk {k : Int} {s : Str} {n : Int} {l : List Typ} (hn : 0 ≤ n ∧ n < 26) (h : ∀ x ∈ l, Lets x) : Lets (.mk k s n l)
theorem Lets.n {p : Typ} (h : Lets p) : 0 ≤ p.n ∧ p.n < 26 := by cases h; assumption
theorem Lets.mem {p x : Typ} (h : Lets p) (hx : x ∈ p.l) : Lets x := by cases h with | mk _ h => exact h x hx
theorem lets_arr {a b : Typ} (ha : Lets a) (hb : Lets b) : Lets (.arr a b) := .mk (by decide) fun x hx => by
  simp only [List.mem_cons, List.not_mem_nil, or_false] at hx
  rcases hx with rfl | rfl
  · exact ha
  · exact hb
theorem lets_con (s : Str) : Lets (.con s) := .mk (by decide) fun x hx => by cases hx
def overS (s : Sg) (x : Sent) : Bool :=
  decide ((s.kinds.length : Int) > 60) || (decide ((s.types.length : Int) > 60) || (decide ((s.ops.length : Int) > 120) || (decide ((x.names.length : Int) > 10) ||
    (s.types.any (fun y => decide (leftT y.ty 60 < 0) || decide ((y.name.length : Int) > 60)) || (s.kinds.any (fun y => decide ((y.name.length : Int) > 60)) || (s.ops.any (fun y => decide ((y.name.length : Int) > 60)) || (x.names.any (fun y => decide ((y.length : Int) > 60)) || decide (leftT x.ty 60 < 0))))))))
end Go.Lamb
namespace Go.Proofs.YtohcnohllbjlcaaGreatDoor
open Go.RowKit Go.Lamb
attribute [local go_sem] advO_skip advO_reg advO_seq advO_block advO_exit advO_endb advO_opsNil advO_ops advG_yes advG_no advG_none advS_some advS_none advO_cond advO_loop advO_dreg advO_ret advO_bad advO_inv advO_nil advO_zero wantedV Lamb.step ev_t ev_k put_some put_none argEnv popTo cellsAt V.cellsV V.rows V.toC toCs fillV bytesC byteRows appV rowsV boundV boundL binV binInt binStr eqC eqL V.isNil leaves V.leaf Ins.quiet Ins.pure List.getD_cons_zero List.getD_cons_succ List.getD_nil List.all_cons List.all_nil List.length_cons List.length_nil List.take_succ_cons List.take_zero List.drop_succ_cons List.drop_zero List.cons_append List.nil_append List.append_nil List.append_assoc List.map_cons List.map_nil List.getElem?_cons_zero List.getElem?_cons_succ List.length_append List.length_set hget0 hget hset0 hset hsets hgs0 hgs hss0 hss List.set_cons_zero List.set_cons_succ List.forall_mem_cons List.not_mem_nil false_implies implies_true Option.map_some Bool.and_true Bool.true_and Bool.not_not Bool.not_true Bool.not_false Bool.and_self Bool.or_true Bool.true_or Bool.or_false Bool.false_or Bool.and_false Bool.false_and Bool.false_eq_true beq_self_eq_true and_self and_true true_and if_true if_false Nat.zero_add Nat.add_zero Nat.le_refl Int.toNat_natCast decide_true decide_false beq_t beq_f List.length_map List.getElem?_map I S B opsC toksC OpT.v OpT.cs OpT.zero Tok.v Tok.cs Pre.v Pre.cs_eq k_mk name_mk n_mk l_mk pos_mk Pre.app applyL natCast0 natCast1 natCast2 AOp.o AOp.m AOp.f AOp.l AOp.d AOp.n AOp.x AOp.s AOp.k AOp.y AOp.z EOp.q low_c low_void low_any low_csl low_nilf low_ptr low_osl low_agg low_tup low_fn resEval advPO_nil advPO_loud advPO_quiet pL_yes pL_no pLS_some pLS_none pQ_yes pQ_no pQS_some pQS_loud eq_self Nat.sub_zero
attribute [local go_sem] Typ.v Typ.cs_eq tk_mk tname_mk tn_mk tl_mk tysC KdT.v KdT.cs NmT.v NmT.cs kdsC nmsC Sg.v Sent.v strsC

theorem ty_TextVarS {w0 : World} (p : Typ) (hk : p.k = 1) (h0 : 0 ≤ p.n) (h26 : p.n < 26) (σ : H) : DC Tryz.prog w0 40 [p.v] σ (Same (S (textT p)) σ) := by
  refine k40.go rfl (fun hok hsz => ?_)
  have hn0 : ¬ p.n < 0 := by omega
  rw [text_var hk, if_neg hn0]
  have e1 : p.n.tmod 26 = p.n % 26 := Int.tmod_eq_emod_of_nonneg (by omega)
  have e2 : p.n.tdiv 26 = p.n / 26 := Int.tdiv_eq_ediv_of_nonneg (by omega)
  have w1 : IntKind.i64.wrap (65 + p.n % 26) = 65 + p.n % 26 := by rw [wrap_in] <;> omega
  have w2 : IntKind.u8.wrap (65 + p.n % 26) = 65 + p.n % 26 := by
    unfold IntKind.wrap IntKind.bits IntKind.signed
    simp
    omega
  have w3 : IntKind.i64.wrap (p.n / 26) = p.n / 26 := by rw [wrap_in] <;> omega
  have h1 : ¬ 0 < p.n / 26 := by omega
  have h2 : ¬ p.n / 26 > 0 := h1
  ((try refine W.a ?_); simp only [go_sem, seval, reduceCtorEq, c40, hk, hn0])
  refine W.no rfl ?_
  ((try refine W.a ?_); simp only [go_sem, seval, reduceCtorEq])
  refine W.yes rfl ?_
  ((try refine W.a ?_); simp only [go_sem, seval, reduceCtorEq, e1, e2, w1, w2, w3])
  unfold varL
  rw [if_neg h1]
  ((try refine W.a ?_); simp only [go_sem, seval, reduceCtorEq, h2])
  refine W.no rfl ?_
  ((try refine W.a ?_); simp only [go_sem, seval, reduceCtorEq])
  (refine W.fs (hok) (by simp only [r40, go_sem, seval, reduceCtorEq]; rfl) ?_; simp only [resV]; try exact V.wk.rfl _)
theorem ty_TextS {w0 : World} (p : Typ) : Lets p → (textT p).length ≤ 1000000 → ∀ (σ : H), DC Tryz.prog w0 40 [p.v] σ (Same (S (textT p)) σ) := by
  induction p using Typ.ind with
  | h p ih =>
    intro hO hn σ
    by_cases hk : p.k = 1
    · exact ty_TextVarS p hk hO.n.1 hO.n.2 σ
    · cases hA : arrowT p
      · exact ty_TextCon p hk hA hn σ fun x hx => ih x hx (hO.mem hx) (by have := ((text_con_len hk hA).2 x hx).2; omega)
      · obtain ⟨a, b, hl⟩ := arrow_parts hA
        have ha : a ∈ p.l := by rw [hl]; simp
        have hb : b ∈ p.l := by rw [hl]; simp
        obtain ⟨hn1, hn2⟩ := text_arr_len hA hl
        exact ty_TextArr p a b hA hl hn σ (ih a ha (hO.mem ha) (by omega)) (ih b hb (hO.mem hb) (by omega))
theorem law11_over (w0 : World) (s : Sg) (x : Sent) (σ : H) : DC Tryz.prog w0 11 [s.v, x.v] σ (Same (B (overS s x)) σ) := by
  refine k11.go rfl (fun hok hsz => ?_)
  unfold overS
  by_cases q1 : (s.kinds.length : Int) > 60
  · rw [decide_eq_true q1, Bool.true_or]
    ((try refine W.a ?_); simp only [go_sem, seval, reduceCtorEq, c11, q1])
    refine W.yes rfl ?_
    ((try refine W.a ?_); simp only [go_sem, seval, reduceCtorEq])
    (refine W.fs (hok) (by simp only [r11, go_sem, seval, reduceCtorEq]; rfl) ?_; simp only [resV]; try exact V.wk.rfl _)
  rw [decide_eq_false q1, Bool.false_or]
  by_cases q2 : (s.types.length : Int) > 60
  · rw [decide_eq_true q2, Bool.true_or]
    ((try refine W.a ?_); simp only [go_sem, seval, reduceCtorEq, c11, q1, q2])
    refine W.yes rfl ?_
    ((try refine W.a ?_); simp only [go_sem, seval, reduceCtorEq])
    (refine W.fs (hok) (by simp only [r11, go_sem, seval, reduceCtorEq]; rfl) ?_; simp only [resV]; try exact V.wk.rfl _)
  rw [decide_eq_false q2, Bool.false_or]
  by_cases q3 : (s.ops.length : Int) > 120
  · rw [decide_eq_true q3, Bool.true_or]
    ((try refine W.a ?_); simp only [go_sem, seval, reduceCtorEq, c11, q1, q2, q3])
    refine W.yes rfl ?_
    ((try refine W.a ?_); simp only [go_sem, seval, reduceCtorEq])
    (refine W.fs (hok) (by simp only [r11, go_sem, seval, reduceCtorEq]; rfl) ?_; simp only [resV]; try exact V.wk.rfl _)
  rw [decide_eq_false q3, Bool.false_or]
  by_cases q4 : (x.names.length : Int) > 10
  · rw [decide_eq_true q4, Bool.true_or]
    ((try refine W.a ?_); simp only [go_sem, seval, reduceCtorEq, c11, q1, q2, q3, q4])
    refine W.yes rfl ?_
    ((try refine W.a ?_); simp only [go_sem, seval, reduceCtorEq])
    (refine W.fs (hok) (by simp only [r11, go_sem, seval, reduceCtorEq]; rfl) ?_; simp only [resV]; try exact V.wk.rfl _)
  rw [decide_eq_false q4, Bool.false_or]
  have key : ∀ {α : Type} {p : α → Bool} {l : List α} {i : Nat}, UpTo p l i → l.length ≤ i → l.any p = false := fun {α p l i} h hl => List.any_eq_false.2 fun x hx => by
    obtain ⟨j, hj, rfl⟩ := List.getElem_of_mem hx
    rw [h j hj (by omega)]; decide
  ((try refine W.a ?_); simp only [go_sem, seval, reduceCtorEq, c11, q1, q2, q3, q4])
  refine W.no rfl ?_
  ((try refine W.a ?_); simp only [go_sem, seval, reduceCtorEq])
  refine W.loopP (fun i => i ≤ s.types.length ∧ UpTo (fun y => decide (leftT y.ty 60 < 0) || decide ((y.name.length : Int) > 60)) s.types i) (fun i => ⟨((((base.put (some 2) (.ptr σ.length 0)).put (some 3) (.ptr (σ.length + 1) 0)).put (some 4) (B false)).put (some 5) (I (i : Nat))), σ ++ [.cells s.v.cellsV, .cells x.v.cellsV]⟩) (fun i => s.types.length - i) 0 ⟨Nat.zero_le _, upTo_zero⟩ ?_ (fun i hi => ?_)
  · (refine Lew.env ?_; exact lee_here)
  obtain ⟨hi, hinv⟩ := hi
  by_cases hlt : i < s.types.length
  · have h1 : ((i : Int) < (s.types.length : Int)) := by omega
    have hx : s.types[i]? = some s.types[i] := List.getElem?_eq_getElem hlt
    have hw : IntKind.i64.wrap ((i : Int) + 1) = ((i + 1 : Nat) : Int) := wrap_next hlt (by omega)
    ((try refine W.a ?_); simp only [go_sem, seval, reduceCtorEq, h1])
    refine W.yes rfl ?_
    ((try refine W.a ?_); simp only [go_sem, seval, reduceCtorEq, h1, nat0, hx])
    (refine W.c1 (ref05_Large w0 s.types[i].ty 60 (by decide) (by decide) _) ?_; simp only [go_sem, seval, reduceCtorEq])
    cases hb : decide (leftT s.types[i].ty 60 < 0)
    · ((try refine W.a ?_); simp only [go_sem, seval, reduceCtorEq, h1, nat0, hx])
      refine W.test rfl (fun h => ?_) (fun h => ?_)
      · ((try refine W.a ?_); simp only [go_sem, seval, reduceCtorEq])
        have : s.types.any (fun y => decide (leftT y.ty 60 < 0) || decide ((y.name.length : Int) > 60)) = true := List.any_eq_true.2 ⟨_, List.getElem_mem hlt, by rw [hb, h]; rfl⟩
        rw [this, Bool.true_or]
        (refine W.fs (hok) (by simp only [r11, go_sem, seval, reduceCtorEq]; rfl) ?_; simp only [resV]; try exact V.wk.rfl _)
      · ((try refine W.a ?_); simp only [go_sem, seval, reduceCtorEq, hw])
        refine .inv ⟨i + 1, ⟨hlt, upTo_next hinv hlt (by rw [hb, h]; rfl)⟩, by omega, ?_⟩
        (refine Lew.env ?_; exact lee_here)
    · ((try refine W.a ?_); simp only [go_sem, seval, reduceCtorEq])
      refine W.yes rfl ?_
      ((try refine W.a ?_); simp only [go_sem, seval, reduceCtorEq])
      have : s.types.any (fun y => decide (leftT y.ty 60 < 0) || decide ((y.name.length : Int) > 60)) = true := List.any_eq_true.2 ⟨_, List.getElem_mem hlt, by rw [hb]; rfl⟩
      rw [this, Bool.true_or]
      (refine W.fs (hok) (by simp only [r11, go_sem, seval, reduceCtorEq]; rfl) ?_; simp only [resV]; try exact V.wk.rfl _)
  rw [key hinv (by omega), Bool.false_or]
  have h1 : ¬ ((i : Int) < (s.types.length : Int)) := by omega
  ((try refine W.a ?_); simp only [go_sem, seval, reduceCtorEq, h1])
  refine W.no rfl ?_
  ((try refine W.a ?_); simp only [go_sem, seval, reduceCtorEq])
  refine W.loopP (fun i => i ≤ s.kinds.length ∧ UpTo (fun y => decide ((y.name.length : Int) > 60)) s.kinds i) (fun i => ⟨((((base.put (some 2) (.ptr σ.length 0)).put (some 3) (.ptr (σ.length + 1) 0)).put (some 4) (B false)).put (some 7) (I (i : Nat))), σ ++ [.cells s.v.cellsV, .cells x.v.cellsV]⟩) (fun i => s.kinds.length - i) 0 ⟨Nat.zero_le _, upTo_zero⟩ ?_ (fun i hi => ?_)
  · (refine Lew.env ?_; exact lee_here)
  obtain ⟨hi, hinv⟩ := hi
  by_cases hlt : i < s.kinds.length
  · have h1 : ((i : Int) < (s.kinds.length : Int)) := by omega
    have hx : s.kinds[i]? = some s.kinds[i] := List.getElem?_eq_getElem hlt
    have hw : IntKind.i64.wrap ((i : Int) + 1) = ((i + 1 : Nat) : Int) := wrap_next hlt (by omega)
    ((try refine W.a ?_); simp only [go_sem, seval, reduceCtorEq, h1])
    refine W.yes rfl ?_
    ((try refine W.a ?_); simp only [go_sem, seval, reduceCtorEq, h1, nat0, hx])
    refine W.test rfl (fun h => ?_) (fun h => ?_)
    · ((try refine W.a ?_); simp only [go_sem, seval, reduceCtorEq])
      have : s.kinds.any (fun y => decide ((y.name.length : Int) > 60)) = true := List.any_eq_true.2 ⟨_, List.getElem_mem hlt, h⟩
      rw [this, Bool.true_or]
      (refine W.fs (hok) (by simp only [r11, go_sem, seval, reduceCtorEq]; rfl) ?_; simp only [resV]; try exact V.wk.rfl _)
    · ((try refine W.a ?_); simp only [go_sem, seval, reduceCtorEq, hw])
      refine .inv ⟨i + 1, ⟨hlt, upTo_next hinv hlt h⟩, by omega, ?_⟩
      (refine Lew.env ?_; exact lee_here)
  rw [key hinv (by omega), Bool.false_or]
  have h1 : ¬ ((i : Int) < (s.kinds.length : Int)) := by omega
  ((try refine W.a ?_); simp only [go_sem, seval, reduceCtorEq, h1])
  refine W.no rfl ?_
  ((try refine W.a ?_); simp only [go_sem, seval, reduceCtorEq])
  refine W.loopP (fun i => i ≤ s.ops.length ∧ UpTo (fun y => decide ((y.name.length : Int) > 60)) s.ops i) (fun i => ⟨((((base.put (some 2) (.ptr σ.length 0)).put (some 3) (.ptr (σ.length + 1) 0)).put (some 4) (B false)).put (some 8) (I (i : Nat))), σ ++ [.cells s.v.cellsV, .cells x.v.cellsV]⟩) (fun i => s.ops.length - i) 0 ⟨Nat.zero_le _, upTo_zero⟩ ?_ (fun i hi => ?_)
  · (refine Lew.env ?_; exact lee_here)
  obtain ⟨hi, hinv⟩ := hi
  by_cases hlt : i < s.ops.length
  · have h1 : ((i : Int) < (s.ops.length : Int)) := by omega
    have hx : s.ops[i]? = some s.ops[i] := List.getElem?_eq_getElem hlt
    have hw : IntKind.i64.wrap ((i : Int) + 1) = ((i + 1 : Nat) : Int) := wrap_next hlt (by omega)
    ((try refine W.a ?_); simp only [go_sem, seval, reduceCtorEq, h1])
    refine W.yes rfl ?_
    ((try refine W.a ?_); simp only [go_sem, seval, reduceCtorEq, h1, nat0, hx])
    refine W.test rfl (fun h => ?_) (fun h => ?_)
    · ((try refine W.a ?_); simp only [go_sem, seval, reduceCtorEq])
      have : s.ops.any (fun y => decide ((y.name.length : Int) > 60)) = true := List.any_eq_true.2 ⟨_, List.getElem_mem hlt, h⟩
      rw [this, Bool.true_or]
      (refine W.fs (hok) (by simp only [r11, go_sem, seval, reduceCtorEq]; rfl) ?_; simp only [resV]; try exact V.wk.rfl _)
    · ((try refine W.a ?_); simp only [go_sem, seval, reduceCtorEq, hw])
      refine .inv ⟨i + 1, ⟨hlt, upTo_next hinv hlt h⟩, by omega, ?_⟩
      (refine Lew.env ?_; exact lee_here)
  rw [key hinv (by omega), Bool.false_or]
  have h1 : ¬ ((i : Int) < (s.ops.length : Int)) := by omega
  ((try refine W.a ?_); simp only [go_sem, seval, reduceCtorEq, h1])
  refine W.no rfl ?_
  ((try refine W.a ?_); simp only [go_sem, seval, reduceCtorEq])
  refine W.loopP (fun i => i ≤ x.names.length ∧ UpTo (fun y => decide ((y.length : Int) > 60)) x.names i) (fun i => ⟨((((base.put (some 2) (.ptr σ.length 0)).put (some 3) (.ptr (σ.length + 1) 0)).put (some 4) (B false)).put (some 9) (I (i : Nat))), σ ++ [.cells s.v.cellsV, .cells x.v.cellsV]⟩) (fun i => x.names.length - i) 0 ⟨Nat.zero_le _, upTo_zero⟩ ?_ (fun i hi => ?_)
  · (refine Lew.env ?_; exact lee_here)
  obtain ⟨hi, hinv⟩ := hi
  by_cases hlt : i < x.names.length
  · have h1 : ((i : Int) < (x.names.length : Int)) := by omega
    have hx : x.names[i]? = some x.names[i] := List.getElem?_eq_getElem hlt
    have hw : IntKind.i64.wrap ((i : Int) + 1) = ((i + 1 : Nat) : Int) := wrap_next hlt (by omega)
    ((try refine W.a ?_); simp only [go_sem, seval, reduceCtorEq, h1])
    refine W.yes rfl ?_
    ((try refine W.a ?_); simp only [go_sem, seval, reduceCtorEq, h1, nat0, hx])
    refine W.test rfl (fun h => ?_) (fun h => ?_)
    · ((try refine W.a ?_); simp only [go_sem, seval, reduceCtorEq])
      have : x.names.any (fun y => decide ((y.length : Int) > 60)) = true := List.any_eq_true.2 ⟨_, List.getElem_mem hlt, h⟩
      rw [this, Bool.true_or]
      (refine W.fs (hok) (by simp only [r11, go_sem, seval, reduceCtorEq]; rfl) ?_; simp only [resV]; try exact V.wk.rfl _)
    · ((try refine W.a ?_); simp only [go_sem, seval, reduceCtorEq, hw])
      refine .inv ⟨i + 1, ⟨hlt, upTo_next hinv hlt h⟩, by omega, ?_⟩
      (refine Lew.env ?_; exact lee_here)
  rw [key hinv (by omega), Bool.false_or]
  have h1 : ¬ ((i : Int) < (x.names.length : Int)) := by omega
  ((try refine W.a ?_); simp only [go_sem, seval, reduceCtorEq, h1])
  refine W.no rfl ?_
  ((try refine W.a ?_); simp only [go_sem, seval, reduceCtorEq])
  (refine W.c1 (ref05_Large w0 x.ty 60 (by decide) (by decide) _) ?_; simp only [go_sem, seval, reduceCtorEq])
  (refine W.fs (hok) (by simp only [r11, go_sem, seval, reduceCtorEq]; rfl) ?_; simp only [resV]; try exact V.wk.rfl _)
theorem overS_no {s : Sg} {x : Sent} (h : overS s x = false) : SgLe s 120 ∧ x.names.length ≤ 10 := by
  unfold overS at h
  simp only [Bool.or_eq_false_iff, decide_eq_false_iff_not] at h
  obtain ⟨h1, h2, h3, h4, _⟩ := h
  exact ⟨⟨by omega, by omega, by omega⟩, by omega⟩
end Go.Proofs.YtohcnohllbjlcaaGreatDoor
namespace Go.Proofs.YtohcnohllbjlcaaGreatDoor
open Go.RowKit Go.Lamb
attribute [local go_sem] advO_skip advO_reg advO_seq advO_block advO_exit advO_endb advO_opsNil advO_ops advG_yes advG_no advG_none advS_some advS_none advO_cond advO_loop advO_dreg advO_ret advO_bad advO_inv advO_nil advO_zero wantedV Lamb.step ev_t ev_k put_some put_none argEnv popTo cellsAt V.cellsV V.rows V.toC toCs fillV bytesC byteRows appV rowsV boundV boundL binV binInt binStr eqC eqL V.isNil leaves V.leaf Ins.quiet Ins.pure List.getD_cons_zero List.getD_cons_succ List.getD_nil List.all_cons List.all_nil List.length_cons List.length_nil List.take_succ_cons List.take_zero List.drop_succ_cons List.drop_zero List.cons_append List.nil_append List.append_nil List.append_assoc List.map_cons List.map_nil List.getElem?_cons_zero List.getElem?_cons_succ List.length_append List.length_set hget0 hget hset0 hset hsets hgs0 hgs hss0 hss List.set_cons_zero List.set_cons_succ List.forall_mem_cons List.not_mem_nil false_implies implies_true Option.map_some Bool.and_true Bool.true_and Bool.not_not Bool.not_true Bool.not_false Bool.and_self Bool.or_true Bool.true_or Bool.or_false Bool.false_or Bool.and_false Bool.false_and Bool.false_eq_true beq_self_eq_true and_self and_true true_and if_true if_false Nat.zero_add Nat.add_zero Nat.le_refl Int.toNat_natCast decide_true decide_false beq_t beq_f List.length_map List.getElem?_map I S B opsC toksC OpT.v OpT.cs OpT.zero Tok.v Tok.cs Pre.v Pre.cs_eq k_mk name_mk n_mk l_mk pos_mk Pre.app applyL natCast0 natCast1 natCast2 AOp.o AOp.m AOp.f AOp.l AOp.d AOp.n AOp.x AOp.s AOp.k AOp.y AOp.z EOp.q low_c low_void low_any low_csl low_nilf low_ptr low_osl low_agg low_tup low_fn resEval advPO_nil advPO_loud advPO_quiet pL_yes pL_no pLS_some pLS_none pQ_yes pQ_no pQS_some pQS_loud eq_self Nat.sub_zero
section
attribute [local go_sem] Typ.v Typ.cs_eq tk_mk tname_mk tn_mk tl_mk tysC KdT.v KdT.cs NmT.v NmT.cs kdsC nmsC Sg.v Sent.v strsC

def nat0S : Str := [110, 97, 116]
def typP : Typ := .arr (.con nat0S) tO
def sentP (q : Typ) : Sent := ⟨1, [[112]], 0, q, .zero, .none, 0⟩
def sentN : Sent := ⟨0, [nat0S], 0, .none, .zero, .none, 0⟩
def start1 : Sg := ⟨start0.kinds ++ [⟨nat0S, 0⟩], start0.types, start0.ops⟩
def start2 : Sg := ⟨start1.kinds, start0.types ++ [⟨[112], typP⟩], start0.ops⟩
def typPi : Typ := .arr (.arr tA tO) tO
theorem w_find1 : findN start0.types [112, 105] = some ⟨[112, 105], typPi⟩ := by kernel_rfl
theorem w_kind1 : kindL start0.kinds [105, 110, 116] = some ⟨[105, 110, 116], 0⟩ := by kernel_rfl
theorem w_add1 : addS start0 (sentP typP) = (start0, 111) := by kernel_rfl
theorem w_add2 : addS start0 sentN = (start1, 0) := by kernel_rfl
theorem w_add3 : addS start1 (sentP typP) = (start2, 0) := by kernel_rfl
theorem w_find2 : findN start2.types [112] = some ⟨[112], typP⟩ := by kernel_rfl
theorem w_text1 : textT typPi = [40, 65, 32, 45, 62, 32, 111, 41, 32, 45, 62, 32, 111] := by kernel_rfl
theorem w_text2 : textT typP = [110, 97, 116, 32, 45, 62, 32, 111] := by kernel_rfl
theorem w_log1 : logicalB [115, 105, 103, 109, 97] = true := by kernel_rfl
theorem w_log2 : logicalB [112] = false := by kernel_rfl
theorem sg0_le : SgLe start0 1000 := ⟨of_decide_eq_true (by kernel_rfl), of_decide_eq_true (by kernel_rfl), of_decide_eq_true (by kernel_rfl)⟩
theorem sg1_le : SgLe start1 1000 := ⟨of_decide_eq_true (by kernel_rfl), of_decide_eq_true (by kernel_rfl), of_decide_eq_true (by kernel_rfl)⟩
theorem letsA : Lets tA := .mk (by decide) fun x hx => by cases hx
theorem law11_works (w0 : World) (σ : H) : DC Tryz.prog w0 10 [] σ (Same (B true) σ) := by
  refine k10.go rfl (fun hok hsz => ?_)
  have e1 := fun σ => sig_Start w0 σ
  have e2 := fun σ => sig_Find w0 start0 [112, 105] σ
  have e3 := fun σ => sig_Kind w0 start0 [105, 110, 116] σ
  have e4 := fun σ => arrow1 w0 tO (.con nat0S) σ
  have e5 := fun σ => sig_Add w0 start0 sg0_le (sentP typP) (by decide) σ
  have e6 := fun σ => sig_Add w0 start0 sg0_le sentN (by decide) σ
  have e7 := fun σ => sig_Add w0 start1 sg1_le (sentP typP) (by decide) σ
  have e8 := fun σ => sig_Find w0 start2 [112] σ
  have e9 := fun σ => ref11_Start w0 σ
  have e10 := fun σ => ref11_Same w0 start0 ⟨by have := sg0_le.k; omega, by have := sg0_le.t; omega, by have := sg0_le.o; omega⟩ σ
  have e11 : ∀ σ, DC Tryz.prog w0 40 [typPi.v] σ (Same (S (textT typPi)) σ) := ty_TextS typPi (lets_arr (lets_arr letsA (lets_con _)) (lets_con _)) (by rw [w_text1]; decide)
  have e12 : ∀ σ, DC Tryz.prog w0 40 [typP.v] σ (Same (S (textT typP)) σ) := ty_TextS typP (lets_arr (lets_con _) (lets_con _)) (by rw [w_text2]; decide)
  have e13 := fun σ => sig_Logical w0 [115, 105, 103, 109, 97] σ
  have e14 := fun σ => sig_Logical w0 [112] σ
  rw [w_find1] at e2
  rw [w_kind1] at e3
  rw [w_add1] at e5
  rw [w_add2] at e6
  rw [w_add3] at e7
  rw [w_find2] at e8
  rw [w_text1] at e11
  rw [w_text2] at e12
  rw [w_log1] at e13
  rw [w_log2] at e14
  have hq : Typ.arr (.con nat0S) tO = typP := rfl
  rw [hq] at e4
  clear hq
  have ho : tO.v = .agg [I 0, S [111], I 0, .c (.sl [])] := rfl
  rw [ho] at e4
  generalize start2 = s2 at *
  generalize start1 = s1 at *
  generalize start0 = s0 at *
  generalize typPi = t1 at *
  generalize typP = q at *
  unfold sentP at e5 e7
  unfold sentN at e6
  ((try refine W.a ?_); simp only [go_sem, seval, reduceCtorEq, c10])
  (refine W.c1 (e1 _) ?_; simp only [go_sem, seval, reduceCtorEq])
  (refine W.c1 (e2 _) ?_; simp only [go_sem, seval, reduceCtorEq, findV, Option.getD_some, Option.isSome_some])
  (refine W.c1 (e3 _) ?_; simp only [go_sem, seval, reduceCtorEq, kindV, Option.getD_some, Option.isSome_some])
  (refine W.c1w (e4 _) ?_; simp only [go_sem, seval, reduceCtorEq])
  (refine W.c1w (e5 _) ?_; simp only [go_sem, seval, reduceCtorEq])
  (refine W.c1w (e6 _) ?_; simp only [go_sem, seval, reduceCtorEq])
  (refine W.c1w (e7 _) ?_; simp only [go_sem, seval, reduceCtorEq])
  (refine W.c1 (e8 _) ?_; simp only [go_sem, seval, reduceCtorEq, findV, Option.getD_some, Option.isSome_some])
  apply W.dregE (List.cons_ne_nil _ _)
  case hc =>
    (apply CanonE.advPO; simp only [go_sem, seval, reduceCtorEq])
    (apply CanonE.call (e9 _); (case hg => rfl); (case hf => rfl); (case ha => first | rfl | simp))
    (apply CanonE.advPO; simp only [go_sem, seval, reduceCtorEq])
    (apply CanonE.call (e10 _); (case hg => rfl); (case hf => rfl); (case ha => first | rfl | simp))
    (apply CanonE.advPO; simp only [go_sem, seval, reduceCtorEq])
    exact CanonE.nil
  ((try refine W.a ?_); simp only [go_sem, seval, reduceCtorEq])
  (refine W.c1 (e11 _) ?_; simp only [go_sem, seval, reduceCtorEq])
  (refine W.c1 (e12 _) ?_; simp only [go_sem, seval, reduceCtorEq])
  (refine W.c1 (e13 _) ?_; simp only [go_sem, seval, reduceCtorEq])
  (refine W.c1 (e14 _) ?_; simp only [go_sem, seval, reduceCtorEq])
  (refine W.fs (hok) (by simp only [r10, go_sem, seval, reduceCtorEq]; rfl) ?_; simp only [resV]; try exact V.wk.rfl _)
end
section
attribute [local go_sem] Typ.v Typ.cs_eq tk_mk tname_mk tn_mk tl_mk tysC KdT.v KdT.cs NmT.v NmT.cs kdsC nmsC Sg.v Sent.v strsC

theorem law11_SigKeeps (w0 : World) (s : Sg) (x : Sent) (name : Str) (σ : H) : DC Tryz.prog w0 5 [s.v, x.v, S name] σ (Same (B true) σ) := by
  refine k5.go rfl (fun hok hsz => ?_)
  ((try refine W.a ?_); simp only [go_sem, seval, reduceCtorEq, c5])
  (refine W.c1 (law11_works w0 _) ?_; simp only [go_sem, seval, reduceCtorEq])
  refine W.no rfl ?_
  ((try refine W.a ?_); simp only [go_sem, seval, reduceCtorEq])
  (refine W.c1 (law11_over w0 s x _) ?_; simp only [go_sem, seval, reduceCtorEq])
  cases ho : overS s x
  case true =>
    ((try refine W.a ?_); simp only [go_sem, seval, reduceCtorEq])
    refine W.yes rfl ?_
    ((try refine W.a ?_); simp only [go_sem, seval, reduceCtorEq])
    (refine W.fs (hok) (by simp only [r5, go_sem, seval, reduceCtorEq]; rfl) ?_; simp only [resV]; try exact V.wk.rfl _)
  obtain ⟨hs, hn⟩ := overS_no ho
  by_cases hl : (name.length : Int) > 60
  · ((try refine W.a ?_); simp only [go_sem, seval, reduceCtorEq, hl])
    refine W.yes rfl ?_
    ((try refine W.a ?_); simp only [go_sem, seval, reduceCtorEq])
    (refine W.fs (hok) (by simp only [r5, go_sem, seval, reduceCtorEq]; rfl) ?_; simp only [resV]; try exact V.wk.rfl _)
  have hs' : SgLe s 1000 := ⟨by have := hs.k; omega, by have := hs.t; omega, by have := hs.o; omega⟩
  have hs9 : SgLe s 90000 := ⟨by have := hs.k; omega, by have := hs.t; omega, by have := hs.o; omega⟩
  have a1 := fun σ => ref11_Add w0 s hs' ⟨3, [], 0, .none, .zero, .none, 0⟩ (by decide) σ
  rw [addS_none] at a1
  have a2 := fun σ => sig_Add w0 s hs' x (by omega) σ
  have a3 := fun σ => ref11_Same w0 s hs9 σ
  have hle := addS_le hs.k hs.t hs.o hn
  ((try refine W.a ?_); simp only [go_sem, seval, reduceCtorEq, hl])
  refine W.no rfl ?_
  ((try refine W.a ?_); simp only [go_sem, seval, reduceCtorEq])
  (refine W.c1w (a1 _) ?_; simp only [go_sem, seval, reduceCtorEq])
  (refine W.c1 (a2 _) ?_; simp only [go_sem, seval, reduceCtorEq])
  (refine W.c1 (a3 _) ?_; simp only [go_sem, seval, reduceCtorEq])
  refine W.no rfl ?_
  by_cases he : (addS s x).2 = 0
  case neg =>
    have h1 : ((addS s x).2 != 0) = true := by simpa using he
    ((try refine W.a ?_); simp only [go_sem, seval, reduceCtorEq, h1])
    refine W.yes rfl ?_
    rw [addS_err he]
    ((try refine W.a ?_); simp only [go_sem, seval, reduceCtorEq])
    (refine W.c1 (a3 _) ?_; simp only [go_sem, seval, reduceCtorEq])
    (refine W.fs (hok) (by simp only [r5, go_sem, seval, reduceCtorEq]; rfl) ?_; simp only [resV]; try exact V.wk.rfl _)
  obtain ⟨hk1, hadds⟩ := addS_ok he
  obtain ⟨hkeep, hhas⟩ := adds_keeps x _ _ _ hadds
  have htw := fun h1 h2 => addS_twice he h1 h2
  have h1 : ((addS s x).2 != 0) = false := by simpa using he
  ((try refine W.a ?_); simp only [go_sem, seval, reduceCtorEq, h1])
  refine W.no rfl ?_
  clear he h1 hadds a1 a2 a3
  generalize (addS s x).1 = a at *
  have hsa : SgLe a 1000 := ⟨by omega, by omega, by omega⟩
  have a4 := fun σ => sig_Kind w0 s name σ
  have a5 := fun σ => sig_Find w0 s name σ
  have a6 := fun σ => sig_Kind w0 a name σ
  have a7 := fun σ => sig_Find w0 a name σ
  have a8 := fun σ => sig_Add w0 a hsa x (by omega) σ
  unfold kindV at a4 a6
  unfold findV at a5 a7
  have c1 : (kindL s.kinds name).isSome = false ∨ ((kindL s.kinds name).isSome = true ∧ (kindL a.kinds name).isSome = true ∧ ((kindL a.kinds name).getD .none).n = ((kindL s.kinds name).getD .none).n) := by
    cases e : kindL s.kinds name with
    | none => exact .inl rfl
    | some y => rw [hkeep.k _ _ e]; exact .inr ⟨rfl, rfl, rfl⟩
  have c2 : (findN s.types name).isSome = false ∨ ((findN s.types name).isSome = true ∧ (findN a.types name).isSome = true ∧ ((findN a.types name).getD .none).ty = ((findN s.types name).getD .none).ty) := by
    cases e : findN s.types name with
    | none => exact .inl rfl
    | some y => rw [hkeep.t _ _ e]; exact .inr ⟨rfl, rfl, rfl⟩
  generalize (kindL s.kinds name).isSome = b1 at *
  generalize (kindL a.kinds name).isSome = b3 at *
  generalize (findN s.types name).isSome = b2 at *
  generalize (findN a.types name).isSome = b4 at *
  generalize ((kindL s.kinds name).getD .none).n = n1 at *
  generalize ((kindL a.kinds name).getD .none).n = n3 at *
  generalize ((findN s.types name).getD .none).ty = t1 at *
  generalize ((findN a.types name).getD .none).ty = t3 at *
  have hsame : b2 = true → sameTy t1 t3 = true := fun h => by
    rcases c2 with h2 | ⟨_, _, rfl⟩
    · rw [h] at h2; cases h2
    · exact sameTy_refl _
  have a9 := fun σ => ref05_Same w0 t1 t3 σ
  generalize sameTy t1 t3 = b5 at *
  rcases c1 with rfl | ⟨rfl, rfl, rfl⟩ <;> rcases c2 with rfl | ⟨rfl, rfl, rfl⟩ <;> (try obtain rfl := hsame rfl) <;> clear hsame
  all_goals
    ((try refine W.a ?_); simp only [go_sem, seval, reduceCtorEq])
    (refine W.c1 (a4 _) ?_; simp only [go_sem, seval, reduceCtorEq])
    (refine W.c1 (a5 _) ?_; simp only [go_sem, seval, reduceCtorEq])
    (refine W.c1 (a6 _) ?_; simp only [go_sem, seval, reduceCtorEq])
    (refine W.c1 (a7 _) ?_; simp only [go_sem, seval, reduceCtorEq])
    (refine W.c1 (a9 _) ?_; simp only [go_sem, seval, reduceCtorEq, bne_self_eq_false])
    refine W.no rfl ?_
    ((try refine W.a ?_); simp only [go_sem, seval, reduceCtorEq])
    refine W.loopP (fun i => i ≤ x.names.length) (fun i => ⟨((((((base.put (some 3) (.ptr σ.length 0)).put (some 4) (.ptr (σ.length + 1) 0)).put (some 6) (B false)).put (some 7) (B true)).put (some 11) (.ptr (σ.length + 3) 0)).put (some 24) (I (i : Nat))), σ ++ [.cells s.v.cellsV, .cells x.v.cellsV, .cells s.v.cellsV, .cells a.v.cellsV]⟩) (fun i => x.names.length - i) 0 (Nat.zero_le _) ?_ (fun i hi => ?_)
    · (refine Lew.cutL (hok) ?_ (by simp) (by simp) ?_ ?_ ?_; exact lee_here; ((try simp only [okB, wkB, go_sem, seval, reduceCtorEq]) <;> omega); (simp only [List.length_cons, List.length_nil, Nat.reduceAdd, List.take_succ_cons, List.take_zero, wkB, and_true]; (repeat' (refine And.intro ?_ ?_)) <;> (first | exact Blk.wk.rfl _ | exact Blk.wk.gone _ | (refine Blk.wk_cells ?_ rfl; (exact wk_here)))); (repeat' (first | exact LowE.base _ | (refine LowE.put ?_ (by first | exact .c _ | ((try simp only [okB, wkB, go_sem, seval, reduceCtorEq]) <;> omega))))))
    by_cases hlt : i < x.names.length
    · have h1 : ((i : Int) < (x.names.length : Int)) := by omega
      have hx : x.names[i]? = some x.names[i] := List.getElem?_eq_getElem hlt
      have hw : IntKind.i64.wrap ((i : Int) + 1) = ((i + 1 : Nat) : Int) := wrap_next hlt (by omega)
      have hh := hhas x.names[i] (List.getElem_mem hlt)
      have b1 := fun σ => sig_Kind w0 a x.names[i] σ
      have b2 := fun σ => sig_Find w0 a x.names[i] σ
      unfold kindV at b1
      unfold findV at b2
      have d1 : x.k = 0 → (kindL a.kinds x.names[i]).isSome = true ∧ ((kindL a.kinds x.names[i]).getD .none).n = x.n := fun e => by rw [hh.k e]; exact ⟨rfl, rfl⟩
      have d2 : x.k = 1 → (findN a.types x.names[i]).isSome = true ∧ ((findN a.types x.names[i]).getD .none).ty = x.ty := fun e => by rw [hh.t e]; exact ⟨rfl, rfl⟩
      generalize (kindL a.kinds x.names[i]).isSome = p1 at *
      generalize ((kindL a.kinds x.names[i]).getD .none).n = p2 at *
      generalize (findN a.types x.names[i]).isSome = p3 at *
      generalize ((findN a.types x.names[i]).getD .none).ty = p4 at *
      have d3 : x.k = 1 → sameTy p4 x.ty = true := fun e => by rw [(d2 e).2]; exact sameTy_refl _
      have b3 := fun σ => ref05_Same w0 p4 x.ty σ
      generalize sameTy p4 x.ty = p5 at *
      ((try refine W.a ?_); simp only [go_sem, seval, reduceCtorEq, h1])
      refine W.yes rfl ?_
      ((try refine W.a ?_); simp only [go_sem, seval, reduceCtorEq])
      apply W.dregE (List.cons_ne_nil _ _)
      case hc =>
        (apply CanonE.advPO; simp only [go_sem, seval, reduceCtorEq, h1, nat0, hx])
        (apply CanonE.call (b1 _); (case hg => rfl); (case hf => rfl); (case ha => first | rfl | simp))
        (apply CanonE.advPO; simp only [go_sem, seval, reduceCtorEq])
        exact CanonE.nil
      ((try refine W.a ?_); simp only [go_sem, seval, reduceCtorEq])
      apply W.dregE (List.cons_ne_nil _ _)
      case hc =>
        (apply CanonE.advPO; simp only [go_sem, seval, reduceCtorEq, h1, nat0, hx])
        (apply CanonE.pcall (fun τ => b2 τ); (case hg => rfl); (case hf => rfl); (case ha => first | rfl | simp))
        (apply CanonE.advPO; simp only [go_sem, seval, reduceCtorEq])
        exact CanonE.nil
      ((try refine W.a ?_); simp only [go_sem, seval, reduceCtorEq])
      (refine W.c1 (b3 _) ?_; simp only [go_sem, seval, reduceCtorEq])
      by_cases q0 : x.k = 0
      · have k0 : (x.k == 0) = true := by simpa using q0
        have k1 : (x.k == 1) = false := by simp; omega
        obtain ⟨rfl, rfl⟩ := d1 q0
        ((try refine W.a ?_); simp only [go_sem, seval, reduceCtorEq, k0, k1, bne_self_eq_false])
        refine W.no rfl ?_
        ((try refine W.a ?_); simp only [go_sem, seval, reduceCtorEq, hw])
        refine .inv ⟨i + 1, hlt, by omega, ?_⟩
        (refine Lew.cutL (hok) ?_ (by simp) (by simp) ?_ ?_ ?_; exact lee_here; ((try simp only [okB, wkB, go_sem, seval, reduceCtorEq]) <;> omega); (simp only [List.length_cons, List.length_nil, Nat.reduceAdd, List.take_succ_cons, List.take_zero, wkB, and_true]; (repeat' (refine And.intro ?_ ?_)) <;> (first | exact Blk.wk.rfl _ | exact Blk.wk.gone _ | (refine Blk.wk_cells ?_ rfl; (exact wk_here)))); (repeat' (first | exact LowE.base _ | (refine LowE.put ?_ (by first | exact .c _ | ((try simp only [okB, wkB, go_sem, seval, reduceCtorEq]) <;> omega))))))
      have k0 : (x.k == 0) = false := by simpa using q0
      by_cases q1 : x.k = 1
      · have k1 : (x.k == 1) = true := by simpa using q1
        obtain rfl := (d2 q1).1
        obtain rfl := d3 q1
        ((try refine W.a ?_); simp only [go_sem, seval, reduceCtorEq, k0, k1])
        refine W.no rfl ?_
        ((try refine W.a ?_); simp only [go_sem, seval, reduceCtorEq, hw])
        refine .inv ⟨i + 1, hlt, by omega, ?_⟩
        (refine Lew.cutL (hok) ?_ (by simp) (by simp) ?_ ?_ ?_; exact lee_here; ((try simp only [okB, wkB, go_sem, seval, reduceCtorEq]) <;> omega); (simp only [List.length_cons, List.length_nil, Nat.reduceAdd, List.take_succ_cons, List.take_zero, wkB, and_true]; (repeat' (refine And.intro ?_ ?_)) <;> (first | exact Blk.wk.rfl _ | exact Blk.wk.gone _ | (refine Blk.wk_cells ?_ rfl; (exact wk_here)))); (repeat' (first | exact LowE.base _ | (refine LowE.put ?_ (by first | exact .c _ | ((try simp only [okB, wkB, go_sem, seval, reduceCtorEq]) <;> omega))))))
      have k1 : (x.k == 1) = false := by simpa using q1
      ((try refine W.a ?_); simp only [go_sem, seval, reduceCtorEq, k0, k1])
      refine W.no rfl ?_
      ((try refine W.a ?_); simp only [go_sem, seval, reduceCtorEq, hw])
      refine .inv ⟨i + 1, hlt, by omega, ?_⟩
      (refine Lew.cutL (hok) ?_ (by simp) (by simp) ?_ ?_ ?_; exact lee_here; ((try simp only [okB, wkB, go_sem, seval, reduceCtorEq]) <;> omega); (simp only [List.length_cons, List.length_nil, Nat.reduceAdd, List.take_succ_cons, List.take_zero, wkB, and_true]; (repeat' (refine And.intro ?_ ?_)) <;> (first | exact Blk.wk.rfl _ | exact Blk.wk.gone _ | (refine Blk.wk_cells ?_ rfl; (exact wk_here)))); (repeat' (first | exact LowE.base _ | (refine LowE.put ?_ (by first | exact .c _ | ((try simp only [okB, wkB, go_sem, seval, reduceCtorEq]) <;> omega))))))
    have h1 : ¬ ((i : Int) < (x.names.length : Int)) := by omega
    ((try refine W.a ?_); simp only [go_sem, seval, reduceCtorEq, h1])
    refine W.no rfl ?_
    ((try refine W.a ?_); simp only [go_sem, seval, reduceCtorEq])
    (refine W.c1w (a8 _) ?_; simp only [go_sem, seval, reduceCtorEq])
    by_cases q0 : x.names = []
    · have k0 : ((x.names.length : Int) == 0) = true := by rw [q0]; rfl
      ((try refine W.a ?_); simp only [go_sem, seval, reduceCtorEq, k0])
      (refine W.fs (hok) (by simp only [r5, go_sem, seval, reduceCtorEq]; rfl) ?_; simp only [resV]; try exact V.wk.rfl _)
    have k0 : ((x.names.length : Int) == 0) = false := by
      cases e : x.names with
      | nil => exact absurd e q0
      | cons _ _ => simp; omega
    by_cases q3 : x.k = 3
    · have k3 : (x.k == 3) = true := by simpa using q3
      ((try refine W.a ?_); simp only [go_sem, seval, reduceCtorEq, k0, k3])
      (refine W.fs (hok) (by simp only [r5, go_sem, seval, reduceCtorEq]; rfl) ?_; simp only [resV]; try exact V.wk.rfl _)
    have k3 : (x.k == 3) = false := by simpa using q3
    have k4 : ((addS a x).2 != 0) = true := by simpa using htw q0 q3
    ((try refine W.a ?_); simp only [go_sem, seval, reduceCtorEq, k0, k3, k4])
    (refine W.fs (hok) (by simp only [r5, go_sem, seval, reduceCtorEq]; rfl) ?_; simp only [resV]; try exact V.wk.rfl _)
end
end Go.Proofs.YtohcnohllbjlcaaGreatDoor

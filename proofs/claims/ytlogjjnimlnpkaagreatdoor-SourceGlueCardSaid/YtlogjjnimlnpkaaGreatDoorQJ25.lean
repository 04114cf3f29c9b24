/-
  Walks: the type reader's small functions.
  Walks: operators are declared.
  Walks: a type one deeper; an atom.
  Walks: a type: what is behind its first part.
  Walks: ty.Read.
  Walks: the source reader's small functions.
  Walks: names, and how many arrows there are.
  Walks: the reader's small functions, more of them.
  Walks: what an operator makes of two trees.
  Walks: an expression one deeper; brackets; an atom.
  Walks: brackets.
-/
import Derived.Test.YtlogjjnimlnpkaaGreatDoorQJ24
import Derived.Test.YtlogjjnimlnpkaaGreatDoorQJ11
import Derived.Test.YtlogjjnimlnpkaaGreatDoorQLexC
import Derived.Test.YtlogjjnimlnpkaaGreatDoorQTyA2
import Derived.Test.YtlogjjnimlnpkaaGreatDoorQJ10
set_option linter.unusedSimpArgs false
set_option linter.unusedVariables false
set_option maxHeartbeats 8000000
set_option maxRecDepth 20000
namespace Go.Proofs.YtlogjjnimlnpkaaGreatDoor
open Go.RowKit Go.Lamb
attribute [local go_sem] advO_skip advO_reg advO_seq advO_block advO_exit advO_endb advO_opsNil advO_ops advG_yes advG_no advG_none advS_some advS_none advO_cond advO_loop advO_dreg advO_ret advO_bad advO_inv advO_nil advO_zero wantedV Lamb.step ev_t ev_k put_some put_none argEnv popTo cellsAt V.cellsV V.rows V.toC toCs fillV bytesC byteRows appV rowsV boundV boundL binV binInt binStr eqC eqL V.isNil leaves V.leaf Ins.quiet Ins.pure List.getD_cons_zero List.getD_cons_succ List.getD_nil List.all_cons List.all_nil List.length_cons List.length_nil List.take_succ_cons List.take_zero List.drop_succ_cons List.drop_zero List.cons_append List.nil_append List.append_nil List.append_assoc List.map_cons List.map_nil List.getElem?_cons_zero List.getElem?_cons_succ List.length_append List.length_set hget0 hget hset0 hset hsets hgs0 hgs hss0 hss List.set_cons_zero List.set_cons_succ List.forall_mem_cons List.not_mem_nil false_implies implies_true Option.map_some Bool.and_true Bool.true_and Bool.not_not Bool.not_true Bool.not_false Bool.and_self Bool.or_true Bool.true_or Bool.or_false Bool.false_or Bool.and_false Bool.false_and Bool.false_eq_true beq_self_eq_true and_self and_true true_and if_true if_false Nat.zero_add Nat.add_zero Nat.le_refl Int.toNat_natCast decide_true decide_false beq_t beq_f List.length_map List.getElem?_map I S B opsC toksC OpT.v OpT.cs OpT.zero Tok.v Tok.cs Pre.v Pre.cs_eq k_mk name_mk n_mk l_mk pos_mk Pre.app applyL natCast0 natCast1 natCast2
section

def strsR (l : List Str) : List (List C) := l.map fun s => [C.str s]
/-- The type reader's blocks. -/
def tyX (t : List Tok) (i : Int) (v : Nat) (vs : List Str) (e p : Int) : Blk := .cells [.c (toksC t), I i, .osl v (strsR vs), I e, I p]
def tyY (vs : List Str) : Blk := .spare 9 1 vs.length
abbrev tys (σ : H) (b v : Nat) (t : List Tok) (i : Int) (vs : List Str) (e p : Int) : H := rs σ b v (tyX t i v vs e p) (tyY vs)
theorem tys_ok {σ : H} {b v : Nat} (D : Two σ b v) {X Y : Blk} (h : H.ok (rs σ b v X Y)) (t : List Tok) (i : Int) (vs : List Str) (e p : Int) : H.ok (tys σ b v t i vs e p) :=
  rs_ok D h (fun cs tg hc x hx => by
    unfold tyX at hc
    injection hc with hc _
    subst hc
    simp only [List.mem_cons, List.not_mem_nil, or_false] at hx
    rcases hx with rfl | rfl | rfl | rfl | rfl
    · exact .c _
    · exact .c _
    · exact .osl D.lv
    · exact .c _
    · exact .c _) (fun cs tg hc => by unfold tyY at hc; cases hc)
attribute [local go_sem] tyX tyY rs_len rs_g0 rs_g rs_s0 rs_s rs_sv Typ.v Typ.cs_eq tk_mk tname_mk tn_mk tl_mk tysC
theorem ty_tok (w0 : World) (t : List Tok) (i : Int) (vs : List Str) (e p : Int) (σ : H) (b v : Nat) (D : Two σ b v) (hl : t.length ≤ 1000000) :
    DC Tryz.prog w0 131 [.ptr b 0] (tys σ b v t i vs e p) (Same (tokI t i).v (tys σ b v t i vs e p)) := by
  refine go131 rfl (fun hok hsz => ?_)
  by_cases h : 0 ≤ i ∧ i < t.length
  · obtain ⟨h0, h1⟩ := h
    obtain ⟨n, rfl⟩ := Int.eq_ofNat_of_zero_le h0
    rw [tokI_nat]
    have h1' : n < t.length := by omega
    have hx : t[n]? = some t[n] := List.getElem?_eq_getElem h1'
    ((first | refine W.advO 5000 _ _ ?_ | skip); simp only [go_sem, seval, ↓reduceIte, reduceCtorEq, c131, rs_b D, rs_bL D, rs_v D, rs_vL D, rs_sb D, rs_sbL D, rs_svL D, rs_app D])
    (apply W.dregE (List.cons_ne_nil _ _); case hc => ((apply CanonE.advPO; simp only [advPO_nil, advPO_loud, advPO_quiet, pL_yes, pL_no, pLS_some, pLS_none, pQ_yes, pQ_no, pQS_some, pQS_loud, eq_self, Nat.sub_zero, go_sem, seval, ↓reduceIte, reduceCtorEq, rs_b D, rs_bL D, rs_v D, rs_vL D, rs_sb D, rs_sbL D, rs_svL D, rs_app D, h0, h1]); exact CanonE.nil))
    ((first | refine W.advO 5000 _ _ ?_ | skip); simp only [go_sem, seval, ↓reduceIte, reduceCtorEq])
    refine W.yes rfl ?_
    ((first | refine W.advO 5000 _ _ ?_ | skip); simp only [go_sem, seval, ↓reduceIte, reduceCtorEq])
    (apply W.dregE (List.cons_ne_nil _ _); case hc => ((apply CanonE.advPO; simp only [advPO_nil, advPO_loud, advPO_quiet, pL_yes, pL_no, pLS_some, pLS_none, pQ_yes, pQ_no, pQS_some, pQS_loud, eq_self, Nat.sub_zero, go_sem, seval, ↓reduceIte, reduceCtorEq, rs_b D, rs_bL D, rs_v D, rs_vL D, rs_sb D, rs_sbL D, rs_svL D, rs_app D, h0, h1, hx]); exact CanonE.nil))
    ((first | refine W.advO 5000 _ _ ?_ | skip); simp only [go_sem, seval, ↓reduceIte, reduceCtorEq])
    (refine W.ret (Fin.sameW (hok) (by (first | rfl | exact List.length_set .. | simp)) (by simp only [resEval, r131, go_sem, seval, ↓reduceIte, reduceCtorEq, rs_b D, rs_bL D, rs_v D, rs_vL D, rs_sb D, rs_sbL D, rs_svL D, rs_app D]; rfl) ?_ (by (first | exact .c _ | (simp only [I, S, B, opsC, toksC, Pre.v, Tok.v, OpT.v, low_c, low_void, low_any, low_csl, low_nilf, low_ptr, low_osl, low_agg, low_tup, low_fn, List.forall_mem_cons, List.not_mem_nil, false_implies, implies_true, and_self, and_true, true_and, rs_b D, rs_bL D, rs_v D, rs_vL D, rs_sb D, rs_sbL D, rs_svL D, rs_app D]; done))) (by (first | rfl | exact (List.append_nil _).symm))); simp only [resV, rs_b D, rs_bL D, rs_v D, rs_vL D, rs_sb D, rs_sbL D, rs_svL D, rs_app D]; try exact V.wk.rfl _)
    rw [tokL_in h1']
    (repeat' (first | exact V.wk.rfl _ | exact V.wk.csl _ | exact V.wk.osl _ _ | exact wk_agg_nil | exact wk_tup_nil | refine wk_agg_cons ?_ ?_ | refine wk_tup_cons ?_ ?_))
  · have ht : tokI t i = ⟨0, [], 0, lastPos t⟩ := by
      unfold tokI
      split
      · rw [tokL_out (by omega)]
      · rfl
    rw [ht]
    have two : (¬ 0 ≤ i) ∨ (0 ≤ i ∧ ¬ i < (t.length : Int)) := by
      by_cases h0 : 0 ≤ i
      · exact .inr ⟨h0, fun h1 => h ⟨h0, h1⟩⟩
      · exact .inl h0
    rcases two with h0 | ⟨h0, h1⟩
    all_goals
      ((first | refine W.advO 5000 _ _ ?_ | skip); simp only [go_sem, seval, ↓reduceIte, reduceCtorEq, c131, rs_b D, rs_bL D, rs_v D, rs_vL D, rs_sb D, rs_sbL D, rs_svL D, rs_app D])
      first
        | ((apply W.dregE (List.cons_ne_nil _ _); case hc => ((apply CanonE.advPO; simp only [advPO_nil, advPO_loud, advPO_quiet, pL_yes, pL_no, pLS_some, pLS_none, pQ_yes, pQ_no, pQS_some, pQS_loud, eq_self, Nat.sub_zero, go_sem, seval, ↓reduceIte, reduceCtorEq, rs_b D, rs_bL D, rs_v D, rs_vL D, rs_sb D, rs_sbL D, rs_svL D, rs_app D, h0, h1]); exact CanonE.nil)))
        | ((apply W.dregE (List.cons_ne_nil _ _); case hc => ((apply CanonE.advPO; simp only [advPO_nil, advPO_loud, advPO_quiet, pL_yes, pL_no, pLS_some, pLS_none, pQ_yes, pQ_no, pQS_some, pQS_loud, eq_self, Nat.sub_zero, go_sem, seval, ↓reduceIte, reduceCtorEq, rs_b D, rs_bL D, rs_v D, rs_vL D, rs_sb D, rs_sbL D, rs_svL D, rs_app D, h0]); exact CanonE.nil)))
      ((first | refine W.advO 5000 _ _ ?_ | skip); simp only [go_sem, seval, ↓reduceIte, reduceCtorEq])
      refine W.no rfl ?_
      ((first | refine W.advO 5000 _ _ ?_ | skip); simp only [go_sem, seval, ↓reduceIte, reduceCtorEq, rs_b D, rs_bL D, rs_v D, rs_vL D, rs_sb D, rs_sbL D, rs_svL D, rs_app D])
      by_cases hz : 0 < t.length
      · have h2 : ((t.length : Int) > 0) := by omega
        have hw2 : IntKind.i64.wrap ((t.length : Int) - 1) = ((t.length - 1 : Nat) : Int) := by rw [wrap_in] <;> omega
        obtain ⟨x, hx, hp⟩ := lastPos_at hz
        have h3 : (((t.length - 1 : Nat) : Int) < (t.length : Int)) := by omega
        ((first | refine W.advO 5000 _ _ ?_ | skip); simp only [go_sem, seval, ↓reduceIte, reduceCtorEq, h2])
        refine W.yes rfl ?_
        ((first | refine W.advO 5000 _ _ ?_ | skip); simp only [go_sem, seval, ↓reduceIte, reduceCtorEq])
        (apply W.dregE (List.cons_ne_nil _ _); case hc => ((apply CanonE.advPO; simp only [advPO_nil, advPO_loud, advPO_quiet, pL_yes, pL_no, pLS_some, pLS_none, pQ_yes, pQ_no, pQS_some, pQS_loud, eq_self, Nat.sub_zero, go_sem, seval, ↓reduceIte, reduceCtorEq, rs_b D, rs_bL D, rs_v D, rs_vL D, rs_sb D, rs_sbL D, rs_svL D, rs_app D, hw2, nat0, h3, hx]); exact CanonE.nil))
        ((first | refine W.advO 5000 _ _ ?_ | skip); simp only [go_sem, seval, ↓reduceIte, reduceCtorEq])
        (refine W.ret (Fin.sameW (hok) (by (first | rfl | exact List.length_set .. | simp)) (by simp only [resEval, r131, go_sem, seval, ↓reduceIte, reduceCtorEq, rs_b D, rs_bL D, rs_v D, rs_vL D, rs_sb D, rs_sbL D, rs_svL D, rs_app D]; rfl) ?_ (by (first | exact .c _ | (simp only [I, S, B, opsC, toksC, Pre.v, Tok.v, OpT.v, low_c, low_void, low_any, low_csl, low_nilf, low_ptr, low_osl, low_agg, low_tup, low_fn, List.forall_mem_cons, List.not_mem_nil, false_implies, implies_true, and_self, and_true, true_and, rs_b D, rs_bL D, rs_v D, rs_vL D, rs_sb D, rs_sbL D, rs_svL D, rs_app D]; done))) (by (first | rfl | exact (List.append_nil _).symm))); simp only [resV, rs_b D, rs_bL D, rs_v D, rs_vL D, rs_sb D, rs_sbL D, rs_svL D, rs_app D]; try exact V.wk.rfl _)
        rw [hp]
        (repeat' (first | exact V.wk.rfl _ | exact V.wk.csl _ | exact V.wk.osl _ _ | exact wk_agg_nil | exact wk_tup_nil | refine wk_agg_cons ?_ ?_ | refine wk_tup_cons ?_ ?_))
      · have h2 : ¬ ((t.length : Int) > 0) := by omega
        have : t = [] := List.eq_nil_of_length_eq_zero (by omega)
        ((first | refine W.advO 5000 _ _ ?_ | skip); simp only [go_sem, seval, ↓reduceIte, reduceCtorEq, h2])
        refine W.no rfl ?_
        ((first | refine W.advO 5000 _ _ ?_ | skip); simp only [go_sem, seval, ↓reduceIte, reduceCtorEq, rs_b D, rs_bL D, rs_v D, rs_vL D, rs_sb D, rs_sbL D, rs_svL D, rs_app D])
        (refine W.ret (Fin.sameW (hok) (by (first | rfl | exact List.length_set .. | simp)) (by simp only [resEval, r131, go_sem, seval, ↓reduceIte, reduceCtorEq, rs_b D, rs_bL D, rs_v D, rs_vL D, rs_sb D, rs_sbL D, rs_svL D, rs_app D]; rfl) ?_ (by (first | exact .c _ | (simp only [I, S, B, opsC, toksC, Pre.v, Tok.v, OpT.v, low_c, low_void, low_any, low_csl, low_nilf, low_ptr, low_osl, low_agg, low_tup, low_fn, List.forall_mem_cons, List.not_mem_nil, false_implies, implies_true, and_self, and_true, true_and, rs_b D, rs_bL D, rs_v D, rs_vL D, rs_sb D, rs_sbL D, rs_svL D, rs_app D]; done))) (by (first | rfl | exact (List.append_nil _).symm))); simp only [resV, rs_b D, rs_bL D, rs_v D, rs_vL D, rs_sb D, rs_sbL D, rs_svL D, rs_app D]; try exact V.wk.rfl _)
        subst this
        (repeat' (first | exact V.wk.rfl _ | exact V.wk.csl _ | exact V.wk.osl _ _ | exact wk_agg_nil | exact wk_tup_nil | refine wk_agg_cons ?_ ?_ | refine wk_tup_cons ?_ ?_))
theorem ty_fail (w0 : World) (t : List Tok) (i : Int) (vs : List Str) (e p e' p' : Int) (σ : H) (b v : Nat) (D : Two σ b v) :
    DC Tryz.prog w0 185 [.ptr b 0, I e', I p'] (tys σ b v t i vs e p) (Same (.tup []) (tys σ b v t i vs (if e = 0 then e' else e) (if e = 0 then p' else p))) := by
  refine go185 rfl (fun hok hsz => ?_)
  by_cases he : e = 0
  · subst he
    ((first | refine W.advO 5000 _ _ ?_ | skip); simp only [go_sem, seval, ↓reduceIte, reduceCtorEq, c185, rs_b D, rs_bL D, rs_v D, rs_vL D, rs_sb D, rs_sbL D, rs_svL D, rs_app D])
    refine W.yes rfl ?_
    ((first | refine W.advO 5000 _ _ ?_ | skip); simp only [go_sem, seval, ↓reduceIte, reduceCtorEq, rs_b D, rs_bL D, rs_v D, rs_vL D, rs_sb D, rs_sbL D, rs_svL D, rs_app D])
    (refine W.done (Fin.sameW (tys_ok D hok t i vs e' p') (by (first | rfl | exact List.length_set .. | simp)) (by simp only [resEval, r185, go_sem, seval, ↓reduceIte, reduceCtorEq]; rfl) ?_ (by (first | exact .c _ | (simp only [I, S, B, opsC, toksC, Pre.v, Tok.v, OpT.v, low_c, low_void, low_any, low_csl, low_nilf, low_ptr, low_osl, low_agg, low_tup, low_fn, List.forall_mem_cons, List.not_mem_nil, false_implies, implies_true, and_self, and_true, true_and]; done))) (by (first | rfl | exact (List.append_nil _).symm))); simp only [resV]; try exact V.wk.rfl _)
  · have he' : (e == 0) = false := by simpa using he
    ((first | refine W.advO 5000 _ _ ?_ | skip); simp only [go_sem, seval, ↓reduceIte, reduceCtorEq, c185, rs_b D, rs_bL D, rs_v D, rs_vL D, rs_sb D, rs_sbL D, rs_svL D, rs_app D, he'])
    refine W.no rfl ?_
    ((first | refine W.advO 5000 _ _ ?_ | skip); simp only [go_sem, seval, ↓reduceIte, reduceCtorEq])
    rw [if_neg he, if_neg he]
    (refine W.done (Fin.sameW (hok) (by (first | rfl | exact List.length_set .. | simp)) (by simp only [resEval, r185, go_sem, seval, ↓reduceIte, reduceCtorEq]; rfl) ?_ (by (first | exact .c _ | (simp only [I, S, B, opsC, toksC, Pre.v, Tok.v, OpT.v, low_c, low_void, low_any, low_csl, low_nilf, low_ptr, low_osl, low_agg, low_tup, low_fn, List.forall_mem_cons, List.not_mem_nil, false_implies, implies_true, and_self, and_true, true_and]; done))) (by (first | rfl | exact (List.append_nil _).symm))); simp only [resV]; try exact V.wk.rfl _)
theorem ty_begins (w0 : World) (t : List Tok) (i : Int) (vs : List Str) (e p : Int) (σ : H) (b v : Nat) (D : Two σ b v) (hl : t.length ≤ 1000000) :
    DC Tryz.prog w0 133 [.ptr b 0] (tys σ b v t i vs e p) (Same (B (tyBegins (tokI t i))) (tys σ b v t i vs e p)) := by
  refine go133 rfl (fun hok hsz => ?_)
  ((first | refine W.advO 5000 _ _ ?_ | skip); simp only [go_sem, seval, ↓reduceIte, reduceCtorEq, c133])
  (refine W.call1 (ty_tok w0 t i vs e p σ b v D hl) rfl rfl (by first | rfl | simp) ?_; refine W.advO 5000 _ _ ?_; simp only [go_sem, seval, ↓reduceIte, reduceCtorEq])
  generalize tokI t i = x
  (((first | refine W.advO 5000 _ _ ?_ | skip); (try simp only [bne, go_sem, seval, ↓reduceIte, reduceCtorEq, *])); (repeat' (first | (refine W.yes rfl ?_; (refine W.advO 5000 _ _ ?_; simp only [bne, go_sem, seval, ↓reduceIte, reduceCtorEq, *])) | (refine W.no rfl ?_; (refine W.advO 5000 _ _ ?_; simp only [bne, go_sem, seval, ↓reduceIte, reduceCtorEq, *])) | (refine W.testn rfl (fun hT => ?_) (fun hT => ?_) <;> (refine W.advO 5000 _ _ ?_; simp only [bne, go_sem, seval, ↓reduceIte, reduceCtorEq, *])) | (refine W.test rfl (fun hT => ?_) (fun hT => ?_) <;> (refine W.advO 5000 _ _ ?_; simp only [bne, go_sem, seval, ↓reduceIte, reduceCtorEq, *])) | (refine advG_ifn _ _ _ _ (fun hT => ?_) (fun hT => ?_) <;> simp only [bne, go_sem, seval, ↓reduceIte, reduceCtorEq, *]) | (refine advG_if _ _ _ _ (fun hT => ?_) (fun hT => ?_) <;> simp only [bne, go_sem, seval, ↓reduceIte, reduceCtorEq, *]))))
  all_goals (refine W.ret (Fin.sameW (hok) (by (first | rfl | exact List.length_set .. | simp)) (by simp only [resEval, r133, go_sem, seval, ↓reduceIte, reduceCtorEq]; rfl) ?_ (by (first | exact .c _ | (simp only [I, S, B, opsC, toksC, Pre.v, Tok.v, OpT.v, low_c, low_void, low_any, low_csl, low_nilf, low_ptr, low_osl, low_agg, low_tup, low_fn, List.forall_mem_cons, List.not_mem_nil, false_implies, implies_true, and_self, and_true, true_and]; done))) (by (first | rfl | exact (List.append_nil _).symm))); simp only [resV]; (first | exact V.wk.rfl _ | (refine wk_bool ?_; clear hsz hok; rw [tyBegins] <;> ((try simp only [beq_iff_eq, beq_eq_false_iff_ne, ne_eq, decide_eq_true_eq, decide_eq_false_iff_not] at *); first | (exfalso; omega) | (simp [beq_iff_eq, *]; done) | (simp [beq_iff_eq, *]; omega) | (simp [beq_iff_eq, *])))))
theorem slices_Index (w0 : World) (l : List Str) (s : Str) (σ : H) : DC Tryz.prog w0 199 [.c (.sl (strsR l)), S s] σ (Same (I (idxI (· == s) l)) σ) := by
  refine go199 rfl (fun hok hsz => ?_)
  have hlen : l.length ≤ 9223372036854775807 := sz_rows (hsz _ (List.mem_cons_self ..))
  ((first | refine W.advO 5000 _ _ ?_ | skip); simp only [go_sem, seval, ↓reduceIte, reduceCtorEq, c199, strsR])
  refine W.loopP (fun i => i ≤ l.length ∧ UpTo (· == s) l i) (fun i => ⟨((((base.put (some 0) (.c (.sl (strsR l)))).put (some 1) (S s)).put (some 7) (I l.length)).put (some 8) (I (i : Nat))), σ⟩) (fun i => l.length - i) 0 ⟨Nat.zero_le _, upTo_zero⟩ ?_ (fun i hi => ?_)
  · (refine Lew.env ?_; (repeat' (first | exact LeE.base _ | (refine LeE.put ?_ (by first | exact V.wk.rfl _ | exact V.wk.osl _ _ | exact V.wk.csl _)))))
  · obtain ⟨hi, hinv⟩ := hi
    by_cases hlt : i < l.length
    · have h1 : ((i : Int) < (l.length : Int)) := by omega
      have hx : l[i]? = some l[i] := List.getElem?_eq_getElem hlt
      have hw : IntKind.i64.wrap ((i : Int) + 1) = ((i + 1 : Nat) : Int) := wrap_next hlt hlen
      ((first | refine W.advO 5000 _ _ ?_ | skip); simp only [go_sem, seval, ↓reduceIte, reduceCtorEq, h1])
      refine W.yes rfl ?_
      ((first | refine W.advO 5000 _ _ ?_ | skip); simp only [go_sem, seval, ↓reduceIte, reduceCtorEq, strsR, h1, nat0, hx])
      refine W.test rfl (fun h => ?_) (fun h => ?_)
      · ((first | refine W.advO 5000 _ _ ?_ | skip); simp only [go_sem, seval, ↓reduceIte, reduceCtorEq])
        (refine W.ret (Fin.same hok (by simp only [resEval, r199, go_sem, seval, ↓reduceIte, reduceCtorEq]; rfl) ?_ (by first | exact .c _ | (simp only [I, S, B, opsC, toksC, Pre.v, Tok.v, OpT.v, low_c, low_void, low_any, low_csl, low_nilf, low_ptr, low_osl, low_agg, low_tup, low_fn, List.forall_mem_cons, List.not_mem_nil, false_implies, implies_true, and_self, and_true, true_and]; done)) (by first | exact ⟨[], (List.append_nil _).symm⟩ | exact ⟨_, rfl⟩)); simp only [resV])
        rw [idxI_at hinv hlt (by simp only [beq_iff_eq] at h ⊢; exact h.symm)]
      · ((first | refine W.advO 5000 _ _ ?_ | skip); simp only [go_sem, seval, ↓reduceIte, reduceCtorEq, hw])
        refine .inv ⟨i + 1, ⟨hlt, upTo_next hinv hlt (by simp only [beq_eq_false_iff_ne] at h ⊢; exact fun e => h e.symm)⟩, by omega, ?_⟩
        (refine Lew.env ?_; (repeat' (first | exact LeE.base _ | (refine LeE.put ?_ (by first | exact V.wk.rfl _ | exact V.wk.osl _ _ | exact V.wk.csl _)))))
    · have h1 : ¬ ((i : Int) < (l.length : Int)) := by omega
      ((first | refine W.advO 5000 _ _ ?_ | skip); simp only [go_sem, seval, ↓reduceIte, reduceCtorEq, h1])
      refine W.no rfl ?_
      ((first | refine W.advO 5000 _ _ ?_ | skip); simp only [go_sem, seval, ↓reduceIte, reduceCtorEq])
      (refine W.ret (Fin.same hok (by simp only [resEval, r199, go_sem, seval, ↓reduceIte, reduceCtorEq]; rfl) ?_ (by first | exact .c _ | (simp only [I, S, B, opsC, toksC, Pre.v, Tok.v, OpT.v, low_c, low_void, low_any, low_csl, low_nilf, low_ptr, low_osl, low_agg, low_tup, low_fn, List.forall_mem_cons, List.not_mem_nil, false_implies, implies_true, and_self, and_true, true_and]; done)) (by first | exact ⟨[], (List.append_nil _).symm⟩ | exact ⟨_, rfl⟩)); simp only [resV])
      rw [idxI_none (fun j hj => hinv j hj (by omega))]
theorem ty_variable1 (w0 : World) (n : Int) (σ : H) : DC Tryz.prog w0 88 [I n] σ (Same (Typ.var n).v σ) := by
  refine go88 rfl (fun hok hsz => ?_)
  ((first | refine W.advO 5000 _ _ ?_ | skip); simp only [go_sem, seval, ↓reduceIte, reduceCtorEq, c88])
  (refine W.ret (Fin.gen (d := (Typ.var n).v) (hok) (by (first | rfl | exact List.length_set .. | simp)) (by simp only [resEval, r88, go_sem, seval, ↓reduceIte, reduceCtorEq, Typ.v, Typ.var, tk_mk, tname_mk, tn_mk, tl_mk]; rfl) (by simp only [resV, I, S, B, Pre.v, OpT.v, Tok.v, k_mk, name_mk, n_mk, l_mk, pos_mk, Pre.app, List.map_cons, List.map_nil, Pre.cs_eq, Typ.v, Typ.var, tk_mk, tname_mk, tn_mk, tl_mk]; (repeat' (first | exact V.wk.rfl _ | exact V.wk.csl _ | exact V.wk.osl _ _ | exact wk_agg_nil | exact wk_tup_nil | refine wk_agg_cons ?_ ?_ | refine wk_tup_cons ?_ ?_))) (by (first | exact .c _ | (simp only [I, S, B, opsC, toksC, Pre.v, Tok.v, OpT.v, low_c, low_void, low_any, low_csl, low_nilf, low_ptr, low_osl, low_agg, low_tup, low_fn, List.forall_mem_cons, List.not_mem_nil, false_implies, implies_true, and_self, and_true, true_and, Typ.v, Typ.var, tk_mk, tname_mk, tn_mk, tl_mk]; done))) (by (first | rfl | exact (List.append_nil _).symm)) ?_))
  exact ⟨rfl, rfl⟩
theorem vnum_no {vs : List Str} {s : Str} (h : idxI (· == s) vs = -1) : vnum vs s = vs.length ∧ vadd vs s = vs ++ [s] := by
  unfold idxI at h
  unfold vnum vadd
  cases hf : vs.findIdx? (· == s) with
  | none => simp
  | some k => rw [hf] at h; simp only at h; omega
theorem vnum_yes {vs : List Str} {s : Str} {k : Nat} (h : idxI (· == s) vs = k) : vnum vs s = k ∧ vadd vs s = vs := by
  unfold idxI at h
  unfold vnum vadd
  cases hf : vs.findIdx? (· == s) with
  | none => rw [hf] at h; simp only at h; omega
  | some j => rw [hf] at h; simp only at h; simp; omega
theorem tys_push (σ : H) (b v : Nat) (t : List Tok) (i : Int) (vs : List Str) (s : Str) (e p : Int) : tys σ b v t i (vs ++ [s]) e p = rs σ b v (.cells [.c (toksC t), I i, .osl v (strsR vs ++ [[C.str s]]), I e, I p]) (.spare 9 1 (vs.length + 1)) := by
  show rs σ b v (tyX t i v (vs ++ [s]) e p) (tyY (vs ++ [s])) = _
  simp only [tyX, tyY, strsR, List.map_append, List.map_cons, List.map_nil, List.length_append, List.length_cons, List.length_nil]
theorem ty_variable (w0 : World) (t : List Tok) (i : Int) (vs : List Str) (e p : Int) (s : Str) (σ : H) (b v : Nat) (D : Two σ b v) (hv : vs.length ≤ 1000000) :
    DC Tryz.prog w0 186 [.ptr b 0, S s] (tys σ b v t i vs e p) (Same (Typ.var (vnum vs s)).v (tys σ b v t i (vadd vs s) e p)) := by
  refine go186 rfl (fun hok hsz => ?_)
  rcases idxI_cases (· == s) vs with ⟨h, h'⟩ | ⟨k, hk, h, h'⟩
  · obtain ⟨q1, q2⟩ := vnum_no h
    have hb1 : (vs.length + 1) * 16 ≤ 140737488355328 := by omega
    have hb2 : vs.length + 1 ≤ 140737488355328 := by omega
    ((first | refine W.advO 5000 _ _ ?_ | skip); simp only [go_sem, seval, ↓reduceIte, reduceCtorEq, c186, rs_b D, rs_bL D, rs_v D, rs_vL D, rs_sb D, rs_sbL D, rs_svL D, rs_app D])
    (refine W.call1w (slices_Index w0 vs s _) rfl rfl rfl (by (repeat' (first | exact V.wk.rfl _ | exact V.wk.csl _ | exact V.wk.osl _ _ | exact wk_agg_nil | exact wk_tup_nil | refine wk_agg_cons ?_ ?_ | refine wk_tup_cons ?_ ?_))) ?_; refine W.advO 5000 _ _ ?_; simp only [go_sem, seval, ↓reduceIte, reduceCtorEq, h, show ((-1 : Int) < 0) = True from by decide])
    refine W.yes rfl ?_
    ((first | refine W.advO 5000 _ _ ?_ | skip); simp only [go_sem, seval, ↓reduceIte, reduceCtorEq, rs_b D, rs_bL D, rs_v D, rs_vL D, rs_sb D, rs_sbL D, rs_svL D, rs_app D, strsR, hb1, hb2])
    rw [q1, q2, tys_push]
    have hok2 := tys_ok D hok t i (vs ++ [s]) e p
    rw [tys_push] at hok2
    (refine W.call1 (ty_variable1 w0 (vs.length : Int) _) rfl rfl (by first | rfl | simp) ?_; refine W.advO 5000 _ _ ?_; simp only [go_sem, seval, ↓reduceIte, reduceCtorEq, Typ.var])
    (refine W.ret (Fin.gen (d := (Typ.var (vs.length : Int)).v) (hok2) (by (first | rfl | exact List.length_set .. | simp)) (by simp only [resEval, r186, go_sem, seval, ↓reduceIte, reduceCtorEq, Typ.v, Typ.var, tk_mk, tname_mk, tn_mk, tl_mk]; rfl) (by simp only [resV, I, S, B, Pre.v, OpT.v, Tok.v, k_mk, name_mk, n_mk, l_mk, pos_mk, Pre.app, List.map_cons, List.map_nil, Pre.cs_eq, Typ.v, Typ.var, tk_mk, tname_mk, tn_mk, tl_mk]; (repeat' (first | exact V.wk.rfl _ | exact V.wk.csl _ | exact V.wk.osl _ _ | exact wk_agg_nil | exact wk_tup_nil | refine wk_agg_cons ?_ ?_ | refine wk_tup_cons ?_ ?_))) (by (first | exact .c _ | (simp only [I, S, B, opsC, toksC, Pre.v, Tok.v, OpT.v, low_c, low_void, low_any, low_csl, low_nilf, low_ptr, low_osl, low_agg, low_tup, low_fn, List.forall_mem_cons, List.not_mem_nil, false_implies, implies_true, and_self, and_true, true_and, Typ.v, Typ.var, tk_mk, tname_mk, tn_mk, tl_mk]; done))) (by (first | rfl | exact (List.append_nil _).symm)) ?_))
    exact ⟨rfl, rfl⟩
  · obtain ⟨q1, q2⟩ := vnum_yes h
    have h1 : ¬ ((k : Int) < 0) := by omega
    ((first | refine W.advO 5000 _ _ ?_ | skip); simp only [go_sem, seval, ↓reduceIte, reduceCtorEq, c186, rs_b D, rs_bL D, rs_v D, rs_vL D, rs_sb D, rs_sbL D, rs_svL D, rs_app D])
    (refine W.call1w (slices_Index w0 vs s _) rfl rfl rfl (by (repeat' (first | exact V.wk.rfl _ | exact V.wk.csl _ | exact V.wk.osl _ _ | exact wk_agg_nil | exact wk_tup_nil | refine wk_agg_cons ?_ ?_ | refine wk_tup_cons ?_ ?_))) ?_; refine W.advO 5000 _ _ ?_; simp only [go_sem, seval, ↓reduceIte, reduceCtorEq, h, h1])
    refine W.no rfl ?_
    ((first | refine W.advO 5000 _ _ ?_ | skip); simp only [go_sem, seval, ↓reduceIte, reduceCtorEq])
    rw [q1, q2]
    (refine W.call1 (ty_variable1 w0 (k : Int) _) rfl rfl (by first | rfl | simp) ?_; refine W.advO 5000 _ _ ?_; simp only [go_sem, seval, ↓reduceIte, reduceCtorEq, Typ.var])
    (refine W.ret (Fin.gen (d := (Typ.var (k : Int)).v) (hok) (by (first | rfl | exact List.length_set .. | simp)) (by simp only [resEval, r186, go_sem, seval, ↓reduceIte, reduceCtorEq, Typ.v, Typ.var, tk_mk, tname_mk, tn_mk, tl_mk]; rfl) (by simp only [resV, I, S, B, Pre.v, OpT.v, Tok.v, k_mk, name_mk, n_mk, l_mk, pos_mk, Pre.app, List.map_cons, List.map_nil, Pre.cs_eq, Typ.v, Typ.var, tk_mk, tname_mk, tn_mk, tl_mk]; (repeat' (first | exact V.wk.rfl _ | exact V.wk.csl _ | exact V.wk.osl _ _ | exact wk_agg_nil | exact wk_tup_nil | refine wk_agg_cons ?_ ?_ | refine wk_tup_cons ?_ ?_))) (by (first | exact .c _ | (simp only [I, S, B, opsC, toksC, Pre.v, Tok.v, OpT.v, low_c, low_void, low_any, low_csl, low_nilf, low_ptr, low_osl, low_agg, low_tup, low_fn, List.forall_mem_cons, List.not_mem_nil, false_implies, implies_true, and_self, and_true, true_and, Typ.v, Typ.var, tk_mk, tname_mk, tn_mk, tl_mk]; done))) (by (first | rfl | exact (List.append_nil _).symm)) ?_))
    exact ⟨rfl, rfl⟩
end
section

/-- A contract over worlds of what looks at a text and tells a bool. -/
theorem DC.of_text {w0 : World} {f : FuncId} {s : List UInt8} {b : Bool} {σ : H} (hen : Enters Tryz.prog f) (h : ∀ w, s.length ≤ maxLen → Calls Tryz.prog f #[.string (bs s)] w (Ret (.bool b) w)) : DC Tryz.prog w0 f [S s] σ (Same (B b) σ) := by
  refine DC.of_calls hen fun κ w vs hrep hfit => ?_
  obtain ⟨v, ys, rfl, hv, hfit⟩ := hfit.cons_inv
  have := hfit.nil_inv
  subst this
  cases hv with
  | c hv =>
    cases hv with
    | str _ hl =>
      refine ⟨.bool b, .c (.bool b), (h w hl).mono ?_⟩
      rintro e w' ⟨rfl, rfl⟩
      exact ⟨rfl, Below.refl _ _⟩
theorem lex_IsNameD (w0 : World) (s : List UInt8) (σ : H) : DC Tryz.prog w0 79 [S s] σ (Same (B (isNameB s)) σ) :=
  DC.of_text (enters_fn Tryz.func79 (by kernel_rfl) rfl) fun w hs => lex_IsName (bs s) w hs
theorem lex_IsSymD (w0 : World) (s : List UInt8) (σ : H) : DC Tryz.prog w0 124 [S s] σ (Same (B (isSymB s)) σ) :=
  DC.of_text (enters_fn Tryz.func124 (by kernel_rfl) rfl) fun w hs => lex_IsSym (bs s) w hs
theorem ops_reserved (w0 : World) (s : Str) (σ : H) : DC Tryz.prog w0 178 [S s] σ (Same (B (reservedL s)) σ) := by
  refine go178 rfl (fun hok hsz => ?_)
  (((first | refine W.advO 5000 _ _ ?_ | skip); (try simp only [bne, go_sem, seval, ↓reduceIte, reduceCtorEq, c178, *])); (repeat' (first | (refine W.yes rfl ?_; (refine W.advO 5000 _ _ ?_; simp only [bne, go_sem, seval, ↓reduceIte, reduceCtorEq, c178, *])) | (refine W.no rfl ?_; (refine W.advO 5000 _ _ ?_; simp only [bne, go_sem, seval, ↓reduceIte, reduceCtorEq, c178, *])) | (refine W.testn rfl (fun hT => ?_) (fun hT => ?_) <;> (refine W.advO 5000 _ _ ?_; simp only [bne, go_sem, seval, ↓reduceIte, reduceCtorEq, c178, *])) | (refine W.test rfl (fun hT => ?_) (fun hT => ?_) <;> (refine W.advO 5000 _ _ ?_; simp only [bne, go_sem, seval, ↓reduceIte, reduceCtorEq, c178, *])) | (refine advG_ifn _ _ _ _ (fun hT => ?_) (fun hT => ?_) <;> simp only [bne, go_sem, seval, ↓reduceIte, reduceCtorEq, c178, *]) | (refine advG_if _ _ _ _ (fun hT => ?_) (fun hT => ?_) <;> simp only [bne, go_sem, seval, ↓reduceIte, reduceCtorEq, c178, *]))))
  all_goals (refine W.ret (Fin.sameW (hok) (by (first | rfl | exact List.length_set .. | simp)) (by simp only [resEval, r178, go_sem, seval, ↓reduceIte, reduceCtorEq]; rfl) ?_ (by (first | exact .c _ | (simp only [I, S, B, opsC, toksC, Pre.v, Tok.v, OpT.v, low_c, low_void, low_any, low_csl, low_nilf, low_ptr, low_osl, low_agg, low_tup, low_fn, List.forall_mem_cons, List.not_mem_nil, false_implies, implies_true, and_self, and_true, true_and]; done))) (by (first | rfl | exact (List.append_nil _).symm))); simp only [resV]; (first | exact V.wk.rfl _ | (refine wk_bool ?_; clear hsz hok; rw [reservedL] <;> ((try simp only [beq_iff_eq, beq_eq_false_iff_ne, ne_eq, decide_eq_true_eq, decide_eq_false_iff_not] at *); first | (exfalso; omega) | (simp [*]; done) | (simp [*]; omega) | (simp [*])))))
theorem clone_op (w0 : World) (l : List OpT) (hl : l ≠ []) (hn : l.length ≤ 100000) (σ : H) : DC Tryz.prog w0 112 [.c (opsC l)] σ (Same (.osl σ.length (l.map OpT.cs)) (σ ++ [.spare 35 3 l.length])) := by
  refine DC.of_codeN (by kernel_rfl) Tryz.func112 rfl tr112 tre112 (by show 1 ≤ _; decide) en112 (fun hok hsz => ?_)
  ((first | refine W.advO 5000 _ _ ?_ | skip); simp only [go_sem, seval, ↓reduceIte, reduceCtorEq, c112])
  refine W.opsFork rfl rfl rfl (fun b hb => ?_)
  have hbf : b = false := by
    cases b
    · rfl
    · exact absurd (by simpa using hb rfl) hl
  subst hbf
  have hne : l.map OpT.cs ≠ [] := by simpa using hl
  have hb1 : l.length * 32 ≤ 140737488355328 := by omega
  have hb2 : l.length ≤ 140737488355328 := by omega
  have hb3 : ∀ r ∈ l.map OpT.cs, r.length = 3 := fun r hr => by obtain ⟨o, _, rfl⟩ := List.mem_map.1 hr; rfl
  ((first | refine W.advO 5000 _ _ ?_ | skip); simp only [go_sem, seval, ↓reduceIte, reduceCtorEq])
  refine W.no rfl ?_
  ((first | refine W.advO 5000 _ _ ?_ | skip); simp only [go_sem, seval, ↓reduceIte, reduceCtorEq, hb1, hb2, eq_true hb3, hne, true_or])
  refine W.ret ⟨_, _, rfl, .rfl _, ?_⟩
  refine ⟨rfl, ?_⟩
  simp only [List.length_map]
theorem bool_idx {α : Type} [BEq α] [LawfulBEq α] (l : List α) (x : α) : decide ((0 : Int) ≤ idxI (· == x) l) = l.contains x := by
  rcases idxI_cases (· == x) l with ⟨h, h'⟩ | ⟨i, hi, h, h'⟩
  · rw [h]
    have : l.contains x = false := by
      rw [List.find?_eq_none] at h'
      cases hc : l.contains x
      · rfl
      · rw [List.contains_iff_mem] at hc
        exact absurd (h' x hc) (by simp)
    rw [this]; rfl
  · rw [h]
    have hm : (l[i] == x) = true := by
      have := List.find?_some h'
      exact this
    have : l.contains x = true := by
      rw [List.contains_iff_mem]
      have e : l[i] = x := by simpa using hm
      rw [← e]; exact List.getElem_mem hi
    rw [this]
    simp
theorem str_contains (w0 : World) (l : List Str) (s : Str) (σ : H) : DC Tryz.prog w0 160 [.c (.sl (strsR l)), S s] σ (Same (B (l.contains s)) σ) := by
  refine go160 rfl (fun hok hsz => ?_)
  ((first | refine W.advO 5000 _ _ ?_ | skip); simp only [go_sem, seval, ↓reduceIte, reduceCtorEq, c160])
  (refine W.call1 (slices_Index w0 l s _) rfl rfl (by first | rfl | simp) ?_; refine W.advO 5000 _ _ ?_; simp only [go_sem, seval, ↓reduceIte, reduceCtorEq])
  (refine W.ret (Fin.sameW (hok) (by (first | rfl | exact List.length_set .. | simp)) (by simp only [resEval, r160, go_sem, seval, ↓reduceIte, reduceCtorEq]; rfl) ?_ (by (first | exact .c _ | (simp only [I, S, B, opsC, toksC, Pre.v, Tok.v, OpT.v, low_c, low_void, low_any, low_csl, low_nilf, low_ptr, low_osl, low_agg, low_tup, low_fn, List.forall_mem_cons, List.not_mem_nil, false_implies, implies_true, and_self, and_true, true_and]; done))) (by (first | rfl | exact (List.append_nil _).symm))); simp only [resV]; try exact V.wk.rfl _)
  rw [← bool_idx]
  exact .rfl _
theorem kind_index (w0 : World) (l : List Int) (k : Int) (σ : H) : DC Tryz.prog w0 269 [.c (.sl (l.map fun k => [C.int .i64 k])), I k] σ (Same (I (idxI (· == k) l)) σ) := by
  refine go269 rfl (fun hok hsz => ?_)
  have hlen : l.length ≤ 9223372036854775807 := sz_rows (hsz _ (List.mem_cons_self ..))
  ((first | refine W.advO 5000 _ _ ?_ | skip); simp only [go_sem, seval, ↓reduceIte, reduceCtorEq, c269])
  refine W.loopP (fun i => i ≤ l.length ∧ UpTo (· == k) l i) (fun i => ⟨((((base.put (some 0) (.c (.sl (l.map fun k => [C.int .i64 k])))).put (some 1) (I k)).put (some 7) (I l.length)).put (some 8) (I (i : Nat))), σ⟩) (fun i => l.length - i) 0 ⟨Nat.zero_le _, upTo_zero⟩ ?_ (fun i hi => ?_)
  · (refine Lew.env ?_; (repeat' (first | exact LeE.base _ | (refine LeE.put ?_ (by first | exact V.wk.rfl _ | exact V.wk.osl _ _ | exact V.wk.csl _)))))
  · obtain ⟨hi, hinv⟩ := hi
    by_cases hlt : i < l.length
    · have h1 : ((i : Int) < (l.length : Int)) := by omega
      have hx : l[i]? = some l[i] := List.getElem?_eq_getElem hlt
      have hw : IntKind.i64.wrap ((i : Int) + 1) = ((i + 1 : Nat) : Int) := wrap_next hlt hlen
      ((first | refine W.advO 5000 _ _ ?_ | skip); simp only [go_sem, seval, ↓reduceIte, reduceCtorEq, h1])
      refine W.yes rfl ?_
      ((first | refine W.advO 5000 _ _ ?_ | skip); simp only [go_sem, seval, ↓reduceIte, reduceCtorEq, h1, nat0, hx])
      refine W.test rfl (fun h => ?_) (fun h => ?_)
      · ((first | refine W.advO 5000 _ _ ?_ | skip); simp only [go_sem, seval, ↓reduceIte, reduceCtorEq])
        (refine W.ret (Fin.same hok (by simp only [resEval, r269, go_sem, seval, ↓reduceIte, reduceCtorEq]; rfl) ?_ (by first | exact .c _ | (simp only [I, S, B, opsC, toksC, Pre.v, Tok.v, OpT.v, low_c, low_void, low_any, low_csl, low_nilf, low_ptr, low_osl, low_agg, low_tup, low_fn, List.forall_mem_cons, List.not_mem_nil, false_implies, implies_true, and_self, and_true, true_and]; done)) (by first | exact ⟨[], (List.append_nil _).symm⟩ | exact ⟨_, rfl⟩)); simp only [resV])
        rw [idxI_at hinv hlt (by simp only [beq_iff_eq] at h ⊢; exact h.symm)]
      · ((first | refine W.advO 5000 _ _ ?_ | skip); simp only [go_sem, seval, ↓reduceIte, reduceCtorEq, hw])
        refine .inv ⟨i + 1, ⟨hlt, upTo_next hinv hlt (by simp only [beq_eq_false_iff_ne] at h ⊢; exact fun e => h e.symm)⟩, by omega, ?_⟩
        (refine Lew.env ?_; (repeat' (first | exact LeE.base _ | (refine LeE.put ?_ (by first | exact V.wk.rfl _ | exact V.wk.osl _ _ | exact V.wk.csl _)))))
    · have h1 : ¬ ((i : Int) < (l.length : Int)) := by omega
      ((first | refine W.advO 5000 _ _ ?_ | skip); simp only [go_sem, seval, ↓reduceIte, reduceCtorEq, h1])
      refine W.no rfl ?_
      ((first | refine W.advO 5000 _ _ ?_ | skip); simp only [go_sem, seval, ↓reduceIte, reduceCtorEq])
      (refine W.ret (Fin.same hok (by simp only [resEval, r269, go_sem, seval, ↓reduceIte, reduceCtorEq]; rfl) ?_ (by first | exact .c _ | (simp only [I, S, B, opsC, toksC, Pre.v, Tok.v, OpT.v, low_c, low_void, low_any, low_csl, low_nilf, low_ptr, low_osl, low_agg, low_tup, low_fn, List.forall_mem_cons, List.not_mem_nil, false_implies, implies_true, and_self, and_true, true_and]; done)) (by first | exact ⟨[], (List.append_nil _).symm⟩ | exact ⟨_, rfl⟩)); simp only [resV])
      rw [idxI_none (fun j hj => hinv j hj (by omega))]
theorem kind_contains (w0 : World) (l : List Int) (k : Int) (σ : H) : DC Tryz.prog w0 249 [.c (.sl (l.map fun k => [C.int .i64 k])), I k] σ (Same (B (l.contains k)) σ) := by
  refine go249 rfl (fun hok hsz => ?_)
  ((first | refine W.advO 5000 _ _ ?_ | skip); simp only [go_sem, seval, ↓reduceIte, reduceCtorEq, c249])
  (refine W.call1 (kind_index w0 l k _) rfl rfl (by first | rfl | simp) ?_; refine W.advO 5000 _ _ ?_; simp only [go_sem, seval, ↓reduceIte, reduceCtorEq])
  (refine W.ret (Fin.sameW (hok) (by (first | rfl | exact List.length_set .. | simp)) (by simp only [resEval, r249, go_sem, seval, ↓reduceIte, reduceCtorEq]; rfl) ?_ (by (first | exact .c _ | (simp only [I, S, B, opsC, toksC, Pre.v, Tok.v, OpT.v, low_c, low_void, low_any, low_csl, low_nilf, low_ptr, low_osl, low_agg, low_tup, low_fn, List.forall_mem_cons, List.not_mem_nil, false_implies, implies_true, and_self, and_true, true_and]; done))) (by (first | rfl | exact (List.append_nil _).symm))); simp only [resV]; try exact V.wk.rfl _)
  rw [← bool_idx]
  exact .rfl _
theorem ops_wrong (w0 : World) (l : List OpT) (o : OpT) (σ : H) : DC Tryz.prog w0 111 [.c (opsC l), o.v] σ (Same (I (wrongL l o)) σ) := by
  refine go111 rfl (fun hok hsz => ?_)
  ((first | refine W.advO 5000 _ _ ?_ | skip); simp only [go_sem, seval, ↓reduceIte, reduceCtorEq, c111])
  (refine W.call1 (ops_Find w0 l o.name _) rfl rfl (by first | rfl | simp) ?_; refine W.advO 5000 _ _ ?_; simp only [go_sem, seval, ↓reduceIte, reduceCtorEq, foundV])
  generalize (findL l o.name).getD OpT.zero = z
  by_cases c1 : o.fix < 0 ∨ 2 < o.fix
  · have hr : wrongL l o = 1 := by unfold wrongL; rw [if_pos c1]
    rw [hr]
    rcases c1 with c1 | c1
    · ((first | refine W.advO 5000 _ _ ?_ | skip); simp only [go_sem, seval, ↓reduceIte, reduceCtorEq, c1])
      refine W.yes rfl ?_
      ((first | refine W.advO 5000 _ _ ?_ | skip); simp only [go_sem, seval, ↓reduceIte, reduceCtorEq])
      (refine W.ret (Fin.sameW (hok) (by (first | rfl | exact List.length_set .. | simp)) (by simp only [resEval, r111, go_sem, seval, ↓reduceIte, reduceCtorEq]; rfl) ?_ (by (first | exact .c _ | (simp only [I, S, B, opsC, toksC, Pre.v, Tok.v, OpT.v, low_c, low_void, low_any, low_csl, low_nilf, low_ptr, low_osl, low_agg, low_tup, low_fn, List.forall_mem_cons, List.not_mem_nil, false_implies, implies_true, and_self, and_true, true_and]; done))) (by (first | rfl | exact (List.append_nil _).symm))); simp only [resV]; try exact V.wk.rfl _)
    · have c0 : ¬ o.fix < 0 := by omega
      have c1' : o.fix > 2 := c1
      ((first | refine W.advO 5000 _ _ ?_ | skip); simp only [go_sem, seval, ↓reduceIte, reduceCtorEq, c0, c1'])
      refine W.yes rfl ?_
      ((first | refine W.advO 5000 _ _ ?_ | skip); simp only [go_sem, seval, ↓reduceIte, reduceCtorEq])
      (refine W.ret (Fin.sameW (hok) (by (first | rfl | exact List.length_set .. | simp)) (by simp only [resEval, r111, go_sem, seval, ↓reduceIte, reduceCtorEq]; rfl) ?_ (by (first | exact .c _ | (simp only [I, S, B, opsC, toksC, Pre.v, Tok.v, OpT.v, low_c, low_void, low_any, low_csl, low_nilf, low_ptr, low_osl, low_agg, low_tup, low_fn, List.forall_mem_cons, List.not_mem_nil, false_implies, implies_true, and_self, and_true, true_and]; done))) (by (first | rfl | exact (List.append_nil _).symm))); simp only [resV]; try exact V.wk.rfl _)
  · have n1 : ¬ o.fix < 0 := by omega
    have n2 : ¬ o.fix > 2 := by omega
    ((first | refine W.advO 5000 _ _ ?_ | skip); simp only [go_sem, seval, ↓reduceIte, reduceCtorEq, n1, n2])
    refine W.no rfl ?_
    ((first | refine W.advO 5000 _ _ ?_ | skip); simp only [go_sem, seval, ↓reduceIte, reduceCtorEq])
    have hw : wrongL l o = if (isNameB o.name = false ∧ isSymB o.name = false) ∨ reservedL o.name = true then 20 else if o.prec < 1 ∨ 200 < o.prec then 21 else if (findL l o.name).isSome = true then 22 else if 64 ≤ l.length then 23 else 0 := by unfold wrongL; rw [if_neg c1]
    have tail : ∀ (ρ : Env) (hρ : ρ 3 = .ptr σ.length 0) (h6 : ρ 6 = B (findL l o.name).isSome) (h0 : ρ 0 = .c (opsC l)), ¬ ((isNameB o.name = false ∧ isSymB o.name = false) ∨ reservedL o.name = true) → True := fun _ _ _ _ _ => trivial
    clear tail
    cases hN : isNameB o.name <;> cases hS : isSymB o.name <;> cases hR : reservedL o.name
    all_goals
      (refine W.call1 (lex_IsNameD w0 o.name _) rfl rfl (by first | rfl | simp) ?_; refine W.advO 5000 _ _ ?_; simp only [go_sem, seval, ↓reduceIte, reduceCtorEq, hN])
      try ((refine W.call1 (lex_IsSymD w0 o.name _) rfl rfl (by first | rfl | simp) ?_; refine W.advO 5000 _ _ ?_; simp only [go_sem, seval, ↓reduceIte, reduceCtorEq, hS]))
      try ((refine W.call1 (ops_reserved w0 o.name _) rfl rfl (by first | rfl | simp) ?_; refine W.advO 5000 _ _ ?_; simp only [go_sem, seval, ↓reduceIte, reduceCtorEq, hR]))
      first
        | (refine W.yes rfl ?_
           ((first | refine W.advO 5000 _ _ ?_ | skip); simp only [go_sem, seval, ↓reduceIte, reduceCtorEq])
           (refine W.ret (Fin.sameW (hok) (by (first | rfl | exact List.length_set .. | simp)) (by simp only [resEval, r111, go_sem, seval, ↓reduceIte, reduceCtorEq]; rfl) ?_ (by (first | exact .c _ | (simp only [I, S, B, opsC, toksC, Pre.v, Tok.v, OpT.v, low_c, low_void, low_any, low_csl, low_nilf, low_ptr, low_osl, low_agg, low_tup, low_fn, List.forall_mem_cons, List.not_mem_nil, false_implies, implies_true, and_self, and_true, true_and]; done))) (by (first | rfl | exact (List.append_nil _).symm))); simp only [resV]; try exact V.wk.rfl _)
           rw [hw, if_pos (by simp [hN, hS, hR])]
           exact .rfl _)
        | skip
    all_goals
      rw [hN, hS, hR] at hw
      simp only [Bool.true_eq_false, Bool.false_eq_true, and_false, false_and, and_self, or_self, or_false, false_or, if_false] at hw
      refine W.no rfl ?_
      ((first | refine W.advO 5000 _ _ ?_ | skip); simp only [go_sem, seval, ↓reduceIte, reduceCtorEq])
      by_cases p1 : o.prec < 1
      · rw [if_pos (.inl p1)] at hw
        rw [hw]
        ((first | refine W.advO 5000 _ _ ?_ | skip); simp only [go_sem, seval, ↓reduceIte, reduceCtorEq, p1])
        refine W.yes rfl ?_
        ((first | refine W.advO 5000 _ _ ?_ | skip); simp only [go_sem, seval, ↓reduceIte, reduceCtorEq])
        (refine W.ret (Fin.sameW (hok) (by (first | rfl | exact List.length_set .. | simp)) (by simp only [resEval, r111, go_sem, seval, ↓reduceIte, reduceCtorEq]; rfl) ?_ (by (first | exact .c _ | (simp only [I, S, B, opsC, toksC, Pre.v, Tok.v, OpT.v, low_c, low_void, low_any, low_csl, low_nilf, low_ptr, low_osl, low_agg, low_tup, low_fn, List.forall_mem_cons, List.not_mem_nil, false_implies, implies_true, and_self, and_true, true_and]; done))) (by (first | rfl | exact (List.append_nil _).symm))); simp only [resV]; try exact V.wk.rfl _)
      · by_cases p2 : o.prec > 200
        · rw [if_pos (.inr p2)] at hw
          rw [hw]
          ((first | refine W.advO 5000 _ _ ?_ | skip); simp only [go_sem, seval, ↓reduceIte, reduceCtorEq, p1, p2])
          refine W.yes rfl ?_
          ((first | refine W.advO 5000 _ _ ?_ | skip); simp only [go_sem, seval, ↓reduceIte, reduceCtorEq])
          (refine W.ret (Fin.sameW (hok) (by (first | rfl | exact List.length_set .. | simp)) (by simp only [resEval, r111, go_sem, seval, ↓reduceIte, reduceCtorEq]; rfl) ?_ (by (first | exact .c _ | (simp only [I, S, B, opsC, toksC, Pre.v, Tok.v, OpT.v, low_c, low_void, low_any, low_csl, low_nilf, low_ptr, low_osl, low_agg, low_tup, low_fn, List.forall_mem_cons, List.not_mem_nil, false_implies, implies_true, and_self, and_true, true_and]; done))) (by (first | rfl | exact (List.append_nil _).symm))); simp only [resV]; try exact V.wk.rfl _)
        · rw [if_neg (by omega)] at hw
          ((first | refine W.advO 5000 _ _ ?_ | skip); simp only [go_sem, seval, ↓reduceIte, reduceCtorEq, p1, p2])
          refine W.no rfl ?_
          ((first | refine W.advO 5000 _ _ ?_ | skip); simp only [go_sem, seval, ↓reduceIte, reduceCtorEq])
          cases hf : (findL l o.name).isSome
          · rw [hf, if_neg (by decide)] at hw
            refine W.no rfl ?_
            by_cases p3 : 64 ≤ l.length
            · have p3' : (l.length : Int) ≥ 64 := by omega
              rw [if_pos p3] at hw
              rw [hw]
              ((first | refine W.advO 5000 _ _ ?_ | skip); simp only [go_sem, seval, ↓reduceIte, reduceCtorEq, p3'])
              refine W.yes rfl ?_
              ((first | refine W.advO 5000 _ _ ?_ | skip); simp only [go_sem, seval, ↓reduceIte, reduceCtorEq])
              (refine W.ret (Fin.sameW (hok) (by (first | rfl | exact List.length_set .. | simp)) (by simp only [resEval, r111, go_sem, seval, ↓reduceIte, reduceCtorEq]; rfl) ?_ (by (first | exact .c _ | (simp only [I, S, B, opsC, toksC, Pre.v, Tok.v, OpT.v, low_c, low_void, low_any, low_csl, low_nilf, low_ptr, low_osl, low_agg, low_tup, low_fn, List.forall_mem_cons, List.not_mem_nil, false_implies, implies_true, and_self, and_true, true_and]; done))) (by (first | rfl | exact (List.append_nil _).symm))); simp only [resV]; try exact V.wk.rfl _)
            · have p3' : ¬ (l.length : Int) ≥ 64 := by omega
              rw [if_neg p3] at hw
              rw [hw]
              ((first | refine W.advO 5000 _ _ ?_ | skip); simp only [go_sem, seval, ↓reduceIte, reduceCtorEq, p3'])
              refine W.no rfl ?_
              ((first | refine W.advO 5000 _ _ ?_ | skip); simp only [go_sem, seval, ↓reduceIte, reduceCtorEq])
              (refine W.ret (Fin.sameW (hok) (by (first | rfl | exact List.length_set .. | simp)) (by simp only [resEval, r111, go_sem, seval, ↓reduceIte, reduceCtorEq]; rfl) ?_ (by (first | exact .c _ | (simp only [I, S, B, opsC, toksC, Pre.v, Tok.v, OpT.v, low_c, low_void, low_any, low_csl, low_nilf, low_ptr, low_osl, low_agg, low_tup, low_fn, List.forall_mem_cons, List.not_mem_nil, false_implies, implies_true, and_self, and_true, true_and]; done))) (by (first | rfl | exact (List.append_nil _).symm))); simp only [resV]; try exact V.wk.rfl _)
          · rw [hf, if_pos rfl] at hw
            rw [hw]
            refine W.yes rfl ?_
            ((first | refine W.advO 5000 _ _ ?_ | skip); simp only [go_sem, seval, ↓reduceIte, reduceCtorEq])
            (refine W.ret (Fin.sameW (hok) (by (first | rfl | exact List.length_set .. | simp)) (by simp only [resEval, r111, go_sem, seval, ↓reduceIte, reduceCtorEq]; rfl) ?_ (by (first | exact .c _ | (simp only [I, S, B, opsC, toksC, Pre.v, Tok.v, OpT.v, low_c, low_void, low_any, low_csl, low_nilf, low_ptr, low_osl, low_agg, low_tup, low_fn, List.forall_mem_cons, List.not_mem_nil, false_implies, implies_true, and_self, and_true, true_and]; done))) (by (first | rfl | exact (List.append_nil _).symm))); simp only [resV]; try exact V.wk.rfl _)
/-- What comes of one more operator. -/
theorem ops_Declare (w0 : World) (l : List OpT) (o : OpT) (hl : l ≠ []) (hn : l.length ≤ 99999) (σ : H) : DC Tryz.prog w0 60 [.c (opsC l), o.v] σ (Same (.tup [.c (opsC (if wrongL l o = 0 then l ++ [o] else l)), I (wrongL l o)]) σ) := by
  refine go60 rfl (fun hok hsz => ?_)
  ((first | refine W.advO 5000 _ _ ?_ | skip); simp only [go_sem, seval, ↓reduceIte, reduceCtorEq, c60])
  (refine W.call1 (ops_wrong w0 l o _) rfl rfl (by first | rfl | simp) ?_; refine W.advO 5000 _ _ ?_; simp only [go_sem, seval, ↓reduceIte, reduceCtorEq])
  by_cases hw : wrongL l o = 0
  · have hb : (wrongL l o != 0) = false := by simpa using hw
    have hb1 : (l.length + 1) * 32 ≤ 140737488355328 := by omega
    have hb2 : l.length + 1 ≤ 140737488355328 := by omega
    rw [if_pos hw]
    ((first | refine W.advO 5000 _ _ ?_ | skip); simp only [go_sem, seval, ↓reduceIte, reduceCtorEq, hb])
    refine W.no rfl ?_
    ((first | refine W.advO 5000 _ _ ?_ | skip); simp only [go_sem, seval, ↓reduceIte, reduceCtorEq])
    apply W.dregE (List.cons_ne_nil _ _)
    case hc =>
      (apply CanonE.advPO; simp only [advPO_nil, advPO_loud, advPO_quiet, pL_yes, pL_no, pLS_some, pLS_none, pQ_yes, pQ_no, pQS_some, pQS_loud, eq_self, Nat.sub_zero, go_sem, seval, ↓reduceIte, reduceCtorEq])
      (apply CanonE.call (clone_op w0 l hl (by omega) _); (case hg => rfl); (case hf => rfl); (case ha => first | rfl | simp))
      (apply CanonE.advPO; simp only [advPO_nil, advPO_loud, advPO_quiet, pL_yes, pL_no, pLS_some, pLS_none, pQ_yes, pQ_no, pQS_some, pQS_loud, eq_self, Nat.sub_zero, go_sem, seval, ↓reduceIte, reduceCtorEq, hb1, hb2])
      exact CanonE.nil
    ((first | refine W.advO 5000 _ _ ?_ | skip); simp only [go_sem, seval, ↓reduceIte, reduceCtorEq])
    rw [hw]
    (refine W.ret (Fin.sameW (hok) (by (first | rfl | exact List.length_set .. | simp)) (by simp only [resEval, r60, go_sem, seval, ↓reduceIte, reduceCtorEq]; rfl) ?_ (by (first | exact .c _ | (simp only [I, S, B, opsC, toksC, Pre.v, Tok.v, OpT.v, low_c, low_void, low_any, low_csl, low_nilf, low_ptr, low_osl, low_agg, low_tup, low_fn, List.forall_mem_cons, List.not_mem_nil, false_implies, implies_true, and_self, and_true, true_and]; done))) (by (first | rfl | exact (List.append_nil _).symm))); simp only [resV]; try exact V.wk.rfl _)
    simp only [List.map_append, List.map_cons, List.map_nil, OpT.cs]
    (repeat' (first | exact V.wk.rfl _ | exact V.wk.csl _ | exact V.wk.osl _ _ | exact wk_agg_nil | exact wk_tup_nil | refine wk_agg_cons ?_ ?_ | refine wk_tup_cons ?_ ?_))
  · have hb : (wrongL l o != 0) = true := by simpa using hw
    rw [if_neg hw]
    ((first | refine W.advO 5000 _ _ ?_ | skip); simp only [go_sem, seval, ↓reduceIte, reduceCtorEq, hb])
    refine W.yes rfl ?_
    ((first | refine W.advO 5000 _ _ ?_ | skip); simp only [go_sem, seval, ↓reduceIte, reduceCtorEq])
    (refine W.call1 (clone_op w0 l hl (by omega) _) rfl rfl (by first | rfl | simp) ?_; refine W.advO 5000 _ _ ?_; simp only [go_sem, seval, ↓reduceIte, reduceCtorEq])
    (refine W.ret (Fin.sameW (hok) (by (first | rfl | exact List.length_set .. | simp)) (by simp only [resEval, r60, go_sem, seval, ↓reduceIte, reduceCtorEq]; rfl) ?_ (by (first | exact .c _ | (simp only [I, S, B, opsC, toksC, Pre.v, Tok.v, OpT.v, low_c, low_void, low_any, low_csl, low_nilf, low_ptr, low_osl, low_agg, low_tup, low_fn, List.forall_mem_cons, List.not_mem_nil, false_implies, implies_true, and_self, and_true, true_and]; done))) (by (first | rfl | exact (List.append_nil _).symm))); simp only [resV]; try exact V.wk.rfl _)
    (repeat' (first | exact V.wk.rfl _ | exact V.wk.csl _ | exact V.wk.osl _ _ | exact wk_agg_nil | exact wk_tup_nil | refine wk_agg_cons ?_ ?_ | refine wk_tup_cons ?_ ?_))
end
section

def atomV (nm : Bool) (u : Typ) : V := if nm then .agg [I u.k, S u.name, I u.n, .csl []] else u.v
abbrev tyo (σ : H) (b v : Nat) (t : List Tok) (o : TyO) : H := tys σ b v t o.j o.ws o.e o.p
def TyTypeOK (w0 : World) (f : Nat) : Prop := ∀ (t : List Tok) (depth i : Nat) (vs : List Str) (r : TyR) (o : TyO) (σ : H) (b v : Nat), tyTypeF f t depth i vs = some r → tyTypeG f t depth i vs = some o → Two σ b v → t.length ≤ 1000000 → vs.length ≤ i → i ≤ t.length → depth ≤ 200 →
  DC Tryz.prog w0 76 [.ptr b 0, I depth] (tys σ b v t i vs 0 0) (Same o.u.v (tyo σ b v t o))
def TyAtomOK (w0 : World) (f : Nat) : Prop := ∀ (t : List Tok) (depth i : Nat) (vs : List Str) (r : TyR) (o : TyO) (σ : H) (b v : Nat), tyAtomF f t depth i vs = some r → tyAtomG f t depth i vs = some o → Two σ b v → t.length ≤ 1000000 → vs.length ≤ i → i ≤ t.length → depth ≤ 200 →
  DC Tryz.prog w0 132 [.ptr b 0, I depth] (tys σ b v t i vs 0 0) (Same (atomV ((tokL t i).kind == 1) o.u) (tyo σ b v t o))
attribute [local go_sem] tyX tyY rs_len rs_g0 rs_g rs_s0 rs_s rs_sv Typ.v Typ.cs_eq tk_mk tname_mk tn_mk tl_mk tysC
def innerT (f : Nat) (t : List Tok) (depth i : Nat) (vs : List Str) (pos : Int) : Option TyR := if 200 ≤ depth then some (.error ⟨31, pos⟩) else tyTypeF f t (depth + 1) i vs
def innerO (f : Nat) (t : List Tok) (depth i : Nat) (vs : List Str) (pos : Int) : Option TyO := if 200 ≤ depth then some ⟨.none, (i : Nat), vs, 31, pos⟩ else tyTypeG f t (depth + 1) i vs
theorem ty_inner {w0 : World} {f : Nat} (hE : TyTypeOK w0 f) (t : List Tok) (depth i : Nat) (vs : List Str) (k : Tok) (r : TyR) (o : TyO) (σ : H) (b v : Nat) (h : innerT f t depth i vs k.pos = some r) (ho : innerO f t depth i vs k.pos = some o) (D : Two σ b v) (ht : t.length ≤ 1000000) (hv : vs.length ≤ i) (hi : i ≤ t.length) (hd : depth ≤ 200) :
    DC Tryz.prog w0 134 [.ptr b 0, I depth, k.v] (tys σ b v t i vs 0 0) (Same o.u.v (tyo σ b v t o)) := by
  refine go134 rfl (fun hok hsz => ?_)
  rw [innerT] at h
  rw [innerO] at ho
  by_cases hc : 200 ≤ depth
  · rw [if_pos hc] at h ho
    injection ho with ho
    subst ho
    have h1 : (depth : Int) ≥ 200 := by omega
    ((first | refine W.advO 5000 _ _ ?_ | skip); simp only [go_sem, seval, ↓reduceIte, reduceCtorEq, c134, rs_b D, rs_bL D, rs_v D, rs_vL D, rs_sb D, rs_sbL D, rs_svL D, rs_app D, h1])
    refine W.yes rfl ?_
    ((first | refine W.advO 5000 _ _ ?_ | skip); simp only [go_sem, seval, ↓reduceIte, reduceCtorEq, rs_b D, rs_bL D, rs_v D, rs_vL D, rs_sb D, rs_sbL D, rs_svL D, rs_app D])
    (refine W.call1 (DC.lift D (fun D' => ty_fail w0 t i vs 0 0 31 k.pos _ b v D')) rfl rfl (by first | rfl | simp) ?_; refine W.advO 5000 _ _ ?_; simp only [go_sem, seval, ↓reduceIte, reduceCtorEq, rs_b D, rs_bL D, rs_v D, rs_vL D, rs_sb D, rs_sbL D, rs_svL D, rs_app D])
    (refine W.ret (Fin.gen (d := Typ.none.v) (tys_ok D hok t i vs 31 k.pos) (by (first | rfl | exact List.length_set .. | simp)) (by simp only [resEval, r134, go_sem, seval, ↓reduceIte, reduceCtorEq, Typ.v, Typ.none, tk_mk, tname_mk, tn_mk, tl_mk]; rfl) (by simp only [resV, I, S, B, Pre.v, OpT.v, Tok.v, k_mk, name_mk, n_mk, l_mk, pos_mk, Pre.app, List.map_cons, List.map_nil, Pre.cs_eq, Typ.v, Typ.none, tk_mk, tname_mk, tn_mk, tl_mk]; (repeat' (first | exact V.wk.rfl _ | exact V.wk.csl _ | exact V.wk.osl _ _ | exact wk_agg_nil | exact wk_tup_nil | refine wk_agg_cons ?_ ?_ | refine wk_tup_cons ?_ ?_))) (by (first | exact .c _ | (simp only [I, S, B, opsC, toksC, Pre.v, Tok.v, OpT.v, low_c, low_void, low_any, low_csl, low_nilf, low_ptr, low_osl, low_agg, low_tup, low_fn, List.forall_mem_cons, List.not_mem_nil, false_implies, implies_true, and_self, and_true, true_and, Typ.v, Typ.none, tk_mk, tname_mk, tn_mk, tl_mk]; done))) (by (first | rfl | exact (List.append_nil _).symm)) ?_))
    exact ⟨rfl, rfl⟩
  · rw [if_neg hc] at h ho
    have h1 : ¬ (depth : Int) ≥ 200 := by omega
    have hw : IntKind.i64.wrap ((depth : Int) + 1) = ((depth + 1 : Nat) : Int) := wrap_next (n := 201) (by omega) (by omega)
    ((first | refine W.advO 5000 _ _ ?_ | skip); simp only [go_sem, seval, ↓reduceIte, reduceCtorEq, c134, rs_b D, rs_bL D, rs_v D, rs_vL D, rs_sb D, rs_sbL D, rs_svL D, rs_app D, h1])
    refine W.no rfl ?_
    ((first | refine W.advO 5000 _ _ ?_ | skip); simp only [go_sem, seval, ↓reduceIte, reduceCtorEq, hw])
    (refine W.call1 (DC.lift D (fun D' => hE t (depth + 1) i vs r o _ b v h ho D' ht hv hi (by omega))) rfl rfl (by first | rfl | simp) ?_; refine W.advO 5000 _ _ ?_; simp only [go_sem, seval, ↓reduceIte, reduceCtorEq, rs_b D, rs_bL D, rs_v D, rs_vL D, rs_sb D, rs_sbL D, rs_svL D, rs_app D])
    (refine W.ret (Fin.gen (d := o.u.v) (tys_ok D hok t o.j o.ws o.e o.p) (by (first | rfl | exact List.length_set .. | simp)) (by simp only [resEval, r134, go_sem, seval, ↓reduceIte, reduceCtorEq, Typ.v]; rfl) (by simp only [resV, I, S, B, Pre.v, OpT.v, Tok.v, k_mk, name_mk, n_mk, l_mk, pos_mk, Pre.app, List.map_cons, List.map_nil, Pre.cs_eq, Typ.v]; (repeat' (first | exact V.wk.rfl _ | exact V.wk.csl _ | exact V.wk.osl _ _ | exact wk_agg_nil | exact wk_tup_nil | refine wk_agg_cons ?_ ?_ | refine wk_tup_cons ?_ ?_))) (by (first | exact .c _ | (simp only [I, S, B, opsC, toksC, Pre.v, Tok.v, OpT.v, low_c, low_void, low_any, low_csl, low_nilf, low_ptr, low_osl, low_agg, low_tup, low_fn, List.forall_mem_cons, List.not_mem_nil, false_implies, implies_true, and_self, and_true, true_and, Typ.v]; done))) (by (first | rfl | exact (List.append_nil _).symm)) ?_))
    exact ⟨rfl, rfl⟩
theorem ty_pos {f : Nat} {t : List Tok} {depth i : Nat} {vs : List Str} {pos : Int} {r : TyR} {o : TyO} (h : innerT f t depth i vs pos = some r) (ho : innerO f t depth i vs pos = some o) (ht : t.length ≤ 1000000) : o.e = 0 → o.p = 0 := fun he => by
  unfold innerT at h
  unfold innerO at ho
  by_cases hc : 200 ≤ depth
  · rw [if_pos hc] at ho
    injection ho with ho
    subst ho
    exact absurd he (by show ¬ (31 : Int) = 0; decide)
  · rw [if_neg hc] at h ho
    obtain ⟨o', h1, h2⟩ := (ty_out f).2.2.2 _ _ _ _ _ ht h
    rw [ho] at h1
    injection h1 with h1
    subst h1
    cases r with
    | ok x =>
      obtain ⟨u, j, ws⟩ := x
      have : o = ⟨u, (j : Nat), ws, 0, 0⟩ := h2
      rw [this]
    | error x =>
      obtain ⟨q1, _, q3⟩ := h2
      rw [← q1, he] at q3
      cases q3
theorem tyAtomF_eq (f : Nat) (t : List Tok) (depth i : Nat) (vs : List Str) : tyAtomF (f + 1) t depth i vs =
    if (tokL t i).kind = 1 then some (.ok (.con (tokL t i).text, i + 1, vs))
    else if (tokL t i).kind = 2 then some (.ok (.var (vnum vs (tokL t i).text), i + 1, vadd vs (tokL t i).text))
    else if (tokL t i).kind = 5 then
      match innerT f t depth (i + 1) vs (tokL t i).pos with
        | none => none
        | some (.error b) => some (.error b)
        | some (.ok (u, j, ws)) => if (tokL t j).kind = 6 then some (.ok (u, j + 1, ws)) else some (.error ⟨50, (tokL t j).pos⟩)
    else some (.error ⟨50, (tokL t i).pos⟩) := by
  rw [tyAtomF]
  unfold innerT
  by_cases hd : 200 ≤ depth
  · simp only [if_pos hd]
  · simp only [if_neg hd]
    rfl
theorem ty_atom {w0 : World} {f : Nat} (hE : TyTypeOK w0 f) : TyAtomOK w0 (f + 1) := by
  intro t depth i vs r o σ b v h ho D ht hv hi hd
  rw [tyAtomF_eq] at h
  rw [tyAtomG] at ho
  refine go132 rfl (fun hok hsz => ?_)
  have hw : IntKind.i64.wrap ((i : Int) + 1) = ((i + 1 : Nat) : Int) := by rw [wrap_in] <;> omega
  ((first | refine W.advO 5000 _ _ ?_ | skip); simp only [go_sem, seval, ↓reduceIte, reduceCtorEq, c132, rs_b D, rs_bL D, rs_v D, rs_vL D, rs_sb D, rs_sbL D, rs_svL D, rs_app D])
  (refine W.call1 (DC.lift D (fun D' => ty_tok w0 t i vs 0 0 _ b v D' ht)) rfl rfl (by first | rfl | simp) ?_; refine W.advO 5000 _ _ ?_; simp only [go_sem, seval, ↓reduceIte, reduceCtorEq, rs_b D, rs_bL D, rs_v D, rs_vL D, rs_sb D, rs_sbL D, rs_svL D, rs_app D, tokI_nat])
  (refine W.call1 (DC.lift D (fun D' => ty_begins w0 t i vs 0 0 _ b v D' ht)) rfl rfl (by first | rfl | simp) ?_; refine W.advO 5000 _ _ ?_; simp only [go_sem, seval, ↓reduceIte, reduceCtorEq, rs_b D, rs_bL D, rs_v D, rs_vL D, rs_sb D, rs_sbL D, rs_svL D, rs_app D, tokI_nat])
  cases hB : tyBegins (tokL t i)
  · refine W.yes rfl ?_
    simp only [tyBegins, Bool.or_eq_false_iff, decide_eq_false_iff_not] at hB
    rw [if_neg hB.1.1, if_neg hB.1.2, if_neg hB.2] at ho
    have n1 : ((tokL t i).kind == 1) = false := by simpa using hB.1.1
    injection ho with ho
    subst ho
    ((first | refine W.advO 5000 _ _ ?_ | skip); simp only [go_sem, seval, ↓reduceIte, reduceCtorEq, rs_b D, rs_bL D, rs_v D, rs_vL D, rs_sb D, rs_sbL D, rs_svL D, rs_app D, n1])
    (refine W.call1 (DC.lift D (fun D' => ty_fail w0 t i vs 0 0 50 (tokL t i).pos _ b v D')) rfl rfl (by first | rfl | simp) ?_; refine W.advO 5000 _ _ ?_; simp only [go_sem, seval, ↓reduceIte, reduceCtorEq, rs_b D, rs_bL D, rs_v D, rs_vL D, rs_sb D, rs_sbL D, rs_svL D, rs_app D])
    (refine W.ret (Fin.gen (d := Typ.none.v) (tys_ok D hok t i vs 50 (tokL t i).pos) (by (first | rfl | exact List.length_set .. | simp)) (by simp only [resEval, r132, go_sem, seval, ↓reduceIte, reduceCtorEq, Typ.v, Typ.none, tk_mk, tname_mk, tn_mk, tl_mk]; rfl) (by simp only [resV, I, S, B, Pre.v, OpT.v, Tok.v, k_mk, name_mk, n_mk, l_mk, pos_mk, Pre.app, List.map_cons, List.map_nil, Pre.cs_eq, Typ.v, Typ.none, tk_mk, tname_mk, tn_mk, tl_mk]; (repeat' (first | exact V.wk.rfl _ | exact V.wk.csl _ | exact V.wk.osl _ _ | exact wk_agg_nil | exact wk_tup_nil | refine wk_agg_cons ?_ ?_ | refine wk_tup_cons ?_ ?_))) (by (first | exact .c _ | (simp only [I, S, B, opsC, toksC, Pre.v, Tok.v, OpT.v, low_c, low_void, low_any, low_csl, low_nilf, low_ptr, low_osl, low_agg, low_tup, low_fn, List.forall_mem_cons, List.not_mem_nil, false_implies, implies_true, and_self, and_true, true_and, Typ.v, Typ.none, tk_mk, tname_mk, tn_mk, tl_mk]; done))) (by (first | rfl | exact (List.append_nil _).symm)) ?_))
    exact ⟨rfl, rfl⟩
  · refine W.no rfl ?_
    have hil : i < t.length := tyBegins_lt (by rw [hB]; decide)
    by_cases h1 : (tokL t i).kind = 1
    · rw [if_pos h1] at ho
      injection ho with ho
      subst ho
      ((first | refine W.advO 5000 _ _ ?_ | skip); simp only [go_sem, seval, ↓reduceIte, reduceCtorEq, rs_b D, rs_bL D, rs_v D, rs_vL D, rs_sb D, rs_sbL D, rs_svL D, rs_app D, hw, h1])
      refine W.yes rfl ?_
      ((first | refine W.advO 5000 _ _ ?_ | skip); simp only [go_sem, seval, ↓reduceIte, reduceCtorEq, rs_b D, rs_bL D, rs_v D, rs_vL D, rs_sb D, rs_sbL D, rs_svL D, rs_app D])
      (refine W.ret (Fin.gen (d := atomV true (.con (tokL t i).text)) (tys_ok D hok t ((i + 1 : Nat) : Int) vs 0 0) (by (first | rfl | exact List.length_set .. | simp)) (by simp only [resEval, r132, go_sem, seval, ↓reduceIte, reduceCtorEq, atomV, if_true, Typ.con, tk_mk, tname_mk, tn_mk, tl_mk]; rfl) (by simp only [resV, I, S, B, Pre.v, OpT.v, Tok.v, k_mk, name_mk, n_mk, l_mk, pos_mk, Pre.app, List.map_cons, List.map_nil, Pre.cs_eq, atomV, if_true, Typ.con, tk_mk, tname_mk, tn_mk, tl_mk]; (repeat' (first | exact V.wk.rfl _ | exact V.wk.csl _ | exact V.wk.osl _ _ | exact wk_agg_nil | exact wk_tup_nil | refine wk_agg_cons ?_ ?_ | refine wk_tup_cons ?_ ?_))) (by (first | exact .c _ | (simp only [I, S, B, opsC, toksC, Pre.v, Tok.v, OpT.v, low_c, low_void, low_any, low_csl, low_nilf, low_ptr, low_osl, low_agg, low_tup, low_fn, List.forall_mem_cons, List.not_mem_nil, false_implies, implies_true, and_self, and_true, true_and, atomV, if_true, Typ.con, tk_mk, tname_mk, tn_mk, tl_mk]; done))) (by (first | rfl | exact (List.append_nil _).symm)) ?_))
      exact ⟨rfl, rfl⟩
    · rw [if_neg h1] at h ho
      have n1 : ((tokL t i).kind == 1) = false := by simpa using h1
      by_cases h2 : (tokL t i).kind = 2
      · rw [if_pos h2] at ho
        injection ho with ho
        subst ho
        ((first | refine W.advO 5000 _ _ ?_ | skip); simp only [go_sem, seval, ↓reduceIte, reduceCtorEq, rs_b D, rs_bL D, rs_v D, rs_vL D, rs_sb D, rs_sbL D, rs_svL D, rs_app D, hw, h2])
        refine W.no rfl ?_
        ((first | refine W.advO 5000 _ _ ?_ | skip); simp only [go_sem, seval, ↓reduceIte, reduceCtorEq, rs_b D, rs_bL D, rs_v D, rs_vL D, rs_sb D, rs_sbL D, rs_svL D, rs_app D])
        refine W.yes rfl ?_
        ((first | refine W.advO 5000 _ _ ?_ | skip); simp only [go_sem, seval, ↓reduceIte, reduceCtorEq, rs_b D, rs_bL D, rs_v D, rs_vL D, rs_sb D, rs_sbL D, rs_svL D, rs_app D])
        (refine W.call1 (DC.lift D (fun D' => ty_variable w0 t ((i + 1 : Nat) : Int) vs 0 0 (tokL t i).text _ b v D' (by omega))) rfl rfl (by first | rfl | simp) ?_; refine W.advO 5000 _ _ ?_; simp only [go_sem, seval, ↓reduceIte, reduceCtorEq, rs_b D, rs_bL D, rs_v D, rs_vL D, rs_sb D, rs_sbL D, rs_svL D, rs_app D])
        (refine W.ret (Fin.gen (d := (Typ.var (vnum vs (tokL t i).text)).v) (tys_ok D hok t ((i + 1 : Nat) : Int) (vadd vs (tokL t i).text) 0 0) (by (first | rfl | exact List.length_set .. | simp)) (by simp only [resEval, r132, go_sem, seval, ↓reduceIte, reduceCtorEq, Typ.v, Typ.var, tk_mk, tname_mk, tn_mk, tl_mk]; rfl) (by simp only [resV, I, S, B, Pre.v, OpT.v, Tok.v, k_mk, name_mk, n_mk, l_mk, pos_mk, Pre.app, List.map_cons, List.map_nil, Pre.cs_eq, Typ.v, Typ.var, tk_mk, tname_mk, tn_mk, tl_mk]; (repeat' (first | exact V.wk.rfl _ | exact V.wk.csl _ | exact V.wk.osl _ _ | exact wk_agg_nil | exact wk_tup_nil | refine wk_agg_cons ?_ ?_ | refine wk_tup_cons ?_ ?_))) (by (first | exact .c _ | (simp only [I, S, B, opsC, toksC, Pre.v, Tok.v, OpT.v, low_c, low_void, low_any, low_csl, low_nilf, low_ptr, low_osl, low_agg, low_tup, low_fn, List.forall_mem_cons, List.not_mem_nil, false_implies, implies_true, and_self, and_true, true_and, Typ.v, Typ.var, tk_mk, tname_mk, tn_mk, tl_mk]; done))) (by (first | rfl | exact (List.append_nil _).symm)) ?_))
        exact ⟨rfl, rfl⟩
      · rw [if_neg h2] at h ho
        have n2 : ((tokL t i).kind == 2) = false := by simpa using h2
        have h5 : (tokL t i).kind = 5 := by
          simp only [tyBegins, Bool.or_eq_true, decide_eq_true_eq] at hB
          rcases hB with (hB | hB) | hB
          · exact absurd hB h1
          · exact absurd hB h2
          · exact hB
        rw [if_pos h5] at h ho
        ((first | refine W.advO 5000 _ _ ?_ | skip); simp only [go_sem, seval, ↓reduceIte, reduceCtorEq, rs_b D, rs_bL D, rs_v D, rs_vL D, rs_sb D, rs_sbL D, rs_svL D, rs_app D, hw, n1, n2])
        refine W.no rfl ?_
        ((first | refine W.advO 5000 _ _ ?_ | skip); simp only [go_sem, seval, ↓reduceIte, reduceCtorEq, rs_b D, rs_bL D, rs_v D, rs_vL D, rs_sb D, rs_sbL D, rs_svL D, rs_app D, n2])
        refine W.no rfl ?_
        ((first | refine W.advO 5000 _ _ ?_ | skip); simp only [go_sem, seval, ↓reduceIte, reduceCtorEq, rs_b D, rs_bL D, rs_v D, rs_vL D, rs_sb D, rs_sbL D, rs_svL D, rs_app D])
        cases hr : innerT f t depth (i + 1) vs (tokL t i).pos with
        | none => rw [hr] at h; cases h
        | some y =>
          cases hro : innerO f t depth (i + 1) vs (tokL t i).pos with
          | none =>
            unfold innerO at hro
            rw [hro] at ho; cases ho
          | some x =>
            have hro' := hro
            unfold innerO at hro'
            rw [hro'] at ho
            injection ho with ho
            subst ho
            (refine W.call1 (DC.lift D (fun D' => ty_inner hE t depth (i + 1) vs (tokL t i) y x _ b v hr hro D' ht (by omega) (by omega) hd)) rfl rfl (by first | rfl | simp) ?_; refine W.advO 5000 _ _ ?_; simp only [go_sem, seval, ↓reduceIte, reduceCtorEq, rs_b D, rs_bL D, rs_v D, rs_vL D, rs_sb D, rs_sbL D, rs_svL D, rs_app D])
            (refine W.call1 (DC.lift D (fun D' => ty_tok w0 t x.j x.ws x.e x.p _ b v D' ht)) rfl rfl (by first | rfl | simp) ?_; refine W.advO 5000 _ _ ?_; simp only [go_sem, seval, ↓reduceIte, reduceCtorEq, rs_b D, rs_bL D, rs_v D, rs_vL D, rs_sb D, rs_sbL D, rs_svL D, rs_app D])
            by_cases h6 : (tokI t x.j).kind = 6
            · have hcl : closeO t x = ⟨x.u, IntKind.i64.wrap (x.j + 1), x.ws, x.e, x.p⟩ ∨ (x.e = 0 ∧ closeO t x = ⟨x.u, IntKind.i64.wrap (x.j + 1), x.ws, 0, 0⟩) := by
                unfold closeO
                by_cases he : x.e = 0
                · right; simp only [if_pos he, if_pos h6]; exact ⟨he, trivial⟩
                · left; simp only [if_neg he]
              have hp : x.e = 0 → x.p = 0 := ty_pos hr hro ht
              have hcl' : closeO t x = ⟨x.u, IntKind.i64.wrap (x.j + 1), x.ws, x.e, x.p⟩ := by
                rcases hcl with hcl | ⟨he, hcl⟩
                · exact hcl
                · rw [hcl, he, hp he]
              rw [hcl']
              ((first | refine W.advO 5000 _ _ ?_ | skip); simp only [go_sem, seval, ↓reduceIte, reduceCtorEq, rs_b D, rs_bL D, rs_v D, rs_vL D, rs_sb D, rs_sbL D, rs_svL D, rs_app D, h6, show ((6 : Int) != 6) = false from rfl])
              refine W.no rfl ?_
              ((first | refine W.advO 5000 _ _ ?_ | skip); simp only [go_sem, seval, ↓reduceIte, reduceCtorEq, rs_b D, rs_bL D, rs_v D, rs_vL D, rs_sb D, rs_sbL D, rs_svL D, rs_app D])
              (refine W.ret (Fin.gen (d := x.u.v) (tys_ok D hok t (IntKind.i64.wrap (x.j + 1)) x.ws x.e x.p) (by (first | rfl | exact List.length_set .. | simp)) (by simp only [resEval, r132, go_sem, seval, ↓reduceIte, reduceCtorEq, Typ.v]; rfl) (by simp only [resV, I, S, B, Pre.v, OpT.v, Tok.v, k_mk, name_mk, n_mk, l_mk, pos_mk, Pre.app, List.map_cons, List.map_nil, Pre.cs_eq, Typ.v]; (repeat' (first | exact V.wk.rfl _ | exact V.wk.csl _ | exact V.wk.osl _ _ | exact wk_agg_nil | exact wk_tup_nil | refine wk_agg_cons ?_ ?_ | refine wk_tup_cons ?_ ?_))) (by (first | exact .c _ | (simp only [I, S, B, opsC, toksC, Pre.v, Tok.v, OpT.v, low_c, low_void, low_any, low_csl, low_nilf, low_ptr, low_osl, low_agg, low_tup, low_fn, List.forall_mem_cons, List.not_mem_nil, false_implies, implies_true, and_self, and_true, true_and, Typ.v]; done))) (by (first | rfl | exact (List.append_nil _).symm)) ?_))
              exact ⟨rfl, rfl⟩
            · have n6 : ((tokI t x.j).kind != 6) = true := by simpa using h6
              have hcl : closeO t x = ⟨x.u, IntKind.i64.wrap (x.j + 1), x.ws, if x.e = 0 then 50 else x.e, if x.e = 0 then (tokI t x.j).pos else x.p⟩ := by
                unfold closeO
                simp only [if_neg h6]
              rw [hcl]
              ((first | refine W.advO 5000 _ _ ?_ | skip); simp only [go_sem, seval, ↓reduceIte, reduceCtorEq, rs_b D, rs_bL D, rs_v D, rs_vL D, rs_sb D, rs_sbL D, rs_svL D, rs_app D, n6])
              refine W.yes rfl ?_
              ((first | refine W.advO 5000 _ _ ?_ | skip); simp only [go_sem, seval, ↓reduceIte, reduceCtorEq, rs_b D, rs_bL D, rs_v D, rs_vL D, rs_sb D, rs_sbL D, rs_svL D, rs_app D])
              (refine W.call1 (DC.lift D (fun D' => ty_fail w0 t x.j x.ws x.e x.p 50 (tokI t x.j).pos _ b v D')) rfl rfl (by first | rfl | simp) ?_; refine W.advO 5000 _ _ ?_; simp only [go_sem, seval, ↓reduceIte, reduceCtorEq, rs_b D, rs_bL D, rs_v D, rs_vL D, rs_sb D, rs_sbL D, rs_svL D, rs_app D])
              (refine W.ret (Fin.gen (d := x.u.v) (tys_ok D hok t (IntKind.i64.wrap (x.j + 1)) x.ws (if x.e = 0 then 50 else x.e) (if x.e = 0 then (tokI t x.j).pos else x.p)) (by (first | rfl | exact List.length_set .. | simp)) (by simp only [resEval, r132, go_sem, seval, ↓reduceIte, reduceCtorEq, Typ.v]; rfl) (by simp only [resV, I, S, B, Pre.v, OpT.v, Tok.v, k_mk, name_mk, n_mk, l_mk, pos_mk, Pre.app, List.map_cons, List.map_nil, Pre.cs_eq, Typ.v]; (repeat' (first | exact V.wk.rfl _ | exact V.wk.csl _ | exact V.wk.osl _ _ | exact wk_agg_nil | exact wk_tup_nil | refine wk_agg_cons ?_ ?_ | refine wk_tup_cons ?_ ?_))) (by (first | exact .c _ | (simp only [I, S, B, opsC, toksC, Pre.v, Tok.v, OpT.v, low_c, low_void, low_any, low_csl, low_nilf, low_ptr, low_osl, low_agg, low_tup, low_fn, List.forall_mem_cons, List.not_mem_nil, false_implies, implies_true, and_self, and_true, true_and, Typ.v]; done))) (by (first | rfl | exact (List.append_nil _).symm)) ?_))
              exact ⟨rfl, rfl⟩
end
section
attribute [local go_sem] tyX tyY rs_len rs_g0 rs_g rs_s0 rs_s rs_sv Typ.v Typ.cs_eq tk_mk tname_mk tn_mk tl_mk tysC

theorem ty_Arrow1 (w0 : World) (to u : Typ) (σ : H) : DC Tryz.prog w0 37 [to.v, .c (.sl [[.int .i64 u.k, .str u.name, .int .i64 u.n, .sl (u.l.map Typ.cs)]])] σ (Same (Typ.arr u to).v σ) := by
  have h := ty_Arrow w0 to [u] (by simp) σ
  unfold tysC at h
  rw [List.map_cons, List.map_nil, Typ.cs_eq] at h
  exact h
/-- The code behind the loop. -/
def tyTailC : AC := match c76 with
  | .seq _ (.seq _ (.seq _ (.seq _ x))) => x
  | _ => .skip
theorem ty_tailW {w0 : World} {f : Nat} (hE : ∀ g, g ≤ f → TyTypeOK w0 g) {t : List Tok} {depth : Nat} {r : TyR} {o2 o : TyO} {σ : H} {b v : Nat} (D : Two σ b v) (ht : t.length ≤ 1000000) (hd : depth ≤ 200)
    (hin : (o2.e ≠ 0 ∧ o = o2) ∨ (∃ j : Nat, o2 = ⟨o2.u, (j : Nat), o2.ws, 0, 0⟩ ∧ tyTailF f t depth j o2.ws o2.u = some r ∧ tyTailG f t depth o2 = some o ∧ j ≤ t.length ∧ o2.ws.length ≤ j))
    {x3 : V} (hx : x3 = .c (tysC o2.u.l) ∨ ∃ q, x3 = .osl q (o2.u.l.map Typ.cs)) (ex : H) {ρ : Env} (e0 : ρ 0 = .ptr b 0) (e1 : ρ 1 = I depth) (e4 : ρ 4 = .ptr σ.length 0) (e6 : ρ 6 = .ptr (σ.length + 1) 0) (hok : H.ok (tys σ b v t 0 [] 0 0)) :
    W Tryz.prog w0 σ.length (Lamb.Fin r76 σ.length (Same o.u.v (tyo σ b v t o))) [.code tyTailC] ⟨ρ, tyo σ b v t o2 ++ (.cells [I 0, S [], I 0, .csl []] :: .cells [I o2.u.k, S o2.u.name, I o2.u.n, x3] :: ex)⟩ := by
  have hlen : (tyo σ b v t o2).length = σ.length := rs_len _ _
  rcases hin with ⟨hne, rfl⟩ | ⟨j, hj, hF, hG, hjl, hws⟩
  · have hb : (o.e != 0) = true := by simpa using hne
    rcases hx with rfl | ⟨q, rfl⟩
    all_goals
      ((first | refine W.advO 5000 _ _ ?_ | skip); simp only [go_sem, seval, ↓reduceIte, reduceCtorEq, tyTailC, c76, rs_b D, rs_bL D, rs_v D, rs_vL D, rs_sb D, rs_sbL D, rs_svL D, rs_app D, e0, e1, e4, e6])
      (refine W.call1 (DC.lift D (fun D' => ty_tok w0 t o.j o.ws o.e o.p _ b v D' ht)) rfl rfl (by first | rfl | simp) ?_; refine W.advO 5000 _ _ ?_; simp only [go_sem, seval, ↓reduceIte, reduceCtorEq, rs_b D, rs_bL D, rs_v D, rs_vL D, rs_sb D, rs_sbL D, rs_svL D, rs_app D, hb, e0, e1, e4, e6])
      refine W.yes rfl ?_
      ((first | refine W.advO 5000 _ _ ?_ | skip); simp only [go_sem, seval, ↓reduceIte, reduceCtorEq, rs_b D, rs_bL D, rs_v D, rs_vL D, rs_sb D, rs_sbL D, rs_svL D, rs_app D, e0, e1, e4, e6])
      (refine W.ret (Fin.gen (d := o.u.v) (tys_ok D hok t o.j o.ws o.e o.p) (by (first | rfl | exact List.length_set .. | simp)) (by simp only [resEval, r76, go_sem, seval, ↓reduceIte, reduceCtorEq, Typ.v, e4]; rfl) (by simp only [resV, I, S, B, Pre.v, OpT.v, Tok.v, k_mk, name_mk, n_mk, l_mk, pos_mk, Pre.app, List.map_cons, List.map_nil, Pre.cs_eq, Typ.v, e4]; (repeat' (first | exact V.wk.rfl _ | exact V.wk.csl _ | exact V.wk.osl _ _ | exact wk_agg_nil | exact wk_tup_nil | refine wk_agg_cons ?_ ?_ | refine wk_tup_cons ?_ ?_))) (by (first | exact .c _ | (simp only [I, S, B, opsC, toksC, Pre.v, Tok.v, OpT.v, low_c, low_void, low_any, low_csl, low_nilf, low_ptr, low_osl, low_agg, low_tup, low_fn, List.forall_mem_cons, List.not_mem_nil, false_implies, implies_true, and_self, and_true, true_and, Typ.v, e4]; done))) (by (first | rfl | exact (List.append_nil _).symm)) ?_))
      exact ⟨rfl, rfl⟩
  · rw [hj] at hG ⊢
    generalize o2.u = u at *
    generalize o2.ws = ws at *
    obtain ⟨f', rfl⟩ : ∃ f', f = f' + 1 := by
      cases f with
      | zero => simp [tyTailF] at hF
      | succ f' => exact ⟨f', rfl⟩
    rw [tyTailF] at hF
    rw [tyTailG] at hG
    simp only [tokI_nat, true_and] at hG
    by_cases hc : (tokL t j).kind = 4 ∧ (tokL t j).text = [45, 62]
    · rw [if_pos hc] at hF hG
      have hw : IntKind.i64.wrap ((j : Int) + 1) = ((j + 1 : Nat) : Int) := by rw [wrap_in] <;> omega
      have hjl' := tokL_lt (t := t) (i := j) (by rw [hc.1]; decide)
      have et : ((j : Int) + 1).toNat = j + 1 := by omega
      have hI : ∃ ri oi, innerT f' t depth (j + 1) ws (tokL t j).pos = some ri ∧ innerO f' t depth (j + 1) ws (tokL t j).pos = some oi ∧ o = ⟨.arr u oi.u, oi.j, oi.ws, oi.e, oi.p⟩ := by
        unfold innerT innerO
        by_cases c4 : 200 ≤ depth
        · rw [if_pos c4] at hG
          injection hG with hG
          simp only [if_pos c4]
          exact ⟨_, _, rfl, rfl, by rw [← hG, hw]⟩
        · rw [if_neg c4] at hF hG
          simp only [if_neg c4]
          rw [et] at hG
          cases hy : tyTypeF f' t (depth + 1) (j + 1) ws with
          | none => rw [hy] at hF; cases hF
          | some ry =>
            cases hz : tyTypeG f' t (depth + 1) (j + 1) ws with
            | none => rw [hz] at hG; cases hG
            | some oy =>
              rw [hz] at hG
              injection hG with hG
              exact ⟨_, _, rfl, rfl, hG.symm⟩
      obtain ⟨ri, oi, hri, hoi, rfl⟩ := hI
      have k4 : ((tokL t j).kind != 4) = false := by simpa using hc.1
      have ktx : ((tokL t j).text != [45, 62]) = false := by simpa using hc.2
      have ktx2 : ((tokL t j).text == [45, 62]) = true := by simpa using hc.2
      rcases hx with rfl | ⟨q, rfl⟩
      all_goals
        ((first | refine W.advO 5000 _ _ ?_ | skip); simp only [go_sem, seval, ↓reduceIte, reduceCtorEq, tyTailC, c76, rs_b D, rs_bL D, rs_v D, rs_vL D, rs_sb D, rs_sbL D, rs_svL D, rs_app D, e0, e1, e4, e6])
        (refine W.call1 (DC.lift D (fun D' => ty_tok w0 t j ws 0 0 _ b v D' ht)) rfl rfl (by first | rfl | simp) ?_; refine W.advO 5000 _ _ ?_; simp only [go_sem, seval, ↓reduceIte, reduceCtorEq, rs_b D, rs_bL D, rs_v D, rs_vL D, rs_sb D, rs_sbL D, rs_svL D, rs_app D, e0, e1, e4, e6, tokI_nat, k4, ktx, ktx2])
        refine W.no rfl ?_
        ((first | refine W.advO 5000 _ _ ?_ | skip); simp only [go_sem, seval, ↓reduceIte, reduceCtorEq, rs_b D, rs_bL D, rs_v D, rs_vL D, rs_sb D, rs_sbL D, rs_svL D, rs_app D, e0, e1, e4, e6, hw])
        apply W.dregE (List.cons_ne_nil _ _)
        case hc =>
          (apply CanonE.advPO; simp only [advPO_nil, advPO_loud, advPO_quiet, pL_yes, pL_no, pLS_some, pLS_none, pQ_yes, pQ_no, pQS_some, pQS_loud, eq_self, Nat.sub_zero, go_sem, seval, ↓reduceIte, reduceCtorEq, rs_b D, rs_bL D, rs_v D, rs_vL D, rs_sb D, rs_sbL D, rs_svL D, rs_app D, e0, e1, e4, e6])
          (apply CanonE.call (DC.lift D (fun D' => ty_inner (hE f' (by omega)) t depth (j + 1) ws (tokL t j) ri oi _ b v hri hoi D' ht (by omega) (by omega) hd)); (case hg => rfl); (case hf => rfl); (case ha => first | rfl | simp))
          (apply CanonE.advPO; simp only [advPO_nil, advPO_loud, advPO_quiet, pL_yes, pL_no, pLS_some, pLS_none, pQ_yes, pQ_no, pQS_some, pQS_loud, eq_self, Nat.sub_zero, go_sem, seval, ↓reduceIte, reduceCtorEq, rs_b D, rs_bL D, rs_v D, rs_vL D, rs_sb D, rs_sbL D, rs_svL D, rs_app D, e0, e1, e4, e6])
          (apply CanonE.callw (ty_Arrow1 w0 oi.u u _); (case hg => rfl); (case hf => rfl); (case ha => rfl); (case hw => ((repeat' (first | exact V.wk.rfl _ | exact V.wk.csl _ | exact V.wk.osl _ _ | exact wk_agg_nil | exact wk_tup_nil | refine wk_agg_cons ?_ ?_ | refine wk_tup_cons ?_ ?_)))))
          (apply CanonE.advPO; simp only [advPO_nil, advPO_loud, advPO_quiet, pL_yes, pL_no, pLS_some, pLS_none, pQ_yes, pQ_no, pQS_some, pQS_loud, eq_self, Nat.sub_zero, go_sem, seval, ↓reduceIte, reduceCtorEq, rs_b D, rs_bL D, rs_v D, rs_vL D, rs_sb D, rs_sbL D, rs_svL D, rs_app D, e0, e1, e4, e6, Typ.arr])
          exact CanonE.nil
        ((first | refine W.advO 5000 _ _ ?_ | skip); simp only [go_sem, seval, ↓reduceIte, reduceCtorEq, rs_b D, rs_bL D, rs_v D, rs_vL D, rs_sb D, rs_sbL D, rs_svL D, rs_app D, e4])
        (refine W.ret (Fin.gen (d := (Typ.arr u oi.u).v) (tys_ok D hok t oi.j oi.ws oi.e oi.p) (by (first | rfl | exact List.length_set .. | simp)) (by simp only [resEval, r76, go_sem, seval, ↓reduceIte, reduceCtorEq, Typ.v, Typ.arr, tk_mk, tname_mk, tn_mk, tl_mk, Typ.cs_eq, e4]; rfl) (by simp only [resV, I, S, B, Pre.v, OpT.v, Tok.v, k_mk, name_mk, n_mk, l_mk, pos_mk, Pre.app, List.map_cons, List.map_nil, Pre.cs_eq, Typ.v, Typ.arr, tk_mk, tname_mk, tn_mk, tl_mk, Typ.cs_eq, e4]; (repeat' (first | exact V.wk.rfl _ | exact V.wk.csl _ | exact V.wk.osl _ _ | exact wk_agg_nil | exact wk_tup_nil | refine wk_agg_cons ?_ ?_ | refine wk_tup_cons ?_ ?_))) (by (first | exact .c _ | (simp only [I, S, B, opsC, toksC, Pre.v, Tok.v, OpT.v, low_c, low_void, low_any, low_csl, low_nilf, low_ptr, low_osl, low_agg, low_tup, low_fn, List.forall_mem_cons, List.not_mem_nil, false_implies, implies_true, and_self, and_true, true_and, Typ.v, Typ.arr, tk_mk, tname_mk, tn_mk, tl_mk, Typ.cs_eq, e4]; done))) (by (first | rfl | exact (List.append_nil _).symm)) ?_))
        exact ⟨rfl, rfl⟩
    · rw [if_neg hc] at hG
      injection hG with hG
      subst hG
      have two : ((tokL t j).kind != 4) = true ∨ (((tokL t j).kind != 4) = false ∧ ((tokL t j).text == [45, 62]) = false) := by
        cases ho : ((tokL t j).kind != 4)
        · refine .inr ⟨rfl, ?_⟩
          cases h6 : ((tokL t j).text == [45, 62])
          · rfl
          · exact absurd ⟨by simpa using ho, by simpa using h6⟩ hc
        · exact .inl rfl
      rcases hx with rfl | ⟨q, rfl⟩ <;> rcases two with k4 | ⟨k4, ktx⟩
      all_goals
        ((first | refine W.advO 5000 _ _ ?_ | skip); simp only [go_sem, seval, ↓reduceIte, reduceCtorEq, tyTailC, c76, rs_b D, rs_bL D, rs_v D, rs_vL D, rs_sb D, rs_sbL D, rs_svL D, rs_app D, e0, e1, e4, e6])
        first
          | ((refine W.call1 (DC.lift D (fun D' => ty_tok w0 t j ws 0 0 _ b v D' ht)) rfl rfl (by first | rfl | simp) ?_; refine W.advO 5000 _ _ ?_; simp only [go_sem, seval, ↓reduceIte, reduceCtorEq, rs_b D, rs_bL D, rs_v D, rs_vL D, rs_sb D, rs_sbL D, rs_svL D, rs_app D, e0, e1, e4, e6, tokI_nat, k4, ktx])
             refine W.yes rfl ?_)
          | ((refine W.call1 (DC.lift D (fun D' => ty_tok w0 t j ws 0 0 _ b v D' ht)) rfl rfl (by first | rfl | simp) ?_; refine W.advO 5000 _ _ ?_; simp only [go_sem, seval, ↓reduceIte, reduceCtorEq, rs_b D, rs_bL D, rs_v D, rs_vL D, rs_sb D, rs_sbL D, rs_svL D, rs_app D, e0, e1, e4, e6, tokI_nat, k4])
             refine W.yes rfl ?_)
        ((first | refine W.advO 5000 _ _ ?_ | skip); simp only [go_sem, seval, ↓reduceIte, reduceCtorEq, rs_b D, rs_bL D, rs_v D, rs_vL D, rs_sb D, rs_sbL D, rs_svL D, rs_app D, e0, e1, e4, e6])
        (refine W.ret (Fin.gen (d := u.v) (tys_ok D hok t j ws 0 0) (by (first | rfl | exact List.length_set .. | simp)) (by simp only [resEval, r76, go_sem, seval, ↓reduceIte, reduceCtorEq, Typ.v, e4]; rfl) (by simp only [resV, I, S, B, Pre.v, OpT.v, Tok.v, k_mk, name_mk, n_mk, l_mk, pos_mk, Pre.app, List.map_cons, List.map_nil, Pre.cs_eq, Typ.v, e4]; (repeat' (first | exact V.wk.rfl _ | exact V.wk.csl _ | exact V.wk.osl _ _ | exact wk_agg_nil | exact wk_tup_nil | refine wk_agg_cons ?_ ?_ | refine wk_tup_cons ?_ ?_))) (by (first | exact .c _ | (simp only [I, S, B, opsC, toksC, Pre.v, Tok.v, OpT.v, low_c, low_void, low_any, low_csl, low_nilf, low_ptr, low_osl, low_agg, low_tup, low_fn, List.forall_mem_cons, List.not_mem_nil, false_implies, implies_true, and_self, and_true, true_and, Typ.v, e4]; done))) (by (first | rfl | exact (List.append_nil _).symm)) ?_))
        exact ⟨rfl, rfl⟩
structure ArgO where
  g : Nat
  o : TyO
theorem ty_read {w0 : World} {f : Nat} (hA : ∀ g, g ≤ f → TyAtomOK w0 g) (hE : ∀ g, g ≤ f → TyTypeOK w0 g) : TyTypeOK w0 (f + 1) := by
  intro t depth i vs r o σ b v h ho D ht hv hi hd
  rw [tyTypeF] at h
  rw [tyTypeG] at ho
  refine go76 rfl (fun hok hsz => ?_)
  have hok0 : H.ok (tys σ b v t 0 [] 0 0) := tys_ok D hok t 0 [] 0 0
  ((first | refine W.advO 5000 _ _ ?_ | skip); simp only [go_sem, seval, ↓reduceIte, reduceCtorEq, c76, rs_b D, rs_bL D, rs_v D, rs_vL D, rs_sb D, rs_sbL D, rs_svL D, rs_app D])
  (refine W.call1 (DC.lift D (fun D' => ty_tok w0 t i vs 0 0 _ b v D' ht)) rfl rfl (by first | rfl | simp) ?_; refine W.advO 5000 _ _ ?_; simp only [go_sem, seval, ↓reduceIte, reduceCtorEq, rs_b D, rs_bL D, rs_v D, rs_vL D, rs_sb D, rs_sbL D, rs_svL D, rs_app D, tokI_nat])
  cases ha : tyAtomF f t depth i vs with
  | none => rw [ha] at h; cases h
  | some ra =>
    rw [ha] at h
    obtain ⟨oa, hoa, hOa⟩ := (ty_out f).1 _ _ _ _ _ ht ha
    rw [hoa] at ho
    simp only at ho
    cases hk : ((tokL t i).kind == 1)
    · have hk1 : ¬ (tokL t i).kind = 1 := by simpa using hk
      rw [if_neg hk1] at ho
      simp only at ho
      have hin : (oa.e ≠ 0 ∧ o = oa) ∨ (∃ j : Nat, oa = ⟨oa.u, (j : Nat), oa.ws, 0, 0⟩ ∧ tyTailF f t depth j oa.ws oa.u = some r ∧ tyTailG f t depth oa = some o ∧ j ≤ t.length ∧ oa.ws.length ≤ j) := by
        cases ra with
        | error x =>
          obtain ⟨q1, q2, q3⟩ := hOa
          have hne : oa.e ≠ 0 := by rw [q1]; simpa using q3
          left
          refine ⟨hne, ?_⟩
          cases f with
          | zero => simp [tyAtomF] at ha
          | succ f' => rw [tail_stop hne] at ho; injection ho with ho; exact ho.symm
        | ok x =>
          obtain ⟨u, j, ws⟩ := x
          have hO' : oa = ⟨u, (j : Nat), ws, 0, 0⟩ := hOa
          have b1 := (ty_bounds f).1 _ _ _ _ _ _ _ ha
          simp only [if_neg hk1] at h
          right
          subst hO'
          exact ⟨j, rfl, h, ho, b1.2.1, by show ws.length ≤ j; omega⟩
      (refine W.call1 (DC.lift D (fun D' => hA f (Nat.le_refl f) t depth i vs ra oa _ b v ha hoa D' ht hv hi hd)) rfl rfl (by first | rfl | simp) ?_; refine W.advO 5000 _ _ ?_; simp only [go_sem, seval, ↓reduceIte, reduceCtorEq, rs_b D, rs_bL D, rs_v D, rs_vL D, rs_sb D, rs_sbL D, rs_svL D, rs_app D, hk, atomV, Bool.false_eq_true, if_false])
      refine W.loopP (fun _ : Unit => True) (fun _ => ⟨(((((base.put (some 0) (.ptr b 0)).put (some 1) (I depth)).put (some 4) (.ptr σ.length 0)).put (some 5) (B false)).put (some 6) (.ptr (σ.length + 1) 0)), tyo σ b v t oa ++ [.cells [I 0, S [], I 0, .csl []], .cells [I oa.u.k, S oa.u.name, I oa.u.n, .c (tysC oa.u.l)]]⟩) (fun _ => 0) () trivial ?_ (fun x hx => ?_)
      · (refine Lew.env ?_; (repeat' (first | exact LeE.base _ | (refine LeE.put ?_ (by first | exact V.wk.rfl _ | exact V.wk.osl _ _ | exact V.wk.csl _)))))
      · ((first | refine W.advO 5000 _ _ ?_ | skip); simp only [go_sem, seval, ↓reduceIte, reduceCtorEq, rs_b D, rs_bL D, rs_v D, rs_vL D, rs_sb D, rs_sbL D, rs_svL D, rs_app D])
        refine W.no rfl ?_
        (refine W.advO 1 _ _ ?_; simp only [go_sem])
        refine ty_tailW hE D ht hd hin (.inl rfl) [] ?_ ?_ ?_ ?_ hok0 <;> rfl
    · have hk1 : (tokL t i).kind = 1 := by simpa using hk
      rw [if_pos hk1] at ho
      have hoa' : oa = ⟨.con (tokL t i).text, (i + 1 : Nat), vs, 0, 0⟩ := by
        cases f with
        | zero => simp [tyAtomF] at ha
        | succ f' =>
          rw [tyAtomG, if_pos hk1] at hoa
          injection hoa with hoa
          exact hoa.symm
      have hil : i < t.length := tokL_lt (by rw [hk1]; decide)
      subst hoa'
      have hraE : ra = .ok (.con (tokL t i).text, i + 1, vs) := by
        cases f with
        | zero => simp [tyAtomF] at ha
        | succ f' =>
          rw [tyAtomF, if_pos hk1] at ha
          injection ha with ha
          exact ha.symm
      subst hraE
      simp only [if_pos hk1] at h
      cases hg : tyArgsF f t depth (i + 1) vs (.con (tokL t i).text) with
      | none => rw [hg] at h; cases h
      | some r1 =>
        rw [hg] at h
        cases hgo : tyArgsG f t depth ⟨.con (tokL t i).text, (i + 1 : Nat), vs, 0, 0⟩ with
        | none => rw [hgo] at ho; cases ho
        | some o1 =>
          rw [hgo] at ho
          simp only at ho
          (refine W.call1 (DC.lift D (fun D' => hA f (Nat.le_refl f) t depth i vs _ _ _ b v ha hoa D' ht hv hi hd)) rfl rfl (by first | rfl | simp) ?_; refine W.advO 5000 _ _ ?_; simp only [go_sem, seval, ↓reduceIte, reduceCtorEq, rs_b D, rs_bL D, rs_v D, rs_vL D, rs_sb D, rs_sbL D, rs_svL D, rs_app D, hk, atomV, if_true, Typ.con])
          refine W.ownCell (σ.length + 1) 3 32 4 (cs := [.c (.int .i64 0), .c (.str (tokL t i).text), .c (.int .i64 0), .csl []]) (tg := none) ?_ rfl ?_
          · simp only [rs_g, List.getElem?_cons_succ, List.getElem?_cons_zero]
          · ((first | refine W.advO 5000 _ _ ?_ | skip); simp only [go_sem, seval, ↓reduceIte, reduceCtorEq, rs_b D, rs_bL D, rs_v D, rs_vL D, rs_sb D, rs_sbL D, rs_svL D, rs_app D])
            obtain ⟨o1', ho1', hO1⟩ := (ty_out f).2.1 _ _ _ _ _ _ ht hg
            rw [hgo] at ho1'
            injection ho1' with ho1'
            subst ho1'
            have b1 := (ty_bounds f).1 _ _ _ _ _ _ _ ha
            have hf0 : 0 < f := by
              cases f with
              | zero => simp [tyAtomF] at ha
              | succ f' => omega
            have hin : (o1.e ≠ 0 ∧ o = o1) ∨ (∃ j : Nat, o1 = ⟨o1.u, (j : Nat), o1.ws, 0, 0⟩ ∧ tyTailF f t depth j o1.ws o1.u = some r ∧ tyTailG f t depth o1 = some o ∧ j ≤ t.length ∧ o1.ws.length ≤ j) := by
              cases r1 with
              | error x =>
                obtain ⟨q1, q2, q3⟩ := hO1
                have hne : o1.e ≠ 0 := by rw [q1]; simpa using q3
                left
                refine ⟨hne, ?_⟩
                obtain ⟨f', rfl⟩ : ∃ f', f = f' + 1 := ⟨f - 1, by omega⟩
                rw [tail_stop hne] at ho
                injection ho with ho
                exact ho.symm
              | ok x =>
                obtain ⟨u, j, ws⟩ := x
                have hO' : o1 = ⟨u, (j : Nat), ws, 0, 0⟩ := hO1
                have b2 := (ty_bounds f).2.1 _ _ _ _ _ _ _ _ hg b1.2.1
                right
                subst hO'
                exact ⟨j, rfl, h, ho, b2.2.1, by show ws.length ≤ j; omega⟩
            refine W.loopP (fun x : ArgO => tyArgsG x.g t depth x.o = some o1 ∧ x.g ≤ f ∧ 0 < x.g ∧ (x.o.e ≠ 0 ∨ ∃ (j : Nat) (ra : TyR), x.o.j = j ∧ x.o.e = 0 ∧ x.o.p = 0 ∧ tyArgsF x.g t depth j x.o.ws x.o.u = some ra ∧ j ≤ t.length ∧ x.o.ws.length ≤ j ∧ x.o.u.l.length ≤ j))
              (fun x => ⟨(((((base.put (some 0) (.ptr b 0)).put (some 1) (I depth)).put (some 4) (.ptr σ.length 0)).put (some 5) (B true)).put (some 6) (.ptr (σ.length + 1) 0)), tyo σ b v t x.o ++ [.cells [I 0, S [], I 0, .csl []], .cells [I x.o.u.k, S x.o.u.name, I x.o.u.n, .osl (σ.length + 2) (x.o.u.l.map Typ.cs)], .spare 32 4 x.o.u.l.length]⟩)
              (fun x => x.g) ⟨f, ⟨.con (tokL t i).text, (i + 1 : Nat), vs, 0, 0⟩⟩ ⟨hgo, Nat.le_refl f, hf0, .inr ⟨i + 1, r1, rfl, rfl, rfl, hg, by omega, by show vs.length ≤ i + 1; omega, Nat.zero_le _⟩⟩ ?_ (fun x hx => ?_)
            · (refine Lew.env ?_; (repeat' (first | exact LeE.base _ | (refine LeE.put ?_ (by first | exact V.wk.rfl _ | exact V.wk.osl _ _ | exact V.wk.csl _)))))
            · obtain ⟨g, ⟨u, j', ws, e, p⟩⟩ := x
              obtain ⟨hG, hgf, hg0, hst⟩ := hx
              simp only at hG hgf hg0 hst
              obtain ⟨g', rfl⟩ : ∃ g', g = g' + 1 := ⟨g - 1, by omega⟩
              rcases hst with hne | ⟨j, ra', rfl, rfl, rfl, hF, hjl, hwl, hul⟩
              · rw [args_stop hne] at hG
                injection hG with hG
                subst hG
                have hb : (e == 0) = false := by simpa using hne
                ((first | refine W.advO 5000 _ _ ?_ | skip); simp only [go_sem, seval, ↓reduceIte, reduceCtorEq, rs_b D, rs_bL D, rs_v D, rs_vL D, rs_sb D, rs_sbL D, rs_svL D, rs_app D, hb])
                refine W.no rfl ?_
                (refine W.advO 1 _ _ ?_; simp only [go_sem])
                refine ty_tailW hE D ht hd hin (.inr ⟨_, rfl⟩) [_] ?_ ?_ ?_ ?_ hok0 <;> rfl
              · rw [tyArgsG] at hG
                rw [tyArgsF] at hF
                simp only [tokI_nat, true_and, Int.toNat_natCast] at hG
                ((first | refine W.advO 5000 _ _ ?_ | skip); simp only [go_sem, seval, ↓reduceIte, reduceCtorEq, rs_b D, rs_bL D, rs_v D, rs_vL D, rs_sb D, rs_sbL D, rs_svL D, rs_app D])
                (refine W.call1 (DC.lift D (fun D' => ty_begins w0 t j ws 0 0 _ b v D' ht)) rfl rfl (by first | rfl | simp) ?_; refine W.advO 5000 _ _ ?_; simp only [go_sem, seval, ↓reduceIte, reduceCtorEq, rs_b D, rs_bL D, rs_v D, rs_vL D, rs_sb D, rs_sbL D, rs_svL D, rs_app D, tokI_nat])
                cases hB : tyBegins (tokL t j)
                · rw [if_neg (by rw [hB]; decide)] at hG
                  injection hG with hG
                  subst hG
                  ((first | refine W.advO 5000 _ _ ?_ | skip); simp only [go_sem, seval, ↓reduceIte, reduceCtorEq, hB])
                  refine W.no rfl ?_
                  (refine W.advO 1 _ _ ?_; simp only [go_sem])
                  refine ty_tailW hE D ht hd hin (.inr ⟨_, rfl⟩) [_] ?_ ?_ ?_ ?_ hok0 <;> rfl
                · rw [if_neg (by rw [hB]; decide)] at hF
                  rw [if_pos hB] at hG
                  have hjl' := tyBegins_lt (t := t) (i := j) (by rw [hB]; decide)
                  cases ha' : tyAtomF g' t depth j ws with
                  | none => rw [ha'] at hF; cases hF
                  | some rb =>
                    rw [ha'] at hF
                    obtain ⟨a, hag, haO⟩ := (ty_out g').1 _ _ _ _ _ ht ha'
                    rw [hag] at hG
                    simp only at hG
                    have hgp : 0 < g' := by
                      cases g' with
                      | zero => simp [tyAtomF] at ha'
                      | succ k => omega
                    have hal : ((tokL t j).kind == 1) = true → a.u.l = [] := fun hk2 => by
                      cases g' with
                      | zero => simp [tyAtomF] at ha'
                      | succ k =>
                        rw [tyAtomG, if_pos (by simpa using hk2)] at hag
                        injection hag with hag
                        rw [← hag]; rfl
                    have hbd1 : (u.l.length + 1) * 56 ≤ 140737488355328 := by omega
                    have hbd2 : u.l.length + 1 ≤ 140737488355328 := by omega
                    have hinv : tyArgsG g' t depth ⟨u.put a.u, a.j, a.ws, a.e, a.p⟩ = some o1 ∧ g' ≤ f ∧ 0 < g' ∧ (a.e ≠ 0 ∨ ∃ (k : Nat) (rc : TyR), a.j = k ∧ a.e = 0 ∧ a.p = 0 ∧ tyArgsF g' t depth k a.ws (u.put a.u) = some rc ∧ k ≤ t.length ∧ a.ws.length ≤ k ∧ (u.put a.u).l.length ≤ k) := by
                      refine ⟨hG, by omega, hgp, ?_⟩
                      cases rb with
                      | error x =>
                        obtain ⟨q1, q2, q3⟩ := haO
                        left; rw [q1]; simpa using q3
                      | ok x =>
                        obtain ⟨ua, k, ws'⟩ := x
                        have hO' : a = ⟨ua, (k : Nat), ws', 0, 0⟩ := haO
                        have b2 := (ty_bounds g').1 _ _ _ _ _ _ _ ha'
                        subst hO'
                        right
                        refine ⟨k, _, rfl, rfl, rfl, hF, b2.2.1, by show ws'.length ≤ k; omega, ?_⟩
                        simp only [Typ.put, tl_mk, List.length_append, List.length_cons, List.length_nil]
                        omega
                    ((first | refine W.advO 5000 _ _ ?_ | skip); simp only [go_sem, seval, ↓reduceIte, reduceCtorEq, hB])
                    refine W.yes rfl ?_
                    ((first | refine W.advO 5000 _ _ ?_ | skip); simp only [go_sem, seval, ↓reduceIte, reduceCtorEq, rs_b D, rs_bL D, rs_v D, rs_vL D, rs_sb D, rs_sbL D, rs_svL D, rs_app D])
                    cases hk2 : ((tokL t j).kind == 1)
                    · apply W.dregE (List.cons_ne_nil _ _)
                      case hc =>
                        (apply CanonE.advPO; simp only [advPO_nil, advPO_loud, advPO_quiet, pL_yes, pL_no, pLS_some, pLS_none, pQ_yes, pQ_no, pQS_some, pQS_loud, eq_self, Nat.sub_zero, go_sem, seval, ↓reduceIte, reduceCtorEq, rs_b D, rs_bL D, rs_v D, rs_vL D, rs_sb D, rs_sbL D, rs_svL D, rs_app D])
                        (apply CanonE.call (DC.lift D (fun D' => hA g' (by omega) t depth j ws rb a _ b v ha' hag D' ht hwl hjl hd)); (case hg => rfl); (case hf => rfl); (case ha => first | rfl | simp))
                        (apply CanonE.advPO; simp only [advPO_nil, advPO_loud, advPO_quiet, pL_yes, pL_no, pLS_some, pLS_none, pQ_yes, pQ_no, pQS_some, pQS_loud, eq_self, Nat.sub_zero, go_sem, seval, ↓reduceIte, reduceCtorEq, rs_b D, rs_bL D, rs_v D, rs_vL D, rs_sb D, rs_sbL D, rs_svL D, rs_app D, hk2, atomV, Bool.false_eq_true, if_false, hbd1, hbd2])
                        exact CanonE.nil
                      ((first | refine W.advO 5000 _ _ ?_ | skip); simp only [go_sem, seval, ↓reduceIte, reduceCtorEq, rs_b D, rs_bL D, rs_v D, rs_vL D, rs_sb D, rs_sbL D, rs_svL D, rs_app D])
                      refine .inv ⟨⟨g', ⟨u.put a.u, a.j, a.ws, a.e, a.p⟩⟩, hinv, by simp, ?_⟩
                      simp only [go_sem, seval, ↓reduceIte, reduceCtorEq, Typ.put, tk_mk, tname_mk, tn_mk, tl_mk, List.map_append, List.length_append, rs_b D, rs_bL D, rs_v D, rs_vL D, rs_sb D, rs_sbL D, rs_svL D, rs_app D]
                      (refine Lew.env ?_; (repeat' (first | exact LeE.base _ | (refine LeE.put ?_ (by first | exact V.wk.rfl _ | exact V.wk.osl _ _ | exact V.wk.csl _)))))
                    · have hal' := hal hk2
                      apply W.dregE (List.cons_ne_nil _ _)
                      case hc =>
                        (apply CanonE.advPO; simp only [advPO_nil, advPO_loud, advPO_quiet, pL_yes, pL_no, pLS_some, pLS_none, pQ_yes, pQ_no, pQS_some, pQS_loud, eq_self, Nat.sub_zero, go_sem, seval, ↓reduceIte, reduceCtorEq, rs_b D, rs_bL D, rs_v D, rs_vL D, rs_sb D, rs_sbL D, rs_svL D, rs_app D])
                        (apply CanonE.call (DC.lift D (fun D' => hA g' (by omega) t depth j ws rb a _ b v ha' hag D' ht hwl hjl hd)); (case hg => rfl); (case hf => rfl); (case ha => first | rfl | simp))
                        (apply CanonE.advPO; simp only [advPO_nil, advPO_loud, advPO_quiet, pL_yes, pL_no, pLS_some, pLS_none, pQ_yes, pQ_no, pQS_some, pQS_loud, eq_self, Nat.sub_zero, go_sem, seval, ↓reduceIte, reduceCtorEq, rs_b D, rs_bL D, rs_v D, rs_vL D, rs_sb D, rs_sbL D, rs_svL D, rs_app D, hk2, atomV, if_true, hbd1, hbd2])
                        exact CanonE.nil
                      ((first | refine W.advO 5000 _ _ ?_ | skip); simp only [go_sem, seval, ↓reduceIte, reduceCtorEq, rs_b D, rs_bL D, rs_v D, rs_vL D, rs_sb D, rs_sbL D, rs_svL D, rs_app D])
                      refine .inv ⟨⟨g', ⟨u.put a.u, a.j, a.ws, a.e, a.p⟩⟩, hinv, by simp, ?_⟩
                      simp only [go_sem, seval, ↓reduceIte, reduceCtorEq, Typ.put, tk_mk, tname_mk, tn_mk, tl_mk, hal', List.map_append, List.length_append, rs_b D, rs_bL D, rs_v D, rs_vL D, rs_sb D, rs_sbL D, rs_svL D, rs_app D]
                      (refine Lew.env ?_; (repeat' (first | exact LeE.base _ | (refine LeE.put ?_ (by first | exact V.wk.rfl _ | exact V.wk.osl _ _ | exact V.wk.csl _)))))
theorem ty_all (w0 : World) : ∀ f, (∀ g, g ≤ f → TyAtomOK w0 g) ∧ (∀ g, g ≤ f → TyTypeOK w0 g)
  | 0 => ⟨fun g hg => by
      have : g = 0 := by omega
      subst this
      intro t depth i vs r o σ b v h
      simp [tyAtomF] at h, fun g hg => by
      have : g = 0 := by omega
      subst this
      intro t depth i vs r o σ b v h
      simp [tyTypeF] at h⟩
  | f + 1 => by
    obtain ⟨h1, h2⟩ := ty_all w0 f
    refine ⟨fun g hg => ?_, fun g hg => ?_⟩
    · rcases Nat.lt_or_ge f g with h | h
      · have : g = f + 1 := by omega
        subst this
        exact ty_atom (h2 f (Nat.le_refl f))
      · exact h1 g h
    · rcases Nat.lt_or_ge f g with h | h
      · have : g = f + 1 := by omega
        subst this
        exact ty_read h1 h2
      · exact h2 g h
end
section
attribute [local go_sem] tyX tyY rs_len rs_g0 rs_g rs_s0 rs_s rs_sv Typ.v Typ.cs_eq tk_mk tname_mk tn_mk tl_mk tysC

theorem ty_atom_out (w0 : World) (t : List Tok) (depth : Nat) (i : Int) (hB : tyBegins (tokI t i) = false) (σ : H) (b v : Nat) (D : Two σ b v) (ht : t.length ≤ 1000000) :
    DC Tryz.prog w0 132 [.ptr b 0, I depth] (tys σ b v t i [] 0 0) (Same Typ.none.v (tys σ b v t i [] 50 (tokI t i).pos)) := by
  refine go132 rfl (fun hok hsz => ?_)
  ((first | refine W.advO 5000 _ _ ?_ | skip); simp only [go_sem, seval, ↓reduceIte, reduceCtorEq, c132, rs_b D, rs_bL D, rs_v D, rs_vL D, rs_sb D, rs_sbL D, rs_svL D, rs_app D])
  (refine W.call1 (DC.lift D (fun D' => ty_tok w0 t i [] 0 0 _ b v D' ht)) rfl rfl (by first | rfl | simp) ?_; refine W.advO 5000 _ _ ?_; simp only [go_sem, seval, ↓reduceIte, reduceCtorEq, rs_b D, rs_bL D, rs_v D, rs_vL D, rs_sb D, rs_sbL D, rs_svL D, rs_app D])
  (refine W.call1 (DC.lift D (fun D' => ty_begins w0 t i [] 0 0 _ b v D' ht)) rfl rfl (by first | rfl | simp) ?_; refine W.advO 5000 _ _ ?_; simp only [go_sem, seval, ↓reduceIte, reduceCtorEq, rs_b D, rs_bL D, rs_v D, rs_vL D, rs_sb D, rs_sbL D, rs_svL D, rs_app D, hB])
  refine W.yes rfl ?_
  ((first | refine W.advO 5000 _ _ ?_ | skip); simp only [go_sem, seval, ↓reduceIte, reduceCtorEq, rs_b D, rs_bL D, rs_v D, rs_vL D, rs_sb D, rs_sbL D, rs_svL D, rs_app D])
  (refine W.call1 (DC.lift D (fun D' => ty_fail w0 t i [] 0 0 50 (tokI t i).pos _ b v D')) rfl rfl (by first | rfl | simp) ?_; refine W.advO 5000 _ _ ?_; simp only [go_sem, seval, ↓reduceIte, reduceCtorEq, rs_b D, rs_bL D, rs_v D, rs_vL D, rs_sb D, rs_sbL D, rs_svL D, rs_app D])
  (refine W.ret (Fin.gen (d := Typ.none.v) (tys_ok D hok t i [] 50 (tokI t i).pos) (by (first | rfl | exact List.length_set .. | simp)) (by simp only [resEval, r132, go_sem, seval, ↓reduceIte, reduceCtorEq, Typ.v, Typ.none, tk_mk, tname_mk, tn_mk, tl_mk]; rfl) (by simp only [resV, I, S, B, Pre.v, OpT.v, Tok.v, k_mk, name_mk, n_mk, l_mk, pos_mk, Pre.app, List.map_cons, List.map_nil, Pre.cs_eq, Typ.v, Typ.none, tk_mk, tname_mk, tn_mk, tl_mk]; (repeat' (first | exact V.wk.rfl _ | exact V.wk.csl _ | exact V.wk.osl _ _ | exact wk_agg_nil | exact wk_tup_nil | refine wk_agg_cons ?_ ?_ | refine wk_tup_cons ?_ ?_))) (by (first | exact .c _ | (simp only [I, S, B, opsC, toksC, Pre.v, Tok.v, OpT.v, low_c, low_void, low_any, low_csl, low_nilf, low_ptr, low_osl, low_agg, low_tup, low_fn, List.forall_mem_cons, List.not_mem_nil, false_implies, implies_true, and_self, and_true, true_and, Typ.v, Typ.none, tk_mk, tname_mk, tn_mk, tl_mk]; done))) (by (first | rfl | exact (List.append_nil _).symm)) ?_))
  exact ⟨rfl, rfl⟩
theorem ty_read_out (w0 : World) (t : List Tok) (i : Int) (hB : tyBegins (tokI t i) = false) (σ : H) (b v : Nat) (D : Two σ b v) (ht : t.length ≤ 1000000) :
    DC Tryz.prog w0 76 [.ptr b 0, I 0] (tys σ b v t i [] 0 0) (Same Typ.none.v (tys σ b v t i [] 50 (tokI t i).pos)) := by
  refine go76 rfl (fun hok hsz => ?_)
  have hk : ((tokI t i).kind == 1) = false := by
    simp only [tyBegins, Bool.or_eq_false_iff, decide_eq_false_iff_not] at hB
    simpa using hB.1.1
  ((first | refine W.advO 5000 _ _ ?_ | skip); simp only [go_sem, seval, ↓reduceIte, reduceCtorEq, c76, rs_b D, rs_bL D, rs_v D, rs_vL D, rs_sb D, rs_sbL D, rs_svL D, rs_app D])
  (refine W.call1 (DC.lift D (fun D' => ty_tok w0 t i [] 0 0 _ b v D' ht)) rfl rfl (by first | rfl | simp) ?_; refine W.advO 5000 _ _ ?_; simp only [go_sem, seval, ↓reduceIte, reduceCtorEq, rs_b D, rs_bL D, rs_v D, rs_vL D, rs_sb D, rs_sbL D, rs_svL D, rs_app D, hk])
  (refine W.call1 (DC.lift D (fun D' => ty_atom_out w0 t 0 i hB _ b v D' ht)) rfl rfl (by first | rfl | simp) ?_; refine W.advO 5000 _ _ ?_; simp only [go_sem, seval, ↓reduceIte, reduceCtorEq, rs_b D, rs_bL D, rs_v D, rs_vL D, rs_sb D, rs_sbL D, rs_svL D, rs_app D, Typ.none])
  refine W.loopP (fun _ : Unit => True) (fun _ => ⟨(((((base.put (some 0) (.ptr b 0)).put (some 1) (I (0 : Nat))).put (some 4) (.ptr σ.length 0)).put (some 5) (B false)).put (some 6) (.ptr (σ.length + 1) 0)), tyo σ b v t ⟨.none, i, [], 50, (tokI t i).pos⟩ ++ [.cells [I 0, S [], I 0, .csl []], .cells [I 0, S [], I 0, .c (tysC [])]]⟩) (fun _ => 0) () trivial ?_ (fun x hx => ?_)
  · (refine Lew.env ?_; (repeat' (first | exact LeE.base _ | (refine LeE.put ?_ (by first | exact V.wk.rfl _ | exact V.wk.osl _ _ | exact V.wk.csl _)))))
  · ((first | refine W.advO 5000 _ _ ?_ | skip); simp only [go_sem, seval, ↓reduceIte, reduceCtorEq, rs_b D, rs_bL D, rs_v D, rs_vL D, rs_sb D, rs_sbL D, rs_svL D, rs_app D])
    refine W.no rfl ?_
    (refine W.advO 1 _ _ ?_; simp only [go_sem])
    refine ty_tailW (ty_all w0 0).2 (o2 := ⟨.none, i, [], 50, (tokI t i).pos⟩) (o := ⟨.none, i, [], 50, (tokI t i).pos⟩) (r := .error ⟨50, 0⟩) D ht (Nat.zero_le _) (.inl ⟨by show (50 : Int) ≠ 0; decide, rfl⟩) (.inl rfl) [] ?_ ?_ ?_ ?_ (tys_ok D hok t 0 [] 0 0) <;> rfl
def tyReadV (from_ : Int) : TyR → V
  | .ok (u, j, _) => .tup [u.v, I (j : Nat), I 0, I 0]
  | .error x => .tup [Typ.none.v, I from_, I x.e, I x.pos]
theorem rs_new (σ : H) (B X Y X' Y' : Blk) : rs (σ ++ [B, X, Y]) (σ.length + 1) (σ.length + 2) X' Y' = σ ++ [B, X', Y'] := by
  unfold rs
  rw [List.set_append_right _ _ (by omega), List.set_append_right _ _ (by omega)]
  simp [Nat.add_sub_cancel_left]
theorem two_new (σ : H) (B X Y : Blk) : Two (σ ++ [B, X, Y]) (σ.length + 1) (σ.length + 2) := ⟨by omega, by simp, by simp⟩
theorem ty_ReadO (w0 : World) (t : List Tok) (i : Int) (o : TyO) (r : TyR) (hO : TOut r o) (σ : H)
    (hc : ∀ (σ : H) (b v : Nat), Two σ b v → DC Tryz.prog w0 76 [.ptr b 0, I 0] (tys σ b v t i [] 0 0) (Same o.u.v (tyo σ b v t o))) :
    DC Tryz.prog w0 30 [.c (toksC t), I i] σ (Same (tyReadV i r) σ) := by
  refine go30 rfl (fun hok hsz => ?_)
  ((first | refine W.advO 5000 _ _ ?_ | skip); simp only [go_sem, seval, ↓reduceIte, reduceCtorEq, c30])
  refine W.ownCell (σ.length + 1) 2 9 1 (cs := [.c (toksC t), I i, .csl [], I 0, I 0]) (tg := none) ?_ rfl ?_
  · simp only [hget, List.getElem?_cons_succ, List.getElem?_cons_zero]; rfl
  · ((first | refine W.advO 5000 _ _ ?_ | skip); simp only [go_sem, seval, ↓reduceIte, reduceCtorEq])
    have hh : ∀ X, DC Tryz.prog w0 76 [.ptr (σ.length + 1) 0, I 0] (σ ++ [X, .cells [.c (toksC t), I i, .osl (σ.length + 2) [], I 0, I 0], .spare 9 1 0]) (Same o.u.v (σ ++ [X, tyX t o.j (σ.length + 2) o.ws o.e o.p, tyY o.ws])) := fun X => by
      have := hc (σ ++ [X, X, X]) (σ.length + 1) (σ.length + 2) (two_new σ X X X)
      unfold tyo tys at this
      rw [rs_new, rs_new] at this
      exact this
    (refine W.call1 (hh _) rfl rfl (by first | rfl | simp) ?_; refine W.advO 5000 _ _ ?_; simp only [go_sem, seval, ↓reduceIte, reduceCtorEq])
    cases r with
    | ok x =>
      obtain ⟨u, j, ws⟩ := x
      have hO' : o = ⟨u, (j : Nat), ws, 0, 0⟩ := hO
      subst hO'
      ((first | refine W.advO 5000 _ _ ?_ | skip); simp only [go_sem, seval, ↓reduceIte, reduceCtorEq])
      refine W.no rfl ?_
      ((first | refine W.advO 5000 _ _ ?_ | skip); simp only [go_sem, seval, ↓reduceIte, reduceCtorEq])
      (apply W.dregE (List.cons_ne_nil _ _); case hc => ((apply CanonE.advPO; simp only [advPO_nil, advPO_loud, advPO_quiet, pL_yes, pL_no, pLS_some, pLS_none, pQ_yes, pQ_no, pQS_some, pQS_loud, eq_self, Nat.sub_zero, go_sem, seval, ↓reduceIte, reduceCtorEq]); exact CanonE.nil))
      ((first | refine W.advO 5000 _ _ ?_ | skip); simp only [go_sem, seval, ↓reduceIte, reduceCtorEq])
      (refine W.ret (Fin.sameW (hok) (by (first | rfl | exact List.length_set .. | simp)) (by simp only [resEval, r30, go_sem, seval, ↓reduceIte, reduceCtorEq, tyReadV, Typ.v]; rfl) ?_ (by (first | exact .c _ | (simp only [I, S, B, opsC, toksC, Pre.v, Tok.v, OpT.v, low_c, low_void, low_any, low_csl, low_nilf, low_ptr, low_osl, low_agg, low_tup, low_fn, List.forall_mem_cons, List.not_mem_nil, false_implies, implies_true, and_self, and_true, true_and, tyReadV, Typ.v]; done))) (by (first | rfl | exact (List.append_nil _).symm))); simp only [resV, tyReadV, Typ.v]; try exact V.wk.rfl _)
      (repeat' (first | exact V.wk.rfl _ | exact V.wk.csl _ | exact V.wk.osl _ _ | exact wk_agg_nil | exact wk_tup_nil | refine wk_agg_cons ?_ ?_ | refine wk_tup_cons ?_ ?_))
    | error x =>
      obtain ⟨q1, q2, q3⟩ := hO
      have hb : (o.e != 0) = true := by rw [q1, bne, q3]; rfl
      ((first | refine W.advO 5000 _ _ ?_ | skip); simp only [go_sem, seval, ↓reduceIte, reduceCtorEq, hb])
      refine W.yes rfl ?_
      ((first | refine W.advO 5000 _ _ ?_ | skip); simp only [go_sem, seval, ↓reduceIte, reduceCtorEq])
      (apply W.dregE (List.cons_ne_nil _ _); case hc => ((apply CanonE.advPO; simp only [advPO_nil, advPO_loud, advPO_quiet, pL_yes, pL_no, pLS_some, pLS_none, pQ_yes, pQ_no, pQS_some, pQS_loud, eq_self, Nat.sub_zero, go_sem, seval, ↓reduceIte, reduceCtorEq]); exact CanonE.nil))
      ((first | refine W.advO 5000 _ _ ?_ | skip); simp only [go_sem, seval, ↓reduceIte, reduceCtorEq])
      rw [q1, q2]
      (refine W.ret (Fin.sameW (hok) (by (first | rfl | exact List.length_set .. | simp)) (by simp only [resEval, r30, go_sem, seval, ↓reduceIte, reduceCtorEq, tyReadV, Typ.v, Typ.none, tk_mk, tname_mk, tn_mk, tl_mk, List.map_nil]; rfl) ?_ (by (first | exact .c _ | (simp only [I, S, B, opsC, toksC, Pre.v, Tok.v, OpT.v, low_c, low_void, low_any, low_csl, low_nilf, low_ptr, low_osl, low_agg, low_tup, low_fn, List.forall_mem_cons, List.not_mem_nil, false_implies, implies_true, and_self, and_true, true_and, tyReadV, Typ.v, Typ.none, tk_mk, tname_mk, tn_mk, tl_mk, List.map_nil]; done))) (by (first | rfl | exact (List.append_nil _).symm))); simp only [resV, tyReadV, Typ.v, Typ.none, tk_mk, tname_mk, tn_mk, tl_mk, List.map_nil]; try exact V.wk.rfl _)
      (repeat' (first | exact V.wk.rfl _ | exact V.wk.csl _ | exact V.wk.osl _ _ | exact wk_agg_nil | exact wk_tup_nil | refine wk_agg_cons ?_ ?_ | refine wk_tup_cons ?_ ?_))
/-- ty.Read, wherever it begins. -/
noncomputable def tyFrom (t : List Tok) (i : Int) : TyR := if 0 ≤ i ∧ i ≤ t.length then tyT t i.toNat else .error ⟨50, lastPos t⟩
theorem tyFrom_nat {t : List Tok} {i : Nat} (h : i ≤ t.length) : tyFrom t (i : Int) = tyT t i := by
  unfold tyFrom
  rw [if_pos ⟨by omega, by omega⟩, Int.toNat_natCast]
theorem tokI_out {t : List Tok} {i : Int} (h : ¬ (0 ≤ i ∧ i ≤ t.length)) : tokI t i = ⟨0, [], 0, lastPos t⟩ := by
  unfold tokI
  split
  · rw [tokL_out (by omega)]
  · rfl
theorem ty_Read (w0 : World) (t : List Tok) (i : Int) (ht : t.length ≤ 1000000) (σ : H) : DC Tryz.prog w0 30 [.c (toksC t), I i] σ (Same (tyReadV i (tyFrom t i)) σ) := by
  by_cases h : 0 ≤ i ∧ i ≤ t.length
  · obtain ⟨n, rfl⟩ := Int.eq_ofNat_of_zero_le h.1
    rw [tyFrom_nat (by omega)]
    obtain ⟨f, hf⟩ := tyT_is t n
    obtain ⟨o, ho, hO⟩ := (ty_out f).2.2.2 _ _ _ _ _ ht hf
    exact ty_ReadO w0 t n o _ hO σ fun σ b v D => (ty_all w0 f).2 f (Nat.le_refl f) t 0 n [] _ o σ b v hf ho D ht (Nat.zero_le _) (by omega) (Nat.zero_le _)
  · have hto := tokI_out h
    have hB : tyBegins (tokI t i) = false := by rw [hto]; rfl
    unfold tyFrom
    rw [if_neg h]
    refine ty_ReadO w0 t i ⟨.none, i, [], 50, (tokI t i).pos⟩ (.error ⟨50, lastPos t⟩) ⟨rfl, by rw [hto], rfl⟩ σ fun σ b v D => ty_read_out w0 t i hB σ b v D ht
end
section

/-- The last token is the end. -/
structure TEnd (t : List Tok) : Prop where
  ne : t ≠ []
  last : ∀ h : t.length - 1 < t.length, t[t.length - 1] = ⟨0, [], 0, lastPos t⟩
  le : t.length ≤ 100000
theorem TEnd.pos {t : List Tok} (h : TEnd t) : 0 < t.length := List.length_pos_iff.2 h.ne
theorem TEnd.tok {t : List Tok} (h : TEnd t) (i : Nat) : t[min i (t.length - 1)]? = some (tokL t i) := by
  have := h.pos
  rcases Nat.lt_or_ge i t.length with hi | hi
  · rw [Nat.min_eq_left (by omega), tokL_in hi, List.getElem?_eq_getElem hi]
  · rw [Nat.min_eq_right (by omega), tokL_out hi, List.getElem?_eq_getElem (by omega), h.last (by omega)]
/-- The source reader's block. -/
def sdX (t : List Tok) (i : Int) (l : List OpT) (e p : Int) : Blk := .cells [.c (toksC t), I i, .c (opsC l), I e, I p]
abbrev srd (σ : H) (b : Nat) (t : List Tok) (i : Int) (l : List OpT) (e p : Int) : H := rz σ b (sdX t i l e p)
theorem srd_ok {σ : H} {b : Nat} (D : b < σ.length) {X : Blk} (h : H.ok (rz σ b X)) (t : List Tok) (i : Int) (l : List OpT) (e p : Int) : H.ok (srd σ b t i l e p) :=
  rz_ok D h (fun cs tg hc x hx => by
    unfold sdX at hc
    injection hc with hc _
    subst hc
    simp only [List.mem_cons, List.not_mem_nil, or_false] at hx
    rcases hx with rfl | rfl | rfl | rfl | rfl <;> exact .c _)
attribute [local go_sem] sdX rz_len rz_g0 rz_g rz_s0 rz_s rz_sb
theorem sr_tok (w0 : World) (t : List Tok) (hT : TEnd t) (i : Nat) (hi : i ≤ 1000000) (l : List OpT) (e p : Int) (σ : H) (b : Nat) (D : b < σ.length) :
    DC Tryz.prog w0 98 [.ptr b 0] (srd σ b t i l e p) (Same (tokL t i).v (srd σ b t i l e p)) := by
  refine go98 rfl (fun hok hsz => ?_)
  have hp := hT.pos
  have hle := hT.le
  have hw2 : IntKind.i64.wrap ((t.length : Int) - 1) = ((t.length - 1 : Nat) : Int) := by rw [wrap_in] <;> omega
  have hmn : (if ((t.length - 1 : Nat) : Int) < (i : Int) then ((t.length - 1 : Nat) : Int) else (i : Int)) = ((min i (t.length - 1) : Nat) : Int) := by
    split <;> omega
  have hlt : ((min i (t.length - 1) : Nat) : Int) < (t.length : Int) := by omega
  have hx := hT.tok i
  ((first | refine W.advO 5000 _ _ ?_ | skip); simp only [go_sem, seval, ↓reduceIte, reduceCtorEq, c98, rz_b D, rz_bL D, rz_sbL D, rz_app D])
  (apply W.dregE (List.cons_ne_nil _ _); case hc => ((apply CanonE.advPO; simp only [advPO_nil, advPO_loud, advPO_quiet, pL_yes, pL_no, pLS_some, pLS_none, pQ_yes, pQ_no, pQS_some, pQS_loud, eq_self, Nat.sub_zero, go_sem, seval, ↓reduceIte, reduceCtorEq, rz_b D, rz_bL D, rz_sbL D, rz_app D, hw2, hmn, nat0, hlt, hx]); exact CanonE.nil))
  ((first | refine W.advO 5000 _ _ ?_ | skip); simp only [go_sem, seval, ↓reduceIte, reduceCtorEq, rz_b D, rz_bL D, rz_sbL D, rz_app D])
  (refine W.ret (Fin.sameW (hok) (by (first | rfl | exact List.length_set .. | simp)) (by simp only [resEval, r98, go_sem, seval, ↓reduceIte, reduceCtorEq, rz_b D, rz_bL D, rz_sbL D, rz_app D]; rfl) ?_ (by (first | exact .c _ | (simp only [I, S, B, opsC, toksC, Pre.v, Tok.v, OpT.v, low_c, low_void, low_any, low_csl, low_nilf, low_ptr, low_osl, low_agg, low_tup, low_fn, List.forall_mem_cons, List.not_mem_nil, false_implies, implies_true, and_self, and_true, true_and, rz_b D, rz_bL D, rz_sbL D, rz_app D]; done))) (by (first | rfl | exact (List.append_nil _).symm))); simp only [resV, rz_b D, rz_bL D, rz_sbL D, rz_app D]; try exact V.wk.rfl _)
  (repeat' (first | exact V.wk.rfl _ | exact V.wk.csl _ | exact V.wk.osl _ _ | exact wk_agg_nil | exact wk_tup_nil | refine wk_agg_cons ?_ ?_ | refine wk_tup_cons ?_ ?_))
theorem sr_fail (w0 : World) (t : List Tok) (i : Int) (l : List OpT) (e p e' p' : Int) (σ : H) (b : Nat) (D : b < σ.length) :
    DC Tryz.prog w0 203 [.ptr b 0, I e', I p'] (srd σ b t i l e p) (Same (.tup []) (srd σ b t i l (if e = 0 then e' else e) (if e = 0 then p' else p))) := by
  refine go203 rfl (fun hok hsz => ?_)
  by_cases he : e = 0
  · subst he
    ((first | refine W.advO 5000 _ _ ?_ | skip); simp only [go_sem, seval, ↓reduceIte, reduceCtorEq, c203, rz_b D, rz_bL D, rz_sbL D, rz_app D])
    refine W.yes rfl ?_
    ((first | refine W.advO 5000 _ _ ?_ | skip); simp only [go_sem, seval, ↓reduceIte, reduceCtorEq, rz_b D, rz_bL D, rz_sbL D, rz_app D])
    (refine W.done (Fin.sameW (srd_ok D hok t i l e' p') (by (first | rfl | exact List.length_set .. | simp)) (by simp only [resEval, r203, go_sem, seval, ↓reduceIte, reduceCtorEq]; rfl) ?_ (by (first | exact .c _ | (simp only [I, S, B, opsC, toksC, Pre.v, Tok.v, OpT.v, low_c, low_void, low_any, low_csl, low_nilf, low_ptr, low_osl, low_agg, low_tup, low_fn, List.forall_mem_cons, List.not_mem_nil, false_implies, implies_true, and_self, and_true, true_and]; done))) (by (first | rfl | exact (List.append_nil _).symm))); simp only [resV]; try exact V.wk.rfl _)
  · have he' : (e == 0) = false := by simpa using he
    ((first | refine W.advO 5000 _ _ ?_ | skip); simp only [go_sem, seval, ↓reduceIte, reduceCtorEq, c203, rz_b D, rz_bL D, rz_sbL D, rz_app D, he'])
    refine W.no rfl ?_
    ((first | refine W.advO 5000 _ _ ?_ | skip); simp only [go_sem, seval, ↓reduceIte, reduceCtorEq])
    rw [if_neg he, if_neg he]
    (refine W.done (Fin.sameW (hok) (by (first | rfl | exact List.length_set .. | simp)) (by simp only [resEval, r203, go_sem, seval, ↓reduceIte, reduceCtorEq]; rfl) ?_ (by (first | exact .c _ | (simp only [I, S, B, opsC, toksC, Pre.v, Tok.v, OpT.v, low_c, low_void, low_any, low_csl, low_nilf, low_ptr, low_osl, low_agg, low_tup, low_fn, List.forall_mem_cons, List.not_mem_nil, false_implies, implies_true, and_self, and_true, true_and]; done))) (by (first | rfl | exact (List.append_nil _).symm))); simp only [resV]; try exact V.wk.rfl _)
def isHere (k : Int) (s : Str) (x : Tok) : Bool := x.kind == k && x.text == s
theorem sr_is (w0 : World) (t : List Tok) (hT : TEnd t) (i : Nat) (hi : i ≤ 1000000) (l : List OpT) (e p : Int) (k : Int) (s : Str) (σ : H) (b : Nat) (D : b < σ.length) :
    DC Tryz.prog w0 202 [.ptr b 0, I k, S s] (srd σ b t i l e p) (Same (B (isHere k s (tokL t i))) (srd σ b t ((if isHere k s (tokL t i) = true then i + 1 else i : Nat) : Int) l e p)) := by
  refine go202 rfl (fun hok hsz => ?_)
  have hw : IntKind.i64.wrap ((i : Int) + 1) = ((i + 1 : Nat) : Int) := by rw [wrap_in] <;> omega
  unfold isHere
  ((first | refine W.advO 5000 _ _ ?_ | skip); simp only [go_sem, seval, ↓reduceIte, reduceCtorEq, c202, rz_b D, rz_bL D, rz_sbL D, rz_app D])
  cases h1 : ((tokL t i).kind == k) <;> cases h2 : ((tokL t i).text == s)
  all_goals
    (refine W.call1 (sr_tok w0 t hT i hi l e p _ b D) rfl rfl (by first | rfl | simp) ?_; refine W.advO 5000 _ _ ?_; simp only [go_sem, seval, ↓reduceIte, reduceCtorEq, rz_b D, rz_bL D, rz_sbL D, rz_app D, h1, h2])
    first
      | (refine W.yes rfl ?_
         ((first | refine W.advO 5000 _ _ ?_ | skip); simp only [go_sem, seval, ↓reduceIte, reduceCtorEq, rz_b D, rz_bL D, rz_sbL D, rz_app D, hw])
         (refine W.ret (Fin.sameW (srd_ok D hok t ((i + 1 : Nat) : Int) l e p) (by (first | rfl | exact List.length_set .. | simp)) (by simp only [resEval, r202, go_sem, seval, ↓reduceIte, reduceCtorEq, rz_b D, rz_bL D, rz_sbL D, rz_app D]; rfl) ?_ (by (first | exact .c _ | (simp only [I, S, B, opsC, toksC, Pre.v, Tok.v, OpT.v, low_c, low_void, low_any, low_csl, low_nilf, low_ptr, low_osl, low_agg, low_tup, low_fn, List.forall_mem_cons, List.not_mem_nil, false_implies, implies_true, and_self, and_true, true_and, rz_b D, rz_bL D, rz_sbL D, rz_app D]; done))) (by (first | rfl | exact (List.append_nil _).symm))); simp only [resV, rz_b D, rz_bL D, rz_sbL D, rz_app D]; try exact V.wk.rfl _))
      | (refine W.no rfl ?_
         ((first | refine W.advO 5000 _ _ ?_ | skip); simp only [go_sem, seval, ↓reduceIte, reduceCtorEq, rz_b D, rz_bL D, rz_sbL D, rz_app D])
         (refine W.ret (Fin.sameW (srd_ok D hok t (i : Int) l e p) (by (first | rfl | exact List.length_set .. | simp)) (by simp only [resEval, r202, go_sem, seval, ↓reduceIte, reduceCtorEq, rz_b D, rz_bL D, rz_sbL D, rz_app D]; rfl) ?_ (by (first | exact .c _ | (simp only [I, S, B, opsC, toksC, Pre.v, Tok.v, OpT.v, low_c, low_void, low_any, low_csl, low_nilf, low_ptr, low_osl, low_agg, low_tup, low_fn, List.forall_mem_cons, List.not_mem_nil, false_implies, implies_true, and_self, and_true, true_and, rz_b D, rz_bL D, rz_sbL D, rz_app D]; done))) (by (first | rfl | exact (List.append_nil _).symm))); simp only [resV, rz_b D, rz_bL D, rz_sbL D, rz_app D]; try exact V.wk.rfl _))
theorem sr_take (w0 : World) (t : List Tok) (hT : TEnd t) (i : Nat) (hi : i ≤ 1000000) (l : List OpT) (e p e' : Int) (ks : List Int) (σ : H) (b : Nat) (D : b < σ.length) :
    DC Tryz.prog w0 204 [.ptr b 0, I e', .c (.sl (ks.map fun k => [C.int .i64 k]))] (srd σ b t i l e p)
      (Same (tokL t i).v (srd σ b t ((i + 1 : Nat) : Int) l (if ks.contains (tokL t i).kind = true then e else if e = 0 then e' else e) (if ks.contains (tokL t i).kind = true then p else if e = 0 then (tokL t i).pos else p))) := by
  refine go204 rfl (fun hok hsz => ?_)
  have hw : IntKind.i64.wrap ((i : Int) + 1) = ((i + 1 : Nat) : Int) := by rw [wrap_in] <;> omega
  ((first | refine W.advO 5000 _ _ ?_ | skip); simp only [go_sem, seval, ↓reduceIte, reduceCtorEq, c204, rz_b D, rz_bL D, rz_sbL D, rz_app D])
  (refine W.call1 (DC.lift1 D (fun D' => sr_tok w0 t hT i hi l e p _ b D')) rfl rfl (by first | rfl | simp) ?_; refine W.advO 5000 _ _ ?_; simp only [go_sem, seval, ↓reduceIte, reduceCtorEq, rz_b D, rz_bL D, rz_sbL D, rz_app D])
  cases hc : ks.contains (tokL t i).kind
  · (refine W.call1 (kind_contains w0 ks (tokL t i).kind _) rfl rfl (by first | rfl | simp) ?_; refine W.advO 5000 _ _ ?_; simp only [go_sem, seval, ↓reduceIte, reduceCtorEq, hc, rz_b D, rz_bL D, rz_sbL D, rz_app D])
    refine W.yes rfl ?_
    ((first | refine W.advO 5000 _ _ ?_ | skip); simp only [go_sem, seval, ↓reduceIte, reduceCtorEq, rz_b D, rz_bL D, rz_sbL D, rz_app D])
    (refine W.call1 (DC.lift1 D (fun D' => sr_fail w0 t i l e p e' (tokL t i).pos _ b D')) rfl rfl (by first | rfl | simp) ?_; refine W.advO 5000 _ _ ?_; simp only [go_sem, seval, ↓reduceIte, reduceCtorEq, rz_b D, rz_bL D, rz_sbL D, rz_app D, hw])
    try simp only [Bool.false_eq_true, if_false]
    (refine W.ret (Fin.gen (d := (tokL t i).v) (srd_ok D hok t ((i + 1 : Nat) : Int) l (if e = 0 then e' else e) (if e = 0 then (tokL t i).pos else p)) (by (first | rfl | exact List.length_set .. | simp)) (by simp only [resEval, r204, go_sem, seval, ↓reduceIte, reduceCtorEq]; rfl) (by simp only [resV, I, S, B, Pre.v, OpT.v, Tok.v, k_mk, name_mk, n_mk, l_mk, pos_mk, Pre.app, List.map_cons, List.map_nil, Pre.cs_eq]; (repeat' (first | exact V.wk.rfl _ | exact V.wk.csl _ | exact V.wk.osl _ _ | exact wk_agg_nil | exact wk_tup_nil | refine wk_agg_cons ?_ ?_ | refine wk_tup_cons ?_ ?_))) (by (first | exact .c _ | (simp only [I, S, B, opsC, toksC, Pre.v, Tok.v, OpT.v, low_c, low_void, low_any, low_csl, low_nilf, low_ptr, low_osl, low_agg, low_tup, low_fn, List.forall_mem_cons, List.not_mem_nil, false_implies, implies_true, and_self, and_true, true_and]; done))) (by (first | rfl | exact (List.append_nil _).symm)) ?_))
    exact ⟨rfl, rfl⟩
  · (refine W.call1 (kind_contains w0 ks (tokL t i).kind _) rfl rfl (by first | rfl | simp) ?_; refine W.advO 5000 _ _ ?_; simp only [go_sem, seval, ↓reduceIte, reduceCtorEq, hc, rz_b D, rz_bL D, rz_sbL D, rz_app D])
    refine W.no rfl ?_
    ((first | refine W.advO 5000 _ _ ?_ | skip); simp only [go_sem, seval, ↓reduceIte, reduceCtorEq, rz_b D, rz_bL D, rz_sbL D, rz_app D, hw])
    try simp only [if_true]
    (refine W.ret (Fin.gen (d := (tokL t i).v) (srd_ok D hok t ((i + 1 : Nat) : Int) l e p) (by (first | rfl | exact List.length_set .. | simp)) (by simp only [resEval, r204, go_sem, seval, ↓reduceIte, reduceCtorEq]; rfl) (by simp only [resV, I, S, B, Pre.v, OpT.v, Tok.v, k_mk, name_mk, n_mk, l_mk, pos_mk, Pre.app, List.map_cons, List.map_nil, Pre.cs_eq]; (repeat' (first | exact V.wk.rfl _ | exact V.wk.csl _ | exact V.wk.osl _ _ | exact wk_agg_nil | exact wk_tup_nil | refine wk_agg_cons ?_ ?_ | refine wk_tup_cons ?_ ?_))) (by (first | exact .c _ | (simp only [I, S, B, opsC, toksC, Pre.v, Tok.v, OpT.v, low_c, low_void, low_any, low_csl, low_nilf, low_ptr, low_osl, low_agg, low_tup, low_fn, List.forall_mem_cons, List.not_mem_nil, false_implies, implies_true, and_self, and_true, true_and]; done))) (by (first | rfl | exact (List.append_nil _).symm)) ?_))
    exact ⟨rfl, rfl⟩
theorem source_texts (w0 : World) (l : List Tok) (hl : l.length ≤ 1000000) (σ : H) : DC Tryz.prog w0 200 [.c (toksC l)] σ (Same (.c (strsC (l.map (·.text)))) σ) := by
  refine go200 rfl (fun hok hsz => ?_)
  ((first | refine W.advO 5000 _ _ ?_ | skip); simp only [go_sem, seval, ↓reduceIte, reduceCtorEq, c200])
  refine W.own 3 9 1 rfl ?_
  refine W.loopP (fun i => i ≤ l.length) (fun i => ⟨(((((base.put (some 0) (.c (toksC l))).put (some 3) (.osl σ.length (((l.take i).map (·.text)).map fun s => [C.str s]))).put (some 6) (.c (toksC l))).put (some 7) (I l.length)).put (some 8) (I (i : Nat))), σ ++ [.spare 9 1 i]⟩) (fun i => l.length - i) 0 (Nat.zero_le _) ?_ (fun i hi => ?_)
  · (refine Lew.env ?_; (repeat' (first | exact LeE.base _ | (refine LeE.put ?_ (by first | exact V.wk.rfl _ | exact V.wk.osl _ _ | exact V.wk.csl _)))))
  · by_cases hlt : i < l.length
    · have h1 : ((i : Int) < (l.length : Int)) := by omega
      have hx : l[i]? = some l[i] := List.getElem?_eq_getElem hlt
      have hll : (l.take i).length = i := by simp; omega
      have hmin : min i l.length = i := by omega
      have hb1 : (i + 1) * 16 ≤ 140737488355328 := by omega
      have hb2 : i + 1 ≤ 140737488355328 := by omega
      have hta : l.take (i + 1) = l.take i ++ [l[i]] := by rw [List.take_add_one, hx]; rfl
      have hw : IntKind.i64.wrap ((i : Int) + 1) = ((i + 1 : Nat) : Int) := by rw [wrap_in] <;> omega
      ((first | refine W.advO 5000 _ _ ?_ | skip); simp only [go_sem, seval, ↓reduceIte, reduceCtorEq, h1])
      refine W.yes rfl ?_
      ((first | refine W.advO 5000 _ _ ?_ | skip); simp only [go_sem, seval, ↓reduceIte, reduceCtorEq, h1, nat0, hx, hll, hb1, hb2, eq_self, hw])
      refine .inv ⟨i + 1, hlt, by omega, ?_⟩
      simp only [go_sem, seval, ↓reduceIte, reduceCtorEq, hta, List.map_append]
      (refine Lew.cutL (hok) ?_ (by simp) (by simp) ?_ ?_ ?_; (repeat' (first | exact LeE.base _ | (refine LeE.put ?_ (by first | exact V.wk.rfl _ | exact V.wk.osl _ _ | exact V.wk.csl _)))); ((try simp only [List.length_cons, List.length_nil, List.length_set, List.length_append, Nat.reduceAdd, List.take_succ_cons, List.take_zero, okB, wkB, I, S, B, opsC, toksC, Pre.v, Tok.v, OpT.v, low_c, low_void, low_any, low_csl, low_nilf, low_ptr, low_osl, low_agg, low_tup, low_fn, List.forall_mem_cons, List.not_mem_nil, false_implies, implies_true, and_self, and_true, true_and]) <;> omega); (simp only [List.length_cons, List.length_nil, Nat.reduceAdd, List.take_succ_cons, List.take_zero, wkB, and_true]; (repeat' (refine And.intro ?_ ?_)) <;> (first | exact Blk.wk.rfl _ | (refine Blk.wk_cells ?_ rfl; (repeat' (first | exact V.wk.rfl _ | exact V.wk.csl _ | exact V.wk.osl _ _ | exact wk_agg_nil | exact wk_tup_nil | refine wk_agg_cons ?_ ?_ | refine wk_tup_cons ?_ ?_))))); (repeat' (first | exact LowE.base _ | (refine LowE.put ?_ (by first | exact .c _ | ((try simp only [List.length_cons, List.length_nil, List.length_set, List.length_append, Nat.reduceAdd, List.take_succ_cons, List.take_zero, okB, wkB, I, S, B, opsC, toksC, Pre.v, Tok.v, OpT.v, low_c, low_void, low_any, low_csl, low_nilf, low_ptr, low_osl, low_agg, low_tup, low_fn, List.forall_mem_cons, List.not_mem_nil, false_implies, implies_true, and_self, and_true, true_and]) <;> omega))))))
    · have h1 : ¬ ((i : Int) < (l.length : Int)) := by omega
      have hi' : i = l.length := by omega
      subst hi'
      ((first | refine W.advO 5000 _ _ ?_ | skip); simp only [go_sem, seval, ↓reduceIte, reduceCtorEq, h1])
      refine W.no rfl ?_
      ((first | refine W.advO 5000 _ _ ?_ | skip); simp only [go_sem, seval, ↓reduceIte, reduceCtorEq, List.take_length])
      (refine W.ret (Fin.sameW (hok) (by (first | rfl | exact List.length_set .. | simp)) (by simp only [resEval, r200, go_sem, seval, ↓reduceIte, reduceCtorEq, strsC]; rfl) ?_ (by (first | exact .c _ | (simp only [I, S, B, opsC, toksC, Pre.v, Tok.v, OpT.v, low_c, low_void, low_any, low_csl, low_nilf, low_ptr, low_osl, low_agg, low_tup, low_fn, List.forall_mem_cons, List.not_mem_nil, false_implies, implies_true, and_self, and_true, true_and, strsC]; done))) (by (first | rfl | exact (List.append_nil _).symm))); simp only [resV, strsC]; try exact V.wk.rfl _)
      (repeat' (first | exact V.wk.rfl _ | exact V.wk.csl _ | exact V.wk.osl _ _ | exact wk_agg_nil | exact wk_tup_nil | refine wk_agg_cons ?_ ?_ | refine wk_tup_cons ?_ ?_))
end
section
attribute [local go_sem] sdX rz_len rz_g0 rz_g rz_s0 rz_s rz_sb

def kindsR (s : Bool) : List Int := if s then [1, 4] else [1]
theorem kinds_has (s : Bool) (x : Tok) : (kindsR s).contains x.kind = nameHere s x := by
  unfold kindsR nameHere
  cases s
  · simp only [List.contains_cons, List.contains_nil, Bool.or_false, Bool.false_and, Bool.false_eq_true, if_false]
  · simp only [if_true, List.contains_cons, List.contains_nil, Bool.or_false, Bool.true_and]
structure NameSt where
  acc : List Tok
  i : Nat
  e : Int
  p : Int
def RNames (t : List Tok) (l : List OpT) (σ : H) (b : Nat) (r : Except Bad (List Tok × Nat)) : V → H → Prop := fun d σ' => match r with
  | .ok (ns, j) => d = .c (toksC ns) ∧ σ' = srd σ b t (j : Nat) l 0 0
  | .error x => (x.e == 0) = false ∧ ∃ (ns : List Tok) (j : Nat), ns.length ≤ 1000000 ∧ j ≤ 1000000 ∧ d = .c (toksC ns) ∧ σ' = srd σ b t (j : Nat) l x.e x.pos
theorem sr_names (w0 : World) (t : List Tok) (hT : TEnd t) (s : Bool) (i : Nat) (hi : i ≤ t.length) (l : List OpT) (σ : H) (b : Nat) (D : b < σ.length) :
    DC Tryz.prog w0 201 [.ptr b 0, .c (.sl ((kindsR s).map fun k => [C.int .i64 k]))] (srd σ b t i l 0 0) (RNames t l σ b (namesS t s i [])) := by
  refine go201 rfl (fun hok hsz => ?_)
  have hle := hT.le
  have hinv0 : ∀ (k : Nat) (acc : List Tok), k ≤ t.length → ((nameHere s (tokL t k) = true ∧ k < t.length ∧ namesS t s k acc = (if commaHere (tokL t (k + 1)) = true then namesS t s (k + 2) (acc ++ [tokL t k]) else .ok (acc ++ [tokL t k], k + 1))) ∨ (nameHere s (tokL t k) = false ∧ namesS t s k acc = .error ⟨100, (tokL t k).pos⟩)) := fun k acc _ => by
    rw [namesS_eq]
    cases hn : nameHere s (tokL t k)
    · right; exact ⟨rfl, by rw [if_neg (by decide)]⟩
    · left
      refine ⟨rfl, tokL_lt fun e => ?_, by rw [if_pos rfl]⟩
      rw [nameHere, e] at hn
      simp at hn
  generalize hr : namesS t s i [] = r
  ((first | refine W.advO 5000 _ _ ?_ | skip); simp only [go_sem, seval, ↓reduceIte, reduceCtorEq, c201, rz_b D, rz_bL D, rz_sbL D, rz_app D])
  (refine W.call1 (sr_take w0 t hT i (by omega) l 0 0 100 (kindsR s) σ b D) rfl rfl (by first | rfl | simp) ?_; refine W.advO 5000 _ _ ?_; simp only [go_sem, seval, ↓reduceIte, reduceCtorEq, kinds_has, rz_b D, rz_bL D, rz_sbL D, rz_app D])
  let I0 : NameSt → Prop := fun x => x.acc ≠ [] ∧ x.acc.length ≤ x.i ∧ x.i ≤ t.length + 3 ∧ ((x.e = 0 ∧ x.p = 0 ∧ x.i ≤ t.length ∧ r = (if commaHere (tokL t x.i) = true then namesS t s (x.i + 1) x.acc else .ok (x.acc, x.i))) ∨ ((x.e == 0) = false ∧ r = .error ⟨x.e, x.p⟩))
  have hx0 : ∃ x0 : NameSt, I0 x0 ∧ x0.acc = [tokL t i] ∧ x0.i = i + 1 ∧ (if nameHere s (tokL t i) = true then (0 : Int) else if (0 : Int) = 0 then 100 else 0) = x0.e ∧ (if nameHere s (tokL t i) = true then (0 : Int) else if (0 : Int) = 0 then (tokL t i).pos else 0) = x0.p := by
    rcases hinv0 i [] hi with ⟨h1, h2, h3⟩ | ⟨h1, h2⟩
    · refine ⟨⟨[tokL t i], i + 1, 0, 0⟩, ⟨by simp, by simp, by show i + 1 ≤ t.length + 3; omega, .inl ⟨rfl, rfl, by show i + 1 ≤ t.length; omega, by rw [← hr, h3]; rfl⟩⟩, rfl, rfl, by rw [if_pos h1], by rw [if_pos h1]⟩
    · refine ⟨⟨[tokL t i], i + 1, 100, (tokL t i).pos⟩, ⟨by simp, by simp, by show i + 1 ≤ t.length + 3; omega, .inr ⟨rfl, by rw [← hr, h2]⟩⟩, rfl, rfl, by rw [h1]; rfl, by rw [h1]; rfl⟩
  obtain ⟨x0, hx, ha, hxi, he0, hp0⟩ := hx0
  simp only [if_true] at he0 hp0
  rw [he0, hp0]
  have hcs : [tokL t i].map Tok.cs = x0.acc.map Tok.cs := by rw [ha]
  have hxi' : ((i + 1 : Nat) : Int) = (x0.i : Int) := by rw [hxi]
  rw [hxi']
  refine W.loopP (α := NameSt × Bool) (fun x => I0 x.1) (fun x => ⟨(((base.put (some 0) (.ptr b 0)).put (some 1) (.c (.sl ((kindsR s).map fun k => [C.int .i64 k])))).put (some 5) ((if x.2 then .csl (x.1.acc.map Tok.cs) else .osl σ.length (x.1.acc.map Tok.cs)))), srd σ b t (x.1.i : Nat) l x.1.e x.1.p ++ (if x.2 then [] else [.spare 60 4 x.1.acc.length])⟩) (fun x => t.length + 4 - x.1.i) (x0, true) hx ?_ (fun x hx => ?_)
  · simp only [if_true, ← hcs, List.append_nil]
    simp only [go_sem, seval, ↓reduceIte, reduceCtorEq]
    (refine Lew.env ?_; (repeat' (first | exact LeE.base _ | (refine LeE.put ?_ (by first | exact V.wk.rfl _ | exact V.wk.osl _ _ | exact V.wk.csl _)))))
  · obtain ⟨⟨acc, j, e, p⟩, fl⟩ := x
    obtain ⟨hne, hal, hj, hst⟩ := hx
    simp only at hne hal hj hst
    have hb1 : (acc.length + 1) * 40 ≤ 140737488355328 := by omega
    have hb2 : acc.length + 1 ≤ 140737488355328 := by omega
    have hb3 : ∀ r ∈ acc.map Tok.cs, r.length = 4 := fun r hr => by obtain ⟨o, _, rfl⟩ := List.mem_map.1 hr; rfl
    have hcn : isHere 4 [44] (tokL t j) = commaHere (tokL t j) := rfl
    rcases hst with ⟨rfl, rfl, hjl, hr'⟩ | ⟨he, hr'⟩
    · cases hc : commaHere (tokL t j)
      · rw [hc, if_neg (by decide)] at hr'
        subst hr'
        cases fl
        all_goals
          ((first | refine W.advO 5000 _ _ ?_ | skip); simp only [go_sem, seval, ↓reduceIte, reduceCtorEq, rz_b D, rz_bL D, rz_sbL D, rz_app D, if_true, if_false, Bool.false_eq_true])
          first
            | ((refine W.call1 (DC.lift1 D (fun D' => sr_is w0 t hT j (by omega) l 0 0 4 [44] _ b D')) rfl rfl (by first | rfl | simp) ?_; refine W.advO 5000 _ _ ?_; simp only [go_sem, seval, ↓reduceIte, reduceCtorEq, rz_b D, rz_bL D, rz_sbL D, rz_app D, hcn, hc]))
            | ((refine W.call1 (sr_is w0 t hT j (by omega) l 0 0 4 [44] σ b D) rfl rfl (by first | rfl | simp) ?_; refine W.advO 5000 _ _ ?_; simp only [go_sem, seval, ↓reduceIte, reduceCtorEq, rz_b D, rz_bL D, rz_sbL D, rz_app D, hcn, hc]))
          refine W.no rfl ?_
          ((first | refine W.advO 5000 _ _ ?_ | skip); simp only [go_sem, seval, ↓reduceIte, reduceCtorEq, rz_b D, rz_bL D, rz_sbL D, rz_app D])
          (refine W.ret (Fin.gen (d := .c (toksC acc)) (srd_ok D hok t (j : Nat) l 0 0) (by (first | rfl | exact List.length_set .. | simp)) (by simp only [resEval, r201, go_sem, seval, ↓reduceIte, reduceCtorEq]; rfl) (by simp only [resV, I, S, B, Pre.v, OpT.v, Tok.v, k_mk, name_mk, n_mk, l_mk, pos_mk, Pre.app, List.map_cons, List.map_nil, Pre.cs_eq]; (repeat' (first | exact V.wk.rfl _ | exact V.wk.csl _ | exact V.wk.osl _ _ | exact wk_agg_nil | exact wk_tup_nil | refine wk_agg_cons ?_ ?_ | refine wk_tup_cons ?_ ?_))) (by (first | exact .c _ | (simp only [I, S, B, opsC, toksC, Pre.v, Tok.v, OpT.v, low_c, low_void, low_any, low_csl, low_nilf, low_ptr, low_osl, low_agg, low_tup, low_fn, List.forall_mem_cons, List.not_mem_nil, false_implies, implies_true, and_self, and_true, true_and]; done))) (by (first | rfl | exact (List.append_nil _).symm)) ?_))
          exact ⟨rfl, rfl⟩
      · rw [hc, if_pos rfl] at hr'
        have hjt : j < t.length := tokL_lt fun e => by rw [commaHere, e] at hc; simp at hc
        have hI : I0 ⟨acc ++ [tokL t (j + 1)], j + 2, (if nameHere s (tokL t (j + 1)) = true then (0 : Int) else 100), (if nameHere s (tokL t (j + 1)) = true then (0 : Int) else (tokL t (j + 1)).pos)⟩ := by
          refine ⟨by simp, by simp; omega, by show j + 2 ≤ t.length + 3; omega, ?_⟩
          rcases hinv0 (j + 1) acc (by omega) with ⟨h1, h2, h3⟩ | ⟨h1, h2⟩
          · left
            simp only [h1, if_true]
            exact ⟨trivial, trivial, by omega, by rw [hr', h3]⟩
          · right
            simp only [h1, Bool.false_eq_true, if_false]
            exact ⟨rfl, by rw [hr', h2]⟩
        cases fl
        · ((first | refine W.advO 5000 _ _ ?_ | skip); simp only [go_sem, seval, ↓reduceIte, reduceCtorEq, rz_b D, rz_bL D, rz_sbL D, rz_app D, if_true, if_false, Bool.false_eq_true])
          (refine W.call1 (DC.lift1 D (fun D' => sr_is w0 t hT j (by omega) l 0 0 4 [44] _ b D')) rfl rfl (by first | rfl | simp) ?_; refine W.advO 5000 _ _ ?_; simp only [go_sem, seval, ↓reduceIte, reduceCtorEq, rz_b D, rz_bL D, rz_sbL D, rz_app D, hcn, hc])
          refine W.yes rfl ?_
          ((first | refine W.advO 5000 _ _ ?_ | skip); simp only [go_sem, seval, ↓reduceIte, reduceCtorEq, rz_b D, rz_bL D, rz_sbL D, rz_app D])
          (refine W.call1 (DC.lift1 D (fun D' => sr_take w0 t hT (j + 1) (by omega) l 0 0 100 (kindsR s) _ b D')) rfl rfl (by first | rfl | simp) ?_; refine W.advO 5000 _ _ ?_; simp only [go_sem, seval, ↓reduceIte, reduceCtorEq, kinds_has, rz_b D, rz_bL D, rz_sbL D, rz_app D, hb1, hb2, if_true])
          refine .inv ⟨(⟨acc ++ [tokL t (j + 1)], j + 2, _, _⟩, false), hI, by simp; omega, ?_⟩
          simp only [go_sem, seval, ↓reduceIte, reduceCtorEq, List.map_append, List.length_append, if_true, if_false, Bool.false_eq_true]
          (refine Lew.env ?_; (repeat' (first | exact LeE.base _ | (refine LeE.put ?_ (by first | exact V.wk.rfl _ | exact V.wk.osl _ _ | exact V.wk.csl _)))))
        · ((first | refine W.advO 5000 _ _ ?_ | skip); simp only [go_sem, seval, ↓reduceIte, reduceCtorEq, rz_b D, rz_bL D, rz_sbL D, rz_app D, if_true, if_false, Bool.false_eq_true])
          (refine W.call1 (sr_is w0 t hT j (by omega) l 0 0 4 [44] σ b D) rfl rfl (by first | rfl | simp) ?_; refine W.advO 5000 _ _ ?_; simp only [go_sem, seval, ↓reduceIte, reduceCtorEq, rz_b D, rz_bL D, rz_sbL D, rz_app D, hcn, hc])
          refine W.yes rfl ?_
          ((first | refine W.advO 5000 _ _ ?_ | skip); simp only [go_sem, seval, ↓reduceIte, reduceCtorEq, rz_b D, rz_bL D, rz_sbL D, rz_app D])
          (refine W.call1 (sr_take w0 t hT (j + 1) (by omega) l 0 0 100 (kindsR s) σ b D) rfl rfl (by first | rfl | simp) ?_; refine W.advO 5000 _ _ ?_; simp only [go_sem, seval, ↓reduceIte, reduceCtorEq, kinds_has, rz_b D, rz_bL D, rz_sbL D, rz_app D, hb1, hb2, if_true, eq_true hb3, ne_eq, List.cons_ne_nil, not_false_eq_true, or_true])
          --STOP
          refine .inv ⟨(⟨acc ++ [tokL t (j + 1)], j + 2, _, _⟩, false), hI, by simp; omega, ?_⟩
          simp only [go_sem, seval, ↓reduceIte, reduceCtorEq, List.map_append, List.length_append, if_true, if_false, Bool.false_eq_true]
          (refine Lew.env ?_; (repeat' (first | exact LeE.base _ | (refine LeE.put ?_ (by first | exact V.wk.rfl _ | exact V.wk.osl _ _ | exact V.wk.csl _)))))
    · subst hr'
      cases fl
      all_goals
        ((first | refine W.advO 5000 _ _ ?_ | skip); simp only [go_sem, seval, ↓reduceIte, reduceCtorEq, rz_b D, rz_bL D, rz_sbL D, rz_app D, if_true, if_false, Bool.false_eq_true, he])
        refine W.no rfl ?_
        ((first | refine W.advO 5000 _ _ ?_ | skip); simp only [go_sem, seval, ↓reduceIte, reduceCtorEq, rz_b D, rz_bL D, rz_sbL D, rz_app D])
        (refine W.ret (Fin.gen (d := .c (toksC acc)) (srd_ok D hok t (j : Nat) l e p) (by (first | rfl | exact List.length_set .. | simp)) (by simp only [resEval, r201, go_sem, seval, ↓reduceIte, reduceCtorEq]; rfl) (by simp only [resV, I, S, B, Pre.v, OpT.v, Tok.v, k_mk, name_mk, n_mk, l_mk, pos_mk, Pre.app, List.map_cons, List.map_nil, Pre.cs_eq]; (repeat' (first | exact V.wk.rfl _ | exact V.wk.csl _ | exact V.wk.osl _ _ | exact wk_agg_nil | exact wk_tup_nil | refine wk_agg_cons ?_ ?_ | refine wk_tup_cons ?_ ?_))) (by (first | exact .c _ | (simp only [I, S, B, opsC, toksC, Pre.v, Tok.v, OpT.v, low_c, low_void, low_any, low_csl, low_nilf, low_ptr, low_osl, low_agg, low_tup, low_fn, List.forall_mem_cons, List.not_mem_nil, false_implies, implies_true, and_self, and_true, true_and]; done))) (by (first | rfl | exact (List.append_nil _).symm)) ?_))
        exact ⟨he, acc, j, by omega, by omega, rfl, rfl⟩
end
section

theorem read_operator (w0 : World) (l : List OpT) (t : List Tok) (i : Nat) (x : Tok) (σ : H) (b : Nat) (hb : σ[b]? = some (rdr l t i)) :
    DC Tryz.prog w0 216 [.ptr b 0, x.v] σ (Same (foundV (opOf l x)) σ) := by
  have hlt := (List.getElem?_eq_some_iff.1 hb).1
  have hg := fun L => hgetb (σ := σ) L hlt
  refine go216 rfl (fun hok hsz => ?_)
  rw [rdr] at hb
  ((first | refine W.advO 5000 _ _ ?_ | skip); simp only [go_sem, seval, ↓reduceIte, reduceCtorEq, c216, hg, hb])
  apply W.dregE (List.cons_ne_nil _ _)
  case hc =>
    (apply CanonE.advPO; simp only [advPO_nil, advPO_loud, advPO_quiet, pL_yes, pL_no, pLS_some, pLS_none, pQ_yes, pQ_no, pQS_some, pQS_loud, eq_self, Nat.sub_zero, go_sem, seval, ↓reduceIte, reduceCtorEq, hg, hb])
    (apply CanonE.call (ops_Is w0 l x _); (case hg => rfl); (case hf => rfl); (case ha => first | rfl | simp))
    (apply CanonE.advPO; simp only [advPO_nil, advPO_loud, advPO_quiet, pL_yes, pL_no, pLS_some, pLS_none, pQ_yes, pQ_no, pQS_some, pQS_loud, eq_self, Nat.sub_zero, go_sem, seval, ↓reduceIte, reduceCtorEq, foundV])
    exact CanonE.nil
  ((first | refine W.advO 5000 _ _ ?_ | skip); simp only [go_sem, seval, ↓reduceIte, reduceCtorEq])
  (refine W.ret (Fin.same hok (by simp only [resEval, r216, go_sem, seval, ↓reduceIte, reduceCtorEq]; rfl) ?_ (by first | exact .c _ | (simp only [I, S, B, opsC, toksC, Pre.v, Tok.v, OpT.v, low_c, low_void, low_any, low_csl, low_nilf, low_ptr, low_osl, low_agg, low_tup, low_fn, List.forall_mem_cons, List.not_mem_nil, false_implies, implies_true, and_self, and_true, true_and, foundV, OpT.v]; done)) (by first | exact ⟨[], (List.append_nil _).symm⟩ | exact ⟨_, rfl⟩)); simp only [resV, foundV, OpT.v])
  rfl
theorem read_begins (w0 : World) (l : List OpT) (t : List Tok) (i : Nat) (σ : H) (b : Nat) (hb : σ[b]? = some (rdr l t i)) (hi : i ≤ 2000000) (ht : t.length ≤ 1000000) :
    DC Tryz.prog w0 253 [.ptr b 0] σ (Same (B (beginsL l (tokL t i))) σ) := by
  have hlt := (List.getElem?_eq_some_iff.1 hb).1
  have hg := fun L => hgetb (σ := σ) L hlt
  refine go253 rfl (fun hok hsz => ?_)
  ((first | refine W.advO 5000 _ _ ?_ | skip); simp only [go_sem, seval, ↓reduceIte, reduceCtorEq, c253])
  (refine W.call1 (read_tok w0 l t i 0 _ b hb (by omega) ht) rfl rfl (by first | rfl | simp) ?_; refine W.advO 5000 _ _ ?_; simp only [go_sem, seval, ↓reduceIte, reduceCtorEq])
  generalize tokL t i = x
  cases h1 : (x.kind == 1)
  · ((first | refine W.advO 5000 _ _ ?_ | skip); simp only [go_sem, seval, ↓reduceIte, reduceCtorEq, h1])
    refine W.no rfl ?_
    cases h4 : (x.kind == 4)
    · have hk : ¬ (x.kind = 1 ∨ x.kind = 4) := by
        simp only [beq_eq_false_iff_ne] at h1 h4
        rintro (h | h)
        · exact h1 h
        · exact h4 h
      ((first | refine W.advO 5000 _ _ ?_ | skip); simp only [go_sem, seval, ↓reduceIte, reduceCtorEq, h4])
      refine W.no rfl ?_
      cases h2 : (x.kind == 2)
      · ((first | refine W.advO 5000 _ _ ?_ | skip); simp only [go_sem, seval, ↓reduceIte, reduceCtorEq, h2])
        refine W.no rfl ?_
        cases h3 : (x.kind == 3)
        · ((first | refine W.advO 5000 _ _ ?_ | skip); simp only [go_sem, seval, ↓reduceIte, reduceCtorEq, h3])
          refine W.no rfl ?_
          cases h5 : (x.kind == 5)
          · ((first | refine W.advO 5000 _ _ ?_ | skip); simp only [go_sem, seval, ↓reduceIte, reduceCtorEq, h5])
            refine W.no rfl ?_
            ((first | refine W.advO 5000 _ _ ?_ | skip); simp only [go_sem, seval, ↓reduceIte, reduceCtorEq])
            (refine W.ret (Fin.same hok (by simp only [resEval, r253, go_sem, seval, ↓reduceIte, reduceCtorEq]; rfl) ?_ (by first | exact .c _ | (simp only [I, S, B, opsC, toksC, Pre.v, Tok.v, OpT.v, low_c, low_void, low_any, low_csl, low_nilf, low_ptr, low_osl, low_agg, low_tup, low_fn, List.forall_mem_cons, List.not_mem_nil, false_implies, implies_true, and_self, and_true, true_and]; done)) (by first | exact ⟨[], (List.append_nil _).symm⟩ | exact ⟨_, rfl⟩)); simp only [resV])
            rw [beginsL, if_neg hk]; simp_all
          · ((first | refine W.advO 5000 _ _ ?_ | skip); simp only [go_sem, seval, ↓reduceIte, reduceCtorEq, h5])
            refine W.yes rfl ?_
            ((first | refine W.advO 5000 _ _ ?_ | skip); simp only [go_sem, seval, ↓reduceIte, reduceCtorEq])
            (refine W.ret (Fin.same hok (by simp only [resEval, r253, go_sem, seval, ↓reduceIte, reduceCtorEq]; rfl) ?_ (by first | exact .c _ | (simp only [I, S, B, opsC, toksC, Pre.v, Tok.v, OpT.v, low_c, low_void, low_any, low_csl, low_nilf, low_ptr, low_osl, low_agg, low_tup, low_fn, List.forall_mem_cons, List.not_mem_nil, false_implies, implies_true, and_self, and_true, true_and]; done)) (by first | exact ⟨[], (List.append_nil _).symm⟩ | exact ⟨_, rfl⟩)); simp only [resV])
            rw [beginsL, if_neg hk]; simp_all
        · ((first | refine W.advO 5000 _ _ ?_ | skip); simp only [go_sem, seval, ↓reduceIte, reduceCtorEq, h3])
          refine W.yes rfl ?_
          ((first | refine W.advO 5000 _ _ ?_ | skip); simp only [go_sem, seval, ↓reduceIte, reduceCtorEq])
          refine W.yes rfl ?_
          ((first | refine W.advO 5000 _ _ ?_ | skip); simp only [go_sem, seval, ↓reduceIte, reduceCtorEq])
          (refine W.ret (Fin.same hok (by simp only [resEval, r253, go_sem, seval, ↓reduceIte, reduceCtorEq]; rfl) ?_ (by first | exact .c _ | (simp only [I, S, B, opsC, toksC, Pre.v, Tok.v, OpT.v, low_c, low_void, low_any, low_csl, low_nilf, low_ptr, low_osl, low_agg, low_tup, low_fn, List.forall_mem_cons, List.not_mem_nil, false_implies, implies_true, and_self, and_true, true_and]; done)) (by first | exact ⟨[], (List.append_nil _).symm⟩ | exact ⟨_, rfl⟩)); simp only [resV])
          rw [beginsL, if_neg hk]; simp_all
      · ((first | refine W.advO 5000 _ _ ?_ | skip); simp only [go_sem, seval, ↓reduceIte, reduceCtorEq, h2])
        refine W.yes rfl ?_
        ((first | refine W.advO 5000 _ _ ?_ | skip); simp only [go_sem, seval, ↓reduceIte, reduceCtorEq])
        refine W.yes rfl ?_
        ((first | refine W.advO 5000 _ _ ?_ | skip); simp only [go_sem, seval, ↓reduceIte, reduceCtorEq])
        (refine W.ret (Fin.same hok (by simp only [resEval, r253, go_sem, seval, ↓reduceIte, reduceCtorEq]; rfl) ?_ (by first | exact .c _ | (simp only [I, S, B, opsC, toksC, Pre.v, Tok.v, OpT.v, low_c, low_void, low_any, low_csl, low_nilf, low_ptr, low_osl, low_agg, low_tup, low_fn, List.forall_mem_cons, List.not_mem_nil, false_implies, implies_true, and_self, and_true, true_and]; done)) (by first | exact ⟨[], (List.append_nil _).symm⟩ | exact ⟨_, rfl⟩)); simp only [resV])
        rw [beginsL, if_neg hk]; simp_all
    · have hk : x.kind = 1 ∨ x.kind = 4 := .inr (by simpa using h4)
      ((first | refine W.advO 5000 _ _ ?_ | skip); simp only [go_sem, seval, ↓reduceIte, reduceCtorEq, h4])
      refine W.yes rfl ?_
      ((first | refine W.advO 5000 _ _ ?_ | skip); simp only [go_sem, seval, ↓reduceIte, reduceCtorEq])
      (refine W.call1 (read_operator w0 l t i x _ b ((hg _).trans hb)) rfl rfl (by first | rfl | simp) ?_; refine W.advO 5000 _ _ ?_; simp only [go_sem, seval, ↓reduceIte, reduceCtorEq, foundV])
      (refine W.ret (Fin.same hok (by simp only [resEval, r253, go_sem, seval, ↓reduceIte, reduceCtorEq]; rfl) ?_ (by first | exact .c _ | (simp only [I, S, B, opsC, toksC, Pre.v, Tok.v, OpT.v, low_c, low_void, low_any, low_csl, low_nilf, low_ptr, low_osl, low_agg, low_tup, low_fn, List.forall_mem_cons, List.not_mem_nil, false_implies, implies_true, and_self, and_true, true_and]; done)) (by first | exact ⟨[], (List.append_nil _).symm⟩ | exact ⟨_, rfl⟩)); simp only [resV])
      rw [beginsL, if_pos hk]; cases opOf l x <;> rfl
  · have hk : x.kind = 1 ∨ x.kind = 4 := .inl (by simpa using h1)
    ((first | refine W.advO 5000 _ _ ?_ | skip); simp only [go_sem, seval, ↓reduceIte, reduceCtorEq, h1])
    refine W.yes rfl ?_
    ((first | refine W.advO 5000 _ _ ?_ | skip); simp only [go_sem, seval, ↓reduceIte, reduceCtorEq])
    refine W.yes rfl ?_
    ((first | refine W.advO 5000 _ _ ?_ | skip); simp only [go_sem, seval, ↓reduceIte, reduceCtorEq])
    (refine W.call1 (read_operator w0 l t i x _ b ((hg _).trans hb)) rfl rfl (by first | rfl | simp) ?_; refine W.advO 5000 _ _ ?_; simp only [go_sem, seval, ↓reduceIte, reduceCtorEq, foundV])
    (refine W.ret (Fin.same hok (by simp only [resEval, r253, go_sem, seval, ↓reduceIte, reduceCtorEq]; rfl) ?_ (by first | exact .c _ | (simp only [I, S, B, opsC, toksC, Pre.v, Tok.v, OpT.v, low_c, low_void, low_any, low_csl, low_nilf, low_ptr, low_osl, low_agg, low_tup, low_fn, List.forall_mem_cons, List.not_mem_nil, false_implies, implies_true, and_self, and_true, true_and]; done)) (by first | exact ⟨[], (List.append_nil _).symm⟩ | exact ⟨_, rfl⟩)); simp only [resV])
    rw [beginsL, if_pos hk]; cases opOf l x <;> rfl
theorem read_lambda (w0 : World) (l : List OpT) (t : List Tok) (i : Nat) (σ : H) (b : Nat) (hb : σ[b]? = some (rdr l t i)) (hi : i ≤ 2000000) (ht : t.length ≤ 1000000) :
    DC Tryz.prog w0 251 [.ptr b 0] σ (Same (B (lamAt t i)) σ) := by
  refine go251 rfl (fun hok hsz => ?_)
  ((first | refine W.advO 5000 _ _ ?_ | skip); simp only [go_sem, seval, ↓reduceIte, reduceCtorEq, c251])
  cases h1 : ((tokL t i).kind == 1) <;> cases h2 : ((tokL t i).kind == 2)
  · (refine W.call1 (read_tok w0 l t i 0 _ b hb (by omega) ht) rfl rfl (by first | rfl | simp) ?_; refine W.advO 5000 _ _ ?_; simp only [go_sem, seval, ↓reduceIte, reduceCtorEq, h1, h2])
    (refine W.ret (Fin.same hok (by simp only [resEval, r251, go_sem, seval, ↓reduceIte, reduceCtorEq]; rfl) ?_ (by first | exact .c _ | (simp only [I, S, B, opsC, toksC, Pre.v, Tok.v, OpT.v, low_c, low_void, low_any, low_csl, low_nilf, low_ptr, low_osl, low_agg, low_tup, low_fn, List.forall_mem_cons, List.not_mem_nil, false_implies, implies_true, and_self, and_true, true_and]; done)) (by first | exact ⟨[], (List.append_nil _).symm⟩ | exact ⟨_, rfl⟩)); simp only [resV])
    first | (simp_all [lamAt]; done) | (simp_all [lamAt]; rfl)
  all_goals
    (refine W.call1 (read_tok w0 l t i 0 _ b hb (by omega) ht) rfl rfl (by first | rfl | simp) ?_; refine W.advO 5000 _ _ ?_; simp only [go_sem, seval, ↓reduceIte, reduceCtorEq, h1, h2])
    (refine W.call1 (read_tok w0 l t i 1 _ b hb (by omega) ht) rfl rfl (by first | rfl | simp) ?_; refine W.advO 5000 _ _ ?_; simp only [go_sem, seval, ↓reduceIte, reduceCtorEq, h1, h2])
    (refine W.ret (Fin.same hok (by simp only [resEval, r251, go_sem, seval, ↓reduceIte, reduceCtorEq]; rfl) ?_ (by first | exact .c _ | (simp only [I, S, B, opsC, toksC, Pre.v, Tok.v, OpT.v, low_c, low_void, low_any, low_csl, low_nilf, low_ptr, low_osl, low_agg, low_tup, low_fn, List.forall_mem_cons, List.not_mem_nil, false_implies, implies_true, and_self, and_true, true_and]; done)) (by first | exact ⟨[], (List.append_nil _).symm⟩ | exact ⟨_, rfl⟩)); simp only [resV])
    first | (simp_all [lamAt]; done) | (simp_all [lamAt]; rfl)
theorem wrong_ok (w0 : World) (e p : Int) (σ : H) : DC Tryz.prog w0 174 [.agg [I e, I p]] σ (Same (B (e == 0)) σ) := by
  refine go174 rfl (fun hok hsz => ?_)
  ((first | refine W.advO 5000 _ _ ?_ | skip); simp only [go_sem, seval, ↓reduceIte, reduceCtorEq, c174])
  (refine W.ret (Fin.same hok (by simp only [resEval, r174, go_sem, seval, ↓reduceIte, reduceCtorEq]; rfl) ?_ (by first | exact .c _ | (simp only [I, S, B, opsC, toksC, Pre.v, Tok.v, OpT.v, low_c, low_void, low_any, low_csl, low_nilf, low_ptr, low_osl, low_agg, low_tup, low_fn, List.forall_mem_cons, List.not_mem_nil, false_implies, implies_true, and_self, and_true, true_and]; done)) (by first | exact ⟨[], (List.append_nil _).symm⟩ | exact ⟨_, rfl⟩)); simp only [resV])
end
section

/-- A tree's cells, its row without room. -/
def preN (p : Pre) : List V := [I p.k, S p.name, I p.n, .csl (p.l.map Pre.cs), I p.pos]
def applyAt (o : OpT) (pos : Int) (a b : Pre) : Nat → Pre
  | 0 => .mk 0 o.name 0 [] pos
  | 1 => Pre.app (.mk 0 o.name 0 [] pos) a pos
  | _ => applyL o pos a b
theorem applyAt_0 (o : OpT) (pos : Int) (a b : Pre) : applyAt o pos a b 0 = .mk 0 o.name 0 [] pos := rfl
theorem applyAt_1 (o : OpT) (pos : Int) (a b : Pre) : applyAt o pos a b 1 = Pre.app (.mk 0 o.name 0 [] pos) a pos := rfl
theorem applyAt_2 (o : OpT) (pos : Int) (a b : Pre) : applyAt o pos a b 2 = applyL o pos a b := rfl
theorem read_apply (w0 : World) (o : OpT) (pos : Int) (a b : Pre) (σ : H) : DC Tryz.prog w0 220 [o.v, I pos, a.v, b.v] σ (Same (applyL o pos a b).v σ) := by
  refine go220 rfl (fun hok hsz => ?_)
  ((first | refine W.advO 5000 _ _ ?_ | skip); simp only [go_sem, seval, ↓reduceIte, reduceCtorEq, c220])
  refine W.loopP (fun i => i ≤ 2)
    (fun i => ⟨((((((base.put (some 1) (I pos)).put (some 8) (.ptr (σ.length + 3) 0)).put (some 9) (.ptr (σ.length + 4) 0)).put (some 18) (.csl [a.cs, b.cs])).put (some 19) (I 2)).put (some 20) (I (i : Nat))), σ ++ [.cells o.v.cellsV, .cells a.v.cellsV, .cells b.v.cellsV, .cells [I 0, S [], I 0, .csl [], I 0], .cells (preN (applyAt o pos a b i))]⟩) (fun i => 2 - i) 0 (by omega) ?_ (fun i hi => ?_)
  · simp only [go_sem, seval, ↓reduceIte, reduceCtorEq, preN, applyAt_0]
    (refine Lew.env ?_; (repeat' (first | exact LeE.base _ | (refine LeE.put ?_ (by first | exact V.wk.rfl _ | exact V.wk.osl _ _ | exact V.wk.csl _)))))
  · have h3 : i = 0 ∨ i = 1 ∨ i = 2 := by omega
    rcases h3 with rfl | rfl | rfl
    · ((first | refine W.advO 5000 _ _ ?_ | skip); simp only [go_sem, seval, ↓reduceIte, reduceCtorEq, preN, applyAt_0])
      refine W.yes (by rfl) ?_
      ((first | refine W.advO 5000 _ _ ?_ | skip); simp only [go_sem, seval, ↓reduceIte, reduceCtorEq, show IntKind.i64.wrap 1 = 1 from rfl])
      refine .inv ⟨1, by omega, by omega, ?_⟩
      simp only [go_sem, seval, ↓reduceIte, reduceCtorEq, preN, applyAt_1]
      (refine Lew.cutL (hok) ?_ (by simp) (by simp) ?_ ?_ ?_; (repeat' (first | exact LeE.base _ | (refine LeE.put ?_ (by first | exact V.wk.rfl _ | exact V.wk.osl _ _ | exact V.wk.csl _)))); ((try simp only [List.length_cons, List.length_nil, List.length_set, List.length_append, Nat.reduceAdd, List.take_succ_cons, List.take_zero, okB, wkB, I, S, B, opsC, toksC, Pre.v, Tok.v, OpT.v, low_c, low_void, low_any, low_csl, low_nilf, low_ptr, low_osl, low_agg, low_tup, low_fn, List.forall_mem_cons, List.not_mem_nil, false_implies, implies_true, and_self, and_true, true_and]) <;> omega); (simp only [List.length_cons, List.length_nil, Nat.reduceAdd, List.take_succ_cons, List.take_zero, wkB, and_true]; (repeat' (refine And.intro ?_ ?_)) <;> (first | exact Blk.wk.rfl _ | (refine Blk.wk_cells ?_ rfl; (repeat' (first | exact V.wk.rfl _ | exact V.wk.csl _ | exact V.wk.osl _ _ | exact wk_agg_nil | exact wk_tup_nil | refine wk_agg_cons ?_ ?_ | refine wk_tup_cons ?_ ?_))))); (repeat' (first | exact LowE.base _ | (refine LowE.put ?_ (by first | exact .c _ | ((try simp only [List.length_cons, List.length_nil, List.length_set, List.length_append, Nat.reduceAdd, List.take_succ_cons, List.take_zero, okB, wkB, I, S, B, opsC, toksC, Pre.v, Tok.v, OpT.v, low_c, low_void, low_any, low_csl, low_nilf, low_ptr, low_osl, low_agg, low_tup, low_fn, List.forall_mem_cons, List.not_mem_nil, false_implies, implies_true, and_self, and_true, true_and]) <;> omega))))))
    · ((first | refine W.advO 5000 _ _ ?_ | skip); simp only [go_sem, seval, ↓reduceIte, reduceCtorEq, preN, applyAt_1])
      refine W.yes (by rfl) ?_
      ((first | refine W.advO 5000 _ _ ?_ | skip); simp only [go_sem, seval, ↓reduceIte, reduceCtorEq, show IntKind.i64.wrap 2 = 2 from rfl])
      refine .inv ⟨2, by omega, by omega, ?_⟩
      simp only [go_sem, seval, ↓reduceIte, reduceCtorEq, preN, applyAt_2]
      (refine Lew.cutL (hok) ?_ (by simp) (by simp) ?_ ?_ ?_; (repeat' (first | exact LeE.base _ | (refine LeE.put ?_ (by first | exact V.wk.rfl _ | exact V.wk.osl _ _ | exact V.wk.csl _)))); ((try simp only [List.length_cons, List.length_nil, List.length_set, List.length_append, Nat.reduceAdd, List.take_succ_cons, List.take_zero, okB, wkB, I, S, B, opsC, toksC, Pre.v, Tok.v, OpT.v, low_c, low_void, low_any, low_csl, low_nilf, low_ptr, low_osl, low_agg, low_tup, low_fn, List.forall_mem_cons, List.not_mem_nil, false_implies, implies_true, and_self, and_true, true_and]) <;> omega); (simp only [List.length_cons, List.length_nil, Nat.reduceAdd, List.take_succ_cons, List.take_zero, wkB, and_true]; (repeat' (refine And.intro ?_ ?_)) <;> (first | exact Blk.wk.rfl _ | (refine Blk.wk_cells ?_ rfl; (repeat' (first | exact V.wk.rfl _ | exact V.wk.csl _ | exact V.wk.osl _ _ | exact wk_agg_nil | exact wk_tup_nil | refine wk_agg_cons ?_ ?_ | refine wk_tup_cons ?_ ?_))))); (repeat' (first | exact LowE.base _ | (refine LowE.put ?_ (by first | exact .c _ | ((try simp only [List.length_cons, List.length_nil, List.length_set, List.length_append, Nat.reduceAdd, List.take_succ_cons, List.take_zero, okB, wkB, I, S, B, opsC, toksC, Pre.v, Tok.v, OpT.v, low_c, low_void, low_any, low_csl, low_nilf, low_ptr, low_osl, low_agg, low_tup, low_fn, List.forall_mem_cons, List.not_mem_nil, false_implies, implies_true, and_self, and_true, true_and]) <;> omega))))))
    · ((first | refine W.advO 5000 _ _ ?_ | skip); simp only [go_sem, seval, ↓reduceIte, reduceCtorEq, preN, applyAt_2])
      refine W.no (by rfl) ?_
      ((first | refine W.advO 5000 _ _ ?_ | skip); simp only [go_sem, seval, ↓reduceIte, reduceCtorEq])
      (refine W.ret (Fin.sameW (hok) (by (first | rfl | exact List.length_set .. | simp)) (by simp only [resEval, r220, go_sem, seval, ↓reduceIte, reduceCtorEq]; rfl) ?_ (by (first | exact .c _ | (simp only [I, S, B, opsC, toksC, Pre.v, Tok.v, OpT.v, low_c, low_void, low_any, low_csl, low_nilf, low_ptr, low_osl, low_agg, low_tup, low_fn, List.forall_mem_cons, List.not_mem_nil, false_implies, implies_true, and_self, and_true, true_and]; done))) (by (first | rfl | exact (List.append_nil _).symm))); simp only [resV]; try exact V.wk.rfl _)
      (repeat' (first | exact V.wk.rfl _ | exact V.wk.csl _ | exact V.wk.osl _ _ | exact wk_agg_nil | exact wk_tup_nil | refine wk_agg_cons ?_ ?_ | refine wk_tup_cons ?_ ?_))
end
section

def wrongV (e p : Int) : V := .agg [I e, I p]
def byC (m : Made) : C := match m.by_ with
  | none => .nilp
  | some (o, _) => .ref o.cs 0
def madeV (m : Made) (k : Tok) : V := .agg [I m.p.k, S m.p.name, I m.p.n, .c (.sl (m.p.l.map Pre.cs)), I m.p.pos, .c (byC m), I k.kind, S k.text, I k.n, I k.pos]
def fitsK (m : Made) (k : Tok) : Prop := ∀ o p, m.by_ = some (o, p) → k.pos = p
def RAtom (l : List OpT) (t : List Tok) (σ : H) (b : Nat) (r : Except Bad (Pre × Nat)) : V → H → Prop := fun d σ' => match r with
  | .ok (p, j) => d = .tup [p.v, wrongV 0 0] ∧ σ' = σ.set b (rdr l t j)
  | .error x => (x.e == 0) = false ∧ ∃ (q : Pre) (j : Nat), d = .tup [q.v, wrongV x.e x.pos] ∧ σ' = σ.set b (rdr l t j)
def RExpr (l : List OpT) (t : List Tok) (σ : H) (b : Nat) (r : Except Bad (Made × Nat)) : V → H → Prop := fun d σ' => match r with
  | .ok (m, j) => ∃ k, fitsK m k ∧ d = .tup [madeV m k, wrongV 0 0] ∧ σ' = σ.set b (rdr l t j)
  | .error x => (x.e == 0) = false ∧ ∃ m k j, d = .tup [madeV m k, wrongV x.e x.pos] ∧ σ' = σ.set b (rdr l t j)
def ExprOK (w0 : World) (f : Nat) : Prop := ∀ (l : List OpT) (t : List Tok) (least : Int) (depth i : Nat) (r : Except Bad (Made × Nat)) (σ : H) (b : Nat), exprF f l t least depth i = some r → σ[b]? = some (rdr l t i) → i ≤ t.length → t.length ≤ 1000000 → depth ≤ 200 →
  DC Tryz.prog w0 173 [.ptr b 0, I least, I depth] σ (RExpr l t σ b r)
def AtomOK (w0 : World) (f : Nat) : Prop := ∀ (l : List OpT) (t : List Tok) (depth i : Nat) (r : Except Bad (Pre × Nat)) (σ : H) (b : Nat), atomF f l t depth i = some r → σ[b]? = some (rdr l t i) → i ≤ t.length → t.length ≤ 1000000 → depth ≤ 200 →
  DC Tryz.prog w0 252 [.ptr b 0, I depth] σ (RAtom l t σ b r)
theorem rdr_ok {σ : H} (h : H.ok σ) (b : Nat) (l : List OpT) (t : List Tok) (j : Nat) : H.ok (σ.set b (rdr l t j)) := H.ok_set h fun x hx => by
  simp only [List.mem_cons, List.not_mem_nil, or_false] at hx
  rcases hx with rfl | rfl | rfl <;> exact .c _
def innerF (f : Nat) (l : List OpT) (t : List Tok) (least : Int) (depth i : Nat) (pos : Int) : Option (Except Bad (Made × Nat)) := if 200 ≤ depth then some (.error ⟨31, pos⟩) else exprF f l t least (depth + 1) i
def Tok.zero : Tok := ⟨0, [], 0, 0⟩
theorem read_inner {w0 : World} {f : Nat} (hE : ExprOK w0 f) (l : List OpT) (t : List Tok) (least : Int) (depth i : Nat) (k : Tok) (r : Except Bad (Made × Nat)) (σ : H) (b : Nat) (h : innerF f l t least depth i k.pos = some r) (hb : σ[b]? = some (rdr l t i)) (hi : i ≤ t.length) (ht : t.length ≤ 1000000) (hd : depth ≤ 200) :
    DC Tryz.prog w0 218 [.ptr b 0, I least, I depth, k.v] σ (RExpr l t σ b r) := by
  have hlt := (List.getElem?_eq_some_iff.1 hb).1
  refine go218 rfl (fun hok hsz => ?_)
  rw [innerF] at h
  split at h
  · rename_i hc
    injection h with h
    subst h
    have h1 : (depth : Int) ≥ 200 := by omega
    ((first | refine W.advO 5000 _ _ ?_ | skip); simp only [go_sem, seval, ↓reduceIte, reduceCtorEq, c218, h1])
    refine W.yes rfl ?_
    ((first | refine W.advO 5000 _ _ ?_ | skip); simp only [go_sem, seval, ↓reduceIte, reduceCtorEq])
    (apply W.dregE (List.cons_ne_nil _ _); case hc => ((apply CanonE.advPO; simp only [advPO_nil, advPO_loud, advPO_quiet, pL_yes, pL_no, pLS_some, pLS_none, pQ_yes, pQ_no, pQS_some, pQS_loud, eq_self, Nat.sub_zero, go_sem, seval, ↓reduceIte, reduceCtorEq]); exact CanonE.nil))
    ((first | refine W.advO 5000 _ _ ?_ | skip); simp only [go_sem, seval, ↓reduceIte, reduceCtorEq])
    (refine W.ret (Fin.gen (d := .tup [madeV ⟨Pre.none, none⟩ Tok.zero, wrongV 31 k.pos]) (hok) (by (first | rfl | exact List.length_set .. | simp)) (by simp only [resEval, r218, go_sem, seval, ↓reduceIte, reduceCtorEq, madeV, wrongV, byC, Pre.none, Tok.zero, List.map_nil]; rfl) (by simp only [resV, I, S, B, Pre.v, OpT.v, Tok.v, k_mk, name_mk, n_mk, l_mk, pos_mk, Pre.app, List.map_cons, List.map_nil, Pre.cs_eq, madeV, wrongV, byC, Pre.none, Tok.zero, List.map_nil]; (repeat' (first | exact V.wk.rfl _ | exact V.wk.csl _ | exact V.wk.osl _ _ | exact wk_agg_nil | exact wk_tup_nil | refine wk_agg_cons ?_ ?_ | refine wk_tup_cons ?_ ?_))) (by (first | exact .c _ | (simp only [I, S, B, opsC, toksC, Pre.v, Tok.v, OpT.v, low_c, low_void, low_any, low_csl, low_nilf, low_ptr, low_osl, low_agg, low_tup, low_fn, List.forall_mem_cons, List.not_mem_nil, false_implies, implies_true, and_self, and_true, true_and, madeV, wrongV, byC, Pre.none, Tok.zero, List.map_nil]; done))) (by (first | rfl | exact (List.append_nil _).symm)) ?_))
    exact ⟨rfl, ⟨Pre.none, none⟩, Tok.zero, i, rfl, (set_here hb).symm⟩
  · rename_i hc
    have h1 : ¬ (depth : Int) ≥ 200 := by omega
    have hw : IntKind.i64.wrap ((depth : Int) + 1) = ((depth + 1 : Nat) : Int) := wrap_next (n := 201) (by omega) (by omega)
    ((first | refine W.advO 5000 _ _ ?_ | skip); simp only [go_sem, seval, ↓reduceIte, reduceCtorEq, c218, h1])
    refine W.no rfl ?_
    ((first | refine W.advO 5000 _ _ ?_ | skip); simp only [go_sem, seval, ↓reduceIte, reduceCtorEq, hw])
    (refine W.call (hE l t least (depth + 1) i r _ b h (hG hb _) hi ht (by omega)) rfl rfl (by first | rfl | simp) ?_)
    intro v σ1 hR
    cases r with
    | ok x =>
      obtain ⟨k', hk, rfl, rfl⟩ := hR
      ((first | refine W.advO 5000 _ _ ?_ | skip); simp only [go_sem, seval, ↓reduceIte, reduceCtorEq, hS hb, madeV, wrongV])
      (refine W.ret (Fin.gen (d := .tup [madeV x.1 k', wrongV 0 0]) (rdr_ok hok b l t x.2) (by (first | rfl | exact List.length_set .. | simp)) (by simp only [resEval, r218, go_sem, seval, ↓reduceIte, reduceCtorEq, madeV, wrongV]; rfl) (by simp only [resV, I, S, B, Pre.v, OpT.v, Tok.v, k_mk, name_mk, n_mk, l_mk, pos_mk, Pre.app, List.map_cons, List.map_nil, Pre.cs_eq, madeV, wrongV]; (repeat' (first | exact V.wk.rfl _ | exact V.wk.csl _ | exact V.wk.osl _ _ | exact wk_agg_nil | exact wk_tup_nil | refine wk_agg_cons ?_ ?_ | refine wk_tup_cons ?_ ?_))) (by (first | exact .c _ | (simp only [I, S, B, opsC, toksC, Pre.v, Tok.v, OpT.v, low_c, low_void, low_any, low_csl, low_nilf, low_ptr, low_osl, low_agg, low_tup, low_fn, List.forall_mem_cons, List.not_mem_nil, false_implies, implies_true, and_self, and_true, true_and, madeV, wrongV]; done))) (by (first | rfl | exact (List.append_nil _).symm)) ?_))
      exact ⟨k', hk, rfl, rfl⟩
    | error x =>
      obtain ⟨he, m, k', j, rfl, rfl⟩ := hR
      ((first | refine W.advO 5000 _ _ ?_ | skip); simp only [go_sem, seval, ↓reduceIte, reduceCtorEq, hS hb, madeV, wrongV])
      (refine W.ret (Fin.gen (d := .tup [madeV m k', wrongV x.e x.pos]) (rdr_ok hok b l t j) (by (first | rfl | exact List.length_set .. | simp)) (by simp only [resEval, r218, go_sem, seval, ↓reduceIte, reduceCtorEq, madeV, wrongV]; rfl) (by simp only [resV, I, S, B, Pre.v, OpT.v, Tok.v, k_mk, name_mk, n_mk, l_mk, pos_mk, Pre.app, List.map_cons, List.map_nil, Pre.cs_eq, madeV, wrongV]; (repeat' (first | exact V.wk.rfl _ | exact V.wk.csl _ | exact V.wk.osl _ _ | exact wk_agg_nil | exact wk_tup_nil | refine wk_agg_cons ?_ ?_ | refine wk_tup_cons ?_ ?_))) (by (first | exact .c _ | (simp only [I, S, B, opsC, toksC, Pre.v, Tok.v, OpT.v, low_c, low_void, low_any, low_csl, low_nilf, low_ptr, low_osl, low_agg, low_tup, low_fn, List.forall_mem_cons, List.not_mem_nil, false_implies, implies_true, and_self, and_true, true_and, madeV, wrongV]; done))) (by (first | rfl | exact (List.append_nil _).symm)) ?_))
      exact ⟨he, m, k', j, rfl, rfl⟩
end
section

def bracketsF (f : Nat) (l : List OpT) (t : List Tok) (depth i : Nat) : Option (Except Bad (Pre × Nat)) :=
  if (opOf l (tokL t (i + 1))).isSome ∧ (tokL t (i + 2)).kind = 6 then some (.ok (.mk 0 (tokL t (i + 1)).text 0 [] (tokL t (i + 1)).pos, i + 3))
  else match innerF f l t 0 depth (i + 1) (tokL t i).pos with
    | none => none
    | some (.error b) => some (.error b)
    | some (.ok (m, j)) => if (tokL t j).kind = 6 then some (.ok (m.p, j + 1)) else some (.error ⟨30, (tokL t j).pos⟩)
theorem innerF_bound {f : Nat} {l : List OpT} {t : List Tok} {least : Int} {depth i : Nat} {pos : Int} {m : Made} {j : Nat} (h : innerF f l t least depth i pos = some (.ok (m, j))) : i < j ∧ j ≤ t.length := by
  rw [innerF] at h
  split at h
  · cases h
  · exact (fuel_bounds f).2.2.1 _ _ _ _ _ _ _ h
theorem read_brackets {w0 : World} {f : Nat} (hE : ExprOK w0 f) (l : List OpT) (t : List Tok) (depth i : Nat) (r : Except Bad (Pre × Nat)) (σ : H) (b : Nat) (h : bracketsF f l t depth i = some r) (hb : σ[b]? = some (rdr l t i)) (hi : i < t.length) (ht : t.length ≤ 1000000) (hd : depth ≤ 200) :
    DC Tryz.prog w0 276 [.ptr b 0, I depth] σ (RAtom l t σ b r) := by
  have hlt := (List.getElem?_eq_some_iff.1 hb).1
  refine go276 rfl (fun hok hsz => ?_)
  have hbe : σ[b]? = some (.cells [.c (opsC l), .c (toksC t), I i]) := hb
  ((first | refine W.advO 5000 _ _ ?_ | skip); simp only [go_sem, seval, ↓reduceIte, reduceCtorEq, c276])
  (refine W.call1 (read_tok w0 l t i 0 _ b (hG hb _) (by omega) ht) rfl rfl (by first | rfl | simp) ?_; refine W.advO 5000 _ _ ?_; simp only [go_sem, seval, ↓reduceIte, reduceCtorEq])
  (refine W.call1 (read_tok w0 l t i 1 _ b (hG hb _) (by omega) ht) rfl rfl (by first | rfl | simp) ?_; refine W.advO 5000 _ _ ?_; simp only [go_sem, seval, ↓reduceIte, reduceCtorEq])
  rw [bracketsF] at h
  by_cases hc : (opOf l (tokL t (i + 1))).isSome ∧ (tokL t (i + 2)).kind = 6
  · rw [if_pos hc] at h
    injection h with h
    subst h
    obtain ⟨hc1, hc2⟩ := hc
    have hw : IntKind.i64.wrap ((i : Int) + 3) = ((i + 3 : Nat) : Int) := by rw [wrap_in] <;> omega
    (refine W.call1 (read_operator w0 l t i (tokL t (i + 1)) _ b (hG hb _)) rfl rfl (by first | rfl | simp) ?_; refine W.advO 5000 _ _ ?_; simp only [go_sem, seval, ↓reduceIte, reduceCtorEq, foundV, hc1])
    (refine W.call1 (read_tok w0 l t i 2 _ b (hG hb _) (by omega) ht) rfl rfl (by first | rfl | simp) ?_; refine W.advO 5000 _ _ ?_; simp only [go_sem, seval, ↓reduceIte, reduceCtorEq, hc2])
    refine W.yes rfl ?_
    ((first | refine W.advO 5000 _ _ ?_ | skip); simp only [go_sem, seval, ↓reduceIte, reduceCtorEq, hG hbe, hS hb, hw])
    (refine W.ret (Fin.gen (d := .tup [(Pre.mk 0 (tokL t (i + 1)).text 0 [] (tokL t (i + 1)).pos).v, wrongV 0 0]) (rdr_ok hok b l t (i + 3)) (by (first | rfl | exact List.length_set .. | simp)) (by simp only [resEval, r276, go_sem, seval, ↓reduceIte, reduceCtorEq, wrongV]; rfl) (by simp only [resV, I, S, B, Pre.v, OpT.v, Tok.v, k_mk, name_mk, n_mk, l_mk, pos_mk, Pre.app, List.map_cons, List.map_nil, Pre.cs_eq, wrongV]; (repeat' (first | exact V.wk.rfl _ | exact V.wk.csl _ | exact V.wk.osl _ _ | exact wk_agg_nil | exact wk_tup_nil | refine wk_agg_cons ?_ ?_ | refine wk_tup_cons ?_ ?_))) (by (first | exact .c _ | (simp only [I, S, B, opsC, toksC, Pre.v, Tok.v, OpT.v, low_c, low_void, low_any, low_csl, low_nilf, low_ptr, low_osl, low_agg, low_tup, low_fn, List.forall_mem_cons, List.not_mem_nil, false_implies, implies_true, and_self, and_true, true_and, wrongV]; done))) (by (first | rfl | exact (List.append_nil _).symm)) ?_))
    exact ⟨rfl, rfl⟩
  · rw [if_neg hc] at h
    have hw : IntKind.i64.wrap ((i : Int) + 1) = ((i + 1 : Nat) : Int) := by rw [wrap_in] <;> omega
    have two : (opOf l (tokL t (i + 1))).isSome = false ∨ ((opOf l (tokL t (i + 1))).isSome = true ∧ ((tokL t (i + 2)).kind == 6) = false) := by
      cases ho : (opOf l (tokL t (i + 1))).isSome
      · exact .inl rfl
      · refine .inr ⟨rfl, ?_⟩
        cases h6 : ((tokL t (i + 2)).kind == 6)
        · rfl
        · exact absurd ⟨ho, by simpa using h6⟩ hc
    rcases two with ho | ⟨ho, h6⟩
    all_goals first
      | ((refine W.call1 (read_operator w0 l t i (tokL t (i + 1)) _ b (hG hb _)) rfl rfl (by first | rfl | simp) ?_; refine W.advO 5000 _ _ ?_; simp only [go_sem, seval, ↓reduceIte, reduceCtorEq, foundV, ho])
         (refine W.call1 (read_tok w0 l t i 2 _ b (hG hb _) (by omega) ht) rfl rfl (by first | rfl | simp) ?_; refine W.advO 5000 _ _ ?_; simp only [go_sem, seval, ↓reduceIte, reduceCtorEq, h6])
         refine W.no rfl ?_)
      | ((refine W.call1 (read_operator w0 l t i (tokL t (i + 1)) _ b (hG hb _)) rfl rfl (by first | rfl | simp) ?_; refine W.advO 5000 _ _ ?_; simp only [go_sem, seval, ↓reduceIte, reduceCtorEq, foundV, ho])
         refine W.no rfl ?_)
    all_goals
      ((first | refine W.advO 5000 _ _ ?_ | skip); simp only [go_sem, seval, ↓reduceIte, reduceCtorEq, hG hbe, hS hb, hw])
      cases hr : innerF f l t 0 depth (i + 1) (tokL t i).pos with
      | none => rw [hr] at h; cases h
      | some y =>
        rw [hr] at h
        (refine W.call (read_inner hE l t 0 depth (i + 1) (tokL t i) y _ b hr (hG' hb _ _) (by omega) ht hd) rfl rfl (by first | rfl | simp) ?_)
        intro v σ1 hR
        cases y with
        | error x =>
          injection h with h
          subst h
          obtain ⟨he, m, k', j, rfl, rfl⟩ := hR
          ((first | refine W.advO 5000 _ _ ?_ | skip); simp only [go_sem, seval, ↓reduceIte, reduceCtorEq, hS' hb, madeV, wrongV])
          (refine W.call1 (wrong_ok w0 x.e x.pos _) rfl rfl (by first | rfl | simp) ?_; refine W.advO 5000 _ _ ?_; simp only [go_sem, seval, ↓reduceIte, reduceCtorEq, he])
          refine W.yes rfl ?_
          ((first | refine W.advO 5000 _ _ ?_ | skip); simp only [go_sem, seval, ↓reduceIte, reduceCtorEq])
          (apply W.dregE (List.cons_ne_nil _ _); case hc => ((apply CanonE.advPO; simp only [advPO_nil, advPO_loud, advPO_quiet, pL_yes, pL_no, pLS_some, pLS_none, pQ_yes, pQ_no, pQS_some, pQS_loud, eq_self, Nat.sub_zero, go_sem, seval, ↓reduceIte, reduceCtorEq]); exact CanonE.nil))
          ((first | refine W.advO 5000 _ _ ?_ | skip); simp only [go_sem, seval, ↓reduceIte, reduceCtorEq])
          (refine W.ret (Fin.gen (d := .tup [Pre.none.v, wrongV x.e x.pos]) (rdr_ok hok b l t j) (by (first | rfl | exact List.length_set .. | simp)) (by simp only [resEval, r276, go_sem, seval, ↓reduceIte, reduceCtorEq, wrongV, Pre.none]; rfl) (by simp only [resV, I, S, B, Pre.v, OpT.v, Tok.v, k_mk, name_mk, n_mk, l_mk, pos_mk, Pre.app, List.map_cons, List.map_nil, Pre.cs_eq, wrongV, Pre.none]; (repeat' (first | exact V.wk.rfl _ | exact V.wk.csl _ | exact V.wk.osl _ _ | exact wk_agg_nil | exact wk_tup_nil | refine wk_agg_cons ?_ ?_ | refine wk_tup_cons ?_ ?_))) (by (first | exact .c _ | (simp only [I, S, B, opsC, toksC, Pre.v, Tok.v, OpT.v, low_c, low_void, low_any, low_csl, low_nilf, low_ptr, low_osl, low_agg, low_tup, low_fn, List.forall_mem_cons, List.not_mem_nil, false_implies, implies_true, and_self, and_true, true_and, wrongV, Pre.none]; done))) (by (first | rfl | exact (List.append_nil _).symm)) ?_))
          exact ⟨he, Pre.none, j, rfl, rfl⟩
        | ok y =>
          obtain ⟨m, j⟩ := y
          obtain ⟨k', hk, rfl, rfl⟩ := hR
          have hj := innerF_bound hr
          ((first | refine W.advO 5000 _ _ ?_ | skip); simp only [go_sem, seval, ↓reduceIte, reduceCtorEq, hS' hb, madeV, wrongV])
          (refine W.call1 (wrong_ok w0 0 0 _) rfl rfl (by first | rfl | simp) ?_; refine W.advO 5000 _ _ ?_; simp only [go_sem, seval, ↓reduceIte, reduceCtorEq])
          refine W.no rfl ?_
          ((first | refine W.advO 5000 _ _ ?_ | skip); simp only [go_sem, seval, ↓reduceIte, reduceCtorEq])
          (refine W.call1 (read_tok w0 l t j 0 _ b (hG' hb _ _) (by omega) ht) rfl rfl (by first | rfl | simp) ?_; refine W.advO 5000 _ _ ?_; simp only [go_sem, seval, ↓reduceIte, reduceCtorEq])
          simp only at h
          cases h6 : ((tokL t j).kind == 6)
          · have h6' : ¬ (tokL t j).kind = 6 := by simpa using h6
            have h6n : ((tokL t j).kind != 6) = true := by simpa using h6
            rw [if_neg h6'] at h
            injection h with h
            subst h
            ((first | refine W.advO 5000 _ _ ?_ | skip); simp only [go_sem, seval, ↓reduceIte, reduceCtorEq, h6n])
            refine W.yes rfl ?_
            ((first | refine W.advO 5000 _ _ ?_ | skip); simp only [go_sem, seval, ↓reduceIte, reduceCtorEq])
            (apply W.dregE (List.cons_ne_nil _ _); case hc => ((apply CanonE.advPO; simp only [advPO_nil, advPO_loud, advPO_quiet, pL_yes, pL_no, pLS_some, pLS_none, pQ_yes, pQ_no, pQS_some, pQS_loud, eq_self, Nat.sub_zero, go_sem, seval, ↓reduceIte, reduceCtorEq]); exact CanonE.nil))
            ((first | refine W.advO 5000 _ _ ?_ | skip); simp only [go_sem, seval, ↓reduceIte, reduceCtorEq])
            (refine W.ret (Fin.gen (d := .tup [Pre.none.v, wrongV 30 (tokL t j).pos]) (rdr_ok hok b l t j) (by (first | rfl | exact List.length_set .. | simp)) (by simp only [resEval, r276, go_sem, seval, ↓reduceIte, reduceCtorEq, wrongV, Pre.none]; rfl) (by simp only [resV, I, S, B, Pre.v, OpT.v, Tok.v, k_mk, name_mk, n_mk, l_mk, pos_mk, Pre.app, List.map_cons, List.map_nil, Pre.cs_eq, wrongV, Pre.none]; (repeat' (first | exact V.wk.rfl _ | exact V.wk.csl _ | exact V.wk.osl _ _ | exact wk_agg_nil | exact wk_tup_nil | refine wk_agg_cons ?_ ?_ | refine wk_tup_cons ?_ ?_))) (by (first | exact .c _ | (simp only [I, S, B, opsC, toksC, Pre.v, Tok.v, OpT.v, low_c, low_void, low_any, low_csl, low_nilf, low_ptr, low_osl, low_agg, low_tup, low_fn, List.forall_mem_cons, List.not_mem_nil, false_implies, implies_true, and_self, and_true, true_and, wrongV, Pre.none]; done))) (by (first | rfl | exact (List.append_nil _).symm)) ?_))
            exact ⟨rfl, Pre.none, j, rfl, rfl⟩
          · have h6' : (tokL t j).kind = 6 := by simpa using h6
            have h6n : ((tokL t j).kind != 6) = false := by rw [h6']; rfl
            rw [if_pos h6'] at h
            injection h with h
            subst h
            have hw2 : IntKind.i64.wrap ((j : Int) + 1) = ((j + 1 : Nat) : Int) := by rw [wrap_in] <;> omega
            ((first | refine W.advO 5000 _ _ ?_ | skip); simp only [go_sem, seval, ↓reduceIte, reduceCtorEq, h6n])
            refine W.no rfl ?_
            ((first | refine W.advO 5000 _ _ ?_ | skip); simp only [go_sem, seval, ↓reduceIte, reduceCtorEq, hG' hb, hS' hb, rdr, hw2])
            (refine W.ret (Fin.gen (d := .tup [m.p.v, wrongV 0 0]) (rdr_ok hok b l t (j + 1)) (by (first | rfl | exact List.length_set .. | simp)) (by simp only [resEval, r276, go_sem, seval, ↓reduceIte, reduceCtorEq, wrongV]; rfl) (by simp only [resV, I, S, B, Pre.v, OpT.v, Tok.v, k_mk, name_mk, n_mk, l_mk, pos_mk, Pre.app, List.map_cons, List.map_nil, Pre.cs_eq, wrongV]; (repeat' (first | exact V.wk.rfl _ | exact V.wk.csl _ | exact V.wk.osl _ _ | exact wk_agg_nil | exact wk_tup_nil | refine wk_agg_cons ?_ ?_ | refine wk_tup_cons ?_ ?_))) (by (first | exact .c _ | (simp only [I, S, B, opsC, toksC, Pre.v, Tok.v, OpT.v, low_c, low_void, low_any, low_csl, low_nilf, low_ptr, low_osl, low_agg, low_tup, low_fn, List.forall_mem_cons, List.not_mem_nil, false_implies, implies_true, and_self, and_true, true_and, wrongV]; done))) (by (first | rfl | exact (List.append_nil _).symm)) ?_))
            exact ⟨rfl, rfl⟩
end
end Go.Proofs.YtlogjjnimlnpkaaGreatDoor

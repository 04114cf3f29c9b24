/-
  Walks: the document's type reader: an atom.
  Walks: the document's type reader: a type; its Read.
  Walks: the document's Read of types; which types are the same, and how large they are.
  Walks: how many types and variables there are in a type.
  Walks: the document's example of a type; which types are more than is looked at.
  Walks: the statement TyReads.
  Walks: the statement TyArrows.
-/
import Derived.Test.YtohcnohllbjlcaaGreatDoorQJ24
import Derived.Test.YtohcnohllbjlcaaGreatDoorQJ9
import Derived.Test.YtohcnohllbjlcaaGreatDoorQLxD
set_option linter.unusedSimpArgs false
set_option linter.unusedVariables false
set_option maxHeartbeats 8000000
set_option maxRecDepth 20000
namespace Go.Proofs.YtohcnohllbjlcaaGreatDoor
open Go.RowKit Go.Lamb
attribute [local go_sem] advO_skip advO_reg advO_seq advO_block advO_exit advO_endb advO_opsNil advO_ops advG_yes advG_no advG_none advS_some advS_none advO_cond advO_loop advO_dreg advO_ret advO_bad advO_inv advO_nil advO_zero wantedV Lamb.step ev_t ev_k put_some put_none argEnv popTo cellsAt V.cellsV V.rows V.toC toCs fillV bytesC byteRows appV rowsV boundV boundL binV binInt binStr eqC eqL V.isNil leaves V.leaf Ins.quiet Ins.pure List.getD_cons_zero List.getD_cons_succ List.getD_nil List.all_cons List.all_nil List.length_cons List.length_nil List.take_succ_cons List.take_zero List.drop_succ_cons List.drop_zero List.cons_append List.nil_append List.append_nil List.append_assoc List.map_cons List.map_nil List.getElem?_cons_zero List.getElem?_cons_succ List.length_append List.length_set hget0 hget hset0 hset hsets hgs0 hgs hss0 hss List.set_cons_zero List.set_cons_succ List.forall_mem_cons List.not_mem_nil false_implies implies_true Option.map_some Bool.and_true Bool.true_and Bool.not_not Bool.not_true Bool.not_false Bool.and_self Bool.or_true Bool.true_or Bool.or_false Bool.false_or Bool.and_false Bool.false_and Bool.false_eq_true beq_self_eq_true and_self and_true true_and if_true if_false Nat.zero_add Nat.add_zero Nat.le_refl Int.toNat_natCast decide_true decide_false beq_t beq_f List.length_map List.getElem?_map I S B opsC toksC OpT.v OpT.cs OpT.zero Tok.v Tok.cs Pre.v Pre.cs_eq k_mk name_mk n_mk l_mk pos_mk Pre.app applyL natCast0 natCast1 natCast2 AOp.o AOp.m AOp.f AOp.l AOp.d AOp.n AOp.x AOp.s AOp.k AOp.y AOp.z EOp.q low_c low_void low_any low_csl low_nilf low_ptr low_osl low_agg low_tup low_fn resEval advPO_nil advPO_loud advPO_quiet pL_yes pL_no pLS_some pLS_none pQ_yes pQ_no pQS_some pQS_loud eq_self Nat.sub_zero
section

abbrev tqo (σ : H) (b v : Nat) (t : List Tok) (o : TyO) : H := tqs σ b v t o.j o.ws o.e o.p
def TqTypeOK (w0 : World) (f : Nat) : Prop := ∀ (t : List Tok) (depth i : Nat) (vs : List Str) (r : TyR) (o : TyO) (σ : H) (b v : Nat), tyTypeF f t depth i vs = some r → tyTypeQ f t depth i vs = some o → Two σ b v → t.length ≤ 1000000 → vs.length ≤ i → i ≤ t.length → depth ≤ 200 →
  DC Tryz.prog w0 57 [.ptr b 0, I depth] (tqs σ b v t i vs 0 0) (Same o.u.v (tqo σ b v t o))
def TqAtomOK (w0 : World) (f : Nat) : Prop := ∀ (t : List Tok) (depth i : Nat) (vs : List Str) (r : TyR) (o : TyO) (σ : H) (b v : Nat), tyAtomF f t depth i vs = some r → tyAtomQ f t depth i vs = some o → Two σ b v → t.length ≤ 1000000 → vs.length ≤ i → i ≤ t.length → depth ≤ 200 →
  DC Tryz.prog w0 105 [.ptr b 0, I depth] (tqs σ b v t i vs 0 0) (Same (atomV ((tokL t i).kind == 1) o.u) (tqo σ b v t o))
attribute [local go_sem] tqX tyY rs_len rs_g0 rs_g rs_s0 rs_s rs_sv Typ.v Typ.cs_eq tk_mk tname_mk tn_mk tl_mk tysC
theorem tqs_push (σ : H) (b v : Nat) (t : List Tok) (i : Int) (vs : List Str) (s : Str) (e p : Int) : tqs σ b v t i (vs ++ [s]) e p = rs σ b v (.cells [.c (toksC t), I i, I e, I p, .osl v (strsR vs ++ [[C.str s]])]) (.spare 9 1 (vs.length + 1)) := by
  show rs σ b v (tqX t i v (vs ++ [s]) e p) (tyY (vs ++ [s])) = _
  simp only [tqX, tyY, strsR, List.map_append, List.map_cons, List.map_nil, List.length_append, List.length_cons, List.length_nil]
theorem idx_found {vs : List Str} {s : Str} {k : Nat} (h : UpTo (· == s) vs k) (hk : k < vs.length) (hp : (vs[k] == s) = true) : vnum vs s = k ∧ vadd vs s = vs := vnum_yes (idxI_at h hk hp)
theorem idx_none {vs : List Str} {s : Str} (h : ∀ j (hj : j < vs.length), (vs[j] == s) = false) : vnum vs s = vs.length ∧ vadd vs s = vs ++ [s] := vnum_no (idxI_none h)
theorem tyQ_pos {f : Nat} {t : List Tok} {depth i : Nat} {vs : List Str} {r : TyR} {o : TyO} (h : tyTypeF f t depth i vs = some r) (ho : tyTypeQ f t depth i vs = some o) (ht : t.length ≤ 1000000) : o.e = 0 → o.p = 0 := fun he => by
  obtain ⟨o', h1, h2⟩ := (ty_outQ f).2.2.2 _ _ _ _ _ ht h
  rw [ho] at h1
  injection h1 with h1
  subst h1
  cases r with
  | ok x =>
    obtain ⟨u, j, ws⟩ := x
    have : o = ⟨u, (j : Nat), ws, 0, 0⟩ := h2
    rw [this]
  | error x =>
    obtain ⟨q1, _, q3⟩ := h2
    rw [← q1, he] at q3
    cases q3
theorem ref05_Atom {w0 : World} {f : Nat} (hE : TqTypeOK w0 f) : TqAtomOK w0 (f + 1) := by
  intro t depth i vs r o σ b v h ho D ht hv hi hd
  rw [tyAtomF] at h
  rw [tyAtomQ] at ho
  refine k105.go rfl (fun hok hsz => ?_)
  have hw : IntKind.i64.wrap ((i : Int) + 1) = ((i + 1 : Nat) : Int) := by rw [wrap_in] <;> omega
  ((try refine W.a ?_); simp only [go_sem, seval, reduceCtorEq, c105, rsA D])
  apply W.dregE (List.cons_ne_nil _ _)
  case hc =>
    (apply CanonE.advPO; simp only [go_sem, seval, reduceCtorEq, rsA D])
    (apply CanonE.pcall (fun τ => ref03_TokI w0 t i τ); (case hg => rfl); (case hf => rfl); (case ha => first | rfl | simp))
    (apply CanonE.advPO; simp only [go_sem, seval, reduceCtorEq, rsA D, tokI_nat])
    exact CanonE.nil
  ((try refine W.a ?_); simp only [go_sem, seval, reduceCtorEq, rsA D])
  (refine W.c1 (DC.lift D (fun D' => ref05_atom w0 t i vs 0 0 _ b v D')) ?_; simp only [go_sem, seval, reduceCtorEq, rsA D, tokI_nat])
  cases hB : tyBegins (tokL t i)
  · refine W.yes rfl ?_
    simp only [tyBegins, Bool.or_eq_false_iff, decide_eq_false_iff_not] at hB
    rw [if_neg hB.1.1, if_neg hB.1.2, if_neg hB.2] at ho
    have n1 : ((tokL t i).kind == 1) = false := by simpa using hB.1.1
    injection ho with ho
    subst ho
    ((try refine W.a ?_); simp only [go_sem, seval, reduceCtorEq, rsA D, n1])
    (refine W.c1 (DC.lift D (fun D' => ref05_fail w0 t i vs 0 0 50 (tokL t i).pos _ b v D')) ?_; simp only [go_sem, seval, reduceCtorEq, rsA D])
    (refine W.fg (tqs_ok D hok t i vs 50 (tokL t i).pos) (d := Typ.none.v) (by simp only [r105, go_sem, seval, reduceCtorEq, Typ.v, Typ.none, tk_mk, tname_mk, tn_mk, tl_mk]; rfl) (by simp only [resV, go_sem, seval, reduceCtorEq, Typ.v, Typ.none, tk_mk, tname_mk, tn_mk, tl_mk]; exact wk_here) ?_ (hl := by (first | exact .c _ | (simp only [go_sem, seval, reduceCtorEq, Typ.v, Typ.none, tk_mk, tname_mk, tn_mk, tl_mk]; done))))
    exact ⟨rfl, rfl⟩
  · refine W.no rfl ?_
    have hil : i < t.length := tyBegins_lt (by rw [hB]; decide)
    by_cases h1 : (tokL t i).kind = 1
    · rw [if_pos h1] at ho
      injection ho with ho
      subst ho
      ((try refine W.a ?_); simp only [go_sem, seval, reduceCtorEq, rsA D, hw, h1])
      refine W.yes rfl ?_
      ((try refine W.a ?_); simp only [go_sem, seval, reduceCtorEq, rsA D])
      (refine W.fg (tqs_ok D hok t ((i + 1 : Nat) : Int) vs 0 0) (d := atomV true (.con (tokL t i).text)) (by simp only [r105, go_sem, seval, reduceCtorEq, atomV, if_true, Typ.con, tk_mk, tname_mk, tn_mk, tl_mk]; rfl) (by simp only [resV, go_sem, seval, reduceCtorEq, atomV, if_true, Typ.con, tk_mk, tname_mk, tn_mk, tl_mk]; exact wk_here) ?_ (hl := by (first | exact .c _ | (simp only [go_sem, seval, reduceCtorEq, atomV, if_true, Typ.con, tk_mk, tname_mk, tn_mk, tl_mk]; done))))
      exact ⟨rfl, rfl⟩
    · rw [if_neg h1] at h ho
      have n1 : ((tokL t i).kind == 1) = false := by simpa using h1
      by_cases h2 : (tokL t i).kind = 2
      · rw [if_pos h2] at ho
        injection ho with ho
        subst ho
        have hv1 : vs.length ≤ 1000000 := by omega
        have n2 : ((tokL t i).kind == 2) = true := by simpa using h2
        ((try refine W.a ?_); simp only [go_sem, seval, reduceCtorEq, rsA D, hw, n1])
        refine W.no rfl ?_
        ((try refine W.a ?_); simp only [go_sem, seval, reduceCtorEq, rsA D, n2])
        refine W.yes rfl ?_
        ((try refine W.a ?_); simp only [go_sem, seval, reduceCtorEq, rsA D])
        refine W.loopP (fun k => k ≤ vs.length ∧ UpTo (· == (tokL t i).text) vs k) (fun k => ⟨(((((base.put (some 0) (.ptr b 0)).put (some 1) (I depth)).put (some 4) (.ptr σ.length 0)).put (some 5) (.ptr (σ.length + 1) 0)).put (some 7) (I (k : Nat))), tqs σ b v t ((i + 1 : Nat) : Int) vs 0 0 ++ [.cells [I 0, S [], I 0, .csl []], .cells (tokL t i).v.cellsV]⟩) (fun k => vs.length - k) 0 ⟨Nat.zero_le _, upTo_zero⟩ ?_ (fun k hk => ?_)
        · (refine Lew.env ?_; exact lee_here)
        · obtain ⟨hk, hinv⟩ := hk
          by_cases hlt : k < vs.length
          · have l1 : ((k : Int) < (vs.length : Int)) := by omega
            have hx : vs[k]? = some vs[k] := List.getElem?_eq_getElem hlt
            have hwk : IntKind.i64.wrap ((k : Int) + 1) = ((k + 1 : Nat) : Int) := by rw [wrap_in] <;> omega
            ((try refine W.a ?_); simp only [go_sem, seval, reduceCtorEq, rsA D, strsR, l1])
            refine W.yes rfl ?_
            ((try refine W.a ?_); simp only [go_sem, seval, reduceCtorEq])
            (apply W.dregE (List.cons_ne_nil _ _); case hc => ((apply CanonE.advPO; simp only [go_sem, seval, reduceCtorEq, rsA D, strsR, l1, nat0, hx]); exact CanonE.nil))
            ((try refine W.a ?_); simp only [go_sem, seval, reduceCtorEq])
            refine W.test rfl (fun hq => ?_) (fun hq => ?_)
            · obtain ⟨q1, q2⟩ := idx_found hinv hlt hq
              rw [q1, q2]
              ((try refine W.a ?_); simp only [go_sem, seval, reduceCtorEq, rsA D])
              (refine W.fg (tqs_ok D hok t ((i + 1 : Nat) : Int) vs 0 0) (d := (Typ.var (k : Nat)).v) (by simp only [r105, go_sem, seval, reduceCtorEq, Typ.v, Typ.var, tk_mk, tname_mk, tn_mk, tl_mk]; rfl) (by simp only [resV, go_sem, seval, reduceCtorEq, Typ.v, Typ.var, tk_mk, tname_mk, tn_mk, tl_mk]; exact wk_here) ?_ (hl := by (first | exact .c _ | (simp only [go_sem, seval, reduceCtorEq, Typ.v, Typ.var, tk_mk, tname_mk, tn_mk, tl_mk]; done))))
              exact ⟨rfl, rfl⟩
            · ((try refine W.a ?_); simp only [go_sem, seval, reduceCtorEq, hwk])
              refine .inv ⟨k + 1, ⟨hlt, upTo_next hinv hlt hq⟩, by omega, ?_⟩
              (refine Lew.env ?_; exact lee_here)
          · have l1 : ¬ ((k : Int) < (vs.length : Int)) := by omega
            obtain ⟨q1, q2⟩ := idx_none (vs := vs) (s := (tokL t i).text) (fun j hj => hinv j hj (by omega))
            have hb1 : (vs.length + 1) * 16 ≤ 140737488355328 := by omega
            have hb2 : vs.length + 1 ≤ 140737488355328 := by omega
            have hws : IntKind.i64.wrap (((vs.length + 1 : Nat) : Int) - 1) = (vs.length : Int) := by rw [wrap_in] <;> omega
            rw [q1, q2, show tqo σ b v t ⟨.var (vs.length : Nat), (i + 1 : Nat), vs ++ [(tokL t i).text], 0, 0⟩ = _ from tqs_push σ b v t _ vs _ 0 0]
            have hok2 := tqs_ok D hok t ((i + 1 : Nat) : Int) (vs ++ [(tokL t i).text]) 0 0
            rw [tqs_push] at hok2
            ((try refine W.a ?_); simp only [go_sem, seval, reduceCtorEq, rsA D, strsR, l1])
            refine W.no rfl ?_
            ((try refine W.a ?_); simp only [go_sem, seval, reduceCtorEq])
            (apply W.dregE (List.cons_ne_nil _ _); case hc => ((apply CanonE.advPO; simp only [go_sem, seval, reduceCtorEq, rsA D, strsR, hb1, hb2]); exact CanonE.nil))
            ((try refine W.a ?_); simp only [go_sem, seval, reduceCtorEq, rsA D, hws])
            (refine W.fg (hok2) (d := (Typ.var (vs.length : Int)).v) (by simp only [r105, go_sem, seval, reduceCtorEq, Typ.v, Typ.var, tk_mk, tname_mk, tn_mk, tl_mk]; rfl) (by simp only [resV, go_sem, seval, reduceCtorEq, Typ.v, Typ.var, tk_mk, tname_mk, tn_mk, tl_mk]; exact wk_here) ?_ (hl := by (first | exact .c _ | (simp only [go_sem, seval, reduceCtorEq, Typ.v, Typ.var, tk_mk, tname_mk, tn_mk, tl_mk]; done))))
            exact ⟨rfl, rfl⟩
      · rw [if_neg h2] at h ho
        have n2 : ((tokL t i).kind == 2) = false := by simpa using h2
        have h5 : (tokL t i).kind = 5 := by
          simp only [tyBegins, Bool.or_eq_true, decide_eq_true_eq] at hB
          rcases hB with (hB | hB) | hB
          · exact absurd hB h1
          · exact absurd hB h2
          · exact hB
        rw [if_pos h5] at h ho
        have hwd : IntKind.i64.wrap ((depth : Int) + 1) = ((depth + 1 : Nat) : Int) := wrap_next (n := 201) (by omega) (by omega)
        ((try refine W.a ?_); simp only [go_sem, seval, reduceCtorEq, rsA D, hw, n1])
        refine W.no rfl ?_
        ((try refine W.a ?_); simp only [go_sem, seval, reduceCtorEq, rsA D, n2])
        refine W.no rfl ?_
        by_cases hc : 200 ≤ depth
        · have d1 : ((depth + 1 : Nat) : Int) > 200 := by omega
          rw [if_pos hc] at ho
          injection ho with ho
          subst ho
          ((try refine W.a ?_); simp only [go_sem, seval, reduceCtorEq, rsA D, hwd, d1])
          refine W.yes rfl ?_
          ((try refine W.a ?_); simp only [go_sem, seval, reduceCtorEq, rsA D])
          (refine W.c1 (DC.lift D (fun D' => ref05_fail w0 t ((i + 1 : Nat) : Int) vs 0 0 31 (tokL t i).pos _ b v D')) ?_; simp only [go_sem, seval, reduceCtorEq, rsA D])
          (refine W.fg (tqs_ok D hok t ((i + 1 : Nat) : Int) vs 31 (tokL t i).pos) (d := Typ.none.v) (by simp only [r105, go_sem, seval, reduceCtorEq, Typ.v, Typ.none, tk_mk, tname_mk, tn_mk, tl_mk]; rfl) (by simp only [resV, go_sem, seval, reduceCtorEq, Typ.v, Typ.none, tk_mk, tname_mk, tn_mk, tl_mk]; exact wk_here) ?_ (hl := by (first | exact .c _ | (simp only [go_sem, seval, reduceCtorEq, Typ.v, Typ.none, tk_mk, tname_mk, tn_mk, tl_mk]; done))))
          exact ⟨rfl, rfl⟩
        · have d1 : ¬ ((depth + 1 : Nat) : Int) > 200 := by omega
          rw [if_neg hc] at h ho
          ((try refine W.a ?_); simp only [go_sem, seval, reduceCtorEq, rsA D, hwd, d1])
          refine W.no rfl ?_
          ((try refine W.a ?_); simp only [go_sem, seval, reduceCtorEq, rsA D, hwd])
          cases hr : tyTypeF f t (depth + 1) (i + 1) vs with
          | none => rw [hr] at h; cases h
          | some y =>
            cases hro : tyTypeQ f t (depth + 1) (i + 1) vs with
            | none => rw [hro] at ho; cases ho
            | some x =>
              rw [hro] at ho
              injection ho with ho
              subst ho
              (refine W.c1 (DC.lift D (fun D' => hE t (depth + 1) (i + 1) vs y x _ b v hr hro D' ht (by omega) (by omega) (by omega))) ?_; simp only [go_sem, seval, reduceCtorEq, rsA D])
              apply W.dregE (List.cons_ne_nil _ _)
              case hc =>
                (apply CanonE.advPO; simp only [go_sem, seval, reduceCtorEq, rsA D])
                (apply CanonE.pcall (fun τ => ref03_TokI w0 t x.j τ); (case hg => rfl); (case hf => rfl); (case ha => first | rfl | simp))
                (apply CanonE.advPO; simp only [go_sem, seval, reduceCtorEq, rsA D])
                exact CanonE.nil
              have hp := tyQ_pos hr hro ht
              by_cases he : x.e = 0
              · have hp0 := hp he
                by_cases h6 : (tokI t x.j).kind = 6
                · have hcl : closeO t x = ⟨x.u, IntKind.i64.wrap (x.j + 1), x.ws, 0, 0⟩ := by unfold closeO; simp only [if_pos he, if_pos h6]
                  have n6 : ((tokI t x.j).kind != 6) = false := by simpa using h6
                  rw [hcl]
                  ((try refine W.a ?_); simp only [go_sem, seval, reduceCtorEq, rsA D, he, hp0, n6])
                  refine W.no rfl ?_
                  ((try refine W.a ?_); simp only [go_sem, seval, reduceCtorEq, rsA D])
                  (refine W.fg (tqs_ok D hok t (IntKind.i64.wrap (x.j + 1)) x.ws 0 0) (d := x.u.v) (by simp only [r105, go_sem, seval, reduceCtorEq, Typ.v]; rfl) (by simp only [resV, go_sem, seval, reduceCtorEq, Typ.v]; exact wk_here) ?_ (hl := by (first | exact .c _ | (simp only [go_sem, seval, reduceCtorEq, Typ.v]; done))))
                  exact ⟨rfl, rfl⟩
                · have hcl : closeO t x = ⟨x.u, IntKind.i64.wrap (x.j + 1), x.ws, 50, (tokI t x.j).pos⟩ := by unfold closeO; simp only [if_pos he, if_neg h6]
                  have n6 : ((tokI t x.j).kind != 6) = true := by simpa using h6
                  rw [hcl]
                  ((try refine W.a ?_); simp only [go_sem, seval, reduceCtorEq, rsA D, he, hp0, n6])
                  refine W.yes rfl ?_
                  ((try refine W.a ?_); simp only [go_sem, seval, reduceCtorEq, rsA D])
                  (refine W.c1 (DC.lift D (fun D' => ref05_fail w0 t x.j x.ws 0 0 50 (tokI t x.j).pos _ b v D')) ?_; simp only [go_sem, seval, reduceCtorEq, rsA D])
                  (refine W.fg (tqs_ok D hok t (IntKind.i64.wrap (x.j + 1)) x.ws 50 (tokI t x.j).pos) (d := x.u.v) (by simp only [r105, go_sem, seval, reduceCtorEq, Typ.v]; rfl) (by simp only [resV, go_sem, seval, reduceCtorEq, Typ.v]; exact wk_here) ?_ (hl := by (first | exact .c _ | (simp only [go_sem, seval, reduceCtorEq, Typ.v]; done))))
                  exact ⟨rfl, rfl⟩
              · have hb : (x.e == 0) = false := by simpa using he
                rw [close_bad he]
                ((try refine W.a ?_); simp only [go_sem, seval, reduceCtorEq, rsA D, hb])
                refine W.no rfl ?_
                ((try refine W.a ?_); simp only [go_sem, seval, reduceCtorEq, rsA D])
                (refine W.fg (tqs_ok D hok t (IntKind.i64.wrap (x.j + 1)) x.ws x.e x.p) (d := x.u.v) (by simp only [r105, go_sem, seval, reduceCtorEq, Typ.v]; rfl) (by simp only [resV, go_sem, seval, reduceCtorEq, Typ.v]; exact wk_here) ?_ (hl := by (first | exact .c _ | (simp only [go_sem, seval, reduceCtorEq, Typ.v]; done))))
                exact ⟨rfl, rfl⟩
end
section
attribute [local go_sem] tqX tyY rs_len rs_g0 rs_g rs_s0 rs_s rs_sv Typ.v Typ.cs_eq tk_mk tname_mk tn_mk tl_mk tysC

/-- The code behind the loop. -/
def tqTailC : AC := match c57 with
  | .seq _ (.seq _ (.seq _ (.seq _ x))) => x
  | _ => .skip
theorem tq_tailW {w0 : World} {f : Nat} (hE : ∀ g, g ≤ f → TqTypeOK w0 g) {t : List Tok} {depth : Nat} {r : TyR} {o2 o : TyO} {σ : H} {b v : Nat} (D : Two σ b v) (ht : t.length ≤ 1000000) (hd : depth ≤ 200)
    (hin : (o2.e ≠ 0 ∧ o = o2) ∨ (∃ j : Nat, o2 = ⟨o2.u, (j : Nat), o2.ws, 0, 0⟩ ∧ tyTailF f t depth j o2.ws o2.u = some r ∧ tyTailQ f t depth o2 = some o ∧ j ≤ t.length ∧ o2.ws.length ≤ j))
    {x3 : V} (hx : x3 = .c (tysC o2.u.l) ∨ ∃ q, x3 = .osl q (o2.u.l.map Typ.cs)) (tk : List V) (ex : H) {ρ : Env} (e0 : ρ 0 = .ptr b 0) (e1 : ρ 1 = I depth) (e4 : ρ 4 = .ptr σ.length 0) (e6 : ρ 6 = .ptr (σ.length + 2) 0) (hok : H.ok (tqs σ b v t 0 [] 0 0)) :
    W Tryz.prog w0 σ.length (Lamb.Fin r57 σ.length (Same o.u.v (tqo σ b v t o))) [.code tqTailC] ⟨ρ, tqo σ b v t o2 ++ (.cells [I 0, S [], I 0, .csl []] :: .cells tk :: .cells [I o2.u.k, S o2.u.name, I o2.u.n, x3] :: ex)⟩ := by
  have hlen : (tqo σ b v t o2).length = σ.length := rs_len _ _
  rcases hin with ⟨hne, rfl⟩ | ⟨j, hj, hF, hG, hjl, hws⟩
  · have hb : (o.e != 0) = true := by simpa using hne
    rcases hx with rfl | ⟨q, rfl⟩
    all_goals
      ((try refine W.a ?_); simp only [go_sem, seval, reduceCtorEq, tqTailC, c57, rsA D, e0, e1, e4, e6])
      apply W.dregE (List.cons_ne_nil _ _)
      case hc =>
        (apply CanonE.advPO; simp only [go_sem, seval, reduceCtorEq, rsA D, e0, e1, e4, e6])
        (apply CanonE.pcall (fun τ => ref03_TokI w0 t o.j τ); (case hg => rfl); (case hf => rfl); (case ha => first | rfl | simp))
        (apply CanonE.advPO; simp only [go_sem, seval, reduceCtorEq, rsA D, e0, e1, e4, e6])
        exact CanonE.nil
      ((try refine W.a ?_); simp only [go_sem, seval, reduceCtorEq, rsA D, hb, e0, e1, e4, e6])
      refine W.yes rfl ?_
      ((try refine W.a ?_); simp only [go_sem, seval, reduceCtorEq, rsA D, e0, e1, e4, e6])
      (refine W.fg (tqs_ok D hok t o.j o.ws o.e o.p) (d := o.u.v) (by simp only [r57, go_sem, seval, reduceCtorEq, Typ.v, e4]; rfl) (by simp only [resV, go_sem, seval, reduceCtorEq, Typ.v, e4]; exact wk_here) ?_ (hl := by (first | exact .c _ | (simp only [go_sem, seval, reduceCtorEq, Typ.v, e4]; done))))
      exact ⟨rfl, rfl⟩
  · rw [hj] at hG ⊢
    generalize o2.u = u at *
    generalize o2.ws = ws at *
    obtain ⟨f', rfl⟩ : ∃ f', f = f' + 1 := by
      cases f with
      | zero => simp [tyTailF] at hF
      | succ f' => exact ⟨f', rfl⟩
    rw [tyTailF] at hF
    rw [tyTailQ] at hG
    simp only [tokI_nat, true_and] at hG
    by_cases hc : (tokL t j).kind = 4 ∧ (tokL t j).text = [45, 62]
    · rw [if_pos hc] at hF hG
      have hw : IntKind.i64.wrap ((j : Int) + 1) = ((j + 1 : Nat) : Int) := by rw [wrap_in] <;> omega
      have hwd : IntKind.i64.wrap ((depth : Int) + 1) = ((depth + 1 : Nat) : Int) := wrap_next (n := 201) (by omega) (by omega)
      have hjl' := tokL_lt (t := t) (i := j) (by rw [hc.1]; decide)
      have et : ((j : Int) + 1).toNat = j + 1 := by omega
      have k4 : ((tokL t j).kind != 4) = false := by simpa using hc.1
      have ktx : ((tokL t j).text == [45, 62]) = true := by simpa using hc.2
      by_cases c4 : 200 ≤ depth
      · rw [if_pos c4] at hG
        injection hG with hG
        subst hG
        have d1 : ((depth + 1 : Nat) : Int) > 200 := by omega
        rcases hx with rfl | ⟨q, rfl⟩
        all_goals
          ((try refine W.a ?_); simp only [go_sem, seval, reduceCtorEq, tqTailC, c57, rsA D, e0, e1, e4, e6])
          apply W.dregE (List.cons_ne_nil _ _)
          case hc =>
            (apply CanonE.advPO; simp only [go_sem, seval, reduceCtorEq, rsA D, e0, e1, e4, e6])
            (apply CanonE.pcall (fun τ => ref03_TokI w0 t j τ); (case hg => rfl); (case hf => rfl); (case ha => first | rfl | simp))
            (apply CanonE.advPO; simp only [go_sem, seval, reduceCtorEq, rsA D, e0, e1, e4, e6, tokI_nat])
            exact CanonE.nil
          ((try refine W.a ?_); simp only [go_sem, seval, reduceCtorEq, rsA D, e0, e1, e4, e6, k4, ktx])
          refine W.no rfl ?_
          ((try refine W.a ?_); simp only [go_sem, seval, reduceCtorEq, rsA D, e0, e1, e4, e6, hwd, d1])
          refine W.yes rfl ?_
          ((try refine W.a ?_); simp only [go_sem, seval, reduceCtorEq, rsA D, e0, e1, e4, e6])
          (refine W.c1 (DC.lift D (fun D' => ref05_fail w0 t j ws 0 0 31 (tokL t j).pos _ b v D')) ?_; simp only [go_sem, seval, reduceCtorEq, rsA D, e0, e1, e4, e6])
          (refine W.fg (tqs_ok D hok t j ws 31 (tokL t j).pos) (d := Typ.none.v) (by simp only [r57, go_sem, seval, reduceCtorEq, Typ.v, Typ.none, tk_mk, tname_mk, tn_mk, tl_mk, e4]; rfl) (by simp only [resV, go_sem, seval, reduceCtorEq, Typ.v, Typ.none, tk_mk, tname_mk, tn_mk, tl_mk, e4]; exact wk_here) ?_ (hl := by (first | exact .c _ | (simp only [go_sem, seval, reduceCtorEq, Typ.v, Typ.none, tk_mk, tname_mk, tn_mk, tl_mk, e4]; done))))
          exact ⟨rfl, rfl⟩
      · rw [if_neg c4] at hF hG
        rw [et] at hG
        have d1 : ¬ ((depth + 1 : Nat) : Int) > 200 := by omega
        cases hy : tyTypeF f' t (depth + 1) (j + 1) ws with
        | none => rw [hy] at hF; cases hF
        | some ry =>
          cases hz : tyTypeQ f' t (depth + 1) (j + 1) ws with
          | none => rw [hz] at hG; cases hG
          | some oi =>
            rw [hz] at hG
            injection hG with hG
            subst hG
            rcases hx with rfl | ⟨q, rfl⟩
            all_goals
              ((try refine W.a ?_); simp only [go_sem, seval, reduceCtorEq, tqTailC, c57, rsA D, e0, e1, e4, e6])
              apply W.dregE (List.cons_ne_nil _ _)
              case hc =>
                (apply CanonE.advPO; simp only [go_sem, seval, reduceCtorEq, rsA D, e0, e1, e4, e6])
                (apply CanonE.pcall (fun τ => ref03_TokI w0 t j τ); (case hg => rfl); (case hf => rfl); (case ha => first | rfl | simp))
                (apply CanonE.advPO; simp only [go_sem, seval, reduceCtorEq, rsA D, e0, e1, e4, e6, tokI_nat])
                exact CanonE.nil
              ((try refine W.a ?_); simp only [go_sem, seval, reduceCtorEq, rsA D, e0, e1, e4, e6, k4, ktx])
              refine W.no rfl ?_
              ((try refine W.a ?_); simp only [go_sem, seval, reduceCtorEq, rsA D, e0, e1, e4, e6, hwd, d1])
              refine W.no rfl ?_
              ((try refine W.a ?_); simp only [go_sem, seval, reduceCtorEq, rsA D, e0, e1, e4, e6, hw, hwd])
              (refine W.c1 (DC.lift D (fun D' => hE f' (by omega) t (depth + 1) (j + 1) ws ry oi _ b v hy hz D' ht (by omega) (by omega) (by omega))) ?_; simp only [go_sem, seval, reduceCtorEq, rsA D, e0, e1, e4, e6])
              (refine W.fg (tqs_ok D hok t oi.j oi.ws oi.e oi.p) (d := (Typ.arr u oi.u).v) (by simp only [r57, go_sem, seval, reduceCtorEq, Typ.v, Typ.arr, tk_mk, tname_mk, tn_mk, tl_mk, Typ.cs_eq, e4]; rfl) (by simp only [resV, go_sem, seval, reduceCtorEq, Typ.v, Typ.arr, tk_mk, tname_mk, tn_mk, tl_mk, Typ.cs_eq, e4]; exact wk_here) ?_ (hl := by (first | exact .c _ | (simp only [go_sem, seval, reduceCtorEq, Typ.v, Typ.arr, tk_mk, tname_mk, tn_mk, tl_mk, Typ.cs_eq, e4]; done))))
              exact ⟨rfl, rfl⟩
    · rw [if_neg hc] at hG
      injection hG with hG
      subst hG
      have two : ((tokL t j).kind != 4) = true ∨ (((tokL t j).kind != 4) = false ∧ ((tokL t j).text == [45, 62]) = false) := by
        cases ho : ((tokL t j).kind != 4)
        · refine .inr ⟨rfl, ?_⟩
          cases h6 : ((tokL t j).text == [45, 62])
          · rfl
          · exact absurd ⟨by simpa using ho, by simpa using h6⟩ hc
        · exact .inl rfl
      rcases hx with rfl | ⟨q, rfl⟩ <;> rcases two with k4 | ⟨k4, ktx⟩
      all_goals
        ((try refine W.a ?_); simp only [go_sem, seval, reduceCtorEq, tqTailC, c57, rsA D, e0, e1, e4, e6])
        apply W.dregE (List.cons_ne_nil _ _)
        case hc =>
          (apply CanonE.advPO; simp only [go_sem, seval, reduceCtorEq, rsA D, e0, e1, e4, e6])
          (apply CanonE.pcall (fun τ => ref03_TokI w0 t j τ); (case hg => rfl); (case hf => rfl); (case ha => first | rfl | simp))
          (apply CanonE.advPO; simp only [go_sem, seval, reduceCtorEq, rsA D, e0, e1, e4, e6, tokI_nat])
          exact CanonE.nil
        first
          | (((try refine W.a ?_); simp only [go_sem, seval, reduceCtorEq, rsA D, e0, e1, e4, e6, k4, ktx])
             refine W.yes rfl ?_)
          | (((try refine W.a ?_); simp only [go_sem, seval, reduceCtorEq, rsA D, e0, e1, e4, e6, k4])
             refine W.yes rfl ?_)
        ((try refine W.a ?_); simp only [go_sem, seval, reduceCtorEq, rsA D, e0, e1, e4, e6])
        (refine W.fg (tqs_ok D hok t j ws 0 0) (d := u.v) (by simp only [r57, go_sem, seval, reduceCtorEq, Typ.v, e4]; rfl) (by simp only [resV, go_sem, seval, reduceCtorEq, Typ.v, e4]; exact wk_here) ?_ (hl := by (first | exact .c _ | (simp only [go_sem, seval, reduceCtorEq, Typ.v, e4]; done))))
        exact ⟨rfl, rfl⟩
theorem ref05_Type {w0 : World} {f : Nat} (hA : ∀ g, g ≤ f → TqAtomOK w0 g) (hE : ∀ g, g ≤ f → TqTypeOK w0 g) : TqTypeOK w0 (f + 1) := by
  intro t depth i vs r o σ b v h ho D ht hv hi hd
  rw [tyTypeF] at h
  rw [tyTypeQ] at ho
  refine k57.go rfl (fun hok hsz => ?_)
  have hok0 : H.ok (tqs σ b v t 0 [] 0 0) := tqs_ok D hok t 0 [] 0 0
  ((try refine W.a ?_); simp only [go_sem, seval, reduceCtorEq, c57, rsA D])
  apply W.dregE (List.cons_ne_nil _ _)
  case hc =>
    (apply CanonE.advPO; simp only [go_sem, seval, reduceCtorEq, rsA D])
    (apply CanonE.pcall (fun τ => ref03_TokI w0 t i τ); (case hg => rfl); (case hf => rfl); (case ha => first | rfl | simp))
    (apply CanonE.advPO; simp only [go_sem, seval, reduceCtorEq, rsA D, tokI_nat])
    exact CanonE.nil
  ((try refine W.a ?_); simp only [go_sem, seval, reduceCtorEq, rsA D])
  cases ha : tyAtomF f t depth i vs with
  | none => rw [ha] at h; cases h
  | some ra =>
    rw [ha] at h
    obtain ⟨oa, hoa, hOa⟩ := (ty_outQ f).1 _ _ _ _ _ ht ha
    rw [hoa] at ho
    simp only at ho
    cases hk : ((tokL t i).kind == 1)
    · have hk1 : ¬ (tokL t i).kind = 1 := by simpa using hk
      rw [if_neg hk1] at ho
      simp only at ho
      have hin : (oa.e ≠ 0 ∧ o = oa) ∨ (∃ j : Nat, oa = ⟨oa.u, (j : Nat), oa.ws, 0, 0⟩ ∧ tyTailF f t depth j oa.ws oa.u = some r ∧ tyTailQ f t depth oa = some o ∧ j ≤ t.length ∧ oa.ws.length ≤ j) := by
        cases ra with
        | error x =>
          obtain ⟨q1, q2, q3⟩ := hOa
          have hne : oa.e ≠ 0 := by rw [q1]; simpa using q3
          left
          refine ⟨hne, ?_⟩
          cases f with
          | zero => simp [tyAtomF] at ha
          | succ f' => rw [tail_stopQ hne] at ho; injection ho with ho; exact ho.symm
        | ok x =>
          obtain ⟨u, j, ws⟩ := x
          have hO' : oa = ⟨u, (j : Nat), ws, 0, 0⟩ := hOa
          have b1 := (ty_bounds f).1 _ _ _ _ _ _ _ ha
          simp only [if_neg hk1] at h
          right
          subst hO'
          exact ⟨j, rfl, h, ho, b1.2.1, by show ws.length ≤ j; omega⟩
      (refine W.c1 (DC.lift D (fun D' => hA f (Nat.le_refl f) t depth i vs ra oa _ b v ha hoa D' ht hv hi hd)) ?_; simp only [go_sem, seval, reduceCtorEq, rsA D, hk, atomV, Bool.false_eq_true, if_false])
      refine W.no rfl ?_
      (refine W.advO 1 _ _ ?_; simp only [go_sem])
      refine tq_tailW hE D ht hd hin (.inl rfl) _ [] ?_ ?_ ?_ ?_ hok0 <;> rfl
    · have hk1 : (tokL t i).kind = 1 := by simpa using hk
      rw [if_pos hk1] at ho
      have hoa' : oa = ⟨.con (tokL t i).text, (i + 1 : Nat), vs, 0, 0⟩ := by
        cases f with
        | zero => simp [tyAtomF] at ha
        | succ f' =>
          rw [tyAtomQ, if_pos hk1] at hoa
          injection hoa with hoa
          exact hoa.symm
      have hil : i < t.length := tokL_lt (by rw [hk1]; decide)
      subst hoa'
      have hraE : ra = .ok (.con (tokL t i).text, i + 1, vs) := by
        cases f with
        | zero => simp [tyAtomF] at ha
        | succ f' =>
          rw [tyAtomF, if_pos hk1] at ha
          injection ha with ha
          exact ha.symm
      subst hraE
      simp only [if_pos hk1] at h
      cases hg : tyArgsF f t depth (i + 1) vs (.con (tokL t i).text) with
      | none => rw [hg] at h; cases h
      | some r1 =>
        rw [hg] at h
        cases hgo : tyArgsQ f t depth ⟨.con (tokL t i).text, (i + 1 : Nat), vs, 0, 0⟩ with
        | none => rw [hgo] at ho; cases ho
        | some o1 =>
          rw [hgo] at ho
          simp only at ho
          (refine W.c1 (DC.lift D (fun D' => hA f (Nat.le_refl f) t depth i vs _ _ _ b v ha hoa D' ht hv hi hd)) ?_; simp only [go_sem, seval, reduceCtorEq, rsA D, hk, atomV, if_true, Typ.con])
          refine W.yes rfl ?_
          ((try refine W.a ?_); simp only [go_sem, seval, reduceCtorEq, rsA D])
          refine W.ownCell (σ.length + 2) 3 32 4 (cs := [.c (.int .i64 0), .c (.str (tokL t i).text), .c (.int .i64 0), .csl []]) (tg := none) ?_ rfl ?_
          · simp only [rs_g, List.getElem?_cons_succ, List.getElem?_cons_zero]
          · ((try refine W.a ?_); simp only [go_sem, seval, reduceCtorEq, rsA D])
            obtain ⟨o1', ho1', hO1⟩ := (ty_outQ f).2.1 _ _ _ _ _ _ ht hg
            rw [hgo] at ho1'
            injection ho1' with ho1'
            subst ho1'
            have b1 := (ty_bounds f).1 _ _ _ _ _ _ _ ha
            have hf0 : 0 < f := by
              cases f with
              | zero => simp [tyAtomF] at ha
              | succ f' => omega
            have hin : (o1.e ≠ 0 ∧ o = o1) ∨ (∃ j : Nat, o1 = ⟨o1.u, (j : Nat), o1.ws, 0, 0⟩ ∧ tyTailF f t depth j o1.ws o1.u = some r ∧ tyTailQ f t depth o1 = some o ∧ j ≤ t.length ∧ o1.ws.length ≤ j) := by
              cases r1 with
              | error x =>
                obtain ⟨q1, q2, q3⟩ := hO1
                have hne : o1.e ≠ 0 := by rw [q1]; simpa using q3
                left
                refine ⟨hne, ?_⟩
                obtain ⟨f', rfl⟩ : ∃ f', f = f' + 1 := ⟨f - 1, by omega⟩
                rw [tail_stopQ hne] at ho
                injection ho with ho
                exact ho.symm
              | ok x =>
                obtain ⟨u, j, ws⟩ := x
                have hO' : o1 = ⟨u, (j : Nat), ws, 0, 0⟩ := hO1
                have b2 := (ty_bounds f).2.1 _ _ _ _ _ _ _ _ hg b1.2.1
                right
                subst hO'
                exact ⟨j, rfl, h, ho, b2.2.1, by show ws.length ≤ j; omega⟩
            refine W.loopP (fun x : ArgO => tyArgsQ x.g t depth x.o = some o1 ∧ x.g ≤ f ∧ 0 < x.g ∧ (x.o.e ≠ 0 ∨ ∃ (j : Nat) (ra : TyR), x.o.j = j ∧ x.o.e = 0 ∧ x.o.p = 0 ∧ tyArgsF x.g t depth j x.o.ws x.o.u = some ra ∧ j ≤ t.length ∧ x.o.ws.length ≤ j ∧ x.o.u.l.length ≤ j))
              (fun x => ⟨(((((base.put (some 0) (.ptr b 0)).put (some 1) (I depth)).put (some 4) (.ptr σ.length 0)).put (some 5) (.ptr (σ.length + 1) 0)).put (some 6) (.ptr (σ.length + 2) 0)), tqo σ b v t x.o ++ [.cells [I 0, S [], I 0, .csl []], .cells (tokL t i).v.cellsV, .cells [I x.o.u.k, S x.o.u.name, I x.o.u.n, .osl (σ.length + 3) (x.o.u.l.map Typ.cs)], .spare 32 4 x.o.u.l.length]⟩)
              (fun x => x.g) ⟨f, ⟨.con (tokL t i).text, (i + 1 : Nat), vs, 0, 0⟩⟩ ⟨hgo, Nat.le_refl f, hf0, .inr ⟨i + 1, r1, rfl, rfl, rfl, hg, by omega, by show vs.length ≤ i + 1; omega, Nat.zero_le _⟩⟩ ?_ (fun x hx => ?_)
            · (refine Lew.env ?_; exact lee_here)
            · obtain ⟨g, ⟨u, j', ws, e, p⟩⟩ := x
              obtain ⟨hG, hgf, hg0, hst⟩ := hx
              simp only at hG hgf hg0 hst
              obtain ⟨g', rfl⟩ : ∃ g', g = g' + 1 := ⟨g - 1, by omega⟩
              rcases hst with hne | ⟨j, ra', rfl, rfl, rfl, hF, hjl, hwl, hul⟩
              · rw [args_stopQ hne] at hG
                injection hG with hG
                subst hG
                have hb : (e == 0) = false := by simpa using hne
                ((try refine W.a ?_); simp only [go_sem, seval, reduceCtorEq, rsA D, hb])
                refine W.no rfl ?_
                (refine W.advO 1 _ _ ?_; simp only [go_sem])
                refine tq_tailW hE D ht hd hin (.inr ⟨_, rfl⟩) _ [_] ?_ ?_ ?_ ?_ hok0 <;> rfl
              · rw [tyArgsQ] at hG
                rw [tyArgsF] at hF
                simp only [tokI_nat, true_and, Int.toNat_natCast] at hG
                ((try refine W.a ?_); simp only [go_sem, seval, reduceCtorEq, rsA D])
                (refine W.c1 (DC.lift D (fun D' => ref05_atom w0 t j ws 0 0 _ b v D')) ?_; simp only [go_sem, seval, reduceCtorEq, rsA D, tokI_nat])
                cases hB : tyBegins (tokL t j)
                · rw [if_neg (by rw [hB]; decide)] at hG
                  injection hG with hG
                  subst hG
                  ((try refine W.a ?_); simp only [go_sem, seval, reduceCtorEq, hB])
                  refine W.no rfl ?_
                  (refine W.advO 1 _ _ ?_; simp only [go_sem])
                  refine tq_tailW hE D ht hd hin (.inr ⟨_, rfl⟩) _ [_] ?_ ?_ ?_ ?_ hok0 <;> rfl
                · rw [if_neg (by rw [hB]; decide)] at hF
                  rw [if_pos hB] at hG
                  have hjl' := tyBegins_lt (t := t) (i := j) (by rw [hB]; decide)
                  cases ha' : tyAtomF g' t depth j ws with
                  | none => rw [ha'] at hF; cases hF
                  | some rb =>
                    rw [ha'] at hF
                    obtain ⟨a, hag, haO⟩ := (ty_outQ g').1 _ _ _ _ _ ht ha'
                    rw [hag] at hG
                    simp only at hG
                    have hgp : 0 < g' := by
                      cases g' with
                      | zero => simp [tyAtomF] at ha'
                      | succ k => omega
                    have hal : ((tokL t j).kind == 1) = true → a.u.l = [] := fun hk2 => by
                      cases g' with
                      | zero => simp [tyAtomF] at ha'
                      | succ k =>
                        rw [tyAtomQ, if_pos (by simpa using hk2)] at hag
                        injection hag with hag
                        rw [← hag]; rfl
                    have hbd1 : (u.l.length + 1) * 56 ≤ 140737488355328 := by omega
                    have hbd2 : u.l.length + 1 ≤ 140737488355328 := by omega
                    have hinv : tyArgsQ g' t depth ⟨u.put a.u, a.j, a.ws, a.e, a.p⟩ = some o1 ∧ g' ≤ f ∧ 0 < g' ∧ (a.e ≠ 0 ∨ ∃ (k : Nat) (rc : TyR), a.j = k ∧ a.e = 0 ∧ a.p = 0 ∧ tyArgsF g' t depth k a.ws (u.put a.u) = some rc ∧ k ≤ t.length ∧ a.ws.length ≤ k ∧ (u.put a.u).l.length ≤ k) := by
                      refine ⟨hG, by omega, hgp, ?_⟩
                      cases rb with
                      | error x =>
                        obtain ⟨q1, q2, q3⟩ := haO
                        left; rw [q1]; simpa using q3
                      | ok x =>
                        obtain ⟨ua, k, ws'⟩ := x
                        have hO' : a = ⟨ua, (k : Nat), ws', 0, 0⟩ := haO
                        have b2 := (ty_bounds g').1 _ _ _ _ _ _ _ ha'
                        subst hO'
                        right
                        refine ⟨k, _, rfl, rfl, rfl, hF, b2.2.1, by show ws'.length ≤ k; omega, ?_⟩
                        simp only [Typ.put, tl_mk, List.length_append, List.length_cons, List.length_nil]
                        omega
                    ((try refine W.a ?_); simp only [go_sem, seval, reduceCtorEq, hB])
                    refine W.yes rfl ?_
                    ((try refine W.a ?_); simp only [go_sem, seval, reduceCtorEq, rsA D])
                    cases hk2 : ((tokL t j).kind == 1)
                    · apply W.dregE (List.cons_ne_nil _ _)
                      case hc =>
                        (apply CanonE.advPO; simp only [go_sem, seval, reduceCtorEq, rsA D])
                        (apply CanonE.call (DC.lift D (fun D' => hA g' (by omega) t depth j ws rb a _ b v ha' hag D' ht hwl hjl hd)); (case hg => rfl); (case hf => rfl); (case ha => first | rfl | simp))
                        (apply CanonE.advPO; simp only [go_sem, seval, reduceCtorEq, rsA D, hk2, atomV, Bool.false_eq_true, if_false, hbd1, hbd2])
                        exact CanonE.nil
                      ((try refine W.a ?_); simp only [go_sem, seval, reduceCtorEq, rsA D])
                      refine .inv ⟨⟨g', ⟨u.put a.u, a.j, a.ws, a.e, a.p⟩⟩, hinv, by simp, ?_⟩
                      simp only [go_sem, seval, reduceCtorEq, Typ.put, tk_mk, tname_mk, tn_mk, tl_mk, List.map_append, List.length_append, rsA D]
                      (refine Lew.env ?_; exact lee_here)
                    · have hal' := hal hk2
                      apply W.dregE (List.cons_ne_nil _ _)
                      case hc =>
                        (apply CanonE.advPO; simp only [go_sem, seval, reduceCtorEq, rsA D])
                        (apply CanonE.call (DC.lift D (fun D' => hA g' (by omega) t depth j ws rb a _ b v ha' hag D' ht hwl hjl hd)); (case hg => rfl); (case hf => rfl); (case ha => first | rfl | simp))
                        (apply CanonE.advPO; simp only [go_sem, seval, reduceCtorEq, rsA D, hk2, atomV, if_true, hbd1, hbd2])
                        exact CanonE.nil
                      ((try refine W.a ?_); simp only [go_sem, seval, reduceCtorEq, rsA D])
                      refine .inv ⟨⟨g', ⟨u.put a.u, a.j, a.ws, a.e, a.p⟩⟩, hinv, by simp, ?_⟩
                      simp only [go_sem, seval, reduceCtorEq, Typ.put, tk_mk, tname_mk, tn_mk, tl_mk, hal', List.map_append, List.length_append, rsA D]
                      (refine Lew.env ?_; exact lee_here)
theorem ref05_all (w0 : World) : ∀ f, (∀ g, g ≤ f → TqAtomOK w0 g) ∧ (∀ g, g ≤ f → TqTypeOK w0 g)
  | 0 => ⟨fun g hg => by
      have : g = 0 := by omega
      subst this
      intro t depth i vs r o σ b v h
      simp [tyAtomF] at h, fun g hg => by
      have : g = 0 := by omega
      subst this
      intro t depth i vs r o σ b v h
      simp [tyTypeF] at h⟩
  | f + 1 => by
    obtain ⟨h1, h2⟩ := ref05_all w0 f
    refine ⟨fun g hg => ?_, fun g hg => ?_⟩
    · rcases Nat.lt_or_ge f g with h | h
      · have : g = f + 1 := by omega
        subst this
        exact ref05_Atom (h2 f (Nat.le_refl f))
      · exact h1 g h
    · rcases Nat.lt_or_ge f g with h | h
      · have : g = f + 1 := by omega
        subst this
        exact ref05_Type h1 h2
      · exact h2 g h
end
section
attribute [local go_sem] tqX tyY rs_len rs_g0 rs_g rs_s0 rs_s rs_sv Typ.v Typ.cs_eq tk_mk tname_mk tn_mk tl_mk tysC

theorem ref05_atom_out (w0 : World) (t : List Tok) (depth : Nat) (i : Int) (hB : tyBegins (tokI t i) = false) (σ : H) (b v : Nat) (D : Two σ b v) (ht : t.length ≤ 1000000) :
    DC Tryz.prog w0 105 [.ptr b 0, I depth] (tqs σ b v t i [] 0 0) (Same Typ.none.v (tqs σ b v t i [] 50 (tokI t i).pos)) := by
  refine k105.go rfl (fun hok hsz => ?_)
  ((try refine W.a ?_); simp only [go_sem, seval, reduceCtorEq, c105, rsA D])
  apply W.dregE (List.cons_ne_nil _ _)
  case hc =>
    (apply CanonE.advPO; simp only [go_sem, seval, reduceCtorEq, rsA D])
    (apply CanonE.pcall (fun τ => ref03_TokI w0 t i τ); (case hg => rfl); (case hf => rfl); (case ha => first | rfl | simp))
    (apply CanonE.advPO; simp only [go_sem, seval, reduceCtorEq, rsA D])
    exact CanonE.nil
  ((try refine W.a ?_); simp only [go_sem, seval, reduceCtorEq, rsA D])
  (refine W.c1 (DC.lift D (fun D' => ref05_atom w0 t i [] 0 0 _ b v D')) ?_; simp only [go_sem, seval, reduceCtorEq, rsA D, hB])
  refine W.yes rfl ?_
  ((try refine W.a ?_); simp only [go_sem, seval, reduceCtorEq, rsA D])
  (refine W.c1 (DC.lift D (fun D' => ref05_fail w0 t i [] 0 0 50 (tokI t i).pos _ b v D')) ?_; simp only [go_sem, seval, reduceCtorEq, rsA D])
  (refine W.fg (tqs_ok D hok t i [] 50 (tokI t i).pos) (d := Typ.none.v) (by simp only [r105, go_sem, seval, reduceCtorEq, Typ.v, Typ.none, tk_mk, tname_mk, tn_mk, tl_mk]; rfl) (by simp only [resV, go_sem, seval, reduceCtorEq, Typ.v, Typ.none, tk_mk, tname_mk, tn_mk, tl_mk]; exact wk_here) ?_ (hl := by (first | exact .c _ | (simp only [go_sem, seval, reduceCtorEq, Typ.v, Typ.none, tk_mk, tname_mk, tn_mk, tl_mk]; done))))
  exact ⟨rfl, rfl⟩
theorem ref05_type_out (w0 : World) (t : List Tok) (i : Int) (hB : tyBegins (tokI t i) = false) (σ : H) (b v : Nat) (D : Two σ b v) (ht : t.length ≤ 1000000) :
    DC Tryz.prog w0 57 [.ptr b 0, I 0] (tqs σ b v t i [] 0 0) (Same Typ.none.v (tqs σ b v t i [] 50 (tokI t i).pos)) := by
  refine k57.go rfl (fun hok hsz => ?_)
  have hk : ((tokI t i).kind == 1) = false := by
    simp only [tyBegins, Bool.or_eq_false_iff, decide_eq_false_iff_not] at hB
    simpa using hB.1.1
  ((try refine W.a ?_); simp only [go_sem, seval, reduceCtorEq, c57, rsA D])
  apply W.dregE (List.cons_ne_nil _ _)
  case hc =>
    (apply CanonE.advPO; simp only [go_sem, seval, reduceCtorEq, rsA D])
    (apply CanonE.pcall (fun τ => ref03_TokI w0 t i τ); (case hg => rfl); (case hf => rfl); (case ha => first | rfl | simp))
    (apply CanonE.advPO; simp only [go_sem, seval, reduceCtorEq, rsA D])
    exact CanonE.nil
  ((try refine W.a ?_); simp only [go_sem, seval, reduceCtorEq, rsA D])
  (refine W.c1 (DC.lift D (fun D' => ref05_atom_out w0 t 0 i hB _ b v D' ht)) ?_; simp only [go_sem, seval, reduceCtorEq, rsA D, Typ.none, hk])
  refine W.no rfl ?_
  (refine W.advO 1 _ _ ?_; simp only [go_sem])
  refine tq_tailW (ref05_all w0 0).2 (o2 := ⟨.none, i, [], 50, (tokI t i).pos⟩) (o := ⟨.none, i, [], 50, (tokI t i).pos⟩) (r := .error ⟨50, 0⟩) D ht (Nat.zero_le _) (.inl ⟨by show (50 : Int) ≠ 0; decide, rfl⟩) (.inl rfl) _ [] ?_ ?_ ?_ ?_ (tqs_ok D hok t 0 [] 0 0) <;> rfl
theorem ref05_ReadO (w0 : World) (t : List Tok) (i : Int) (o : TyO) (r : TyR) (hO : TOut r o) (σ : H)
    (hc : ∀ (σ : H) (b v : Nat), Two σ b v → DC Tryz.prog w0 57 [.ptr b 0, I 0] (tqs σ b v t i [] 0 0) (Same o.u.v (tqo σ b v t o))) :
    DC Tryz.prog w0 26 [.c (toksC t), I i] σ (Same (tyReadV i r) σ) := by
  refine k26.go rfl (fun hok hsz => ?_)
  ((try refine W.a ?_); simp only [go_sem, seval, reduceCtorEq, c26])
  refine W.ownCell (σ.length + 1) 4 9 1 (cs := [.c (toksC t), I i, I 0, I 0, .csl []]) (tg := none) ?_ rfl ?_
  · simp only [hget, List.getElem?_cons_succ, List.getElem?_cons_zero]; rfl
  · ((try refine W.a ?_); simp only [go_sem, seval, reduceCtorEq])
    have hh : ∀ X, DC Tryz.prog w0 57 [.ptr (σ.length + 1) 0, I 0] (σ ++ [X, .cells [.c (toksC t), I i, I 0, I 0, .osl (σ.length + 2) []], .spare 9 1 0]) (Same o.u.v (σ ++ [X, tqX t o.j (σ.length + 2) o.ws o.e o.p, tyY o.ws])) := fun X => by
      have := hc (σ ++ [X, X, X]) (σ.length + 1) (σ.length + 2) (two_new σ X X X)
      unfold tqo tqs at this
      rw [rs_new, rs_new] at this
      exact this
    (refine W.c1 (hh _) ?_; simp only [go_sem, seval, reduceCtorEq])
    cases r with
    | ok x =>
      obtain ⟨u, j, ws⟩ := x
      have hO' : o = ⟨u, (j : Nat), ws, 0, 0⟩ := hO
      subst hO'
      ((try refine W.a ?_); simp only [go_sem, seval, reduceCtorEq])
      refine W.no rfl ?_
      ((try refine W.a ?_); simp only [go_sem, seval, reduceCtorEq])
      (apply W.dregE (List.cons_ne_nil _ _); case hc => ((apply CanonE.advPO; simp only [go_sem, seval, reduceCtorEq]); exact CanonE.nil))
      ((try refine W.a ?_); simp only [go_sem, seval, reduceCtorEq])
      (refine W.fs (hok) (by simp only [r26, go_sem, seval, reduceCtorEq, tyReadV, Typ.v]; rfl) ?_ (hl := by (first | exact .c _ | (simp only [go_sem, seval, reduceCtorEq, tyReadV, Typ.v]; done))); simp only [resV, tyReadV, Typ.v]; try exact V.wk.rfl _)
      (all_goals exact wk_here)
    | error x =>
      obtain ⟨q1, q2, q3⟩ := hO
      have hb : (o.e != 0) = true := by rw [q1, bne, q3]; rfl
      ((try refine W.a ?_); simp only [go_sem, seval, reduceCtorEq, hb])
      refine W.yes rfl ?_
      ((try refine W.a ?_); simp only [go_sem, seval, reduceCtorEq])
      (apply W.dregE (List.cons_ne_nil _ _); case hc => ((apply CanonE.advPO; simp only [go_sem, seval, reduceCtorEq]); exact CanonE.nil))
      ((try refine W.a ?_); simp only [go_sem, seval, reduceCtorEq])
      rw [q1, q2]
      (refine W.fs (hok) (by simp only [r26, go_sem, seval, reduceCtorEq, tyReadV, Typ.v, Typ.none, tk_mk, tname_mk, tn_mk, tl_mk, List.map_nil]; rfl) ?_ (hl := by (first | exact .c _ | (simp only [go_sem, seval, reduceCtorEq, tyReadV, Typ.v, Typ.none, tk_mk, tname_mk, tn_mk, tl_mk, List.map_nil]; done))); simp only [resV, tyReadV, Typ.v, Typ.none, tk_mk, tname_mk, tn_mk, tl_mk, List.map_nil]; try exact V.wk.rfl _)
      (all_goals exact wk_here)
theorem ref05_Read (w0 : World) (t : List Tok) (i : Int) (ht : t.length ≤ 1000000) (σ : H) : DC Tryz.prog w0 26 [.c (toksC t), I i] σ (Same (tyReadV i (tyFrom t i)) σ) := by
  by_cases h : 0 ≤ i ∧ i ≤ t.length
  · obtain ⟨n, rfl⟩ := Int.eq_ofNat_of_zero_le h.1
    rw [tyFrom_nat (by omega)]
    obtain ⟨f, hf⟩ := tyT_is t n
    obtain ⟨o, ho, hO⟩ := (ty_outQ f).2.2.2 _ _ _ _ _ ht hf
    exact ref05_ReadO w0 t n o _ hO σ fun σ b v D => (ref05_all w0 f).2 f (Nat.le_refl f) t 0 n [] _ o σ b v hf ho D ht (Nat.zero_le _) (by omega) (Nat.zero_le _)
  · have hto := tokI_out h
    have hB : tyBegins (tokI t i) = false := by rw [hto]; rfl
    unfold tyFrom
    rw [if_neg h]
    refine ref05_ReadO w0 t i ⟨.none, i, [], 50, (tokI t i).pos⟩ (.error ⟨50, lastPos t⟩) ⟨rfl, by rw [hto], rfl⟩ σ fun σ b v D => ref05_type_out w0 t i hB σ b v D ht
theorem typ_len {p : Typ} {args : List V} (h : ∀ y ∈ args, V.Sz y) (hx : p.v ∈ args) : p.l.length ≤ 9223372036854775807 := by
  have := h _ hx
  rw [Typ.v, sz_agg] at this
  exact sz_rows (this (.c (.sl (p.l.map Typ.cs))) (by simp))
theorem ref05_Same (w0 : World) (p : Typ) : ∀ (q : Typ) (σ : H), DC Tryz.prog w0 21 [p.v, q.v] σ (Same (B (sameTy p q)) σ) := by
  refine Typ.ind (P := fun p => ∀ (q : Typ) (σ : H), DC Tryz.prog w0 21 [p.v, q.v] σ (Same (B (sameTy p q)) σ)) (fun p ih q σ => ?_) p
  refine k21.go rfl (fun hok hsz => ?_)
  have hlen := typ_len hsz (List.mem_cons_self ..)
  have hlq : ((p.l.length : Int) == (q.l.length : Int)) = (p.l.length == q.l.length) := by rw [Bool.eq_iff_iff]; simp; omega
  have hnl : p.l.length ≠ q.l.length → zipAll sameTy p.l q.l = false := zipAll_len
  (((try refine W.a ?_); (try simp only [bne, go_sem, seval, reduceCtorEq, c21, hlq, *])); (repeat' (first | (refine W.yes rfl ?_; (refine W.a ?_; simp only [bne, go_sem, seval, reduceCtorEq, c21, hlq, *])) | (refine W.no rfl ?_; (refine W.a ?_; simp only [bne, go_sem, seval, reduceCtorEq, c21, hlq, *])) | (refine W.testn rfl (fun hT => ?_) (fun hT => ?_) <;> (refine W.a ?_; simp only [bne, go_sem, seval, reduceCtorEq, c21, hlq, *])) | (refine W.test rfl (fun hT => ?_) (fun hT => ?_) <;> (refine W.a ?_; simp only [bne, go_sem, seval, reduceCtorEq, c21, hlq, *])) | (refine advG_ifn _ _ _ _ (fun hT => ?_) (fun hT => ?_) <;> simp only [bne, go_sem, seval, reduceCtorEq, c21, hlq, *]) | (refine advG_if _ _ _ _ (fun hT => ?_) (fun hT => ?_) <;> simp only [bne, go_sem, seval, reduceCtorEq, c21, hlq, *]))))
  all_goals (try (refine W.fs (hok) (by simp only [r21, go_sem, seval, reduceCtorEq]; rfl) ?_; simp only [resV]; (first | exact V.wk.rfl _ | (refine wk_bool ?_; clear hsz hok; rw [sameTy_eq] <;> ((try simp only [beq_iff_eq, beq_eq_false_iff_ne, ne_eq, decide_eq_true_eq, decide_eq_false_iff_not] at *); first | (exfalso; omega) | (simp [hnl, *]; done) | (simp [hnl, *]; omega) | (simp [hnl, *]))))))
  simp only [beq_iff_eq, beq_eq_false_iff_ne, Bool.not_eq_true', Bool.not_eq_false'] at *
  have hl : p.l.length = q.l.length := by assumption
  have hs0 : sameTy p q = zipAll sameTy p.l q.l := by rw [sameTy_eq]; simp [*]
  refine W.loopP (fun i => i ≤ p.l.length ∧ ∀ j (hj : j < p.l.length) (hj' : j < q.l.length), j < i → sameTy p.l[j] q.l[j] = true) (fun i => ⟨((((base.put (some 2) (.ptr σ.length 0)).put (some 3) (.ptr (σ.length + 1) 0)).put (some 4) (B false)).put (some 5) (I (i : Nat))), σ ++ [.cells p.v.cellsV, .cells q.v.cellsV]⟩) (fun i => p.l.length - i) 0 ⟨Nat.zero_le _, fun _ _ _ h => absurd h (by omega)⟩ ?_ (fun i hi => ?_)
  · (refine Lew.env ?_; exact lee_here)
  · obtain ⟨hi, hinv⟩ := hi
    by_cases hlt : i < p.l.length
    · have h1 : ((i : Int) < (p.l.length : Int)) := by omega
      have h2 : ((i : Int) < (q.l.length : Int)) := by omega
      have hltr : i < q.l.length := by omega
      have hx : p.l[i]? = some p.l[i] := List.getElem?_eq_getElem hlt
      have hy : q.l[i]? = some q.l[i] := List.getElem?_eq_getElem hltr
      have hw : IntKind.i64.wrap ((i : Int) + 1) = ((i + 1 : Nat) : Int) := wrap_next hlt hlen
      ((try refine W.a ?_); simp only [go_sem, seval, reduceCtorEq, h1])
      refine W.yes rfl ?_
      ((try refine W.a ?_); simp only [go_sem, seval, reduceCtorEq])
      apply W.dregE (List.cons_ne_nil _ _)
      case hc =>
        (apply CanonE.advPO; simp only [go_sem, seval, reduceCtorEq, h1, h2, nat0, hx, hy])
        (apply CanonE.call (ih p.l[i] (List.getElem_mem hlt) q.l[i] _); (case hg => rfl); (case hf => rfl); (case ha => first | rfl | simp))
        (apply CanonE.advPO; simp only [go_sem, seval, reduceCtorEq])
        exact CanonE.nil
      ((try refine W.a ?_); simp only [go_sem, seval, reduceCtorEq])
      refine W.testn rfl (fun h => ?_) (fun h => ?_)
      · ((try refine W.a ?_); simp only [go_sem, seval, reduceCtorEq, hw])
        refine .inv ⟨i + 1, ⟨hlt, fun j hj hj' hji => ?_⟩, by omega, ?_⟩
        · rcases Nat.lt_succ_iff_lt_or_eq.1 hji with h' | h'
          · exact hinv j hj hj' h'
          · subst h'; exact h
        · (refine Lew.env ?_; exact lee_here)
      · ((try refine W.a ?_); simp only [go_sem, seval, reduceCtorEq])
        (refine W.fs (hok) (by simp only [r21, go_sem, seval, reduceCtorEq]; rfl) ?_; simp only [resV]; try exact V.wk.rfl _)
        rw [hs0, zipAll_no hlt hltr h]
        exact .rfl _
    · have h1 : ¬ ((i : Int) < (p.l.length : Int)) := by omega
      ((try refine W.a ?_); simp only [go_sem, seval, reduceCtorEq, h1])
      refine W.no rfl ?_
      ((try refine W.a ?_); simp only [go_sem, seval, reduceCtorEq])
      (refine W.fs (hok) (by simp only [r21, go_sem, seval, reduceCtorEq]; rfl) ?_; simp only [resV]; try exact V.wk.rfl _)
      rw [hs0, zipAll_yes hl (fun j hj hj' => hinv j hj hj' (by omega))]
      exact .rfl _
theorem ref05_left (w0 : World) (p : Typ) : ∀ (n : Int), 0 ≤ n → n ≤ 1000000 → ∀ (σ : H), DC Tryz.prog w0 63 [p.v, I n] σ (Same (I (leftT p n)) σ) := by
  refine Typ.ind (P := fun p => ∀ (n : Int), 0 ≤ n → n ≤ 1000000 → ∀ (σ : H), DC Tryz.prog w0 63 [p.v, I n] σ (Same (I (leftT p n)) σ)) (fun p ih n hn hn' σ => ?_) p
  refine k63.go rfl (fun hok hsz => ?_)
  have hlen := typ_len hsz (List.mem_cons_self ..)
  have hw0 : IntKind.i64.wrap (n - 1) = n - 1 := by rw [wrap_in] <;> omega
  ((try refine W.a ?_); simp only [go_sem, seval, reduceCtorEq, c63, hw0])
  refine W.loopP (α := Nat × Int) (fun x => x.1 ≤ p.l.length ∧ -1 ≤ x.2 ∧ x.2 ≤ 1000000 ∧ leftTs (p.l.drop x.1) x.2 = leftT p n) (fun x => ⟨((((base.put (some 2) (.ptr σ.length 0)).put (some 4) (I 0)).put (some 5) (I x.2)).put (some 6) (I (x.1 : Nat))), σ ++ [.cells p.v.cellsV]⟩) (fun x => p.l.length - x.1) (0, n - 1) ⟨Nat.zero_le _, by simp only; omega, by simp only; omega, by rw [leftT_eq]; rfl⟩ ?_ (fun x hi => ?_)
  · (refine Lew.env ?_; exact lee_here)
  · obtain ⟨i, m⟩ := x
    obtain ⟨hi, hm, hm', hinv⟩ := hi
    simp only at hi hm hm' hinv
    by_cases hlt : i < p.l.length
    · have h1 : ((i : Int) < (p.l.length : Int)) := by omega
      have hx : p.l[i]? = some p.l[i] := List.getElem?_eq_getElem hlt
      have hw : IntKind.i64.wrap ((i : Int) + 1) = ((i + 1 : Nat) : Int) := wrap_next hlt hlen
      by_cases h0 : 0 ≤ m
      · have h0' : m ≥ 0 := h0
        ((try refine W.a ?_); simp only [go_sem, seval, reduceCtorEq, h1, h0'])
        refine W.yes rfl ?_
        ((try refine W.a ?_); simp only [go_sem, seval, reduceCtorEq, h1, nat0, hx])
        (refine W.c1 (ih p.l[i] (List.getElem_mem hlt) m h0 hm' _) ?_; simp only [go_sem, seval, reduceCtorEq, hw])
        have := leftT_le p.l[i] m h0
        refine .inv ⟨(i + 1, leftT p.l[i] m), ⟨hlt, this.1, by simp only; omega, by rw [← hinv, leftTs_step hlt h0]⟩, by simp only; omega, ?_⟩
        (refine Lew.env ?_; exact lee_here)
      · have h0' : ¬ m ≥ 0 := h0
        ((try refine W.a ?_); simp only [go_sem, seval, reduceCtorEq, h1, h0'])
        refine W.no rfl ?_
        ((try refine W.a ?_); simp only [go_sem, seval, reduceCtorEq])
        (refine W.fs (hok) (by simp only [r63, go_sem, seval, reduceCtorEq]; rfl) ?_; simp only [resV]; try exact V.wk.rfl _)
        rw [← hinv, leftTs_neg h0]
        exact .rfl _
    · have h1 : ¬ ((i : Int) < (p.l.length : Int)) := by omega
      ((try refine W.a ?_); simp only [go_sem, seval, reduceCtorEq, h1])
      refine W.no rfl ?_
      ((try refine W.a ?_); simp only [go_sem, seval, reduceCtorEq])
      (refine W.fs (hok) (by simp only [r63, go_sem, seval, reduceCtorEq]; rfl) ?_; simp only [resV]; try exact V.wk.rfl _)
      rw [← hinv, leftTs_end (by omega)]
      exact .rfl _
theorem ref05_Large (w0 : World) (p : Typ) (n : Int) (hn : 0 ≤ n) (hn' : n ≤ 1000000) (σ : H) : DC Tryz.prog w0 29 [p.v, I n] σ (Same (B (decide (leftT p n < 0))) σ) := by
  refine k29.go rfl (fun hok hsz => ?_)
  ((try refine W.a ?_); simp only [go_sem, seval, reduceCtorEq, c29])
  (refine W.c1 (ref05_left w0 p n hn hn' _) ?_; simp only [go_sem, seval, reduceCtorEq])
  (refine W.fs (hok) (by simp only [r29, go_sem, seval, reduceCtorEq]; rfl) ?_; simp only [resV]; try exact V.wk.rfl _)
end
section
attribute [local go_sem] Typ.v Typ.cs_eq tk_mk tname_mk tn_mk tl_mk tysC rz_len rz_g0 rz_g rz_s0 rz_s rz_sb

theorem sizeTs_mem {x : Typ} : ∀ {l : List Typ}, x ∈ l → sizeT x ≤ sizeTs l
  | [], h => by simp at h
  | y :: l, h => by
    rw [sizeTs]
    rcases List.mem_cons.1 h with rfl | h
    · omega
    · have := sizeTs_mem h; omega
theorem sizeTs_take (l : List Typ) (i : Nat) (h : i < l.length) : sizeTs (l.take (i + 1)) = sizeTs (l.take i) + sizeT l[i] ∧ sizeTs (l.take (i + 1)) ≤ sizeTs l := by
  have h1 : l.take (i + 1) = l.take i ++ [l[i]] := List.take_succ_eq_append_getElem h
  have h2 : sizeTs (l.take (i + 1)) = sizeTs (l.take i) + sizeT l[i] := by
    rw [h1, sizeTs_add]; simp [sizeTs]
  refine ⟨h2, ?_⟩
  have h3 := sizeTs_add (l.take (i + 1)) (l.drop (i + 1))
  rw [List.take_append_drop] at h3
  omega
theorem ty_Size (w0 : World) (p : Typ) : sizeT p ≤ 1000000 → ∀ (σ : H), DC Tryz.prog w0 55 [p.v] σ (Same (I (sizeT p : Nat)) σ) := by
  refine Typ.ind (P := fun p => sizeT p ≤ 1000000 → ∀ (σ : H), DC Tryz.prog w0 55 [p.v] σ (Same (I (sizeT p : Nat)) σ)) (fun p ih hb σ => ?_) p
  refine k55.go rfl (fun hok hsz => ?_)
  have hlen := typ_len hsz (List.mem_cons_self ..)
  rw [sizeT_eq] at hb ⊢
  by_cases hk : p.k = 1
  · have n1 : (p.k != 1) = false := by simpa using hk
    ((try refine W.a ?_); simp only [go_sem, seval, reduceCtorEq, c55, n1])
    refine W.no rfl ?_
    ((try refine W.a ?_); simp only [go_sem, seval, reduceCtorEq])
    rw [if_pos hk]
    (refine W.fs (hok) (by simp only [r55, go_sem, seval, reduceCtorEq]; rfl) ?_; simp only [resV]; try exact V.wk.rfl _)
    (all_goals exact wk_here)
  · have n1 : (p.k != 1) = true := by simpa using hk
    rw [if_neg hk] at hb ⊢
    ((try refine W.a ?_); simp only [go_sem, seval, reduceCtorEq, c55, n1])
    refine W.yes rfl ?_
    ((try refine W.a ?_); simp only [go_sem, seval, reduceCtorEq])
    refine W.loopP (fun i => i ≤ p.l.length) (fun i => ⟨((((base.put (some 3) (I ((1 + sizeTs (p.l.take i) : Nat) : Int))).put (some 10) (.c (tysC p.l))).put (some 11) (I p.l.length)).put (some 12) (I i)), σ⟩) (fun i => p.l.length - i) 0 (Nat.zero_le _) ?_ (fun i hi => ?_)
    · (refine Lew.drop ?_ (Nat.le_refl _) (hok) ?_; exact lee_here; (repeat' (first | exact LowE.base _ | (refine LowE.put ?_ (by first | exact .c _ | (simp only [go_sem, seval, reduceCtorEq]; done) | exact V.low_fn_nil _ _)))))
    · by_cases hlt : i < p.l.length
      · have h1 : ((i : Int) < (p.l.length : Int)) := by omega
        have hx : p.l[i]? = some p.l[i] := List.getElem?_eq_getElem hlt
        obtain ⟨s1, s2⟩ := sizeTs_take p.l i hlt
        have hw := wrap_next hlt hlen
        have hs : IntKind.i64.wrap (((1 + sizeTs (p.l.take i) : Nat) : Int) + ((sizeT p.l[i] : Nat) : Int)) = ((1 + sizeTs (p.l.take (i + 1)) : Nat) : Int) := by rw [wrap_in] <;> omega
        ((try refine W.a ?_); simp only [go_sem, seval, reduceCtorEq, h1])
        refine W.yes rfl ?_
        ((try refine W.a ?_); simp only [go_sem, seval, reduceCtorEq, h1, nat0, hx])
        (refine W.c1 (ih p.l[i] (List.getElem_mem hlt) (by omega) _) ?_; simp only [go_sem, seval, reduceCtorEq, hs, hw])
        refine .inv ⟨i + 1, hlt, by omega, ?_⟩
        (refine Lew.drop ?_ (Nat.le_refl _) (hok) ?_; exact lee_here; (repeat' (first | exact LowE.base _ | (refine LowE.put ?_ (by first | exact .c _ | (simp only [go_sem, seval, reduceCtorEq]; done) | exact V.low_fn_nil _ _)))))
      · have h1 : ¬ ((i : Int) < (p.l.length : Int)) := by omega
        have : p.l.take i = p.l := List.take_of_length_le (by omega)
        ((try refine W.a ?_); simp only [go_sem, seval, reduceCtorEq, h1])
        refine W.no rfl ?_
        ((try refine W.a ?_); simp only [go_sem, seval, reduceCtorEq])
        rw [this]
        (refine W.fs (hok) (by simp only [r55, go_sem, seval, reduceCtorEq]; rfl) ?_; simp only [resV]; try exact V.wk.rfl _)
        (all_goals exact wk_here)
def varB (n : Int) : Blk := .cells [I n]
attribute [local go_sem] varB
theorem ty_Vars1 (w0 : World) (n v : Int) (σ : H) (b : Nat) (D : b < σ.length) : DC Tryz.prog w0 99 [I v, .ptr b 0] (rz σ b (varB n)) (Same Typ.none.v (rz σ b (varB (varMax n v)))) := by
  refine k99.go rfl (fun hok hsz => ?_)
  have hokv : H.ok (rz σ b (varB (varMax n v))) := rz_ok D hok (fun cs tg hc x hx => by
    unfold varB at hc
    injection hc with hc _
    subst hc
    simp only [List.mem_cons, List.not_mem_nil, or_false] at hx
    subst hx; exact .c _)
  have e : Typ.none.v = .agg [I 0, S [], I 0, .c (.sl [])] := rfl
  rw [e]
  unfold varMax at hokv ⊢
  ((try refine W.a ?_); simp only [go_sem, seval, reduceCtorEq, c99, rzA D])
  (refine W.fg (hokv) (d := .agg [I 0, S [], I 0, .c (.sl [])]) (by simp only [r99, go_sem, seval, reduceCtorEq]; rfl) (by simp only [resV, go_sem, seval, reduceCtorEq]; exact wk_here) ?_)
  exact ⟨rfl, rfl⟩
theorem varB_ok {σ : H} {b : Nat} (D : b < σ.length) {X : Blk} (h : H.ok (rz σ b X)) (n : Int) : H.ok (rz σ b (varB n)) := rz_ok D h (fun cs tg hc x hx => by
  unfold varB at hc
  injection hc with hc _
  subst hc
  simp only [List.mem_cons, List.not_mem_nil, or_false] at hx
  subst hx; exact .c _)
theorem sizeT_pos (p : Typ) : 1 ≤ sizeT p := by rw [sizeT_eq]; split <;> omega
theorem len_size : ∀ l : List Typ, l.length ≤ sizeTs l
  | [] => by simp
  | x :: l => by rw [sizeTs, List.length_cons]; have := len_size l; have := sizeT_pos x; omega
theorem ty_replaceV (w0 : World) (p : Typ) : sizeT p ≤ 1000000 → ∀ (n : Int) (σ : H) (b : Nat) (D : b < σ.length), DC Tryz.prog w0 66 [p.v, .fn 99 [.ptr b 0]] (rz σ b (varB n)) (Same (noneT p).v (rz σ b (varB (varsT n p)))) := by
  refine Typ.ind (P := fun p => sizeT p ≤ 1000000 → ∀ (n : Int) (σ : H) (b : Nat) (D : b < σ.length), DC Tryz.prog w0 66 [p.v, .fn 99 [.ptr b 0]] (rz σ b (varB n)) (Same (noneT p).v (rz σ b (varB (varsT n p))))) (fun p ih hb n σ b D => ?_) p
  refine k66.go rfl (fun hok hsz => ?_)
  have hlen := typ_len hsz (List.mem_cons_self ..)
  rw [noneT_eq, varsT_eq]
  by_cases hk : p.k = 1
  · have n1 : (p.k == 1) = true := by simpa using hk
    rw [if_pos hk, if_pos hk]
    ((try refine W.a ?_); simp only [go_sem, seval, reduceCtorEq, c66, n1, rzA D])
    refine W.yes rfl ?_
    ((try refine W.a ?_); simp only [go_sem, seval, reduceCtorEq, rzA D])
    (refine W.c1 (DC.lift1 D (fun D' => ty_Vars1 w0 n p.n _ b D')) ?_; simp only [go_sem, seval, reduceCtorEq, rzA D, Typ.none])
    (refine W.fg (varB_ok D hok (varMax n p.n)) (d := Typ.none.v) (by simp only [r66, go_sem, seval, reduceCtorEq, Typ.none]; rfl) (by simp only [resV, go_sem, seval, reduceCtorEq, Typ.none]; exact wk_here) ?_ (hl := by (first | exact .c _ | (simp only [go_sem, seval, reduceCtorEq, Typ.none]; done))))
    exact ⟨rfl, rfl⟩
  · have n1 : (p.k == 1) = false := by simpa using hk
    rw [if_neg hk, if_neg hk]
    ((try refine W.a ?_); simp only [go_sem, seval, reduceCtorEq, c66, n1, rzA D])
    refine W.no rfl ?_
    ((try refine W.a ?_); simp only [go_sem, seval, reduceCtorEq, rzA D])
    have hls := len_size p.l
    have hbs : sizeTs p.l ≤ 1000000 := by rw [sizeT_eq, if_neg hk] at hb; omega
    cases hA : arrowT p
    · (refine W.c1 (ty_arrow w0 p _) ?_; simp only [go_sem, seval, reduceCtorEq, hA, rzA D])
      refine W.no rfl ?_
      ((try refine W.a ?_); simp only [go_sem, seval, reduceCtorEq, rzA D])
      refine W.ownCell (σ.length + 2) 3 32 4 (cs := [I 0, S p.name, I 0, .csl []]) (tg := none) ?_ rfl ?_
      · simp only [rz_g, List.getElem?_cons_succ, List.getElem?_cons_zero, I, S]
      · ((try refine W.a ?_); simp only [go_sem, seval, reduceCtorEq, rzA D])
        refine W.loopP (fun i => i ≤ p.l.length) (fun i => ⟨((((((base.put (some 1) (.fn 99 [.ptr b 0])).put (some 4) (.ptr (σ.length + 1) 0)).put (some 5) (.ptr (σ.length + 2) 0)).put (some 22) (.c (tysC p.l))).put (some 23) (I p.l.length)).put (some 24) (I i)), rz σ b (varB (varsTs n (p.l.take i))) ++ [.cells p.v.cellsV, .cells [I 0, S [], I 0, .csl []], .cells [I 0, S p.name, I 0, .osl (σ.length + 3) (((p.l.take i).map noneT).map Typ.cs)], .spare 32 4 i]⟩) (fun i => p.l.length - i) 0 (Nat.zero_le _) ?_ (fun i hi => ?_)
        · simp only [go_sem, seval, reduceCtorEq, List.take_zero, varsTs]
          (refine Lew.env ?_; exact lee_here)
        · by_cases hlt : i < p.l.length
          · have h1 : ((i : Int) < (p.l.length : Int)) := by omega
            have hx : p.l[i]? = some p.l[i] := List.getElem?_eq_getElem hlt
            have hw := wrap_next hlt hlen
            have htk : p.l.take (i + 1) = p.l.take i ++ [p.l[i]] := List.take_succ_eq_append_getElem hlt
            have hvt : varsTs n (p.l.take (i + 1)) = varsT (varsTs n (p.l.take i)) p.l[i] := by rw [htk, varsTs_add, varsTs, varsTs]
            have hb1 : (i + 1) * 56 ≤ 140737488355328 := by omega
            have hb2 : i + 1 ≤ 140737488355328 := by omega
            have hlk : (p.l.take i).length = i := by rw [List.length_take]; omega
            have hsz' : sizeT p.l[i] ≤ 1000000 := Nat.le_trans (sizeTs_mem (List.getElem_mem hlt)) (by omega)
            ((try refine W.a ?_); simp only [go_sem, seval, reduceCtorEq, h1, rzA D])
            refine W.yes rfl ?_
            ((try refine W.a ?_); simp only [go_sem, seval, reduceCtorEq, h1, nat0, hx, rzA D])
            apply W.dregE (List.cons_ne_nil _ _)
            case hc =>
              (apply CanonE.advPO; simp only [go_sem, seval, reduceCtorEq, rzA D])
              (apply CanonE.call (DC.lift1 D (fun D' => ih p.l[i] (List.getElem_mem hlt) hsz' (varsTs n (p.l.take i)) _ b D')); (case hg => rfl); (case hf => rfl); (case ha => first | rfl | simp))
              (apply CanonE.advPO; simp only [go_sem, seval, reduceCtorEq, rzA D, hb1, hb2, hlk])
              exact CanonE.nil
            ((try refine W.a ?_); simp only [go_sem, seval, reduceCtorEq, hw, rzA D])
            refine .inv ⟨i + 1, hlt, by omega, ?_⟩
            rw [hvt, htk]
            simp only [go_sem, seval, reduceCtorEq, List.map_append]
            (refine Lew.cutL (varB_ok D hok (varsT (varsTs n (p.l.take i)) p.l[i])) ?_ (by simp) (by simp) ?_ ?_ ?_; exact lee_here; ((try simp only [okB, wkB, go_sem, seval, reduceCtorEq, rz_len]) <;> omega); (simp only [List.length_cons, List.length_nil, Nat.reduceAdd, List.take_succ_cons, List.take_zero, wkB, and_true]; (repeat' (refine And.intro ?_ ?_)) <;> (first | exact Blk.wk.rfl _ | exact Blk.wk.gone _ | (refine Blk.wk_cells ?_ rfl; (exact wk_here)))); (repeat' (first | exact LowE.base _ | (refine LowE.put ?_ (by first | exact .c _ | ((try simp only [okB, wkB, go_sem, seval, reduceCtorEq, rz_len]) <;> omega))))))
          · have h1 : ¬ ((i : Int) < (p.l.length : Int)) := by omega
            have : p.l.take i = p.l := List.take_of_length_le (by omega)
            ((try refine W.a ?_); simp only [go_sem, seval, reduceCtorEq, h1, rzA D])
            refine W.no rfl ?_
            rw [this]
            ((try refine W.a ?_); simp only [go_sem, seval, reduceCtorEq, rzA D])
            (refine W.fg (varB_ok D hok (varsTs n p.l)) (d := .agg [I 0, S p.name, I 0, .c (.sl ((p.l.map noneT).map Typ.cs))]) (by simp only [r66, go_sem, seval, reduceCtorEq]; rfl) (by simp only [resV, go_sem, seval, reduceCtorEq]; exact wk_here) ?_)
            exact ⟨rfl, rfl⟩
    · (refine W.c1 (ty_arrow w0 p _) ?_; simp only [go_sem, seval, reduceCtorEq, hA, rzA D])
      refine W.yes rfl ?_
      ((try refine W.a ?_); simp only [go_sem, seval, reduceCtorEq, rzA D])
      refine W.ownCell (σ.length + 2) 3 32 4 (cs := [I 2, S [], I 0, .csl []]) (tg := none) ?_ rfl ?_
      · simp only [rz_g, List.getElem?_cons_succ, List.getElem?_cons_zero, I, S]
      · ((try refine W.a ?_); simp only [go_sem, seval, reduceCtorEq, rzA D])
        refine W.loopP (fun i => i ≤ p.l.length) (fun i => ⟨((((((base.put (some 1) (.fn 99 [.ptr b 0])).put (some 4) (.ptr (σ.length + 1) 0)).put (some 5) (.ptr (σ.length + 2) 0)).put (some 22) (.c (tysC p.l))).put (some 23) (I p.l.length)).put (some 24) (I i)), rz σ b (varB (varsTs n (p.l.take i))) ++ [.cells p.v.cellsV, .cells [I 0, S [], I 0, .csl []], .cells [I 2, S [], I 0, .osl (σ.length + 3) (((p.l.take i).map noneT).map Typ.cs)], .spare 32 4 i]⟩) (fun i => p.l.length - i) 0 (Nat.zero_le _) ?_ (fun i hi => ?_)
        · simp only [go_sem, seval, reduceCtorEq, List.take_zero, varsTs]
          (refine Lew.env ?_; exact lee_here)
        · by_cases hlt : i < p.l.length
          · have h1 : ((i : Int) < (p.l.length : Int)) := by omega
            have hx : p.l[i]? = some p.l[i] := List.getElem?_eq_getElem hlt
            have hw := wrap_next hlt hlen
            have htk : p.l.take (i + 1) = p.l.take i ++ [p.l[i]] := List.take_succ_eq_append_getElem hlt
            have hvt : varsTs n (p.l.take (i + 1)) = varsT (varsTs n (p.l.take i)) p.l[i] := by rw [htk, varsTs_add, varsTs, varsTs]
            have hb1 : (i + 1) * 56 ≤ 140737488355328 := by omega
            have hb2 : i + 1 ≤ 140737488355328 := by omega
            have hlk : (p.l.take i).length = i := by rw [List.length_take]; omega
            have hsz' : sizeT p.l[i] ≤ 1000000 := Nat.le_trans (sizeTs_mem (List.getElem_mem hlt)) (by omega)
            ((try refine W.a ?_); simp only [go_sem, seval, reduceCtorEq, h1, rzA D])
            refine W.yes rfl ?_
            ((try refine W.a ?_); simp only [go_sem, seval, reduceCtorEq, h1, nat0, hx, rzA D])
            apply W.dregE (List.cons_ne_nil _ _)
            case hc =>
              (apply CanonE.advPO; simp only [go_sem, seval, reduceCtorEq, rzA D])
              (apply CanonE.call (DC.lift1 D (fun D' => ih p.l[i] (List.getElem_mem hlt) hsz' (varsTs n (p.l.take i)) _ b D')); (case hg => rfl); (case hf => rfl); (case ha => first | rfl | simp))
              (apply CanonE.advPO; simp only [go_sem, seval, reduceCtorEq, rzA D, hb1, hb2, hlk])
              exact CanonE.nil
            ((try refine W.a ?_); simp only [go_sem, seval, reduceCtorEq, hw, rzA D])
            refine .inv ⟨i + 1, hlt, by omega, ?_⟩
            rw [hvt, htk]
            simp only [go_sem, seval, reduceCtorEq, List.map_append]
            (refine Lew.cutL (varB_ok D hok (varsT (varsTs n (p.l.take i)) p.l[i])) ?_ (by simp) (by simp) ?_ ?_ ?_; exact lee_here; ((try simp only [okB, wkB, go_sem, seval, reduceCtorEq, rz_len]) <;> omega); (simp only [List.length_cons, List.length_nil, Nat.reduceAdd, List.take_succ_cons, List.take_zero, wkB, and_true]; (repeat' (refine And.intro ?_ ?_)) <;> (first | exact Blk.wk.rfl _ | exact Blk.wk.gone _ | (refine Blk.wk_cells ?_ rfl; (exact wk_here)))); (repeat' (first | exact LowE.base _ | (refine LowE.put ?_ (by first | exact .c _ | ((try simp only [okB, wkB, go_sem, seval, reduceCtorEq, rz_len]) <;> omega))))))
          · have h1 : ¬ ((i : Int) < (p.l.length : Int)) := by omega
            have : p.l.take i = p.l := List.take_of_length_le (by omega)
            ((try refine W.a ?_); simp only [go_sem, seval, reduceCtorEq, h1, rzA D])
            refine W.no rfl ?_
            rw [this]
            ((try refine W.a ?_); simp only [go_sem, seval, reduceCtorEq, rzA D])
            (refine W.fg (varB_ok D hok (varsTs n p.l)) (d := .agg [I 2, S [], I 0, .c (.sl ((p.l.map noneT).map Typ.cs))]) (by simp only [r66, go_sem, seval, reduceCtorEq]; rfl) (by simp only [resV, go_sem, seval, reduceCtorEq]; exact wk_here) ?_)
            exact ⟨rfl, rfl⟩
theorem ty_Vars (w0 : World) (p : Typ) (hb : sizeT p ≤ 1000000) (σ : H) : DC Tryz.prog w0 54 [p.v] σ (Same (I (varsT 0 p)) σ) := by
  refine k54.go rfl (fun hok hsz => ?_)
  have hr : ∀ m : Int, rz (σ ++ [.cells p.v.cellsV, varB 0]) (σ.length + 1) (varB m) = σ ++ [.cells p.v.cellsV, varB m] := fun m => by
    unfold rz
    rw [List.set_append_right _ _ (by omega)]
    simp [Nat.add_sub_cancel_left]
  have hc := ty_replaceV w0 p hb 0 (σ ++ [.cells p.v.cellsV, varB 0]) (σ.length + 1) (by simp)
  rw [hr, hr] at hc
  ((try refine W.a ?_); simp only [go_sem, seval, reduceCtorEq, c54])
  (refine W.c1 (hc) ?_; simp only [go_sem, seval, reduceCtorEq])
  (refine W.fs (hok) (by simp only [r54, go_sem, seval, reduceCtorEq]; rfl) ?_; simp only [resV]; try exact V.wk.rfl _)
end
section
attribute [local go_sem] Typ.v Typ.cs_eq tk_mk tname_mk tn_mk tl_mk tysC

theorem law05_long (w0 : World) (p : Typ) : ∀ (σ : H), DC Tryz.prog w0 58 [p.v] σ (Same (B (longT p)) σ) := by
  induction p using Typ.ind with
  | h p ih =>
  intro σ
  refine k58.go rfl (fun hok hsz => ?_)
  have hlen := typ_len hsz (List.mem_cons_self ..)
  ((try refine W.a ?_); simp only [go_sem, seval, reduceCtorEq, c58])
  rw [longT_eq]
  refine W.test rfl (fun h => ?_) (fun h => ?_)
  · ((try refine W.a ?_); simp only [go_sem, seval, reduceCtorEq])
    (refine W.fs (hok) (by simp only [r58, go_sem, seval, reduceCtorEq]; rfl) ?_; simp only [resV]; try exact V.wk.rfl _)
    rw [h, Bool.true_or]
    exact .rfl _
  · rw [h, Bool.false_or]
    ((try refine W.a ?_); simp only [go_sem, seval, reduceCtorEq])
    refine W.loopP (fun i => i ≤ p.l.length ∧ UpTo longT p.l i) (fun i => ⟨(((base.put (some 1) (.ptr σ.length 0)).put (some 2) (B false)).put (some 3) (I (i : Nat))), σ ++ [.cells p.v.cellsV]⟩) (fun i => p.l.length - i) 0 ⟨Nat.zero_le _, upTo_zero⟩ ?_ (fun i hi => ?_)
    · (refine Lew.env ?_; exact lee_here)
    · obtain ⟨hi, hinv⟩ := hi
      by_cases hlt : i < p.l.length
      · have h1 : ((i : Int) < (p.l.length : Int)) := by omega
        have hx : p.l[i]? = some p.l[i] := List.getElem?_eq_getElem hlt
        have hw : IntKind.i64.wrap ((i : Int) + 1) = ((i + 1 : Nat) : Int) := wrap_next hlt hlen
        ((try refine W.a ?_); simp only [go_sem, seval, reduceCtorEq, h1])
        refine W.yes rfl ?_
        ((try refine W.a ?_); simp only [go_sem, seval, reduceCtorEq, h1, nat0, hx])
        (refine W.c1 (ih p.l[i] (List.getElem_mem hlt) _) ?_; simp only [go_sem, seval, reduceCtorEq])
        refine W.test rfl (fun h2 => ?_) (fun h2 => ?_)
        · ((try refine W.a ?_); simp only [go_sem, seval, reduceCtorEq])
          (refine W.fs (hok) (by simp only [r58, go_sem, seval, reduceCtorEq]; rfl) ?_; simp only [resV]; try exact V.wk.rfl _)
          rw [List.any_eq_true.2 ⟨_, List.getElem_mem hlt, h2⟩]
          exact .rfl _
        · ((try refine W.a ?_); simp only [go_sem, seval, reduceCtorEq, hw])
          refine .inv ⟨i + 1, ⟨hlt, upTo_next hinv hlt h2⟩, by omega, ?_⟩
          (refine Lew.env ?_; exact lee_here)
      · have h1 : ¬ ((i : Int) < (p.l.length : Int)) := by omega
        ((try refine W.a ?_); simp only [go_sem, seval, reduceCtorEq, h1])
        refine W.no rfl ?_
        ((try refine W.a ?_); simp only [go_sem, seval, reduceCtorEq])
        (refine W.fs (hok) (by simp only [r58, go_sem, seval, reduceCtorEq]; rfl) ?_; simp only [resV]; try exact V.wk.rfl _)
        rw [List.any_eq_false.2 (fun x hx => by obtain ⟨j, hj, rfl⟩ := List.getElem_of_mem hx; rw [hinv j hj (by omega)]; decide)]
        exact .rfl _
def overT (p : Typ) : Bool := decide (leftT p 120 < 0) || longT p
theorem law05_over (w0 : World) (p : Typ) (σ : H) : DC Tryz.prog w0 27 [p.v] σ (Same (B (overT p)) σ) := by
  refine k27.go rfl (fun hok hsz => ?_)
  unfold overT
  ((try refine W.a ?_); simp only [go_sem, seval, reduceCtorEq, c27])
  (refine W.c1 (ref05_Large w0 p 120 (by decide) (by decide) _) ?_; simp only [go_sem, seval, reduceCtorEq])
  cases hq : decide (leftT p 120 < 0)
  · ((try refine W.a ?_); simp only [go_sem, seval, reduceCtorEq])
    (refine W.c1 (law05_long w0 p _) ?_; simp only [go_sem, seval, reduceCtorEq])
    (refine W.fs (hok) (by simp only [r27, go_sem, seval, reduceCtorEq]; rfl) ?_; simp only [resV]; try exact V.wk.rfl _)
  · ((try refine W.a ?_); simp only [go_sem, seval, reduceCtorEq])
    (refine W.fs (hok) (by simp only [r27, go_sem, seval, reduceCtorEq]; rfl) ?_; simp only [resV]; try exact V.wk.rfl _)
theorem over_no {p : Typ} (h : overT p = false) : nodesT p ≤ 120 ∧ longT p = false := by
  unfold overT at h
  rw [Bool.or_eq_false_iff] at h
  have := small_of (n := 120) (by decide) h.1
  exact ⟨by omega, h.2⟩
def tsrc0 : List UInt8 := [40, 65, 32, 45, 62, 32, 111, 41, 32, 45, 62, 32, 108, 105, 115, 116, 32, 65, 32, 45, 62, 32, 66]
def typ0 : Typ := .arr (.arr (.var 0) (.con [111])) (.arr (.mk 0 [108, 105, 115, 116] 0 [.var 0]) (.var 1))
theorem tsrc0_read : tyTypeF 60 (lexL tsrc0).toks 0 0 [] = some (.ok (typ0, 10, [[65], [66]])) := by kernel_rfl
theorem typ0_ok : OkT typ0 := by
  have hv : ∀ n, 0 ≤ n → n ≤ 1 → OkT (.var n) := fun n h h' => .mk (by decide) (by unfold inI; omega) (fun x hx => by cases hx)
  have hi : inI 0 := by decide
  have h2 : inI 2 := by decide
  refine .mk h2 hi fun x hx => ?_
  simp only [List.mem_cons, List.not_mem_nil, or_false] at hx
  rcases hx with rfl | rfl
  · refine .mk h2 hi fun x hx => ?_
    simp only [List.mem_cons, List.not_mem_nil, or_false] at hx
    rcases hx with rfl | rfl
    · exact hv 0 (by decide) (by decide)
    · exact .mk hi hi fun x hx => by cases hx
  · refine .mk h2 hi fun x hx => ?_
    simp only [List.mem_cons, List.not_mem_nil, or_false] at hx
    rcases hx with rfl | rfl
    · refine .mk hi hi fun x hx => ?_
      simp only [List.mem_cons, List.not_mem_nil, or_false] at hx
      subst hx
      exact hv 0 (by decide) (by decide)
    · exact hv 1 (by decide) (by decide)
theorem typ0_text : textT typ0 = tsrc0 := by kernel_rfl
theorem typ0_vars : varsT 0 typ0 = 2 := by kernel_rfl
theorem typ0_valid : validT typ0 = true := by kernel_rfl
theorem typ0_size : sizeT typ0 = 8 := by kernel_rfl
theorem typ0_parts : partsT typ0 = ([.arr (.var 0) (.con [111]), .mk 0 [108, 105, 115, 116] 0 [.var 0]], .var 1) := by kernel_rfl
theorem typ0_depth : depthT typ0 ≤ 1000000 := of_decide_eq_true (by kernel_rfl)
theorem law05_works {w0 : World} (hG : Glob w0) (σ : H) : DC Tryz.prog w0 24 [] σ (Same (B true) σ) := by
  refine k24.go rfl (fun hok hsz => ?_)
  have e0 : DC Tryz.prog w0 39 [S tsrc0] σ (Same (.tup [.c (toksC (lexL tsrc0).toks), I (lexL tsrc0).err, I (lexL tsrc0).pos]) σ) := lex_Lex hG tsrc0 (by decide) σ
  have e1 : ∀ σ, DC Tryz.prog w0 25 [.c (toksC (lexL tsrc0).toks), I 0] σ (Same (.tup [typ0.v, I 10, I 0, I 0]) σ) := fun σ => by
    have := ty_Read w0 (lexL tsrc0).toks 0 (of_decide_eq_true (by kernel_rfl)) σ
    have hr : tyFrom (lexL tsrc0).toks 0 = .ok (typ0, 10, [[65], [66]]) := by
      have e : ((0 : Nat) : Int) = 0 := rfl
      rw [← e, tyFrom_nat (Nat.zero_le _), tyT_eq ⟨60, tsrc0_read⟩]
    rw [hr] at this
    exact this
  have e2 : ∀ σ, DC Tryz.prog w0 30 [typ0.v] σ (Same (.tup [.c (tysC [.arr (.var 0) (.con [111]), .mk 0 [108, 105, 115, 116] 0 [.var 0]]), (Typ.var 1).v]) σ) := fun σ => by
    have := ty_Parts w0 typ0 typ0_depth σ
    rw [typ0_parts] at this
    exact this
  have e3 : ∀ σ, DC Tryz.prog w0 28 [typ0.v] σ (Same (B true) σ) := fun σ => by
    have := ty_Valid w0 typ0 σ
    rw [typ0_valid] at this
    exact this
  have e4 : ∀ σ, DC Tryz.prog w0 40 [typ0.v] σ (Same (S tsrc0) σ) := fun σ => by
    have := ty_Text hG typ0 typ0_ok (by rw [typ0_text]; decide) σ
    rw [typ0_text] at this
    exact this
  have e5 : ∀ σ, DC Tryz.prog w0 54 [typ0.v] σ (Same (I 2) σ) := fun σ => by
    have := ty_Vars w0 typ0 (by rw [typ0_size]; decide) σ
    rw [typ0_vars] at this
    exact this
  have e6 : ∀ σ, DC Tryz.prog w0 55 [typ0.v] σ (Same (I 8) σ) := fun σ => by
    have := ty_Size w0 typ0 (by rw [typ0_size]; decide) σ
    rw [typ0_size] at this
    exact this
  generalize typ0 = t at *
  ((try refine W.a ?_); simp only [go_sem, seval, reduceCtorEq, c24])
  (refine W.c1 (e0) ?_; simp only [go_sem, seval, reduceCtorEq])
  (refine W.c1 (e1 _) ?_; simp only [go_sem, seval, reduceCtorEq])
  (refine W.c1 (e2 _) ?_; simp only [go_sem, seval, reduceCtorEq, Typ.var])
  (refine W.c1 (e3 _) ?_; simp only [go_sem, seval, reduceCtorEq])
  (refine W.c1 (e4 _) ?_; simp only [go_sem, seval, reduceCtorEq, tsrc0])
  (refine W.c1 (e5 _) ?_; simp only [go_sem, seval, reduceCtorEq])
  (refine W.c1 (e6 _) ?_; simp only [go_sem, seval, reduceCtorEq])
  (refine W.fs (hok) (by simp only [r24, go_sem, seval, reduceCtorEq]; rfl) ?_; simp only [resV]; try exact V.wk.rfl _)
end
section
attribute [local go_sem] Typ.v Typ.cs_eq tk_mk tname_mk tn_mk tl_mk tysC

theorem law05_TyReads {w0 : World} (hG : Glob w0) (t : List Lamb.Tok) (i : Int) (σ : H) : DC Tryz.prog w0 6 [.c (toksC t), I i] σ (Same (B true) σ) := by
  refine k6.go rfl (fun hok hsz => ?_)
  ((try refine W.a ?_); simp only [go_sem, seval, reduceCtorEq, c6])
  (refine W.c1 (law05_works hG _) ?_; simp only [go_sem, seval, reduceCtorEq])
  refine W.no rfl ?_
  by_cases hl : t.length ≤ 600
  · have h1 : ¬ ((t.length : Int) > 600) := by omega
    ((try refine W.a ?_); simp only [go_sem, seval, reduceCtorEq, h1])
    refine W.no rfl ?_
    ((try refine W.a ?_); simp only [go_sem, seval, reduceCtorEq])
    refine W.loopP (fun j => j ≤ t.length) (fun j => ⟨(((((base.put (some 0) (.c (toksC t))).put (some 1) (I i)).put (some 4) (B false)).put (some 5) (B true)).put (some 6) (I (j : Nat))), σ⟩) (fun j => t.length - j) 0 (Nat.zero_le _) ?_ (fun j hj => ?_)
    · (refine Lew.env ?_; exact lee_here)
    · by_cases hlt : j < t.length
      · have h2 : ((j : Int) < (t.length : Int)) := by omega
        have hx : t[j]? = some t[j] := List.getElem?_eq_getElem hlt
        have hw : IntKind.i64.wrap ((j : Int) + 1) = ((j + 1 : Nat) : Int) := wrap_next hlt (by omega)
        ((try refine W.a ?_); simp only [go_sem, seval, reduceCtorEq, h2])
        refine W.yes rfl ?_
        ((try refine W.a ?_); simp only [go_sem, seval, reduceCtorEq, h2, nat0, hx])
        refine W.test rfl (fun h3 => ?_) (fun h3 => ?_)
        · ((try refine W.a ?_); simp only [go_sem, seval, reduceCtorEq])
          (refine W.fs (hok) (by simp only [r6, go_sem, seval, reduceCtorEq]; rfl) ?_; simp only [resV]; try exact V.wk.rfl _)
        · ((try refine W.a ?_); simp only [go_sem, seval, reduceCtorEq, hw])
          refine .inv ⟨j + 1, hlt, by omega, ?_⟩
          (refine Lew.env ?_; exact lee_here)
      · have h2 : ¬ ((j : Int) < (t.length : Int)) := by omega
        have a := fun σ => ty_Read w0 t i (by omega) σ
        have b := fun σ => ref05_Read w0 t i (by omega) σ
        ((try refine W.a ?_); simp only [go_sem, seval, reduceCtorEq, h2])
        refine W.no rfl ?_
        ((try refine W.a ?_); simp only [go_sem, seval, reduceCtorEq])
        cases hr : tyFrom t i with
        | ok x =>
          obtain ⟨u, k, ws⟩ := x
          rw [hr] at a b
          (refine W.c1 (a _) ?_; simp only [go_sem, seval, reduceCtorEq, tyReadV])
          (refine W.c1 (b _) ?_; simp only [go_sem, seval, reduceCtorEq, tyReadV])
          (refine W.c1 (ref05_Same w0 u u _) ?_; simp only [go_sem, seval, reduceCtorEq, sameTy_refl])
          (refine W.fs (hok) (by simp only [r6, go_sem, seval, reduceCtorEq]; rfl) ?_; simp only [resV]; try exact V.wk.rfl _)
        | error x =>
          rw [hr] at a b
          (refine W.c1 (a _) ?_; simp only [go_sem, seval, reduceCtorEq, tyReadV, Typ.none])
          (refine W.c1 (b _) ?_; simp only [go_sem, seval, reduceCtorEq, tyReadV, Typ.none])
          (refine W.c1 (ref05_Same w0 Typ.none Typ.none _) ?_; simp only [go_sem, seval, reduceCtorEq, sameTy_refl])
          (refine W.fs (hok) (by simp only [r6, go_sem, seval, reduceCtorEq]; rfl) ?_; simp only [resV]; try exact V.wk.rfl _)
  · have h1 : ((t.length : Int) > 600) := by omega
    ((try refine W.a ?_); simp only [go_sem, seval, reduceCtorEq, h1])
    refine W.yes rfl ?_
    ((try refine W.a ?_); simp only [go_sem, seval, reduceCtorEq])
    (refine W.fs (hok) (by simp only [r6, go_sem, seval, reduceCtorEq]; rfl) ?_; simp only [resV]; try exact V.wk.rfl _)
end
end Go.Proofs.YtohcnohllbjlcaaGreatDoor
namespace Go.Lamb
open Go Go.RowKit
theorem partsF_len : ∀ (f : Nat) (p : Typ), (partsF f p).1.length ≤ f
  | 0, p => by simp [partsF]
  | f + 1, p => by
    rw [partsF]
    split
    · split
      · rename_i a b _
        have := partsF_len f b
        simp; omega
      · simp
    · simp
theorem parts_len (p : Typ) : (partsT p).1.length ≤ depthT p := partsF_len _ p
theorem nodes_arrows (p : Typ) : ∀ fs : List Typ, (∀ x ∈ fs, nodesT x ≤ 120) → nodesT (arrows fs p) ≤ 121 * fs.length + nodesT p
  | [], _ => by simp [arrows]
  | a :: fs, h => by
    have h1 := nodes_arrows p fs (fun x hx => h x (List.mem_cons_of_mem _ hx))
    have h2 := h a (List.mem_cons_self ..)
    have e : nodesT (arrows (a :: fs) p) = 1 + (nodesT a + (nodesT (arrows fs p) + 0)) := by
      show nodesT (Typ.arr a (arrows fs p)) = _
      rw [Typ.arr, nodesT, nodesTs, nodesTs, nodesTs]
    rw [e, List.length_cons]
    omega
end Go.Lamb
namespace Go.Proofs.YtohcnohllbjlcaaGreatDoor
open Go.RowKit Go.Lamb
attribute [local go_sem] advO_skip advO_reg advO_seq advO_block advO_exit advO_endb advO_opsNil advO_ops advG_yes advG_no advG_none advS_some advS_none advO_cond advO_loop advO_dreg advO_ret advO_bad advO_inv advO_nil advO_zero wantedV Lamb.step ev_t ev_k put_some put_none argEnv popTo cellsAt V.cellsV V.rows V.toC toCs fillV bytesC byteRows appV rowsV boundV boundL binV binInt binStr eqC eqL V.isNil leaves V.leaf Ins.quiet Ins.pure List.getD_cons_zero List.getD_cons_succ List.getD_nil List.all_cons List.all_nil List.length_cons List.length_nil List.take_succ_cons List.take_zero List.drop_succ_cons List.drop_zero List.cons_append List.nil_append List.append_nil List.append_assoc List.map_cons List.map_nil List.getElem?_cons_zero List.getElem?_cons_succ List.length_append List.length_set hget0 hget hset0 hset hsets hgs0 hgs hss0 hss List.set_cons_zero List.set_cons_succ List.forall_mem_cons List.not_mem_nil false_implies implies_true Option.map_some Bool.and_true Bool.true_and Bool.not_not Bool.not_true Bool.not_false Bool.and_self Bool.or_true Bool.true_or Bool.or_false Bool.false_or Bool.and_false Bool.false_and Bool.false_eq_true beq_self_eq_true and_self and_true true_and if_true if_false Nat.zero_add Nat.add_zero Nat.le_refl Int.toNat_natCast decide_true decide_false beq_t beq_f List.length_map List.getElem?_map I S B opsC toksC OpT.v OpT.cs OpT.zero Tok.v Tok.cs Pre.v Pre.cs_eq k_mk name_mk n_mk l_mk pos_mk Pre.app applyL natCast0 natCast1 natCast2 AOp.o AOp.m AOp.f AOp.l AOp.d AOp.n AOp.x AOp.s AOp.k AOp.y AOp.z EOp.q low_c low_void low_any low_csl low_nilf low_ptr low_osl low_agg low_tup low_fn resEval advPO_nil advPO_loud advPO_quiet pL_yes pL_no pLS_some pLS_none pQ_yes pQ_no pQS_some pQS_loud eq_self Nat.sub_zero
attribute [local go_sem] Typ.v Typ.cs_eq tk_mk tname_mk tn_mk tl_mk tysC

/-- The code behind the first loop. -/
theorem law05_TyArrows {w0 : World} (hG : Glob w0) (p : Typ) (fs : List Typ) (σ : H) : DC Tryz.prog w0 7 [p.v, .c (tysC fs)] σ (Same (B true) σ) := by
  refine k7.go rfl (fun hok hsz => ?_)
  ((try refine W.a ?_); simp only [go_sem, seval, reduceCtorEq, c7])
  (refine W.c1 (law05_works hG _) ?_; simp only [go_sem, seval, reduceCtorEq])
  refine W.no rfl ?_
  ((try refine W.a ?_); simp only [go_sem, seval, reduceCtorEq])
  (refine W.c1 (law05_over w0 p _) ?_; simp only [go_sem, seval, reduceCtorEq])
  (refine W.c1 (ty_Valid w0 p _) ?_; simp only [go_sem, seval, reduceCtorEq])
  cases ho : overT p
  case true =>
    ((try refine W.a ?_); simp only [go_sem, seval, reduceCtorEq])
    refine W.yes rfl ?_
    ((try refine W.a ?_); simp only [go_sem, seval, reduceCtorEq])
    (refine W.fs (hok) (by simp only [r7, go_sem, seval, reduceCtorEq]; rfl) ?_; simp only [resV]; try exact V.wk.rfl _)
  cases hv : validT p
  case false =>
    ((try refine W.a ?_); simp only [go_sem, seval, reduceCtorEq])
    refine W.yes rfl ?_
    ((try refine W.a ?_); simp only [go_sem, seval, reduceCtorEq])
    (refine W.fs (hok) (by simp only [r7, go_sem, seval, reduceCtorEq]; rfl) ?_; simp only [resV]; try exact V.wk.rfl _)
  by_cases hl : fs.length ≤ 20
  case neg =>
    have h1 : ((fs.length : Int) > 20) := by omega
    ((try refine W.a ?_); simp only [go_sem, seval, reduceCtorEq, h1])
    refine W.yes rfl ?_
    ((try refine W.a ?_); simp only [go_sem, seval, reduceCtorEq])
    (refine W.fs (hok) (by simp only [r7, go_sem, seval, reduceCtorEq]; rfl) ?_; simp only [resV]; try exact V.wk.rfl _)
  have h1 : ¬ ((fs.length : Int) > 20) := by omega
  obtain ⟨hn, _⟩ := over_no ho
  ((try refine W.a ?_); simp only [go_sem, seval, reduceCtorEq, h1])
  refine W.no rfl ?_
  ((try refine W.a ?_); simp only [go_sem, seval, reduceCtorEq])
  refine W.loopP (fun i => i ≤ fs.length ∧ UpTo (fun x => decide (leftT x 120 < 0)) fs i) (fun i => ⟨(((((base.put (some 1) (.c (tysC fs))).put (some 2) (.ptr σ.length 0)).put (some 4) (B false)).put (some 5) (B true)).put (some 8) (I (i : Nat))), σ ++ [.cells p.v.cellsV]⟩) (fun i => fs.length - i) 0 ⟨Nat.zero_le _, upTo_zero⟩ ?_ (fun i hi => ?_)
  · (refine Lew.env ?_; exact lee_here)
  obtain ⟨hi, hinv⟩ := hi
  by_cases hlt : i < fs.length
  · have h2 : ((i : Int) < (fs.length : Int)) := by omega
    have hx : fs[i]? = some fs[i] := List.getElem?_eq_getElem hlt
    have hw : IntKind.i64.wrap ((i : Int) + 1) = ((i + 1 : Nat) : Int) := wrap_next hlt (by omega)
    ((try refine W.a ?_); simp only [go_sem, seval, reduceCtorEq, h2])
    refine W.yes rfl ?_
    ((try refine W.a ?_); simp only [go_sem, seval, reduceCtorEq, h2, nat0, hx])
    (refine W.c1 (ref05_Large w0 fs[i] 120 (by decide) (by decide) _) ?_; simp only [go_sem, seval, reduceCtorEq])
    refine W.test rfl (fun h3 => ?_) (fun h3 => ?_)
    · ((try refine W.a ?_); simp only [go_sem, seval, reduceCtorEq])
      (refine W.fs (hok) (by simp only [r7, go_sem, seval, reduceCtorEq]; rfl) ?_; simp only [resV]; try exact V.wk.rfl _)
    · ((try refine W.a ?_); simp only [go_sem, seval, reduceCtorEq, hw])
      refine .inv ⟨i + 1, ⟨hlt, upTo_next hinv hlt h3⟩, by omega, ?_⟩
      (refine Lew.env ?_; exact lee_here)
  have h2 : ¬ ((i : Int) < (fs.length : Int)) := by omega
  have hsm : ∀ x ∈ fs, nodesT x ≤ 120 := fun x hx => by
    obtain ⟨j, hj, rfl⟩ := List.getElem_of_mem hx
    have := small_of (n := 120) (by decide) (hinv j hj (by omega))
    omega
  have hd := depth_nodes p
  have hna := nodes_arrows p fs hsm
  have hda := depth_nodes (arrows fs p)
  obtain ⟨hb1, hb2⟩ := parts_back (depthT p) p (Nat.le_refl _) hv
  have hpl := parts_len p
  have hpa := parts_arrows p fs
  have e1 := fun σ => ty_Parts w0 p (by omega) σ
  have e2 := fun σ => ty_Arrow w0 (partsT p).2 (partsT p).1 (by omega) σ
  have e3 := fun σ => ty_Arrow w0 p fs (by omega) σ
  have e4 := fun σ => ty_Parts w0 (arrows fs p) (by omega) σ
  rw [hb1] at e2
  rw [hpa] at e4
  dsimp only at e4
  have hzl : (partsT p).1.length ≤ 120 := by omega
  clear hpa hb1 hda hna hd hpl
  generalize arrows fs p = q at e3 e4
  generalize (partsT p).2 = z at *
  generalize (partsT p).1 = zs at *
  have hk2 : (z.k != 2) = true := by rw [bne, hb2]; rfl
  have hw3 : IntKind.i64.wrap ((fs.length : Int) + (zs.length : Int)) = ((fs.length + zs.length : Nat) : Int) := by rw [wrap_in] <;> omega
  have hla : (fs ++ zs).length = fs.length + zs.length := List.length_append
  have hne : (((fs.length + zs.length : Nat) : Int) != ((fs.length + zs.length : Nat) : Int)) = false := by simp
  ((try refine W.a ?_); simp only [go_sem, seval, reduceCtorEq, h2])
  refine W.no rfl ?_
  ((try refine W.a ?_); simp only [go_sem, seval, reduceCtorEq])
  (refine W.c1 (e1 _) ?_; simp only [go_sem, seval, reduceCtorEq])
  apply W.dregE (List.cons_ne_nil _ _)
  case hc =>
    (apply CanonE.advPO; simp only [go_sem, seval, reduceCtorEq])
    (apply CanonE.call (e2 _); (case hg => rfl); (case hf => rfl); (case ha => first | rfl | simp))
    (apply CanonE.advPO; simp only [go_sem, seval, reduceCtorEq])
    (apply CanonE.call (ty_Same w0 p p _); (case hg => rfl); (case hf => rfl); (case ha => first | rfl | simp))
    (apply CanonE.advPO; simp only [go_sem, seval, reduceCtorEq, sameTy_refl])
    exact CanonE.nil
  ((try refine W.a ?_); simp only [go_sem, seval, reduceCtorEq])
  (refine W.c1 (e3 _) ?_; simp only [go_sem, seval, reduceCtorEq])
  (refine W.c1 (e4 _) ?_; simp only [go_sem, seval, reduceCtorEq, hla, hw3, hne])
  refine W.no rfl ?_
  ((try refine W.a ?_); simp only [go_sem, seval, reduceCtorEq])
  refine W.loopP (fun j => j ≤ (fs ++ zs).length) (fun j => ⟨(((((((((base.put (some 1) (.c (tysC fs))).put (some 4) (B false)).put (some 5) (B true)).put (some 10) (.c (tysC zs))).put (some 11) (.ptr (σ.length + 1) 0)).put (some 12) (B true)).put (some 13) (.c (tysC (fs ++ zs)))).put (some 14) (.ptr (σ.length + 2) 0)).put (some 15) (I (j : Nat))), σ ++ [.cells p.v.cellsV, .cells z.v.cellsV, .cells z.v.cellsV]⟩) (fun j => (fs ++ zs).length - j) 0 (Nat.zero_le _) ?_ (fun j hj => ?_)
  · simp only [go_sem, seval, reduceCtorEq, List.map_append]
    (refine Lew.env ?_; exact lee_here)
  by_cases hlj : j < (fs ++ zs).length
  · have hw : IntKind.i64.wrap ((j : Int) + 1) = ((j + 1 : Nat) : Int) := wrap_next hlj (by omega)
    have hx : (fs ++ zs)[j]? = some (fs ++ zs)[j] := List.getElem?_eq_getElem hlj
    have h4 : ((j : Int) < ((fs ++ zs).length : Int)) := by omega
    generalize hcs : fs ++ zs = cs at *
    by_cases hjf : j < fs.length
    · have h5 : ((j : Int) < (fs.length : Int)) := by omega
      have hy : fs[j]? = some cs[j] := by
        rw [← hx, ← hcs, List.getElem?_append_left hjf]
      ((try refine W.a ?_); simp only [go_sem, seval, reduceCtorEq, h4])
      refine W.yes rfl ?_
      ((try refine W.a ?_); simp only [go_sem, seval, reduceCtorEq, h5])
      refine W.yes rfl ?_
      ((try refine W.a ?_); simp only [go_sem, seval, reduceCtorEq, h5, nat0, hy])
      apply W.dregE (List.cons_ne_nil _ _)
      case hc =>
        (apply CanonE.advPO; simp only [go_sem, seval, reduceCtorEq, h4, nat0, hx])
        (apply CanonE.call (ty_Same w0 cs[j] cs[j] _); (case hg => rfl); (case hf => rfl); (case ha => first | rfl | simp))
        (apply CanonE.advPO; simp only [go_sem, seval, reduceCtorEq, sameTy_refl])
        exact CanonE.nil
      ((try refine W.a ?_); simp only [go_sem, seval, reduceCtorEq])
      refine W.no rfl ?_
      ((try refine W.a ?_); simp only [go_sem, seval, reduceCtorEq, hw])
      refine .inv ⟨j + 1, hlj, by omega, ?_⟩
      (refine Lew.cutL (hok) ?_ (by simp) (by simp) ?_ ?_ ?_; exact lee_here; ((try simp only [okB, wkB, go_sem, seval, reduceCtorEq]) <;> omega); (simp only [List.length_cons, List.length_nil, Nat.reduceAdd, List.take_succ_cons, List.take_zero, wkB, and_true]; (repeat' (refine And.intro ?_ ?_)) <;> (first | exact Blk.wk.rfl _ | exact Blk.wk.gone _ | (refine Blk.wk_cells ?_ rfl; (exact wk_here)))); (repeat' (first | exact LowE.base _ | (refine LowE.put ?_ (by first | exact .c _ | ((try simp only [okB, wkB, go_sem, seval, reduceCtorEq]) <;> omega))))))
    · have h5 : ¬ ((j : Int) < (fs.length : Int)) := by omega
      have hy : zs[j - fs.length]? = some cs[j] := by
        rw [← hx, ← hcs, List.getElem?_append_right (by omega)]
      have hw5 : IntKind.i64.wrap ((j : Int) - (fs.length : Int)) = ((j - fs.length : Nat) : Int) := by rw [wrap_in] <;> omega
      have h6 : (((j - fs.length : Nat) : Int) < (zs.length : Int)) := by omega
      ((try refine W.a ?_); simp only [go_sem, seval, reduceCtorEq, h4])
      refine W.yes rfl ?_
      ((try refine W.a ?_); simp only [go_sem, seval, reduceCtorEq, h5])
      refine W.no rfl ?_
      ((try refine W.a ?_); simp only [go_sem, seval, reduceCtorEq, h6, nat0, hy, hw5])
      apply W.dregE (List.cons_ne_nil _ _)
      case hc =>
        (apply CanonE.advPO; simp only [go_sem, seval, reduceCtorEq, h4, nat0, hx])
        (apply CanonE.call (ty_Same w0 cs[j] cs[j] _); (case hg => rfl); (case hf => rfl); (case ha => first | rfl | simp))
        (apply CanonE.advPO; simp only [go_sem, seval, reduceCtorEq, sameTy_refl])
        exact CanonE.nil
      ((try refine W.a ?_); simp only [go_sem, seval, reduceCtorEq])
      refine W.no rfl ?_
      ((try refine W.a ?_); simp only [go_sem, seval, reduceCtorEq, hw])
      refine .inv ⟨j + 1, hlj, by omega, ?_⟩
      (refine Lew.cutL (hok) ?_ (by simp) (by simp) ?_ ?_ ?_; exact lee_here; ((try simp only [okB, wkB, go_sem, seval, reduceCtorEq]) <;> omega); (simp only [List.length_cons, List.length_nil, Nat.reduceAdd, List.take_succ_cons, List.take_zero, wkB, and_true]; (repeat' (refine And.intro ?_ ?_)) <;> (first | exact Blk.wk.rfl _ | exact Blk.wk.gone _ | (refine Blk.wk_cells ?_ rfl; (exact wk_here)))); (repeat' (first | exact LowE.base _ | (refine LowE.put ?_ (by first | exact .c _ | ((try simp only [okB, wkB, go_sem, seval, reduceCtorEq]) <;> omega))))))
  · have h4 : ¬ ((j : Int) < ((fs ++ zs).length : Int)) := by omega
    generalize fs ++ zs = cs at *
    ((try refine W.a ?_); simp only [go_sem, seval, reduceCtorEq, h4])
    refine W.no rfl ?_
    ((try refine W.a ?_); simp only [go_sem, seval, reduceCtorEq])
    (refine W.c1 (ty_Same w0 z z _) ?_; simp only [go_sem, seval, reduceCtorEq, sameTy_refl, hk2])
    (refine W.fs (hok) (by simp only [r7, go_sem, seval, reduceCtorEq]; rfl) ?_; simp only [resV]; try exact V.wk.rfl _)
end Go.Proofs.YtohcnohllbjlcaaGreatDoor

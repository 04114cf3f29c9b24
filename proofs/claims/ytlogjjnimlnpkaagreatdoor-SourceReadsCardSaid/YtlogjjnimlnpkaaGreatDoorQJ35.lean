/-
  Walks: the document's type reader, its small functions.
  Walks: the document's type reader: an atom.
  Walks: the document's type reader: a type; its Read.
  Walks: the document's Read of types; which types are the same, and how large they are.
  Walks: when two sentences are the same.
  The code of some functions, without addresses.
  Walks: the document's operators: the first ones; what is wrong with one more.
  Walks: the document's reader of sentences: small functions, names.
  Walks: the document's reader, an atom.
  Walks: the document's reader, atoms applied.
  Walks: the document's reader, an expression; and its Read.
  Walks: the document's Read.
  Walks: the document's reader of sentences: kinds, types, clauses.
-/
import Derived.Test.YtlogjjnimlnpkaaGreatDoorQJ34
import Derived.Test.YtlogjjnimlnpkaaGreatDoorQJ11
import Derived.Test.YtlogjjnimlnpkaaGreatDoorQJ32
import Derived.Test.YtlogjjnimlnpkaaGreatDoorChecked
import Derived.Test.YtlogjjnimlnpkaaGreatDoorQRefH
import Derived.Test.YtlogjjnimlnpkaaGreatDoorQRefI
import Derived.Test.YtlogjjnimlnpkaaGreatDoorQJ33
set_option linter.unusedSimpArgs false
set_option linter.unusedVariables false
set_option maxHeartbeats 8000000
set_option maxRecDepth 20000
namespace Go.Proofs.YtlogjjnimlnpkaaGreatDoor
open Go.RowKit Go.Lamb
attribute [local go_sem] advO_skip advO_reg advO_seq advO_block advO_exit advO_endb advO_opsNil advO_ops advG_yes advG_no advG_none advS_some advS_none advO_cond advO_loop advO_dreg advO_ret advO_bad advO_inv advO_nil advO_zero wantedV Lamb.step ev_t ev_k put_some put_none argEnv popTo cellsAt V.cellsV V.rows V.toC toCs fillV bytesC byteRows appV rowsV boundV boundL binV binInt binStr eqC eqL V.isNil leaves V.leaf Ins.quiet Ins.pure List.getD_cons_zero List.getD_cons_succ List.getD_nil List.all_cons List.all_nil List.length_cons List.length_nil List.take_succ_cons List.take_zero List.drop_succ_cons List.drop_zero List.cons_append List.nil_append List.append_nil List.append_assoc List.map_cons List.map_nil List.getElem?_cons_zero List.getElem?_cons_succ List.length_append List.length_set hget0 hget hset0 hset hsets hgs0 hgs hss0 hss List.set_cons_zero List.set_cons_succ List.forall_mem_cons List.not_mem_nil false_implies implies_true Option.map_some Bool.and_true Bool.true_and Bool.not_not Bool.not_true Bool.not_false Bool.and_self Bool.or_true Bool.true_or Bool.or_false Bool.false_or Bool.and_false Bool.false_and Bool.false_eq_true beq_self_eq_true and_self and_true true_and if_true if_false Nat.zero_add Nat.add_zero Nat.le_refl Int.toNat_natCast decide_true decide_false beq_t beq_f List.length_map List.getElem?_map I S B opsC toksC OpT.v OpT.cs OpT.zero Tok.v Tok.cs Pre.v Pre.cs_eq k_mk name_mk n_mk l_mk pos_mk Pre.app applyL natCast0 natCast1 natCast2 AOp.o AOp.m AOp.f AOp.l AOp.d AOp.n AOp.x AOp.s AOp.k AOp.y AOp.z EOp.q low_c low_void low_any low_csl low_nilf low_ptr low_osl low_agg low_tup low_fn resEval advPO_nil advPO_loud advPO_quiet pL_yes pL_no pLS_some pLS_none pQ_yes pQ_no pQS_some pQS_loud eq_self Nat.sub_zero
section

theorem ref03_TokI (w0 : World) (t : List Tok) (i : Int) (σ : H) : DC Tryz.prog w0 135 [.c (toksC t), I i] σ (Same (tokI t i).v σ) := by
  by_cases h0 : 0 ≤ i
  · obtain ⟨n, rfl⟩ := Int.eq_ofNat_of_zero_le h0
    rw [tokI_nat]
    exact ref03_Tok w0 t n σ
  · have ht : tokI t i = ⟨0, [], 0, lastPos t⟩ := by unfold tokI; rw [if_neg h0]
    rw [ht]
    refine k135.go rfl (fun hok hsz => ?_)
    have hlen := sz_rows (hsz _ (List.mem_cons_self ..))
    have h1 : ¬ (i ≥ 0) := h0
    ((try refine W.a ?_); simp only [go_sem, seval, reduceCtorEq, c135, h1])
    refine W.no rfl ?_
    ((try refine W.a ?_); simp only [go_sem, seval, reduceCtorEq])
    by_cases h2 : 0 < t.length
    · have h3 : ((t.length : Int) > 0) := by omega
      have hw2 : IntKind.i64.wrap ((t.length : Int) - 1) = ((t.length - 1 : Nat) : Int) := by rw [wrap_in] <;> omega
      obtain ⟨x, hx, hp⟩ := lastPos_at h2
      have h4 : (((t.length - 1 : Nat) : Int) < (t.length : Int)) := by omega
      ((try refine W.a ?_); simp only [go_sem, seval, reduceCtorEq, h3])
      refine W.yes rfl ?_
      ((try refine W.a ?_); simp only [go_sem, seval, reduceCtorEq, hw2, nat0, h4, hx])
      (refine W.ret (Fin.same hok (by simp only [resEval, r135, go_sem, seval, reduceCtorEq]; rfl) ?_ (by first | exact .c _ | (simp only [go_sem, seval, reduceCtorEq]; done)) (by first | exact ⟨[], (List.append_nil _).symm⟩ | exact ⟨_, rfl⟩)); simp only [resV])
      rw [hp]
    · have h3 : ¬ ((t.length : Int) > 0) := by omega
      ((try refine W.a ?_); simp only [go_sem, seval, reduceCtorEq, h3])
      refine W.no rfl ?_
      ((try refine W.a ?_); simp only [go_sem, seval, reduceCtorEq])
      (refine W.ret (Fin.same hok (by simp only [resEval, r135, go_sem, seval, reduceCtorEq]; rfl) ?_ (by first | exact .c _ | (simp only [go_sem, seval, reduceCtorEq]; done)) (by first | exact ⟨[], (List.append_nil _).symm⟩ | exact ⟨_, rfl⟩)); simp only [resV])
      have : t = [] := List.eq_nil_of_length_eq_zero (by omega)
      subst this
      rfl
/-- The document's type reader's blocks. -/
def tqX (t : List Tok) (i : Int) (v : Nat) (vs : List Str) (e p : Int) : Blk := .cells [.c (toksC t), I i, I e, I p, .osl v (strsR vs)]
abbrev tqs (σ : H) (b v : Nat) (t : List Tok) (i : Int) (vs : List Str) (e p : Int) : H := rs σ b v (tqX t i v vs e p) (tyY vs)
theorem tqs_ok {σ : H} {b v : Nat} (D : Two σ b v) {X Y : Blk} (h : H.ok (rs σ b v X Y)) (t : List Tok) (i : Int) (vs : List Str) (e p : Int) : H.ok (tqs σ b v t i vs e p) :=
  rs_ok D h (fun cs tg hc x hx => by
    unfold tqX at hc
    injection hc with hc _
    subst hc
    simp only [List.mem_cons, List.not_mem_nil, or_false] at hx
    rcases hx with rfl | rfl | rfl | rfl | rfl
    · exact .c _
    · exact .c _
    · exact .c _
    · exact .c _
    · exact .osl D.lv) (fun cs tg hc => by unfold tyY at hc; cases hc)
attribute [local go_sem] tqX tyY rs_len rs_g0 rs_g rs_s0 rs_s rs_sv Typ.v Typ.cs_eq tk_mk tname_mk tn_mk tl_mk tysC
theorem ref05_fail (w0 : World) (t : List Tok) (i : Int) (vs : List Str) (e p e' p' : Int) (σ : H) (b v : Nat) (D : Two σ b v) :
    DC Tryz.prog w0 138 [.ptr b 0, I e', I p'] (tqs σ b v t i vs e p) (Same (.tup []) (tqs σ b v t i vs (if e = 0 then e' else e) (if e = 0 then p' else p))) := by
  refine k138.go rfl (fun hok hsz => ?_)
  by_cases he : e = 0
  · subst he
    ((try refine W.a ?_); simp only [go_sem, seval, reduceCtorEq, c138, rsA D])
    refine W.yes rfl ?_
    ((try refine W.a ?_); simp only [go_sem, seval, reduceCtorEq, rsA D])
    (refine W.done (Fin.sameW (tqs_ok D hok t i vs e' p') (by (first | rfl | exact List.length_set .. | simp)) (by simp only [r138, go_sem, seval, reduceCtorEq]; rfl) ?_ (by (first | exact .c _ | (simp only [go_sem, seval, reduceCtorEq]; done))) (by (first | rfl | exact (List.append_nil _).symm))); simp only [resV]; try exact V.wk.rfl _)
  · have he' : (e == 0) = false := by simpa using he
    ((try refine W.a ?_); simp only [go_sem, seval, reduceCtorEq, c138, rsA D, he'])
    refine W.no rfl ?_
    ((try refine W.a ?_); simp only [go_sem, seval, reduceCtorEq])
    rw [if_neg he, if_neg he]
    (refine W.done (Fin.sameW (hok) (by (first | rfl | exact List.length_set .. | simp)) (by simp only [r138, go_sem, seval, reduceCtorEq]; rfl) ?_ (by (first | exact .c _ | (simp only [go_sem, seval, reduceCtorEq]; done))) (by (first | rfl | exact (List.append_nil _).symm))); simp only [resV]; try exact V.wk.rfl _)
theorem ref05_atom (w0 : World) (t : List Tok) (i : Int) (vs : List Str) (e p : Int) (σ : H) (b v : Nat) (D : Two σ b v) :
    DC Tryz.prog w0 137 [.ptr b 0] (tqs σ b v t i vs e p) (Same (B (tyBegins (tokI t i))) (tqs σ b v t i vs e p)) := by
  refine k137.go rfl (fun hok hsz => ?_)
  ((try refine W.a ?_); simp only [go_sem, seval, reduceCtorEq, c137])
  apply W.dregE (List.cons_ne_nil _ _)
  case hc =>
    (apply CanonE.advPO; simp only [go_sem, seval, reduceCtorEq, rsA D])
    (apply CanonE.call (ref03_TokI w0 t i _); (case hg => rfl); (case hf => rfl); (case ha => first | rfl | simp))
    (apply CanonE.advPO; simp only [go_sem, seval, reduceCtorEq])
    exact CanonE.nil
  generalize tokI t i = x
  cases h1 : (x.kind == 1) <;> cases h2 : (x.kind == 2) <;> cases h5 : (x.kind == 5)
  all_goals
    ((try refine W.a ?_); simp only [go_sem, seval, reduceCtorEq, h1, h2, h5])
    simp only [beq_eq_false_iff_ne, beq_iff_eq] at h1 h2 h5
    have hB : tyBegins x = (decide (x.kind = 1) || decide (x.kind = 2) || decide (x.kind = 5)) := rfl
    simp only [h1, h2, h5, decide_true, decide_false, Bool.or_true, Bool.or_false, Bool.true_or, Bool.false_or] at hB
    rw [hB]
    (refine W.fs (hok) (by simp only [r137, go_sem, seval, reduceCtorEq, rsA D]; rfl) ?_ (hl := by (first | exact .c _ | (simp only [go_sem, seval, reduceCtorEq, rsA D]; done))); simp only [resV, rsA D]; try exact V.wk.rfl _)
end
section

abbrev tqo (σ : H) (b v : Nat) (t : List Tok) (o : TyO) : H := tqs σ b v t o.j o.ws o.e o.p
def TqTypeOK (w0 : World) (f : Nat) : Prop := ∀ (t : List Tok) (depth i : Nat) (vs : List Str) (r : TyR) (o : TyO) (σ : H) (b v : Nat), tyTypeF f t depth i vs = some r → tyTypeQ f t depth i vs = some o → Two σ b v → t.length ≤ 1000000 → vs.length ≤ i → i ≤ t.length → depth ≤ 200 →
  DC Tryz.prog w0 77 [.ptr b 0, I depth] (tqs σ b v t i vs 0 0) (Same o.u.v (tqo σ b v t o))
def TqAtomOK (w0 : World) (f : Nat) : Prop := ∀ (t : List Tok) (depth i : Nat) (vs : List Str) (r : TyR) (o : TyO) (σ : H) (b v : Nat), tyAtomF f t depth i vs = some r → tyAtomQ f t depth i vs = some o → Two σ b v → t.length ≤ 1000000 → vs.length ≤ i → i ≤ t.length → depth ≤ 200 →
  DC Tryz.prog w0 136 [.ptr b 0, I depth] (tqs σ b v t i vs 0 0) (Same (atomV ((tokL t i).kind == 1) o.u) (tqo σ b v t o))
attribute [local go_sem] tqX tyY rs_len rs_g0 rs_g rs_s0 rs_s rs_sv Typ.v Typ.cs_eq tk_mk tname_mk tn_mk tl_mk tysC
theorem tqs_push (σ : H) (b v : Nat) (t : List Tok) (i : Int) (vs : List Str) (s : Str) (e p : Int) : tqs σ b v t i (vs ++ [s]) e p = rs σ b v (.cells [.c (toksC t), I i, I e, I p, .osl v (strsR vs ++ [[C.str s]])]) (.spare 9 1 (vs.length + 1)) := by
  show rs σ b v (tqX t i v (vs ++ [s]) e p) (tyY (vs ++ [s])) = _
  simp only [tqX, tyY, strsR, List.map_append, List.map_cons, List.map_nil, List.length_append, List.length_cons, List.length_nil]
theorem idx_found {vs : List Str} {s : Str} {k : Nat} (h : UpTo (· == s) vs k) (hk : k < vs.length) (hp : (vs[k] == s) = true) : vnum vs s = k ∧ vadd vs s = vs := vnum_yes (idxI_at h hk hp)
theorem idx_none {vs : List Str} {s : Str} (h : ∀ j (hj : j < vs.length), (vs[j] == s) = false) : vnum vs s = vs.length ∧ vadd vs s = vs ++ [s] := vnum_no (idxI_none h)
theorem tyQ_pos {f : Nat} {t : List Tok} {depth i : Nat} {vs : List Str} {r : TyR} {o : TyO} (h : tyTypeF f t depth i vs = some r) (ho : tyTypeQ f t depth i vs = some o) (ht : t.length ≤ 1000000) : o.e = 0 → o.p = 0 := fun he => by
  obtain ⟨o', h1, h2⟩ := (ty_outQ f).2.2.2 _ _ _ _ _ ht h
  rw [ho] at h1
  injection h1 with h1
  subst h1
  cases r with
  | ok x =>
    obtain ⟨u, j, ws⟩ := x
    have : o = ⟨u, (j : Nat), ws, 0, 0⟩ := h2
    rw [this]
  | error x =>
    obtain ⟨q1, _, q3⟩ := h2
    rw [← q1, he] at q3
    cases q3
theorem ref05_Atom {w0 : World} {f : Nat} (hE : TqTypeOK w0 f) : TqAtomOK w0 (f + 1) := by
  intro t depth i vs r o σ b v h ho D ht hv hi hd
  rw [tyAtomF] at h
  rw [tyAtomQ] at ho
  refine k136.go rfl (fun hok hsz => ?_)
  have hw : IntKind.i64.wrap ((i : Int) + 1) = ((i + 1 : Nat) : Int) := by rw [wrap_in] <;> omega
  ((try refine W.a ?_); simp only [go_sem, seval, reduceCtorEq, c136, rsA D])
  apply W.dregE (List.cons_ne_nil _ _)
  case hc =>
    (apply CanonE.advPO; simp only [go_sem, seval, reduceCtorEq, rsA D])
    (apply CanonE.pcall (fun τ => ref03_TokI w0 t i τ); (case hg => rfl); (case hf => rfl); (case ha => first | rfl | simp))
    (apply CanonE.advPO; simp only [go_sem, seval, reduceCtorEq, rsA D, tokI_nat])
    exact CanonE.nil
  ((try refine W.a ?_); simp only [go_sem, seval, reduceCtorEq, rsA D])
  (refine W.c1 (DC.lift D (fun D' => ref05_atom w0 t i vs 0 0 _ b v D')) ?_; simp only [go_sem, seval, reduceCtorEq, rsA D, tokI_nat])
  cases hB : tyBegins (tokL t i)
  · refine W.yes rfl ?_
    simp only [tyBegins, Bool.or_eq_false_iff, decide_eq_false_iff_not] at hB
    rw [if_neg hB.1.1, if_neg hB.1.2, if_neg hB.2] at ho
    have n1 : ((tokL t i).kind == 1) = false := by simpa using hB.1.1
    injection ho with ho
    subst ho
    ((try refine W.a ?_); simp only [go_sem, seval, reduceCtorEq, rsA D, n1])
    (refine W.c1 (DC.lift D (fun D' => ref05_fail w0 t i vs 0 0 50 (tokL t i).pos _ b v D')) ?_; simp only [go_sem, seval, reduceCtorEq, rsA D])
    (refine W.fg (tqs_ok D hok t i vs 50 (tokL t i).pos) (d := Typ.none.v) (by simp only [r136, go_sem, seval, reduceCtorEq, Typ.v, Typ.none, tk_mk, tname_mk, tn_mk, tl_mk]; rfl) (by simp only [resV, go_sem, seval, reduceCtorEq, Typ.v, Typ.none, tk_mk, tname_mk, tn_mk, tl_mk]; exact wk_here) ?_ (hl := by (first | exact .c _ | (simp only [go_sem, seval, reduceCtorEq, Typ.v, Typ.none, tk_mk, tname_mk, tn_mk, tl_mk]; done))))
    exact ⟨rfl, rfl⟩
  · refine W.no rfl ?_
    have hil : i < t.length := tyBegins_lt (by rw [hB]; decide)
    by_cases h1 : (tokL t i).kind = 1
    · rw [if_pos h1] at ho
      injection ho with ho
      subst ho
      ((try refine W.a ?_); simp only [go_sem, seval, reduceCtorEq, rsA D, hw, h1])
      refine W.yes rfl ?_
      ((try refine W.a ?_); simp only [go_sem, seval, reduceCtorEq, rsA D])
      (refine W.fg (tqs_ok D hok t ((i + 1 : Nat) : Int) vs 0 0) (d := atomV true (.con (tokL t i).text)) (by simp only [r136, go_sem, seval, reduceCtorEq, atomV, if_true, Typ.con, tk_mk, tname_mk, tn_mk, tl_mk]; rfl) (by simp only [resV, go_sem, seval, reduceCtorEq, atomV, if_true, Typ.con, tk_mk, tname_mk, tn_mk, tl_mk]; exact wk_here) ?_ (hl := by (first | exact .c _ | (simp only [go_sem, seval, reduceCtorEq, atomV, if_true, Typ.con, tk_mk, tname_mk, tn_mk, tl_mk]; done))))
      exact ⟨rfl, rfl⟩
    · rw [if_neg h1] at h ho
      have n1 : ((tokL t i).kind == 1) = false := by simpa using h1
      by_cases h2 : (tokL t i).kind = 2
      · rw [if_pos h2] at ho
        injection ho with ho
        subst ho
        have hv1 : vs.length ≤ 1000000 := by omega
        have n2 : ((tokL t i).kind == 2) = true := by simpa using h2
        ((try refine W.a ?_); simp only [go_sem, seval, reduceCtorEq, rsA D, hw, n1])
        refine W.no rfl ?_
        ((try refine W.a ?_); simp only [go_sem, seval, reduceCtorEq, rsA D, n2])
        refine W.yes rfl ?_
        ((try refine W.a ?_); simp only [go_sem, seval, reduceCtorEq, rsA D])
        refine W.loopP (fun k => k ≤ vs.length ∧ UpTo (· == (tokL t i).text) vs k) (fun k => ⟨(((((base.put (some 0) (.ptr b 0)).put (some 1) (I depth)).put (some 4) (.ptr σ.length 0)).put (some 5) (.ptr (σ.length + 1) 0)).put (some 7) (I (k : Nat))), tqs σ b v t ((i + 1 : Nat) : Int) vs 0 0 ++ [.cells [I 0, S [], I 0, .csl []], .cells (tokL t i).v.cellsV]⟩) (fun k => vs.length - k) 0 ⟨Nat.zero_le _, upTo_zero⟩ ?_ (fun k hk => ?_)
        · (refine Lew.env ?_; exact lee_here)
        · obtain ⟨hk, hinv⟩ := hk
          by_cases hlt : k < vs.length
          · have l1 : ((k : Int) < (vs.length : Int)) := by omega
            have hx : vs[k]? = some vs[k] := List.getElem?_eq_getElem hlt
            have hwk : IntKind.i64.wrap ((k : Int) + 1) = ((k + 1 : Nat) : Int) := by rw [wrap_in] <;> omega
            ((try refine W.a ?_); simp only [go_sem, seval, reduceCtorEq, rsA D, strsR, l1])
            refine W.yes rfl ?_
            ((try refine W.a ?_); simp only [go_sem, seval, reduceCtorEq])
            (apply W.dregE (List.cons_ne_nil _ _); case hc => ((apply CanonE.advPO; simp only [go_sem, seval, reduceCtorEq, rsA D, strsR, l1, nat0, hx]); exact CanonE.nil))
            ((try refine W.a ?_); simp only [go_sem, seval, reduceCtorEq])
            refine W.test rfl (fun hq => ?_) (fun hq => ?_)
            · obtain ⟨q1, q2⟩ := idx_found hinv hlt hq
              rw [q1, q2]
              ((try refine W.a ?_); simp only [go_sem, seval, reduceCtorEq, rsA D])
              (refine W.fg (tqs_ok D hok t ((i + 1 : Nat) : Int) vs 0 0) (d := (Typ.var (k : Nat)).v) (by simp only [r136, go_sem, seval, reduceCtorEq, Typ.v, Typ.var, tk_mk, tname_mk, tn_mk, tl_mk]; rfl) (by simp only [resV, go_sem, seval, reduceCtorEq, Typ.v, Typ.var, tk_mk, tname_mk, tn_mk, tl_mk]; exact wk_here) ?_ (hl := by (first | exact .c _ | (simp only [go_sem, seval, reduceCtorEq, Typ.v, Typ.var, tk_mk, tname_mk, tn_mk, tl_mk]; done))))
              exact ⟨rfl, rfl⟩
            · ((try refine W.a ?_); simp only [go_sem, seval, reduceCtorEq, hwk])
              refine .inv ⟨k + 1, ⟨hlt, upTo_next hinv hlt hq⟩, by omega, ?_⟩
              (refine Lew.env ?_; exact lee_here)
          · have l1 : ¬ ((k : Int) < (vs.length : Int)) := by omega
            obtain ⟨q1, q2⟩ := idx_none (vs := vs) (s := (tokL t i).text) (fun j hj => hinv j hj (by omega))
            have hb1 : (vs.length + 1) * 16 ≤ 140737488355328 := by omega
            have hb2 : vs.length + 1 ≤ 140737488355328 := by omega
            have hws : IntKind.i64.wrap (((vs.length + 1 : Nat) : Int) - 1) = (vs.length : Int) := by rw [wrap_in] <;> omega
            rw [q1, q2, show tqo σ b v t ⟨.var (vs.length : Nat), (i + 1 : Nat), vs ++ [(tokL t i).text], 0, 0⟩ = _ from tqs_push σ b v t _ vs _ 0 0]
            have hok2 := tqs_ok D hok t ((i + 1 : Nat) : Int) (vs ++ [(tokL t i).text]) 0 0
            rw [tqs_push] at hok2
            ((try refine W.a ?_); simp only [go_sem, seval, reduceCtorEq, rsA D, strsR, l1])
            refine W.no rfl ?_
            ((try refine W.a ?_); simp only [go_sem, seval, reduceCtorEq])
            (apply W.dregE (List.cons_ne_nil _ _); case hc => ((apply CanonE.advPO; simp only [go_sem, seval, reduceCtorEq, rsA D, strsR, hb1, hb2]); exact CanonE.nil))
            ((try refine W.a ?_); simp only [go_sem, seval, reduceCtorEq, rsA D, hws])
            (refine W.fg (hok2) (d := (Typ.var (vs.length : Int)).v) (by simp only [r136, go_sem, seval, reduceCtorEq, Typ.v, Typ.var, tk_mk, tname_mk, tn_mk, tl_mk]; rfl) (by simp only [resV, go_sem, seval, reduceCtorEq, Typ.v, Typ.var, tk_mk, tname_mk, tn_mk, tl_mk]; exact wk_here) ?_ (hl := by (first | exact .c _ | (simp only [go_sem, seval, reduceCtorEq, Typ.v, Typ.var, tk_mk, tname_mk, tn_mk, tl_mk]; done))))
            exact ⟨rfl, rfl⟩
      · rw [if_neg h2] at h ho
        have n2 : ((tokL t i).kind == 2) = false := by simpa using h2
        have h5 : (tokL t i).kind = 5 := by
          simp only [tyBegins, Bool.or_eq_true, decide_eq_true_eq] at hB
          rcases hB with (hB | hB) | hB
          · exact absurd hB h1
          · exact absurd hB h2
          · exact hB
        rw [if_pos h5] at h ho
        have hwd : IntKind.i64.wrap ((depth : Int) + 1) = ((depth + 1 : Nat) : Int) := wrap_next (n := 201) (by omega) (by omega)
        ((try refine W.a ?_); simp only [go_sem, seval, reduceCtorEq, rsA D, hw, n1])
        refine W.no rfl ?_
        ((try refine W.a ?_); simp only [go_sem, seval, reduceCtorEq, rsA D, n2])
        refine W.no rfl ?_
        by_cases hc : 200 ≤ depth
        · have d1 : ((depth + 1 : Nat) : Int) > 200 := by omega
          rw [if_pos hc] at ho
          injection ho with ho
          subst ho
          ((try refine W.a ?_); simp only [go_sem, seval, reduceCtorEq, rsA D, hwd, d1])
          refine W.yes rfl ?_
          ((try refine W.a ?_); simp only [go_sem, seval, reduceCtorEq, rsA D])
          (refine W.c1 (DC.lift D (fun D' => ref05_fail w0 t ((i + 1 : Nat) : Int) vs 0 0 31 (tokL t i).pos _ b v D')) ?_; simp only [go_sem, seval, reduceCtorEq, rsA D])
          (refine W.fg (tqs_ok D hok t ((i + 1 : Nat) : Int) vs 31 (tokL t i).pos) (d := Typ.none.v) (by simp only [r136, go_sem, seval, reduceCtorEq, Typ.v, Typ.none, tk_mk, tname_mk, tn_mk, tl_mk]; rfl) (by simp only [resV, go_sem, seval, reduceCtorEq, Typ.v, Typ.none, tk_mk, tname_mk, tn_mk, tl_mk]; exact wk_here) ?_ (hl := by (first | exact .c _ | (simp only [go_sem, seval, reduceCtorEq, Typ.v, Typ.none, tk_mk, tname_mk, tn_mk, tl_mk]; done))))
          exact ⟨rfl, rfl⟩
        · have d1 : ¬ ((depth + 1 : Nat) : Int) > 200 := by omega
          rw [if_neg hc] at h ho
          ((try refine W.a ?_); simp only [go_sem, seval, reduceCtorEq, rsA D, hwd, d1])
          refine W.no rfl ?_
          ((try refine W.a ?_); simp only [go_sem, seval, reduceCtorEq, rsA D, hwd])
          cases hr : tyTypeF f t (depth + 1) (i + 1) vs with
          | none => rw [hr] at h; cases h
          | some y =>
            cases hro : tyTypeQ f t (depth + 1) (i + 1) vs with
            | none => rw [hro] at ho; cases ho
            | some x =>
              rw [hro] at ho
              injection ho with ho
              subst ho
              (refine W.c1 (DC.lift D (fun D' => hE t (depth + 1) (i + 1) vs y x _ b v hr hro D' ht (by omega) (by omega) (by omega))) ?_; simp only [go_sem, seval, reduceCtorEq, rsA D])
              apply W.dregE (List.cons_ne_nil _ _)
              case hc =>
                (apply CanonE.advPO; simp only [go_sem, seval, reduceCtorEq, rsA D])
                (apply CanonE.pcall (fun τ => ref03_TokI w0 t x.j τ); (case hg => rfl); (case hf => rfl); (case ha => first | rfl | simp))
                (apply CanonE.advPO; simp only [go_sem, seval, reduceCtorEq, rsA D])
                exact CanonE.nil
              have hp := tyQ_pos hr hro ht
              by_cases he : x.e = 0
              · have hp0 := hp he
                by_cases h6 : (tokI t x.j).kind = 6
                · have hcl : closeO t x = ⟨x.u, IntKind.i64.wrap (x.j + 1), x.ws, 0, 0⟩ := by unfold closeO; simp only [if_pos he, if_pos h6]
                  have n6 : ((tokI t x.j).kind != 6) = false := by simpa using h6
                  rw [hcl]
                  ((try refine W.a ?_); simp only [go_sem, seval, reduceCtorEq, rsA D, he, hp0, n6])
                  refine W.no rfl ?_
                  ((try refine W.a ?_); simp only [go_sem, seval, reduceCtorEq, rsA D])
                  (refine W.fg (tqs_ok D hok t (IntKind.i64.wrap (x.j + 1)) x.ws 0 0) (d := x.u.v) (by simp only [r136, go_sem, seval, reduceCtorEq, Typ.v]; rfl) (by simp only [resV, go_sem, seval, reduceCtorEq, Typ.v]; exact wk_here) ?_ (hl := by (first | exact .c _ | (simp only [go_sem, seval, reduceCtorEq, Typ.v]; done))))
                  exact ⟨rfl, rfl⟩
                · have hcl : closeO t x = ⟨x.u, IntKind.i64.wrap (x.j + 1), x.ws, 50, (tokI t x.j).pos⟩ := by unfold closeO; simp only [if_pos he, if_neg h6]
                  have n6 : ((tokI t x.j).kind != 6) = true := by simpa using h6
                  rw [hcl]
                  ((try refine W.a ?_); simp only [go_sem, seval, reduceCtorEq, rsA D, he, hp0, n6])
                  refine W.yes rfl ?_
                  ((try refine W.a ?_); simp only [go_sem, seval, reduceCtorEq, rsA D])
                  (refine W.c1 (DC.lift D (fun D' => ref05_fail w0 t x.j x.ws 0 0 50 (tokI t x.j).pos _ b v D')) ?_; simp only [go_sem, seval, reduceCtorEq, rsA D])
                  (refine W.fg (tqs_ok D hok t (IntKind.i64.wrap (x.j + 1)) x.ws 50 (tokI t x.j).pos) (d := x.u.v) (by simp only [r136, go_sem, seval, reduceCtorEq, Typ.v]; rfl) (by simp only [resV, go_sem, seval, reduceCtorEq, Typ.v]; exact wk_here) ?_ (hl := by (first | exact .c _ | (simp only [go_sem, seval, reduceCtorEq, Typ.v]; done))))
                  exact ⟨rfl, rfl⟩
              · have hb : (x.e == 0) = false := by simpa using he
                rw [close_bad he]
                ((try refine W.a ?_); simp only [go_sem, seval, reduceCtorEq, rsA D, hb])
                refine W.no rfl ?_
                ((try refine W.a ?_); simp only [go_sem, seval, reduceCtorEq, rsA D])
                (refine W.fg (tqs_ok D hok t (IntKind.i64.wrap (x.j + 1)) x.ws x.e x.p) (d := x.u.v) (by simp only [r136, go_sem, seval, reduceCtorEq, Typ.v]; rfl) (by simp only [resV, go_sem, seval, reduceCtorEq, Typ.v]; exact wk_here) ?_ (hl := by (first | exact .c _ | (simp only [go_sem, seval, reduceCtorEq, Typ.v]; done))))
                exact ⟨rfl, rfl⟩
end
section
attribute [local go_sem] tqX tyY rs_len rs_g0 rs_g rs_s0 rs_s rs_sv Typ.v Typ.cs_eq tk_mk tname_mk tn_mk tl_mk tysC

/-- The code behind the loop. -/
def tqTailC : AC := match c77 with
  | .seq _ (.seq _ (.seq _ (.seq _ x))) => x
  | _ => .skip
theorem tq_tailW {w0 : World} {f : Nat} (hE : ∀ g, g ≤ f → TqTypeOK w0 g) {t : List Tok} {depth : Nat} {r : TyR} {o2 o : TyO} {σ : H} {b v : Nat} (D : Two σ b v) (ht : t.length ≤ 1000000) (hd : depth ≤ 200)
    (hin : (o2.e ≠ 0 ∧ o = o2) ∨ (∃ j : Nat, o2 = ⟨o2.u, (j : Nat), o2.ws, 0, 0⟩ ∧ tyTailF f t depth j o2.ws o2.u = some r ∧ tyTailQ f t depth o2 = some o ∧ j ≤ t.length ∧ o2.ws.length ≤ j))
    {x3 : V} (hx : x3 = .c (tysC o2.u.l) ∨ ∃ q, x3 = .osl q (o2.u.l.map Typ.cs)) (tk : List V) (ex : H) {ρ : Env} (e0 : ρ 0 = .ptr b 0) (e1 : ρ 1 = I depth) (e4 : ρ 4 = .ptr σ.length 0) (e6 : ρ 6 = .ptr (σ.length + 2) 0) (hok : H.ok (tqs σ b v t 0 [] 0 0)) :
    W Tryz.prog w0 σ.length (Lamb.Fin r77 σ.length (Same o.u.v (tqo σ b v t o))) [.code tqTailC] ⟨ρ, tqo σ b v t o2 ++ (.cells [I 0, S [], I 0, .csl []] :: .cells tk :: .cells [I o2.u.k, S o2.u.name, I o2.u.n, x3] :: ex)⟩ := by
  have hlen : (tqo σ b v t o2).length = σ.length := rs_len _ _
  rcases hin with ⟨hne, rfl⟩ | ⟨j, hj, hF, hG, hjl, hws⟩
  · have hb : (o.e != 0) = true := by simpa using hne
    rcases hx with rfl | ⟨q, rfl⟩
    all_goals
      ((try refine W.a ?_); simp only [go_sem, seval, reduceCtorEq, tqTailC, c77, rsA D, e0, e1, e4, e6])
      apply W.dregE (List.cons_ne_nil _ _)
      case hc =>
        (apply CanonE.advPO; simp only [go_sem, seval, reduceCtorEq, rsA D, e0, e1, e4, e6])
        (apply CanonE.pcall (fun τ => ref03_TokI w0 t o.j τ); (case hg => rfl); (case hf => rfl); (case ha => first | rfl | simp))
        (apply CanonE.advPO; simp only [go_sem, seval, reduceCtorEq, rsA D, e0, e1, e4, e6])
        exact CanonE.nil
      ((try refine W.a ?_); simp only [go_sem, seval, reduceCtorEq, rsA D, hb, e0, e1, e4, e6])
      refine W.yes rfl ?_
      ((try refine W.a ?_); simp only [go_sem, seval, reduceCtorEq, rsA D, e0, e1, e4, e6])
      (refine W.fg (tqs_ok D hok t o.j o.ws o.e o.p) (d := o.u.v) (by simp only [r77, go_sem, seval, reduceCtorEq, Typ.v, e4]; rfl) (by simp only [resV, go_sem, seval, reduceCtorEq, Typ.v, e4]; exact wk_here) ?_ (hl := by (first | exact .c _ | (simp only [go_sem, seval, reduceCtorEq, Typ.v, e4]; done))))
      exact ⟨rfl, rfl⟩
  · rw [hj] at hG ⊢
    generalize o2.u = u at *
    generalize o2.ws = ws at *
    obtain ⟨f', rfl⟩ : ∃ f', f = f' + 1 := by
      cases f with
      | zero => simp [tyTailF] at hF
      | succ f' => exact ⟨f', rfl⟩
    rw [tyTailF] at hF
    rw [tyTailQ] at hG
    simp only [tokI_nat, true_and] at hG
    by_cases hc : (tokL t j).kind = 4 ∧ (tokL t j).text = [45, 62]
    · rw [if_pos hc] at hF hG
      have hw : IntKind.i64.wrap ((j : Int) + 1) = ((j + 1 : Nat) : Int) := by rw [wrap_in] <;> omega
      have hwd : IntKind.i64.wrap ((depth : Int) + 1) = ((depth + 1 : Nat) : Int) := wrap_next (n := 201) (by omega) (by omega)
      have hjl' := tokL_lt (t := t) (i := j) (by rw [hc.1]; decide)
      have et : ((j : Int) + 1).toNat = j + 1 := by omega
      have k4 : ((tokL t j).kind != 4) = false := by simpa using hc.1
      have ktx : ((tokL t j).text == [45, 62]) = true := by simpa using hc.2
      by_cases c4 : 200 ≤ depth
      · rw [if_pos c4] at hG
        injection hG with hG
        subst hG
        have d1 : ((depth + 1 : Nat) : Int) > 200 := by omega
        rcases hx with rfl | ⟨q, rfl⟩
        all_goals
          ((try refine W.a ?_); simp only [go_sem, seval, reduceCtorEq, tqTailC, c77, rsA D, e0, e1, e4, e6])
          apply W.dregE (List.cons_ne_nil _ _)
          case hc =>
            (apply CanonE.advPO; simp only [go_sem, seval, reduceCtorEq, rsA D, e0, e1, e4, e6])
            (apply CanonE.pcall (fun τ => ref03_TokI w0 t j τ); (case hg => rfl); (case hf => rfl); (case ha => first | rfl | simp))
            (apply CanonE.advPO; simp only [go_sem, seval, reduceCtorEq, rsA D, e0, e1, e4, e6, tokI_nat])
            exact CanonE.nil
          ((try refine W.a ?_); simp only [go_sem, seval, reduceCtorEq, rsA D, e0, e1, e4, e6, k4, ktx])
          refine W.no rfl ?_
          ((try refine W.a ?_); simp only [go_sem, seval, reduceCtorEq, rsA D, e0, e1, e4, e6, hwd, d1])
          refine W.yes rfl ?_
          ((try refine W.a ?_); simp only [go_sem, seval, reduceCtorEq, rsA D, e0, e1, e4, e6])
          (refine W.c1 (DC.lift D (fun D' => ref05_fail w0 t j ws 0 0 31 (tokL t j).pos _ b v D')) ?_; simp only [go_sem, seval, reduceCtorEq, rsA D, e0, e1, e4, e6])
          (refine W.fg (tqs_ok D hok t j ws 31 (tokL t j).pos) (d := Typ.none.v) (by simp only [r77, go_sem, seval, reduceCtorEq, Typ.v, Typ.none, tk_mk, tname_mk, tn_mk, tl_mk, e4]; rfl) (by simp only [resV, go_sem, seval, reduceCtorEq, Typ.v, Typ.none, tk_mk, tname_mk, tn_mk, tl_mk, e4]; exact wk_here) ?_ (hl := by (first | exact .c _ | (simp only [go_sem, seval, reduceCtorEq, Typ.v, Typ.none, tk_mk, tname_mk, tn_mk, tl_mk, e4]; done))))
          exact ⟨rfl, rfl⟩
      · rw [if_neg c4] at hF hG
        rw [et] at hG
        have d1 : ¬ ((depth + 1 : Nat) : Int) > 200 := by omega
        cases hy : tyTypeF f' t (depth + 1) (j + 1) ws with
        | none => rw [hy] at hF; cases hF
        | some ry =>
          cases hz : tyTypeQ f' t (depth + 1) (j + 1) ws with
          | none => rw [hz] at hG; cases hG
          | some oi =>
            rw [hz] at hG
            injection hG with hG
            subst hG
            rcases hx with rfl | ⟨q, rfl⟩
            all_goals
              ((try refine W.a ?_); simp only [go_sem, seval, reduceCtorEq, tqTailC, c77, rsA D, e0, e1, e4, e6])
              apply W.dregE (List.cons_ne_nil _ _)
              case hc =>
                (apply CanonE.advPO; simp only [go_sem, seval, reduceCtorEq, rsA D, e0, e1, e4, e6])
                (apply CanonE.pcall (fun τ => ref03_TokI w0 t j τ); (case hg => rfl); (case hf => rfl); (case ha => first | rfl | simp))
                (apply CanonE.advPO; simp only [go_sem, seval, reduceCtorEq, rsA D, e0, e1, e4, e6, tokI_nat])
                exact CanonE.nil
              ((try refine W.a ?_); simp only [go_sem, seval, reduceCtorEq, rsA D, e0, e1, e4, e6, k4, ktx])
              refine W.no rfl ?_
              ((try refine W.a ?_); simp only [go_sem, seval, reduceCtorEq, rsA D, e0, e1, e4, e6, hwd, d1])
              refine W.no rfl ?_
              ((try refine W.a ?_); simp only [go_sem, seval, reduceCtorEq, rsA D, e0, e1, e4, e6, hw, hwd])
              (refine W.c1 (DC.lift D (fun D' => hE f' (by omega) t (depth + 1) (j + 1) ws ry oi _ b v hy hz D' ht (by omega) (by omega) (by omega))) ?_; simp only [go_sem, seval, reduceCtorEq, rsA D, e0, e1, e4, e6])
              (refine W.fg (tqs_ok D hok t oi.j oi.ws oi.e oi.p) (d := (Typ.arr u oi.u).v) (by simp only [r77, go_sem, seval, reduceCtorEq, Typ.v, Typ.arr, tk_mk, tname_mk, tn_mk, tl_mk, Typ.cs_eq, e4]; rfl) (by simp only [resV, go_sem, seval, reduceCtorEq, Typ.v, Typ.arr, tk_mk, tname_mk, tn_mk, tl_mk, Typ.cs_eq, e4]; exact wk_here) ?_ (hl := by (first | exact .c _ | (simp only [go_sem, seval, reduceCtorEq, Typ.v, Typ.arr, tk_mk, tname_mk, tn_mk, tl_mk, Typ.cs_eq, e4]; done))))
              exact ⟨rfl, rfl⟩
    · rw [if_neg hc] at hG
      injection hG with hG
      subst hG
      have two : ((tokL t j).kind != 4) = true ∨ (((tokL t j).kind != 4) = false ∧ ((tokL t j).text == [45, 62]) = false) := by
        cases ho : ((tokL t j).kind != 4)
        · refine .inr ⟨rfl, ?_⟩
          cases h6 : ((tokL t j).text == [45, 62])
          · rfl
          · exact absurd ⟨by simpa using ho, by simpa using h6⟩ hc
        · exact .inl rfl
      rcases hx with rfl | ⟨q, rfl⟩ <;> rcases two with k4 | ⟨k4, ktx⟩
      all_goals
        ((try refine W.a ?_); simp only [go_sem, seval, reduceCtorEq, tqTailC, c77, rsA D, e0, e1, e4, e6])
        apply W.dregE (List.cons_ne_nil _ _)
        case hc =>
          (apply CanonE.advPO; simp only [go_sem, seval, reduceCtorEq, rsA D, e0, e1, e4, e6])
          (apply CanonE.pcall (fun τ => ref03_TokI w0 t j τ); (case hg => rfl); (case hf => rfl); (case ha => first | rfl | simp))
          (apply CanonE.advPO; simp only [go_sem, seval, reduceCtorEq, rsA D, e0, e1, e4, e6, tokI_nat])
          exact CanonE.nil
        first
          | (((try refine W.a ?_); simp only [go_sem, seval, reduceCtorEq, rsA D, e0, e1, e4, e6, k4, ktx])
             refine W.yes rfl ?_)
          | (((try refine W.a ?_); simp only [go_sem, seval, reduceCtorEq, rsA D, e0, e1, e4, e6, k4])
             refine W.yes rfl ?_)
        ((try refine W.a ?_); simp only [go_sem, seval, reduceCtorEq, rsA D, e0, e1, e4, e6])
        (refine W.fg (tqs_ok D hok t j ws 0 0) (d := u.v) (by simp only [r77, go_sem, seval, reduceCtorEq, Typ.v, e4]; rfl) (by simp only [resV, go_sem, seval, reduceCtorEq, Typ.v, e4]; exact wk_here) ?_ (hl := by (first | exact .c _ | (simp only [go_sem, seval, reduceCtorEq, Typ.v, e4]; done))))
        exact ⟨rfl, rfl⟩
theorem ref05_Type {w0 : World} {f : Nat} (hA : ∀ g, g ≤ f → TqAtomOK w0 g) (hE : ∀ g, g ≤ f → TqTypeOK w0 g) : TqTypeOK w0 (f + 1) := by
  intro t depth i vs r o σ b v h ho D ht hv hi hd
  rw [tyTypeF] at h
  rw [tyTypeQ] at ho
  refine k77.go rfl (fun hok hsz => ?_)
  have hok0 : H.ok (tqs σ b v t 0 [] 0 0) := tqs_ok D hok t 0 [] 0 0
  ((try refine W.a ?_); simp only [go_sem, seval, reduceCtorEq, c77, rsA D])
  apply W.dregE (List.cons_ne_nil _ _)
  case hc =>
    (apply CanonE.advPO; simp only [go_sem, seval, reduceCtorEq, rsA D])
    (apply CanonE.pcall (fun τ => ref03_TokI w0 t i τ); (case hg => rfl); (case hf => rfl); (case ha => first | rfl | simp))
    (apply CanonE.advPO; simp only [go_sem, seval, reduceCtorEq, rsA D, tokI_nat])
    exact CanonE.nil
  ((try refine W.a ?_); simp only [go_sem, seval, reduceCtorEq, rsA D])
  cases ha : tyAtomF f t depth i vs with
  | none => rw [ha] at h; cases h
  | some ra =>
    rw [ha] at h
    obtain ⟨oa, hoa, hOa⟩ := (ty_outQ f).1 _ _ _ _ _ ht ha
    rw [hoa] at ho
    simp only at ho
    cases hk : ((tokL t i).kind == 1)
    · have hk1 : ¬ (tokL t i).kind = 1 := by simpa using hk
      rw [if_neg hk1] at ho
      simp only at ho
      have hin : (oa.e ≠ 0 ∧ o = oa) ∨ (∃ j : Nat, oa = ⟨oa.u, (j : Nat), oa.ws, 0, 0⟩ ∧ tyTailF f t depth j oa.ws oa.u = some r ∧ tyTailQ f t depth oa = some o ∧ j ≤ t.length ∧ oa.ws.length ≤ j) := by
        cases ra with
        | error x =>
          obtain ⟨q1, q2, q3⟩ := hOa
          have hne : oa.e ≠ 0 := by rw [q1]; simpa using q3
          left
          refine ⟨hne, ?_⟩
          cases f with
          | zero => simp [tyAtomF] at ha
          | succ f' => rw [tail_stopQ hne] at ho; injection ho with ho; exact ho.symm
        | ok x =>
          obtain ⟨u, j, ws⟩ := x
          have hO' : oa = ⟨u, (j : Nat), ws, 0, 0⟩ := hOa
          have b1 := (ty_bounds f).1 _ _ _ _ _ _ _ ha
          simp only [if_neg hk1] at h
          right
          subst hO'
          exact ⟨j, rfl, h, ho, b1.2.1, by show ws.length ≤ j; omega⟩
      (refine W.c1 (DC.lift D (fun D' => hA f (Nat.le_refl f) t depth i vs ra oa _ b v ha hoa D' ht hv hi hd)) ?_; simp only [go_sem, seval, reduceCtorEq, rsA D, hk, atomV, Bool.false_eq_true, if_false])
      refine W.no rfl ?_
      (refine W.advO 1 _ _ ?_; simp only [go_sem])
      refine tq_tailW hE D ht hd hin (.inl rfl) _ [] ?_ ?_ ?_ ?_ hok0 <;> rfl
    · have hk1 : (tokL t i).kind = 1 := by simpa using hk
      rw [if_pos hk1] at ho
      have hoa' : oa = ⟨.con (tokL t i).text, (i + 1 : Nat), vs, 0, 0⟩ := by
        cases f with
        | zero => simp [tyAtomF] at ha
        | succ f' =>
          rw [tyAtomQ, if_pos hk1] at hoa
          injection hoa with hoa
          exact hoa.symm
      have hil : i < t.length := tokL_lt (by rw [hk1]; decide)
      subst hoa'
      have hraE : ra = .ok (.con (tokL t i).text, i + 1, vs) := by
        cases f with
        | zero => simp [tyAtomF] at ha
        | succ f' =>
          rw [tyAtomF, if_pos hk1] at ha
          injection ha with ha
          exact ha.symm
      subst hraE
      simp only [if_pos hk1] at h
      cases hg : tyArgsF f t depth (i + 1) vs (.con (tokL t i).text) with
      | none => rw [hg] at h; cases h
      | some r1 =>
        rw [hg] at h
        cases hgo : tyArgsQ f t depth ⟨.con (tokL t i).text, (i + 1 : Nat), vs, 0, 0⟩ with
        | none => rw [hgo] at ho; cases ho
        | some o1 =>
          rw [hgo] at ho
          simp only at ho
          (refine W.c1 (DC.lift D (fun D' => hA f (Nat.le_refl f) t depth i vs _ _ _ b v ha hoa D' ht hv hi hd)) ?_; simp only [go_sem, seval, reduceCtorEq, rsA D, hk, atomV, if_true, Typ.con])
          refine W.yes rfl ?_
          ((try refine W.a ?_); simp only [go_sem, seval, reduceCtorEq, rsA D])
          refine W.ownCell (σ.length + 2) 3 32 4 (cs := [.c (.int .i64 0), .c (.str (tokL t i).text), .c (.int .i64 0), .csl []]) (tg := none) ?_ rfl ?_
          · simp only [rs_g, List.getElem?_cons_succ, List.getElem?_cons_zero]
          · ((try refine W.a ?_); simp only [go_sem, seval, reduceCtorEq, rsA D])
            obtain ⟨o1', ho1', hO1⟩ := (ty_outQ f).2.1 _ _ _ _ _ _ ht hg
            rw [hgo] at ho1'
            injection ho1' with ho1'
            subst ho1'
            have b1 := (ty_bounds f).1 _ _ _ _ _ _ _ ha
            have hf0 : 0 < f := by
              cases f with
              | zero => simp [tyAtomF] at ha
              | succ f' => omega
            have hin : (o1.e ≠ 0 ∧ o = o1) ∨ (∃ j : Nat, o1 = ⟨o1.u, (j : Nat), o1.ws, 0, 0⟩ ∧ tyTailF f t depth j o1.ws o1.u = some r ∧ tyTailQ f t depth o1 = some o ∧ j ≤ t.length ∧ o1.ws.length ≤ j) := by
              cases r1 with
              | error x =>
                obtain ⟨q1, q2, q3⟩ := hO1
                have hne : o1.e ≠ 0 := by rw [q1]; simpa using q3
                left
                refine ⟨hne, ?_⟩
                obtain ⟨f', rfl⟩ : ∃ f', f = f' + 1 := ⟨f - 1, by omega⟩
                rw [tail_stopQ hne] at ho
                injection ho with ho
                exact ho.symm
              | ok x =>
                obtain ⟨u, j, ws⟩ := x
                have hO' : o1 = ⟨u, (j : Nat), ws, 0, 0⟩ := hO1
                have b2 := (ty_bounds f).2.1 _ _ _ _ _ _ _ _ hg b1.2.1
                right
                subst hO'
                exact ⟨j, rfl, h, ho, b2.2.1, by show ws.length ≤ j; omega⟩
            refine W.loopP (fun x : ArgO => tyArgsQ x.g t depth x.o = some o1 ∧ x.g ≤ f ∧ 0 < x.g ∧ (x.o.e ≠ 0 ∨ ∃ (j : Nat) (ra : TyR), x.o.j = j ∧ x.o.e = 0 ∧ x.o.p = 0 ∧ tyArgsF x.g t depth j x.o.ws x.o.u = some ra ∧ j ≤ t.length ∧ x.o.ws.length ≤ j ∧ x.o.u.l.length ≤ j))
              (fun x => ⟨(((((base.put (some 0) (.ptr b 0)).put (some 1) (I depth)).put (some 4) (.ptr σ.length 0)).put (some 5) (.ptr (σ.length + 1) 0)).put (some 6) (.ptr (σ.length + 2) 0)), tqo σ b v t x.o ++ [.cells [I 0, S [], I 0, .csl []], .cells (tokL t i).v.cellsV, .cells [I x.o.u.k, S x.o.u.name, I x.o.u.n, .osl (σ.length + 3) (x.o.u.l.map Typ.cs)], .spare 32 4 x.o.u.l.length]⟩)
              (fun x => x.g) ⟨f, ⟨.con (tokL t i).text, (i + 1 : Nat), vs, 0, 0⟩⟩ ⟨hgo, Nat.le_refl f, hf0, .inr ⟨i + 1, r1, rfl, rfl, rfl, hg, by omega, by show vs.length ≤ i + 1; omega, Nat.zero_le _⟩⟩ ?_ (fun x hx => ?_)
            · (refine Lew.env ?_; exact lee_here)
            · obtain ⟨g, ⟨u, j', ws, e, p⟩⟩ := x
              obtain ⟨hG, hgf, hg0, hst⟩ := hx
              simp only at hG hgf hg0 hst
              obtain ⟨g', rfl⟩ : ∃ g', g = g' + 1 := ⟨g - 1, by omega⟩
              rcases hst with hne | ⟨j, ra', rfl, rfl, rfl, hF, hjl, hwl, hul⟩
              · rw [args_stopQ hne] at hG
                injection hG with hG
                subst hG
                have hb : (e == 0) = false := by simpa using hne
                ((try refine W.a ?_); simp only [go_sem, seval, reduceCtorEq, rsA D, hb])
                refine W.no rfl ?_
                (refine W.advO 1 _ _ ?_; simp only [go_sem])
                refine tq_tailW hE D ht hd hin (.inr ⟨_, rfl⟩) _ [_] ?_ ?_ ?_ ?_ hok0 <;> rfl
              · rw [tyArgsQ] at hG
                rw [tyArgsF] at hF
                simp only [tokI_nat, true_and, Int.toNat_natCast] at hG
                ((try refine W.a ?_); simp only [go_sem, seval, reduceCtorEq, rsA D])
                (refine W.c1 (DC.lift D (fun D' => ref05_atom w0 t j ws 0 0 _ b v D')) ?_; simp only [go_sem, seval, reduceCtorEq, rsA D, tokI_nat])
                cases hB : tyBegins (tokL t j)
                · rw [if_neg (by rw [hB]; decide)] at hG
                  injection hG with hG
                  subst hG
                  ((try refine W.a ?_); simp only [go_sem, seval, reduceCtorEq, hB])
                  refine W.no rfl ?_
                  (refine W.advO 1 _ _ ?_; simp only [go_sem])
                  refine tq_tailW hE D ht hd hin (.inr ⟨_, rfl⟩) _ [_] ?_ ?_ ?_ ?_ hok0 <;> rfl
                · rw [if_neg (by rw [hB]; decide)] at hF
                  rw [if_pos hB] at hG
                  have hjl' := tyBegins_lt (t := t) (i := j) (by rw [hB]; decide)
                  cases ha' : tyAtomF g' t depth j ws with
                  | none => rw [ha'] at hF; cases hF
                  | some rb =>
                    rw [ha'] at hF
                    obtain ⟨a, hag, haO⟩ := (ty_outQ g').1 _ _ _ _ _ ht ha'
                    rw [hag] at hG
                    simp only at hG
                    have hgp : 0 < g' := by
                      cases g' with
                      | zero => simp [tyAtomF] at ha'
                      | succ k => omega
                    have hal : ((tokL t j).kind == 1) = true → a.u.l = [] := fun hk2 => by
                      cases g' with
                      | zero => simp [tyAtomF] at ha'
                      | succ k =>
                        rw [tyAtomQ, if_pos (by simpa using hk2)] at hag
                        injection hag with hag
                        rw [← hag]; rfl
                    have hbd1 : (u.l.length + 1) * 56 ≤ 140737488355328 := by omega
                    have hbd2 : u.l.length + 1 ≤ 140737488355328 := by omega
                    have hinv : tyArgsQ g' t depth ⟨u.put a.u, a.j, a.ws, a.e, a.p⟩ = some o1 ∧ g' ≤ f ∧ 0 < g' ∧ (a.e ≠ 0 ∨ ∃ (k : Nat) (rc : TyR), a.j = k ∧ a.e = 0 ∧ a.p = 0 ∧ tyArgsF g' t depth k a.ws (u.put a.u) = some rc ∧ k ≤ t.length ∧ a.ws.length ≤ k ∧ (u.put a.u).l.length ≤ k) := by
                      refine ⟨hG, by omega, hgp, ?_⟩
                      cases rb with
                      | error x =>
                        obtain ⟨q1, q2, q3⟩ := haO
                        left; rw [q1]; simpa using q3
                      | ok x =>
                        obtain ⟨ua, k, ws'⟩ := x
                        have hO' : a = ⟨ua, (k : Nat), ws', 0, 0⟩ := haO
                        have b2 := (ty_bounds g').1 _ _ _ _ _ _ _ ha'
                        subst hO'
                        right
                        refine ⟨k, _, rfl, rfl, rfl, hF, b2.2.1, by show ws'.length ≤ k; omega, ?_⟩
                        simp only [Typ.put, tl_mk, List.length_append, List.length_cons, List.length_nil]
                        omega
                    ((try refine W.a ?_); simp only [go_sem, seval, reduceCtorEq, hB])
                    refine W.yes rfl ?_
                    ((try refine W.a ?_); simp only [go_sem, seval, reduceCtorEq, rsA D])
                    cases hk2 : ((tokL t j).kind == 1)
                    · apply W.dregE (List.cons_ne_nil _ _)
                      case hc =>
                        (apply CanonE.advPO; simp only [go_sem, seval, reduceCtorEq, rsA D])
                        (apply CanonE.call (DC.lift D (fun D' => hA g' (by omega) t depth j ws rb a _ b v ha' hag D' ht hwl hjl hd)); (case hg => rfl); (case hf => rfl); (case ha => first | rfl | simp))
                        (apply CanonE.advPO; simp only [go_sem, seval, reduceCtorEq, rsA D, hk2, atomV, Bool.false_eq_true, if_false, hbd1, hbd2])
                        exact CanonE.nil
                      ((try refine W.a ?_); simp only [go_sem, seval, reduceCtorEq, rsA D])
                      refine .inv ⟨⟨g', ⟨u.put a.u, a.j, a.ws, a.e, a.p⟩⟩, hinv, by simp, ?_⟩
                      simp only [go_sem, seval, reduceCtorEq, Typ.put, tk_mk, tname_mk, tn_mk, tl_mk, List.map_append, List.length_append, rsA D]
                      (refine Lew.env ?_; exact lee_here)
                    · have hal' := hal hk2
                      apply W.dregE (List.cons_ne_nil _ _)
                      case hc =>
                        (apply CanonE.advPO; simp only [go_sem, seval, reduceCtorEq, rsA D])
                        (apply CanonE.call (DC.lift D (fun D' => hA g' (by omega) t depth j ws rb a _ b v ha' hag D' ht hwl hjl hd)); (case hg => rfl); (case hf => rfl); (case ha => first | rfl | simp))
                        (apply CanonE.advPO; simp only [go_sem, seval, reduceCtorEq, rsA D, hk2, atomV, if_true, hbd1, hbd2])
                        exact CanonE.nil
                      ((try refine W.a ?_); simp only [go_sem, seval, reduceCtorEq, rsA D])
                      refine .inv ⟨⟨g', ⟨u.put a.u, a.j, a.ws, a.e, a.p⟩⟩, hinv, by simp, ?_⟩
                      simp only [go_sem, seval, reduceCtorEq, Typ.put, tk_mk, tname_mk, tn_mk, tl_mk, hal', List.map_append, List.length_append, rsA D]
                      (refine Lew.env ?_; exact lee_here)
theorem ref05_all (w0 : World) : ∀ f, (∀ g, g ≤ f → TqAtomOK w0 g) ∧ (∀ g, g ≤ f → TqTypeOK w0 g)
  | 0 => ⟨fun g hg => by
      have : g = 0 := by omega
      subst this
      intro t depth i vs r o σ b v h
      simp [tyAtomF] at h, fun g hg => by
      have : g = 0 := by omega
      subst this
      intro t depth i vs r o σ b v h
      simp [tyTypeF] at h⟩
  | f + 1 => by
    obtain ⟨h1, h2⟩ := ref05_all w0 f
    refine ⟨fun g hg => ?_, fun g hg => ?_⟩
    · rcases Nat.lt_or_ge f g with h | h
      · have : g = f + 1 := by omega
        subst this
        exact ref05_Atom (h2 f (Nat.le_refl f))
      · exact h1 g h
    · rcases Nat.lt_or_ge f g with h | h
      · have : g = f + 1 := by omega
        subst this
        exact ref05_Type h1 h2
      · exact h2 g h
end
section
attribute [local go_sem] tqX tyY rs_len rs_g0 rs_g rs_s0 rs_s rs_sv Typ.v Typ.cs_eq tk_mk tname_mk tn_mk tl_mk tysC

theorem ref05_atom_out (w0 : World) (t : List Tok) (depth : Nat) (i : Int) (hB : tyBegins (tokI t i) = false) (σ : H) (b v : Nat) (D : Two σ b v) (ht : t.length ≤ 1000000) :
    DC Tryz.prog w0 136 [.ptr b 0, I depth] (tqs σ b v t i [] 0 0) (Same Typ.none.v (tqs σ b v t i [] 50 (tokI t i).pos)) := by
  refine k136.go rfl (fun hok hsz => ?_)
  ((try refine W.a ?_); simp only [go_sem, seval, reduceCtorEq, c136, rsA D])
  apply W.dregE (List.cons_ne_nil _ _)
  case hc =>
    (apply CanonE.advPO; simp only [go_sem, seval, reduceCtorEq, rsA D])
    (apply CanonE.pcall (fun τ => ref03_TokI w0 t i τ); (case hg => rfl); (case hf => rfl); (case ha => first | rfl | simp))
    (apply CanonE.advPO; simp only [go_sem, seval, reduceCtorEq, rsA D])
    exact CanonE.nil
  ((try refine W.a ?_); simp only [go_sem, seval, reduceCtorEq, rsA D])
  (refine W.c1 (DC.lift D (fun D' => ref05_atom w0 t i [] 0 0 _ b v D')) ?_; simp only [go_sem, seval, reduceCtorEq, rsA D, hB])
  refine W.yes rfl ?_
  ((try refine W.a ?_); simp only [go_sem, seval, reduceCtorEq, rsA D])
  (refine W.c1 (DC.lift D (fun D' => ref05_fail w0 t i [] 0 0 50 (tokI t i).pos _ b v D')) ?_; simp only [go_sem, seval, reduceCtorEq, rsA D])
  (refine W.fg (tqs_ok D hok t i [] 50 (tokI t i).pos) (d := Typ.none.v) (by simp only [r136, go_sem, seval, reduceCtorEq, Typ.v, Typ.none, tk_mk, tname_mk, tn_mk, tl_mk]; rfl) (by simp only [resV, go_sem, seval, reduceCtorEq, Typ.v, Typ.none, tk_mk, tname_mk, tn_mk, tl_mk]; exact wk_here) ?_ (hl := by (first | exact .c _ | (simp only [go_sem, seval, reduceCtorEq, Typ.v, Typ.none, tk_mk, tname_mk, tn_mk, tl_mk]; done))))
  exact ⟨rfl, rfl⟩
theorem ref05_type_out (w0 : World) (t : List Tok) (i : Int) (hB : tyBegins (tokI t i) = false) (σ : H) (b v : Nat) (D : Two σ b v) (ht : t.length ≤ 1000000) :
    DC Tryz.prog w0 77 [.ptr b 0, I 0] (tqs σ b v t i [] 0 0) (Same Typ.none.v (tqs σ b v t i [] 50 (tokI t i).pos)) := by
  refine k77.go rfl (fun hok hsz => ?_)
  have hk : ((tokI t i).kind == 1) = false := by
    simp only [tyBegins, Bool.or_eq_false_iff, decide_eq_false_iff_not] at hB
    simpa using hB.1.1
  ((try refine W.a ?_); simp only [go_sem, seval, reduceCtorEq, c77, rsA D])
  apply W.dregE (List.cons_ne_nil _ _)
  case hc =>
    (apply CanonE.advPO; simp only [go_sem, seval, reduceCtorEq, rsA D])
    (apply CanonE.pcall (fun τ => ref03_TokI w0 t i τ); (case hg => rfl); (case hf => rfl); (case ha => first | rfl | simp))
    (apply CanonE.advPO; simp only [go_sem, seval, reduceCtorEq, rsA D])
    exact CanonE.nil
  ((try refine W.a ?_); simp only [go_sem, seval, reduceCtorEq, rsA D])
  (refine W.c1 (DC.lift D (fun D' => ref05_atom_out w0 t 0 i hB _ b v D' ht)) ?_; simp only [go_sem, seval, reduceCtorEq, rsA D, Typ.none, hk])
  refine W.no rfl ?_
  (refine W.advO 1 _ _ ?_; simp only [go_sem])
  refine tq_tailW (ref05_all w0 0).2 (o2 := ⟨.none, i, [], 50, (tokI t i).pos⟩) (o := ⟨.none, i, [], 50, (tokI t i).pos⟩) (r := .error ⟨50, 0⟩) D ht (Nat.zero_le _) (.inl ⟨by show (50 : Int) ≠ 0; decide, rfl⟩) (.inl rfl) _ [] ?_ ?_ ?_ ?_ (tqs_ok D hok t 0 [] 0 0) <;> rfl
theorem ref05_ReadO (w0 : World) (t : List Tok) (i : Int) (o : TyO) (r : TyR) (hO : TOut r o) (σ : H)
    (hc : ∀ (σ : H) (b v : Nat), Two σ b v → DC Tryz.prog w0 77 [.ptr b 0, I 0] (tqs σ b v t i [] 0 0) (Same o.u.v (tqo σ b v t o))) :
    DC Tryz.prog w0 31 [.c (toksC t), I i] σ (Same (tyReadV i r) σ) := by
  refine k31.go rfl (fun hok hsz => ?_)
  ((try refine W.a ?_); simp only [go_sem, seval, reduceCtorEq, c31])
  refine W.ownCell (σ.length + 1) 4 9 1 (cs := [.c (toksC t), I i, I 0, I 0, .csl []]) (tg := none) ?_ rfl ?_
  · simp only [hget, List.getElem?_cons_succ, List.getElem?_cons_zero]; rfl
  · ((try refine W.a ?_); simp only [go_sem, seval, reduceCtorEq])
    have hh : ∀ X, DC Tryz.prog w0 77 [.ptr (σ.length + 1) 0, I 0] (σ ++ [X, .cells [.c (toksC t), I i, I 0, I 0, .osl (σ.length + 2) []], .spare 9 1 0]) (Same o.u.v (σ ++ [X, tqX t o.j (σ.length + 2) o.ws o.e o.p, tyY o.ws])) := fun X => by
      have := hc (σ ++ [X, X, X]) (σ.length + 1) (σ.length + 2) (two_new σ X X X)
      unfold tqo tqs at this
      rw [rs_new, rs_new] at this
      exact this
    (refine W.c1 (hh _) ?_; simp only [go_sem, seval, reduceCtorEq])
    cases r with
    | ok x =>
      obtain ⟨u, j, ws⟩ := x
      have hO' : o = ⟨u, (j : Nat), ws, 0, 0⟩ := hO
      subst hO'
      ((try refine W.a ?_); simp only [go_sem, seval, reduceCtorEq])
      refine W.no rfl ?_
      ((try refine W.a ?_); simp only [go_sem, seval, reduceCtorEq])
      (apply W.dregE (List.cons_ne_nil _ _); case hc => ((apply CanonE.advPO; simp only [go_sem, seval, reduceCtorEq]); exact CanonE.nil))
      ((try refine W.a ?_); simp only [go_sem, seval, reduceCtorEq])
      (refine W.fs (hok) (by simp only [r31, go_sem, seval, reduceCtorEq, tyReadV, Typ.v]; rfl) ?_ (hl := by (first | exact .c _ | (simp only [go_sem, seval, reduceCtorEq, tyReadV, Typ.v]; done))); simp only [resV, tyReadV, Typ.v]; try exact V.wk.rfl _)
      (all_goals exact wk_here)
    | error x =>
      obtain ⟨q1, q2, q3⟩ := hO
      have hb : (o.e != 0) = true := by rw [q1, bne, q3]; rfl
      ((try refine W.a ?_); simp only [go_sem, seval, reduceCtorEq, hb])
      refine W.yes rfl ?_
      ((try refine W.a ?_); simp only [go_sem, seval, reduceCtorEq])
      (apply W.dregE (List.cons_ne_nil _ _); case hc => ((apply CanonE.advPO; simp only [go_sem, seval, reduceCtorEq]); exact CanonE.nil))
      ((try refine W.a ?_); simp only [go_sem, seval, reduceCtorEq])
      rw [q1, q2]
      (refine W.fs (hok) (by simp only [r31, go_sem, seval, reduceCtorEq, tyReadV, Typ.v, Typ.none, tk_mk, tname_mk, tn_mk, tl_mk, List.map_nil]; rfl) ?_ (hl := by (first | exact .c _ | (simp only [go_sem, seval, reduceCtorEq, tyReadV, Typ.v, Typ.none, tk_mk, tname_mk, tn_mk, tl_mk, List.map_nil]; done))); simp only [resV, tyReadV, Typ.v, Typ.none, tk_mk, tname_mk, tn_mk, tl_mk, List.map_nil]; try exact V.wk.rfl _)
      (all_goals exact wk_here)
theorem ref05_Read (w0 : World) (t : List Tok) (i : Int) (ht : t.length ≤ 1000000) (σ : H) : DC Tryz.prog w0 31 [.c (toksC t), I i] σ (Same (tyReadV i (tyFrom t i)) σ) := by
  by_cases h : 0 ≤ i ∧ i ≤ t.length
  · obtain ⟨n, rfl⟩ := Int.eq_ofNat_of_zero_le h.1
    rw [tyFrom_nat (by omega)]
    obtain ⟨f, hf⟩ := tyT_is t n
    obtain ⟨o, ho, hO⟩ := (ty_outQ f).2.2.2 _ _ _ _ _ ht hf
    exact ref05_ReadO w0 t n o _ hO σ fun σ b v D => (ref05_all w0 f).2 f (Nat.le_refl f) t 0 n [] _ o σ b v hf ho D ht (Nat.zero_le _) (by omega) (Nat.zero_le _)
  · have hto := tokI_out h
    have hB : tyBegins (tokI t i) = false := by rw [hto]; rfl
    unfold tyFrom
    rw [if_neg h]
    refine ref05_ReadO w0 t i ⟨.none, i, [], 50, (tokI t i).pos⟩ (.error ⟨50, lastPos t⟩) ⟨rfl, by rw [hto], rfl⟩ σ fun σ b v D => ref05_type_out w0 t i hB σ b v D ht
theorem typ_len {p : Typ} {args : List V} (h : ∀ y ∈ args, V.Sz y) (hx : p.v ∈ args) : p.l.length ≤ 9223372036854775807 := by
  have := h _ hx
  rw [Typ.v, sz_agg] at this
  exact sz_rows (this (.c (.sl (p.l.map Typ.cs))) (by simp))
theorem ref05_Same (w0 : World) (p : Typ) : ∀ (q : Typ) (σ : H), DC Tryz.prog w0 26 [p.v, q.v] σ (Same (B (sameTy p q)) σ) := by
  refine Typ.ind (P := fun p => ∀ (q : Typ) (σ : H), DC Tryz.prog w0 26 [p.v, q.v] σ (Same (B (sameTy p q)) σ)) (fun p ih q σ => ?_) p
  refine k26.go rfl (fun hok hsz => ?_)
  have hlen := typ_len hsz (List.mem_cons_self ..)
  have hlq : ((p.l.length : Int) == (q.l.length : Int)) = (p.l.length == q.l.length) := by rw [Bool.eq_iff_iff]; simp; omega
  have hnl : p.l.length ≠ q.l.length → zipAll sameTy p.l q.l = false := zipAll_len
  (((try refine W.a ?_); (try simp only [bne, go_sem, seval, reduceCtorEq, c26, hlq, *])); (repeat' (first | (refine W.yes rfl ?_; (refine W.a ?_; simp only [bne, go_sem, seval, reduceCtorEq, c26, hlq, *])) | (refine W.no rfl ?_; (refine W.a ?_; simp only [bne, go_sem, seval, reduceCtorEq, c26, hlq, *])) | (refine W.testn rfl (fun hT => ?_) (fun hT => ?_) <;> (refine W.a ?_; simp only [bne, go_sem, seval, reduceCtorEq, c26, hlq, *])) | (refine W.test rfl (fun hT => ?_) (fun hT => ?_) <;> (refine W.a ?_; simp only [bne, go_sem, seval, reduceCtorEq, c26, hlq, *])) | (refine advG_ifn _ _ _ _ (fun hT => ?_) (fun hT => ?_) <;> simp only [bne, go_sem, seval, reduceCtorEq, c26, hlq, *]) | (refine advG_if _ _ _ _ (fun hT => ?_) (fun hT => ?_) <;> simp only [bne, go_sem, seval, reduceCtorEq, c26, hlq, *]))))
  all_goals (try (refine W.fs (hok) (by simp only [r26, go_sem, seval, reduceCtorEq]; rfl) ?_; simp only [resV]; (first | exact V.wk.rfl _ | (refine wk_bool ?_; clear hsz hok; rw [sameTy_eq] <;> ((try simp only [beq_iff_eq, beq_eq_false_iff_ne, ne_eq, decide_eq_true_eq, decide_eq_false_iff_not] at *); first | (exfalso; omega) | (simp [hnl, *]; done) | (simp [hnl, *]; omega) | (simp [hnl, *]))))))
  simp only [beq_iff_eq, beq_eq_false_iff_ne, Bool.not_eq_true', Bool.not_eq_false'] at *
  have hl : p.l.length = q.l.length := by assumption
  have hs0 : sameTy p q = zipAll sameTy p.l q.l := by rw [sameTy_eq]; simp [*]
  refine W.loopP (fun i => i ≤ p.l.length ∧ ∀ j (hj : j < p.l.length) (hj' : j < q.l.length), j < i → sameTy p.l[j] q.l[j] = true) (fun i => ⟨((((base.put (some 2) (.ptr σ.length 0)).put (some 3) (.ptr (σ.length + 1) 0)).put (some 4) (B false)).put (some 5) (I (i : Nat))), σ ++ [.cells p.v.cellsV, .cells q.v.cellsV]⟩) (fun i => p.l.length - i) 0 ⟨Nat.zero_le _, fun _ _ _ h => absurd h (by omega)⟩ ?_ (fun i hi => ?_)
  · (refine Lew.env ?_; exact lee_here)
  · obtain ⟨hi, hinv⟩ := hi
    by_cases hlt : i < p.l.length
    · have h1 : ((i : Int) < (p.l.length : Int)) := by omega
      have h2 : ((i : Int) < (q.l.length : Int)) := by omega
      have hltr : i < q.l.length := by omega
      have hx : p.l[i]? = some p.l[i] := List.getElem?_eq_getElem hlt
      have hy : q.l[i]? = some q.l[i] := List.getElem?_eq_getElem hltr
      have hw : IntKind.i64.wrap ((i : Int) + 1) = ((i + 1 : Nat) : Int) := wrap_next hlt hlen
      ((try refine W.a ?_); simp only [go_sem, seval, reduceCtorEq, h1])
      refine W.yes rfl ?_
      ((try refine W.a ?_); simp only [go_sem, seval, reduceCtorEq])
      apply W.dregE (List.cons_ne_nil _ _)
      case hc =>
        (apply CanonE.advPO; simp only [go_sem, seval, reduceCtorEq, h1, h2, nat0, hx, hy])
        (apply CanonE.call (ih p.l[i] (List.getElem_mem hlt) q.l[i] _); (case hg => rfl); (case hf => rfl); (case ha => first | rfl | simp))
        (apply CanonE.advPO; simp only [go_sem, seval, reduceCtorEq])
        exact CanonE.nil
      ((try refine W.a ?_); simp only [go_sem, seval, reduceCtorEq])
      refine W.testn rfl (fun h => ?_) (fun h => ?_)
      · ((try refine W.a ?_); simp only [go_sem, seval, reduceCtorEq, hw])
        refine .inv ⟨i + 1, ⟨hlt, fun j hj hj' hji => ?_⟩, by omega, ?_⟩
        · rcases Nat.lt_succ_iff_lt_or_eq.1 hji with h' | h'
          · exact hinv j hj hj' h'
          · subst h'; exact h
        · (refine Lew.env ?_; exact lee_here)
      · ((try refine W.a ?_); simp only [go_sem, seval, reduceCtorEq])
        (refine W.fs (hok) (by simp only [r26, go_sem, seval, reduceCtorEq]; rfl) ?_; simp only [resV]; try exact V.wk.rfl _)
        rw [hs0, zipAll_no hlt hltr h]
        exact .rfl _
    · have h1 : ¬ ((i : Int) < (p.l.length : Int)) := by omega
      ((try refine W.a ?_); simp only [go_sem, seval, reduceCtorEq, h1])
      refine W.no rfl ?_
      ((try refine W.a ?_); simp only [go_sem, seval, reduceCtorEq])
      (refine W.fs (hok) (by simp only [r26, go_sem, seval, reduceCtorEq]; rfl) ?_; simp only [resV]; try exact V.wk.rfl _)
      rw [hs0, zipAll_yes hl (fun j hj hj' => hinv j hj hj' (by omega))]
      exact .rfl _
end
section

theorem names_len {x : Sent} {l : List V} (h : ∀ y ∈ x.v :: l, V.Sz y) : x.names.length ≤ 9223372036854775807 := by
  have h := h _ (List.mem_cons_self ..)
  rw [Sent.v, sz_agg] at h
  have h1 := h (.c (strsC x.names)) (by simp)
  rw [strsC] at h1
  exact sz_rows h1
theorem ref10_Same (w0 : World) (x : Sent) (σ : H) : DC Tryz.prog w0 51 [x.v, x.v] σ (Same (B true) σ) := by
  refine k51.go rfl (fun hok hsz => ?_)
  have hlen : x.names.length ≤ 9223372036854775807 := names_len hsz
  ((try refine W.a ?_); simp only [go_sem, seval, reduceCtorEq, c51, Sent.v, strsC, bne_self_eq_false'])
  refine W.no rfl ?_
  ((try refine W.a ?_); simp only [go_sem, seval, reduceCtorEq])
  refine W.loopP (fun i => i ≤ x.names.length) (fun i => ⟨((((base.put (some 2) (.ptr σ.length 0)).put (some 3) (.ptr (σ.length + 1) 0)).put (some 4) (B false)).put (some 5) (I (i : Nat))), σ ++ [.cells x.v.cellsV, .cells x.v.cellsV]⟩) (fun i => x.names.length - i) 0 (Nat.zero_le _) ?_ (fun i hi => ?_)
  · (refine Lew.env ?_; exact lee_here)
  · by_cases hlt : i < x.names.length
    · have h1 : ((i : Int) < (x.names.length : Int)) := by omega
      have hx : x.names[i]? = some x.names[i] := List.getElem?_eq_getElem hlt
      have hw : IntKind.i64.wrap ((i : Int) + 1) = ((i + 1 : Nat) : Int) := wrap_next hlt hlen
      ((try refine W.a ?_); simp only [go_sem, seval, reduceCtorEq, Sent.v, strsC, h1])
      refine W.yes rfl ?_
      ((try refine W.a ?_); simp only [go_sem, seval, reduceCtorEq])
      (apply W.dregE (List.cons_ne_nil _ _); case hc => ((apply CanonE.advPO; simp only [go_sem, seval, reduceCtorEq, h1, nat0, hx, Sent.v, strsC]); exact CanonE.nil))
      ((try refine W.a ?_); simp only [go_sem, seval, reduceCtorEq, bne_self_eq_false'])
      refine W.no rfl ?_
      ((try refine W.a ?_); simp only [go_sem, seval, reduceCtorEq, hw])
      refine .inv ⟨i + 1, hlt, by omega, ?_⟩
      (refine Lew.env ?_; exact lee_here)
    · have h1 : ¬ ((i : Int) < (x.names.length : Int)) := by omega
      ((try refine W.a ?_); simp only [go_sem, seval, reduceCtorEq, Sent.v, strsC, h1])
      refine W.no rfl ?_
      ((try refine W.a ?_); simp only [go_sem, seval, reduceCtorEq])
      (refine W.c1 (ref05_Same w0 x.ty x.ty _) ?_; simp only [go_sem, seval, reduceCtorEq, sameTy_refl])
      (refine W.c1 (ref03_Exact w0 x.body _) ?_; simp only [go_sem, seval, reduceCtorEq])
      (refine W.fs (hok) (by simp only [r51, go_sem, seval, reduceCtorEq]; rfl) ?_; simp only [resV]; try exact V.wk.rfl _)
end
end Go.Proofs.YtlogjjnimlnpkaaGreatDoor
namespace Go.Proofs.YtlogjjnimlnpkaaGreatDoor
open Go.RowKit Go.Lamb
/-- lambentref01.IsName -/
def c126 : AC :=
  .seq (.reg [.o 2 (.mov (.k (.c (.bool false))))])
  (.seq (.seq (.reg [.m 5 0, .o 6 (.lens (.t 5)), .o 7 (.bin .lss (.t 6) (.k (.c (.int .i64 1)))), .m 8 7, .z 9 (.mov (.t 0)) 8, .z 10 (.lens (.t 9)) 8, .z 11 (.bin .gtr (.t 10) (.k (.c (.int .i64 32)))) 8, .o 12 (.pick (.t 8) (.k (.c (.bool true))) (.t 11)), .m 13 12, .z 14 (.mov (.t 0)) 13, .z 15 (.index (.t 14) (.k (.c (.int .i64 0)))) 13, .z 16 (.call (.k (.fn 181 [])) [(.t 15)]) 13, .z 17 (.un .not (.t 16)) 13, .o 18 (.pick (.t 13) (.k (.c (.bool true))) (.t 17))])
  (.cond (.t 18)
  (.seq (.reg [.o 2 (.mov (.k (.c (.bool false))))])
  (.ret))
  (.skip)))
  (.seq (.seq (.reg [.o 3 (.mov (.k (.c (.int .i64 0))))])
  (.block 0 (.loop (.seq (.seq (.reg [.m 19 3, .m 20 0, .o 21 (.lens (.t 20)), .o 22 (.bin .lss (.t 19) (.t 21))])
  (.cond (.t 22)
  (.skip)
  (.exit 0)))
  (.seq (.block 1 (.seq (.reg [.m 25 0, .m 26 3, .o 27 (.index (.t 25) (.t 26)), .k 28 182 [(.t 27)], .m 4 28])
  (.seq (.reg [.m 29 4, .o 30 (.un .not (.t 29))])
  (.cond (.t 30)
  (.seq (.reg [.o 2 (.mov (.k (.c (.bool false))))])
  (.ret))
  (.skip)))))
  (.reg [.m 23 3, .o 24 (.bin .add (.t 23) (.k (.c (.int .i64 1)))), .m 3 24]))))))
  (.seq (.reg [.o 2 (.mov (.k (.c (.bool true))))])
  (.ret))))
def r126 : List ResV := [.tmp 2]
theorem k126 : CodeIs Tryz.prog 126 1 Tryz.f126 c126 r126 := ⟨by kernel_rfl, Tryz.func126, rfl, by kernel_rfl, by kernel_rfl, by decide, enters_fn Tryz.func126 (by kernel_rfl) rfl⟩
/-- lambentref01.IsSym -/
def c127 : AC :=
  .seq (.reg [.o 2 (.mov (.k (.c (.bool false))))])
  (.seq (.seq (.reg [.m 5 0, .o 6 (.bin .eql (.t 5) (.k (.c (.str [44])))), .m 7 6, .z 8 (.mov (.t 0)) 7, .z 9 (.bin .eql (.t 8) (.k (.c (.str [59])))) 7, .o 10 (.pick (.t 7) (.k (.c (.bool true))) (.t 9)), .m 11 10, .z 12 (.mov (.t 0)) 11, .z 13 (.bin .eql (.t 12) (.k (.c (.str [33])))) 11, .o 14 (.pick (.t 11) (.k (.c (.bool true))) (.t 13))])
  (.cond (.t 14)
  (.seq (.reg [.o 2 (.mov (.k (.c (.bool true))))])
  (.ret))
  (.skip)))
  (.seq (.seq (.reg [.o 3 (.mov (.k (.c (.int .i64 0))))])
  (.block 0 (.loop (.seq (.seq (.reg [.m 15 3, .m 16 0, .o 17 (.lens (.t 16)), .o 18 (.bin .lss (.t 15) (.t 17))])
  (.cond (.t 18)
  (.skip)
  (.exit 0)))
  (.seq (.block 1 (.seq (.reg [.m 21 0, .m 22 3, .o 23 (.index (.t 21) (.t 22)), .k 24 183 [(.t 23)], .m 4 24])
  (.seq (.reg [.m 25 4, .o 26 (.un .not (.t 25))])
  (.cond (.t 26)
  (.seq (.reg [.o 2 (.mov (.k (.c (.bool false))))])
  (.ret))
  (.skip)))))
  (.reg [.m 19 3, .o 20 (.bin .add (.t 19) (.k (.c (.int .i64 1)))), .m 3 20]))))))
  (.seq (.reg [.m 27 0, .o 28 (.lens (.t 27)), .o 29 (.bin .geq (.t 28) (.k (.c (.int .i64 1)))), .m 30 29, .y 31 (.mov (.t 0)) 30, .y 32 (.lens (.t 31)) 30, .y 33 (.bin .leq (.t 32) (.k (.c (.int .i64 32)))) 30, .o 34 (.pick (.t 30) (.t 33) (.k (.c (.bool false)))), .m 2 34])
  (.ret))))
def r127 : List ResV := [.tmp 2]
theorem k127 : CodeIs Tryz.prog 127 1 Tryz.f127 c127 r127 := ⟨by kernel_rfl, Tryz.func127, rfl, by kernel_rfl, by kernel_rfl, by decide, enters_fn Tryz.func127 (by kernel_rfl) rfl⟩
end Go.Proofs.YtlogjjnimlnpkaaGreatDoor
namespace Go.Proofs.YtlogjjnimlnpkaaGreatDoor
open Go.RowKit Go.Lamb
attribute [local go_sem] advO_skip advO_reg advO_seq advO_block advO_exit advO_endb advO_opsNil advO_ops advG_yes advG_no advG_none advS_some advS_none advO_cond advO_loop advO_dreg advO_ret advO_bad advO_inv advO_nil advO_zero wantedV Lamb.step ev_t ev_k put_some put_none argEnv popTo cellsAt V.cellsV V.rows V.toC toCs fillV bytesC byteRows appV rowsV boundV boundL binV binInt binStr eqC eqL V.isNil leaves V.leaf Ins.quiet Ins.pure List.getD_cons_zero List.getD_cons_succ List.getD_nil List.all_cons List.all_nil List.length_cons List.length_nil List.take_succ_cons List.take_zero List.drop_succ_cons List.drop_zero List.cons_append List.nil_append List.append_nil List.append_assoc List.map_cons List.map_nil List.getElem?_cons_zero List.getElem?_cons_succ List.length_append List.length_set hget0 hget hset0 hset hsets hgs0 hgs hss0 hss List.set_cons_zero List.set_cons_succ List.forall_mem_cons List.not_mem_nil false_implies implies_true Option.map_some Bool.and_true Bool.true_and Bool.not_not Bool.not_true Bool.not_false Bool.and_self Bool.or_true Bool.true_or Bool.or_false Bool.false_or Bool.and_false Bool.false_and Bool.false_eq_true beq_self_eq_true and_self and_true true_and if_true if_false Nat.zero_add Nat.add_zero Nat.le_refl Int.toNat_natCast decide_true decide_false beq_t beq_f List.length_map List.getElem?_map I S B opsC toksC OpT.v OpT.cs OpT.zero Tok.v Tok.cs Pre.v Pre.cs_eq k_mk name_mk n_mk l_mk pos_mk Pre.app applyL natCast0 natCast1 natCast2 AOp.o AOp.m AOp.f AOp.l AOp.d AOp.n AOp.x AOp.s AOp.k AOp.y AOp.z EOp.q low_c low_void low_any low_csl low_nilf low_ptr low_osl low_agg low_tup low_fn resEval advPO_nil advPO_loud advPO_quiet pL_yes pL_no pLS_some pLS_none pQ_yes pQ_no pQS_some pQS_loud eq_self Nat.sub_zero
section

theorem DC.of_byte {w0 : World} {f : FuncId} {c : UInt8} {b : Bool} {σ : H} (hen : Enters Tryz.prog f) (h : ∀ w, Calls Tryz.prog f #[.int .u8 c.toNat] w (Ret (.bool b) w)) : DC Tryz.prog w0 f [.c (.int .u8 c.toNat)] σ (Same (B b) σ) := by
  refine DC.of_calls hen fun κ w vs hrep hfit => ?_
  obtain ⟨v, ys, rfl, hv, hfit⟩ := hfit.cons_inv
  have := hfit.nil_inv
  subst this
  cases hv with
  | c hv =>
    cases hv with
    | int _ =>
      refine ⟨.bool b, .c (.bool b), (h w).mono ?_⟩
      rintro e w' ⟨rfl, rfl⟩
      exact ⟨rfl, Below.refl _ _⟩
theorem ref01_signD (w0 : World) (c : UInt8) (σ : H) : DC Tryz.prog w0 183 [.c (.int .u8 c.toNat)] σ (Same (B (signB c)) σ) :=
  DC.of_byte (enters_fn Tryz.func183 (by kernel_rfl) rfl) fun w => ref_sign c w
theorem fits_no {s : List UInt8} (h : 32 < s.length) : fitsB s = false := by simp [fitsB]; omega
theorem ref01_IsNameD (w0 : World) (s : List UInt8) (σ : H) : DC Tryz.prog w0 126 [S s] σ (Same (B (isNameB s)) σ) := by
  by_cases hs : s.length ≤ 1000000
  · exact DC.of_text (enters_fn Tryz.func126 (by kernel_rfl) rfl) fun w _ => ref_IsName s w (by omega)
  · refine k126.go rfl (fun hok hsz => ?_)
    have h1 : ¬ ((s.length : Int) < 1) := by omega
    have h2 : ((s.length : Int) > 32) := by omega
    ((try refine W.a ?_); simp only [go_sem, seval, reduceCtorEq, c126, h1, h2])
    refine W.yes rfl ?_
    ((try refine W.a ?_); simp only [go_sem, seval, reduceCtorEq])
    (refine W.fs (hok) (by simp only [r126, go_sem, seval, reduceCtorEq]; rfl) ?_; simp only [resV]; try exact V.wk.rfl _)
    rw [isNameB, fits_no (by omega)]; exact .rfl _
theorem ref01_IsSymD (w0 : World) (s : List UInt8) (σ : H) : DC Tryz.prog w0 127 [S s] σ (Same (B (isSymB s)) σ) := by
  by_cases hs : s.length ≤ 1000000
  · exact DC.of_text (enters_fn Tryz.func127 (by kernel_rfl) rfl) fun w _ => ref_IsSym s w (by omega)
  · refine k127.go rfl (fun hok hsz => ?_)
    have hlen : s.length ≤ 9223372036854775807 := by have := sz_text hsz (List.mem_cons_self ..); unfold maxLen at this; exact this
    have hne : ∀ c : UInt8, (s == [c]) = false := fun c => by
      rw [beq_eq_false_iff_ne]; intro e; rw [e] at hs; simp at hs
    have hF : isSymB s = false := by rw [isSymB, fits_no (by omega)]; rfl
    ((try refine W.a ?_); simp only [go_sem, seval, reduceCtorEq, c127, hne])
    refine W.no rfl ?_
    ((try refine W.a ?_); simp only [go_sem, seval, reduceCtorEq])
    refine W.loopP (fun i => i ≤ s.length) (fun i => ⟨((base.put (some 0) (S s)).put (some 3) (I (i : Nat))), σ⟩) (fun i => s.length - i) 0 (Nat.zero_le _) ?_ (fun i hi => ?_)
    · (refine Lew.env ?_; exact lee_here)
    · by_cases hlt : i < s.length
      · have h1 : ((i : Int) < (s.length : Int)) := by omega
        have hx : s[i]? = some s[i] := List.getElem?_eq_getElem hlt
        have hw := wrap_next hlt hlen
        ((try refine W.a ?_); simp only [go_sem, seval, reduceCtorEq, h1])
        refine W.yes rfl ?_
        ((try refine W.a ?_); simp only [go_sem, seval, reduceCtorEq, h1, nat0, hx])
        (refine W.c1 (ref01_signD w0 s[i] _) ?_; simp only [go_sem, seval, reduceCtorEq])
        refine W.testn rfl (fun h => ?_) (fun h => ?_)
        · ((try refine W.a ?_); simp only [go_sem, seval, reduceCtorEq, hw])
          refine .inv ⟨i + 1, hlt, by omega, ?_⟩
          (refine Lew.env ?_; exact lee_here)
        · ((try refine W.a ?_); simp only [go_sem, seval, reduceCtorEq])
          (refine W.fs (hok) (by simp only [r127, go_sem, seval, reduceCtorEq]; rfl) ?_; simp only [resV]; try exact V.wk.rfl _)
          rw [hF]; exact .rfl _
      · have h1 : ¬ ((i : Int) < (s.length : Int)) := by omega
        have h2 : ((s.length : Int) ≥ 1) := by omega
        have h3 : ¬ ((s.length : Int) ≤ 32) := by omega
        ((try refine W.a ?_); simp only [go_sem, seval, reduceCtorEq, h1])
        refine W.no rfl ?_
        ((try refine W.a ?_); simp only [go_sem, seval, reduceCtorEq, h2, h3])
        (refine W.fs (hok) (by simp only [r127, go_sem, seval, reduceCtorEq]; rfl) ?_; simp only [resV]; try exact V.wk.rfl _)
        rw [hF]; exact .rfl _

theorem ref02_one (w0 : World) (name : Str) (prec fix : Int) (σ : H) : DC Tryz.prog w0 168 [S name, I prec, I fix] σ (Same (OpT.v ⟨name, prec, fix⟩) σ) := by
  refine k168.go rfl (fun hok hsz => ?_)
  ((try refine W.a ?_); simp only [go_sem, seval, reduceCtorEq, c168])
  (refine W.fs (hok) (by simp only [r168, go_sem, seval, reduceCtorEq]; rfl) ?_; simp only [resV]; try exact V.wk.rfl _)
theorem ref02_Default (w0 : World) (σ : H) : DC Tryz.prog w0 101 [] σ (Same (.osl σ.length (ops0.map OpT.cs)) (σ ++ [.spare 35 3 ops0.length])) := by
  refine k101.goN rfl (fun hok hsz => ?_)
  ((try refine W.a ?_); simp only [go_sem, seval, reduceCtorEq, c101])
  refine W.own 2 35 3 rfl ?_
  (refine W.c1 (ref02_one w0 _ _ _ _) ?_; simp only [go_sem, seval, reduceCtorEq])
  (refine W.c1 (ref02_one w0 _ _ _ _) ?_; simp only [go_sem, seval, reduceCtorEq])
  (refine W.c1 (ref02_one w0 _ _ _ _) ?_; simp only [go_sem, seval, reduceCtorEq])
  (refine W.c1 (ref02_one w0 _ _ _ _) ?_; simp only [go_sem, seval, reduceCtorEq])
  (refine W.c1 (ref02_one w0 _ _ _ _) ?_; simp only [go_sem, seval, reduceCtorEq])
  (refine W.c1 (ref02_one w0 _ _ _ _) ?_; simp only [go_sem, seval, reduceCtorEq])
  (refine W.c1 (ref02_one w0 _ _ _ _) ?_; simp only [go_sem, seval, reduceCtorEq])
  (refine W.c1 (ref02_one w0 _ _ _ _) ?_; simp only [go_sem, seval, reduceCtorEq])
  (refine W.c1 (ref02_one w0 _ _ _ _) ?_; simp only [go_sem, seval, reduceCtorEq])
  (refine W.c1 (ref02_one w0 _ _ _ _) ?_; simp only [go_sem, seval, reduceCtorEq])
  (refine W.c1 (ref02_one w0 _ _ _ _) ?_; simp only [go_sem, seval, reduceCtorEq])
  (refine W.c1 (ref02_one w0 _ _ _ _) ?_; simp only [go_sem, seval, reduceCtorEq])
  (refine W.c1 (ref02_one w0 _ _ _ _) ?_; simp only [go_sem, seval, reduceCtorEq])
  (refine W.c1 (ref02_one w0 _ _ _ _) ?_; simp only [go_sem, seval, reduceCtorEq])
  (refine W.c1 (ref02_one w0 _ _ _ _) ?_; simp only [go_sem, seval, reduceCtorEq])
  refine W.ret ⟨_, _, rfl, .rfl _, ?_⟩
  exact ⟨rfl, rfl⟩
theorem reserved_first {s : Str} (h : reservedL s = true) : ((s == [33]) = true) ∨ ((s == [33]) = false ∧ (s == [45, 62]) = true) ∨ ((s == [33]) = false ∧ (s == [45, 62]) = false ∧ (s == [107, 105, 110, 100]) = true) ∨ ((s == [33]) = false ∧ (s == [45, 62]) = false ∧ (s == [107, 105, 110, 100]) = false ∧ (s == [116, 121, 112, 101]) = true) ∨ ((s == [33]) = false ∧ (s == [45, 62]) = false ∧ (s == [107, 105, 110, 100]) = false ∧ (s == [116, 121, 112, 101]) = false ∧ (s == [105, 110, 102, 105, 120]) = true) ∨ ((s == [33]) = false ∧ (s == [45, 62]) = false ∧ (s == [107, 105, 110, 100]) = false ∧ (s == [116, 121, 112, 101]) = false ∧ (s == [105, 110, 102, 105, 120]) = false ∧ (s == [105, 110, 102, 105, 120, 108]) = true) ∨ ((s == [33]) = false ∧ (s == [45, 62]) = false ∧ (s == [107, 105, 110, 100]) = false ∧ (s == [116, 121, 112, 101]) = false ∧ (s == [105, 110, 102, 105, 120]) = false ∧ (s == [105, 110, 102, 105, 120, 108]) = false ∧ (s == [105, 110, 102, 105, 120, 114]) = true) := by
  unfold reservedL at h
  simp only [Bool.or_eq_true] at h
  cases e1 : (s == [33])
  case true => simp
  cases e2 : (s == [45, 62])
  case true => simp
  cases e3 : (s == [107, 105, 110, 100])
  case true => simp
  cases e4 : (s == [116, 121, 112, 101])
  case true => simp
  cases e5 : (s == [105, 110, 102, 105, 120])
  case true => simp
  cases e6 : (s == [105, 110, 102, 105, 120, 108])
  case true => simp
  cases e7 : (s == [105, 110, 102, 105, 120, 114])
  case true => simp
  simp [e1, e2, e3, e4, e5, e6, e7] at h
theorem reserved_not {s : Str} (h : reservedL s = false) : (s == [33]) = false ∧ (s == [45, 62]) = false ∧ (s == [107, 105, 110, 100]) = false ∧ (s == [116, 121, 112, 101]) = false ∧ (s == [105, 110, 102, 105, 120]) = false ∧ (s == [105, 110, 102, 105, 120, 108]) = false ∧ (s == [105, 110, 102, 105, 120, 114]) = false := by
  simpa [reservedL, and_assoc] using h
theorem ref02_Declare (w0 : World) (l : List OpT) (name : Str) (prec fix : Int) (hf : fix = 0 ∨ fix = 1 ∨ fix = 2) (σ : H) : DC Tryz.prog w0 128 [.c (opsC l), OpT.v ⟨name, prec, fix⟩] σ (Same (I (wrongL l ⟨name, prec, fix⟩)) σ) := by
  refine k128.go rfl (fun hok hsz => ?_)
  have hw : wrongL l ⟨name, prec, fix⟩ = if (isNameB name = false ∧ isSymB name = false) ∨ reservedL name = true then 20 else if prec < 1 ∨ 200 < prec then 21 else if (findL l name).isSome = true then 22 else if 64 ≤ l.length then 23 else 0 := by
    unfold wrongL
    rw [if_neg (by simp only; omega)]
  rw [hw]
  rcases hf with rfl | rfl | rfl
  all_goals
    ((try refine W.a ?_); simp only [go_sem, seval, reduceCtorEq, c128])
    refine W.no rfl ?_
    ((try refine W.a ?_); simp only [go_sem, seval, reduceCtorEq])
    cases hR : reservedL name
    · obtain ⟨e1, e2, e3, e4, e5, e6, e7⟩ := reserved_not hR
      cases hN : isNameB name <;> cases hS : isSymB name
      all_goals
        (refine W.c1 (ref01_IsNameD w0 name _) ?_; simp only [go_sem, seval, reduceCtorEq])
        (refine W.c1 (ref01_IsSymD w0 name _) ?_; simp only [go_sem, seval, reduceCtorEq, hN, hS, e1, e2, e3, e4, e5, e6, e7])
        first
          | (refine W.yes rfl ?_
             ((try refine W.a ?_); simp only [go_sem, seval, reduceCtorEq])
             (refine W.fs (hok) (by simp only [r128, go_sem, seval, reduceCtorEq]; rfl) ?_; simp only [resV]; try exact V.wk.rfl _))
          | (refine W.no rfl ?_
             simp only [and_false, false_and, or_false, Bool.true_eq_false, Bool.false_eq_true, if_false, reduceCtorEq]
             by_cases p1 : prec < 1
             · rw [if_pos (.inl p1)]
               ((try refine W.a ?_); simp only [go_sem, seval, reduceCtorEq, p1])
               refine W.yes rfl ?_
               ((try refine W.a ?_); simp only [go_sem, seval, reduceCtorEq])
               (refine W.fs (hok) (by simp only [r128, go_sem, seval, reduceCtorEq]; rfl) ?_; simp only [resV]; try exact V.wk.rfl _)
             · by_cases p2 : 200 < prec
               · rw [if_pos (.inr p2)]
                 have p2' : prec > 200 := p2
                 ((try refine W.a ?_); simp only [go_sem, seval, reduceCtorEq, p1, p2'])
                 refine W.yes rfl ?_
                 ((try refine W.a ?_); simp only [go_sem, seval, reduceCtorEq])
                 (refine W.fs (hok) (by simp only [r128, go_sem, seval, reduceCtorEq]; rfl) ?_; simp only [resV]; try exact V.wk.rfl _)
               · rw [if_neg (by omega)]
                 have p2' : ¬ prec > 200 := p2
                 ((try refine W.a ?_); simp only [go_sem, seval, reduceCtorEq, p1, p2'])
                 refine W.no rfl ?_
                 ((try refine W.a ?_); simp only [go_sem, seval, reduceCtorEq])
                 cases hF : (findL l name).isSome
                 · by_cases hL : 64 ≤ l.length
                   · have hL' : (l.length : Int) ≥ 64 := by omega
                     (refine W.c1 (ref02_Find w0 l name _) ?_; simp only [go_sem, seval, reduceCtorEq, foundV, hF])
                     refine W.no rfl ?_
                     ((try refine W.a ?_); simp only [go_sem, seval, reduceCtorEq, hL'])
                     refine W.yes rfl ?_
                     ((try refine W.a ?_); simp only [go_sem, seval, reduceCtorEq])
                     rw [if_pos hL]
                     (refine W.fs (hok) (by simp only [r128, go_sem, seval, reduceCtorEq, hF]; rfl) ?_ (hl := by (first | exact .c _ | (simp only [go_sem, seval, reduceCtorEq, hF]; done))); simp only [resV, hF]; try exact V.wk.rfl _)
                   · have hL' : ¬ (l.length : Int) ≥ 64 := by omega
                     (refine W.c1 (ref02_Find w0 l name _) ?_; simp only [go_sem, seval, reduceCtorEq, foundV, hF])
                     refine W.no rfl ?_
                     ((try refine W.a ?_); simp only [go_sem, seval, reduceCtorEq, hL'])
                     refine W.no rfl ?_
                     ((try refine W.a ?_); simp only [go_sem, seval, reduceCtorEq])
                     rw [if_neg hL]
                     (refine W.fs (hok) (by simp only [r128, go_sem, seval, reduceCtorEq, hF]; rfl) ?_ (hl := by (first | exact .c _ | (simp only [go_sem, seval, reduceCtorEq, hF]; done))); simp only [resV, hF]; try exact V.wk.rfl _)
                 · (refine W.c1 (ref02_Find w0 l name _) ?_; simp only [go_sem, seval, reduceCtorEq, foundV, hF])
                   refine W.yes rfl ?_
                   ((try refine W.a ?_); simp only [go_sem, seval, reduceCtorEq])
                   (refine W.fs (hok) (by simp only [r128, go_sem, seval, reduceCtorEq, hF]; rfl) ?_ (hl := by (first | exact .c _ | (simp only [go_sem, seval, reduceCtorEq, hF]; done))); simp only [resV, hF]; try exact V.wk.rfl _))
    · cases hN : isNameB name <;> cases hS : isSymB name
      all_goals
        rcases reserved_first hR with e1 | ⟨e1, e2⟩ | ⟨e1, e2, e3⟩ | ⟨e1, e2, e3, e4⟩ | ⟨e1, e2, e3, e4, e5⟩ | ⟨e1, e2, e3, e4, e5, e6⟩ | ⟨e1, e2, e3, e4, e5, e6, e7⟩
        · (refine W.c1 (ref01_IsNameD w0 _ _) ?_; simp only [go_sem, seval, reduceCtorEq])
          (refine W.c1 (ref01_IsSymD w0 _ _) ?_; simp only [go_sem, seval, reduceCtorEq, hN, hS, e1])
          refine W.yes rfl ?_
          ((try refine W.a ?_); simp only [go_sem, seval, reduceCtorEq])
          (refine W.fs (hok) (by simp only [r128, go_sem, seval, reduceCtorEq, or_true]; rfl) ?_ (hl := by (first | exact .c _ | (simp only [go_sem, seval, reduceCtorEq, or_true]; done))); simp only [resV, or_true]; try exact V.wk.rfl _)
        · (refine W.c1 (ref01_IsNameD w0 _ _) ?_; simp only [go_sem, seval, reduceCtorEq])
          (refine W.c1 (ref01_IsSymD w0 _ _) ?_; simp only [go_sem, seval, reduceCtorEq, hN, hS, e1, e2])
          refine W.yes rfl ?_
          ((try refine W.a ?_); simp only [go_sem, seval, reduceCtorEq])
          (refine W.fs (hok) (by simp only [r128, go_sem, seval, reduceCtorEq, or_true]; rfl) ?_ (hl := by (first | exact .c _ | (simp only [go_sem, seval, reduceCtorEq, or_true]; done))); simp only [resV, or_true]; try exact V.wk.rfl _)
        · (refine W.c1 (ref01_IsNameD w0 _ _) ?_; simp only [go_sem, seval, reduceCtorEq])
          (refine W.c1 (ref01_IsSymD w0 _ _) ?_; simp only [go_sem, seval, reduceCtorEq, hN, hS, e1, e2, e3])
          refine W.yes rfl ?_
          ((try refine W.a ?_); simp only [go_sem, seval, reduceCtorEq])
          (refine W.fs (hok) (by simp only [r128, go_sem, seval, reduceCtorEq, or_true]; rfl) ?_ (hl := by (first | exact .c _ | (simp only [go_sem, seval, reduceCtorEq, or_true]; done))); simp only [resV, or_true]; try exact V.wk.rfl _)
        · (refine W.c1 (ref01_IsNameD w0 _ _) ?_; simp only [go_sem, seval, reduceCtorEq])
          (refine W.c1 (ref01_IsSymD w0 _ _) ?_; simp only [go_sem, seval, reduceCtorEq, hN, hS, e1, e2, e3, e4])
          refine W.yes rfl ?_
          ((try refine W.a ?_); simp only [go_sem, seval, reduceCtorEq])
          (refine W.fs (hok) (by simp only [r128, go_sem, seval, reduceCtorEq, or_true]; rfl) ?_ (hl := by (first | exact .c _ | (simp only [go_sem, seval, reduceCtorEq, or_true]; done))); simp only [resV, or_true]; try exact V.wk.rfl _)
        · (refine W.c1 (ref01_IsNameD w0 _ _) ?_; simp only [go_sem, seval, reduceCtorEq])
          (refine W.c1 (ref01_IsSymD w0 _ _) ?_; simp only [go_sem, seval, reduceCtorEq, hN, hS, e1, e2, e3, e4, e5])
          refine W.yes rfl ?_
          ((try refine W.a ?_); simp only [go_sem, seval, reduceCtorEq])
          (refine W.fs (hok) (by simp only [r128, go_sem, seval, reduceCtorEq, or_true]; rfl) ?_ (hl := by (first | exact .c _ | (simp only [go_sem, seval, reduceCtorEq, or_true]; done))); simp only [resV, or_true]; try exact V.wk.rfl _)
        · (refine W.c1 (ref01_IsNameD w0 _ _) ?_; simp only [go_sem, seval, reduceCtorEq])
          (refine W.c1 (ref01_IsSymD w0 _ _) ?_; simp only [go_sem, seval, reduceCtorEq, hN, hS, e1, e2, e3, e4, e5, e6])
          refine W.yes rfl ?_
          ((try refine W.a ?_); simp only [go_sem, seval, reduceCtorEq])
          (refine W.fs (hok) (by simp only [r128, go_sem, seval, reduceCtorEq, or_true]; rfl) ?_ (hl := by (first | exact .c _ | (simp only [go_sem, seval, reduceCtorEq, or_true]; done))); simp only [resV, or_true]; try exact V.wk.rfl _)
        · (refine W.c1 (ref01_IsNameD w0 _ _) ?_; simp only [go_sem, seval, reduceCtorEq])
          (refine W.c1 (ref01_IsSymD w0 _ _) ?_; simp only [go_sem, seval, reduceCtorEq, hN, hS, e1, e2, e3, e4, e5, e6, e7])
          refine W.yes rfl ?_
          ((try refine W.a ?_); simp only [go_sem, seval, reduceCtorEq])
          (refine W.fs (hok) (by simp only [r128, go_sem, seval, reduceCtorEq, or_true]; rfl) ?_ (hl := by (first | exact .c _ | (simp only [go_sem, seval, reduceCtorEq, or_true]; done))); simp only [resV, or_true]; try exact V.wk.rfl _)
end
section

/-- The document's reader's blocks. -/
def qdX (t : List Tok) (i : Int) (v : Nat) (l : List OpT) (e p : Int) : Blk := .cells [.c (toksC t), I i, I e, I p, .osl v (l.map OpT.cs)]
def qdY (l : List OpT) : Blk := .spare 35 3 l.length
abbrev qd (σ : H) (b v : Nat) (t : List Tok) (i : Int) (l : List OpT) (e p : Int) : H := rs σ b v (qdX t i v l e p) (qdY l)
theorem qd_ok {σ : H} {b v : Nat} (D : Two σ b v) {X Y : Blk} (h : H.ok (rs σ b v X Y)) (t : List Tok) (i : Int) (l : List OpT) (e p : Int) : H.ok (qd σ b v t i l e p) :=
  rs_ok D h (fun cs tg hc x hx => by
    unfold qdX at hc
    injection hc with hc _
    subst hc
    simp only [List.mem_cons, List.not_mem_nil, or_false] at hx
    rcases hx with rfl | rfl | rfl | rfl | rfl
    · exact .c _
    · exact .c _
    · exact .c _
    · exact .c _
    · exact .osl D.lv) (fun cs tg hc => by unfold qdY at hc; cases hc)
attribute [local go_sem] qdX qdY rs_len rs_g0 rs_g rs_s0 rs_s rs_sv
theorem qr_tok (w0 : World) (t : List Tok) (i : Nat) (l : List OpT) (e p : Int) (σ : H) (b v : Nat) (D : Two σ b v) :
    DC Tryz.prog w0 102 [.ptr b 0] (qd σ b v t i l e p) (Same (tokL t i).v (qd σ b v t i l e p)) := by
  refine k102.go rfl (fun hok hsz => ?_)
  ((try refine W.a ?_); simp only [go_sem, seval, reduceCtorEq, c102, rsA D])
  apply W.dregE (List.cons_ne_nil _ _)
  case hc =>
    (apply CanonE.advPO; simp only [go_sem, seval, reduceCtorEq, rsA D])
    (apply CanonE.call (ref03_TokI w0 t (i : Int) _); (case hg => rfl); (case hf => rfl); (case ha => first | rfl | simp))
    (apply CanonE.advPO; simp only [go_sem, seval, reduceCtorEq, rsA D, tokI_nat])
    exact CanonE.nil
  ((try refine W.a ?_); simp only [go_sem, seval, reduceCtorEq, rsA D])
  (refine W.fs (hok) (by simp only [r102, go_sem, seval, reduceCtorEq, rsA D]; rfl) ?_ (hl := by (first | exact .c _ | (simp only [go_sem, seval, reduceCtorEq, rsA D]; done))); simp only [resV, rsA D]; try exact V.wk.rfl _)
  (all_goals exact wk_here)
theorem qr_fail (w0 : World) (t : List Tok) (i : Int) (l : List OpT) (e p e' p' : Int) (σ : H) (b v : Nat) (D : Two σ b v) :
    DC Tryz.prog w0 211 [.ptr b 0, I e', I p'] (qd σ b v t i l e p) (Same (.tup []) (qd σ b v t i l (if e = 0 then e' else e) (if e = 0 then p' else p))) := by
  refine k211.go rfl (fun hok hsz => ?_)
  by_cases he : e = 0
  · subst he
    ((try refine W.a ?_); simp only [go_sem, seval, reduceCtorEq, c211, rsA D])
    refine W.yes rfl ?_
    ((try refine W.a ?_); simp only [go_sem, seval, reduceCtorEq, rsA D])
    (refine W.done (Fin.sameW (qd_ok D hok t i l e' p') (by (first | rfl | exact List.length_set .. | simp)) (by simp only [r211, go_sem, seval, reduceCtorEq]; rfl) ?_ (by (first | exact .c _ | (simp only [go_sem, seval, reduceCtorEq]; done))) (by (first | rfl | exact (List.append_nil _).symm))); simp only [resV]; try exact V.wk.rfl _)
  · have he' : (e == 0) = false := by simpa using he
    ((try refine W.a ?_); simp only [go_sem, seval, reduceCtorEq, c211, rsA D, he'])
    refine W.no rfl ?_
    ((try refine W.a ?_); simp only [go_sem, seval, reduceCtorEq])
    rw [if_neg he, if_neg he]
    (refine W.done (Fin.sameW (hok) (by (first | rfl | exact List.length_set .. | simp)) (by simp only [r211, go_sem, seval, reduceCtorEq]; rfl) ?_ (by (first | exact .c _ | (simp only [go_sem, seval, reduceCtorEq]; done))) (by (first | rfl | exact (List.append_nil _).symm))); simp only [resV]; try exact V.wk.rfl _)
theorem qr_word (w0 : World) (t : List Tok) (i : Nat) (hi : i ≤ 1000000) (l : List OpT) (e p : Int) (k : Int) (s : Str) (σ : H) (b v : Nat) (D : Two σ b v) :
    DC Tryz.prog w0 210 [.ptr b 0, I k, S s] (qd σ b v t i l e p) (Same (B (isHere k s (tokL t i))) (qd σ b v t ((if isHere k s (tokL t i) = true then i + 1 else i : Nat) : Int) l e p)) := by
  refine k210.go rfl (fun hok hsz => ?_)
  have hw : IntKind.i64.wrap ((i : Int) + 1) = ((i + 1 : Nat) : Int) := by rw [wrap_in] <;> omega
  unfold isHere
  ((try refine W.a ?_); simp only [go_sem, seval, reduceCtorEq, c210, rsA D])
  cases h1 : ((tokL t i).kind == k) <;> cases h2 : ((tokL t i).text == s)
  all_goals
    (refine W.c1 (qr_tok w0 t i l e p _ b v D) ?_; simp only [go_sem, seval, reduceCtorEq, rsA D, bne, h1, h2])
    first
      | (refine W.yes rfl ?_
         ((try refine W.a ?_); simp only [go_sem, seval, reduceCtorEq, rsA D])
         (refine W.fs (qd_ok D hok t (i : Int) l e p) (by simp only [r210, go_sem, seval, reduceCtorEq, rsA D]; rfl) ?_ (hl := by (first | exact .c _ | (simp only [go_sem, seval, reduceCtorEq, rsA D]; done))); simp only [resV, rsA D]; try exact V.wk.rfl _))
      | (refine W.no rfl ?_
         ((try refine W.a ?_); simp only [go_sem, seval, reduceCtorEq, rsA D, hw])
         (refine W.fs (qd_ok D hok t ((i + 1 : Nat) : Int) l e p) (by simp only [r210, go_sem, seval, reduceCtorEq, rsA D]; rfl) ?_ (hl := by (first | exact .c _ | (simp only [go_sem, seval, reduceCtorEq, rsA D]; done))); simp only [resV, rsA D]; try exact V.wk.rfl _))
theorem qr_end (w0 : World) (t : List Tok) (i : Nat) (hi : i ≤ 1000000) (l : List OpT) (σ : H) (b v : Nat) (D : Two σ b v) :
    DC Tryz.prog w0 212 [.ptr b 0] (qd σ b v t i l 0 0) (Same (.tup []) (qd σ b v t ((if (tokL t i).kind = 7 then i + 1 else i : Nat) : Int) l (if (tokL t i).kind = 7 then 0 else 101) (if (tokL t i).kind = 7 then 0 else (tokL t i).pos))) := by
  refine k212.go rfl (fun hok hsz => ?_)
  have hw : IntKind.i64.wrap ((i : Int) + 1) = ((i + 1 : Nat) : Int) := by rw [wrap_in] <;> omega
  ((try refine W.a ?_); simp only [go_sem, seval, reduceCtorEq, c212, rsA D])
  by_cases h7 : (tokL t i).kind = 7
  · have n7 : ((tokL t i).kind != 7) = false := by simpa using h7
    simp only [if_pos h7]
    (refine W.c1 (qr_tok w0 t i l 0 0 _ b v D) ?_; simp only [go_sem, seval, reduceCtorEq, rsA D, n7])
    refine W.no rfl ?_
    ((try refine W.a ?_); simp only [go_sem, seval, reduceCtorEq, rsA D, hw])
    (refine W.done (Fin.sameW (qd_ok D hok t ((i + 1 : Nat) : Int) l 0 0) (by (first | rfl | exact List.length_set .. | simp)) (by simp only [r212, go_sem, seval, reduceCtorEq]; rfl) ?_ (by (first | exact .c _ | (simp only [go_sem, seval, reduceCtorEq]; done))) (by (first | rfl | exact (List.append_nil _).symm))); simp only [resV]; try exact V.wk.rfl _)
  · have n7 : ((tokL t i).kind != 7) = true := by simpa using h7
    simp only [if_neg h7]
    (refine W.c1 (qr_tok w0 t i l 0 0 _ b v D) ?_; simp only [go_sem, seval, reduceCtorEq, rsA D, n7])
    refine W.yes rfl ?_
    ((try refine W.a ?_); simp only [go_sem, seval, reduceCtorEq, rsA D])
    (refine W.c1 (DC.lift D (fun D' => qr_fail w0 t i l 0 0 101 (tokL t i).pos _ b v D')) ?_; simp only [go_sem, seval, reduceCtorEq, rsA D, if_true])
    (refine W.fs (qd_ok D hok t (i : Int) l 101 (tokL t i).pos) (by simp only [r212, go_sem, seval, reduceCtorEq]; rfl) ?_; simp only [resV]; try exact V.wk.rfl _)
def posC (ns : List Tok) : C := .sl (ns.map fun x => [C.int .i64 x.pos])
def RNm (t : List Tok) (l : List OpT) (σ : H) (b v : Nat) (r : Except Bad (List Tok × Nat)) : V → H → Prop := fun d σ' => match r with
  | .ok (ns, j) => d = .tup [.c (strsC (ns.map (·.text))), .c (posC ns)] ∧ σ' = qd σ b v t (j : Nat) l 0 0
  | .error x => (x.e == 0) = false ∧ ∃ j : Nat, d = .tup [.c (.sl []), .c (.sl [])] ∧ σ' = qd σ b v t (j : Nat) l x.e x.pos
theorem qr_Names (w0 : World) (t : List Tok) (ht : t.length ≤ 100000) (s : Bool) (i : Nat) (hi : i ≤ t.length) (l : List OpT) (σ : H) (b v : Nat) (D : Two σ b v) :
    DC Tryz.prog w0 209 [.ptr b 0, B s] (qd σ b v t i l 0 0) (RNm t l σ b v (namesS t s i [])) := by
  refine k209.go rfl (fun hok hsz => ?_)
  generalize hr : namesS t s i [] = r
  have hlb := D.lb
  have hlv := D.lv
  ((try refine W.a ?_); simp only [go_sem, seval, reduceCtorEq, c209, rsA D])
  refine W.own 6 9 1 rfl ?_
  refine W.own 7 3 1 rfl ?_
  ((try refine W.a ?_); simp only [go_sem, seval, reduceCtorEq, rsA D])
  refine W.loopP (α := List Tok × Nat) (fun x => x.1.length ≤ x.2 ∧ x.2 ≤ t.length ∧ r = namesS t s x.2 x.1) (fun x => ⟨((((((base.put (some 0) (.ptr b 0)).put (some 1) (B s)).put (some 4) (.csl [])).put (some 5) (.csl [])).put (some 6) (.osl σ.length ((x.1.map (·.text)).map fun s => [C.str s]))).put (some 7) (.osl (σ.length + 1) (x.1.map fun y => [C.int .i64 y.pos]))), qd σ b v t (x.2 : Nat) l 0 0 ++ [.spare 9 1 x.1.length, .spare 3 1 x.1.length]⟩) (fun x => t.length + 1 - x.2) ([], i) ⟨Nat.zero_le _, hi, hr.symm⟩ ?_ (fun x hx => ?_)
  · (refine Lew.env ?_; exact lee_here)
  · obtain ⟨acc, j⟩ := x
    obtain ⟨hal, hj, hr'⟩ := hx
    simp only at hal hj hr'
    rw [namesS_eq] at hr'
    have hb1 : (acc.length + 1) * 16 ≤ 140737488355328 := by omega
    have hb2 : acc.length + 1 ≤ 140737488355328 := by omega
    have hb4 : (acc.length + 1) * 8 ≤ 140737488355328 := by omega
    have hcn : isHere 4 [44] (tokL t (j + 1)) = commaHere (tokL t (j + 1)) := rfl
    have hw : IntKind.i64.wrap ((j : Int) + 1) = ((j + 1 : Nat) : Int) := by rw [wrap_in] <;> omega
    ((try refine W.a ?_); simp only [go_sem, seval, reduceCtorEq, rsA D])
    refine W.yes rfl ?_
    ((try refine W.a ?_); simp only [go_sem, seval, reduceCtorEq, rsA D])
    cases hn : nameHere s (tokL t j)
    · rw [hn, if_neg (by decide)] at hr'
      subst hr'
      have hk : ((tokL t j).kind == 1) = false ∧ (s = true → ((tokL t j).kind == 4) = false) := by
        unfold nameHere at hn
        rw [Bool.or_eq_false_iff] at hn
        refine ⟨hn.1, fun e => ?_⟩
        subst e
        simpa using hn.2
      obtain ⟨hk1, hk4⟩ := hk
      cases s
      · (refine W.c1 (DC.lift D (fun D' => qr_tok w0 t j l 0 0 _ b v D')) ?_; simp only [go_sem, seval, reduceCtorEq, rsA D, bne, hk1])
        refine W.yes rfl ?_
        ((try refine W.a ?_); simp only [go_sem, seval, reduceCtorEq, rsA D])
        (refine W.c1 (DC.lift D (fun D' => qr_fail w0 t j l 0 0 100 (tokL t j).pos _ b v D')) ?_; simp only [go_sem, seval, reduceCtorEq, rsA D, if_true])
        (refine W.fg (qd_ok D hok t (j : Nat) l 100 (tokL t j).pos) (d := .tup [.c (.sl []), .c (.sl [])]) (by simp only [r209, go_sem, seval, reduceCtorEq]; rfl) (by simp only [resV, go_sem, seval, reduceCtorEq]; exact wk_here) ?_)
        exact ⟨rfl, j, rfl, rfl⟩
      · have hk4' := hk4 rfl
        (refine W.c1 (DC.lift D (fun D' => qr_tok w0 t j l 0 0 _ b v D')) ?_; simp only [go_sem, seval, reduceCtorEq, rsA D, bne, hk1, hk4'])
        refine W.yes rfl ?_
        ((try refine W.a ?_); simp only [go_sem, seval, reduceCtorEq, rsA D])
        (refine W.c1 (DC.lift D (fun D' => qr_fail w0 t j l 0 0 100 (tokL t j).pos _ b v D')) ?_; simp only [go_sem, seval, reduceCtorEq, rsA D, if_true])
        (refine W.fg (qd_ok D hok t (j : Nat) l 100 (tokL t j).pos) (d := .tup [.c (.sl []), .c (.sl [])]) (by simp only [r209, go_sem, seval, reduceCtorEq]; rfl) (by simp only [resV, go_sem, seval, reduceCtorEq]; exact wk_here) ?_)
        exact ⟨rfl, j, rfl, rfl⟩
    · rw [hn, if_pos rfl] at hr'
      have hjt : j < t.length := tokL_lt fun e => by rw [nameHere, e] at hn; simp at hn
      have hk : ((tokL t j).kind == 1) = true ∨ (((tokL t j).kind == 1) = false ∧ s = true ∧ ((tokL t j).kind == 4) = true) := by
        unfold nameHere at hn
        cases h1 : ((tokL t j).kind == 1)
        · right
          rw [h1, Bool.false_or, Bool.and_eq_true] at hn
          exact ⟨rfl, hn.1, hn.2⟩
        · exact .inl rfl
      rcases hk with hk1 | ⟨hk1, rfl, hk4⟩
      all_goals
        first
          | ((refine W.c1 (DC.lift D (fun D' => qr_tok w0 t j l 0 0 _ b v D')) ?_; simp only [go_sem, seval, reduceCtorEq, rsA D, bne, hk1, hk4]))
          | ((refine W.c1 (DC.lift D (fun D' => qr_tok w0 t j l 0 0 _ b v D')) ?_; simp only [go_sem, seval, reduceCtorEq, rsA D, bne, hk1]))
        refine W.no rfl ?_
        cases hc : commaHere (tokL t (j + 1))
        · rw [hc, if_neg (by decide)] at hr'
          subst hr'
          ((try refine W.a ?_); simp only [go_sem, seval, reduceCtorEq, rsA D, hb1, hb2, hb4, hw])
          (refine W.c1 (DC.lift D (fun D' => qr_word w0 t (j + 1) (by omega) l 0 0 4 [44] _ b v D')) ?_; simp only [go_sem, seval, reduceCtorEq, rsA D, hcn, hc])
          refine W.yes rfl ?_
          ((try refine W.a ?_); simp only [go_sem, seval, reduceCtorEq, rsA D])
          (refine W.fg (qd_ok D hok t ((j + 1 : Nat) : Int) l 0 0) (d := .tup [.c (strsC ((acc ++ [tokL t j]).map (·.text))), .c (posC (acc ++ [tokL t j]))]) (by simp only [r209, go_sem, seval, reduceCtorEq, strsC, posC, List.map_append]; rfl) (by simp only [resV, go_sem, seval, reduceCtorEq, strsC, posC, List.map_append]; exact wk_here) ?_ (hl := by (first | exact .c _ | (simp only [go_sem, seval, reduceCtorEq, strsC, posC, List.map_append]; done))))
          exact ⟨rfl, rfl⟩
        · rw [hc, if_pos rfl] at hr'
          have hjt2 : j + 1 < t.length := tokL_lt fun e => by rw [commaHere, e] at hc; simp at hc
          ((try refine W.a ?_); simp only [go_sem, seval, reduceCtorEq, rsA D, hb1, hb2, hb4, hw])
          (refine W.c1 (DC.lift D (fun D' => qr_word w0 t (j + 1) (by omega) l 0 0 4 [44] _ b v D')) ?_; simp only [go_sem, seval, reduceCtorEq, rsA D, hcn, hc, if_true])
          refine W.no rfl ?_
          ((try refine W.a ?_); simp only [go_sem, seval, reduceCtorEq, rsA D])
          refine .inv ⟨(acc ++ [tokL t j], j + 2), ⟨by simp; omega, by show j + 2 ≤ t.length; omega, hr'⟩, by simp only; omega, ?_⟩
          simp only [go_sem, seval, reduceCtorEq, List.map_append, List.length_append]
          (refine Lew.cutL (qd_ok D hok t ((j + 2 : Nat) : Int) l 0 0) ?_ (by simp) (by simp) ?_ ?_ ?_; exact lee_here; ((try simp only [okB, wkB, go_sem, seval, reduceCtorEq, rs_len]) <;> omega); (simp only [List.length_cons, List.length_nil, Nat.reduceAdd, List.take_succ_cons, List.take_zero, wkB, and_true]; (repeat' (refine And.intro ?_ ?_)) <;> (first | exact Blk.wk.rfl _ | (refine Blk.wk_cells ?_ rfl; (exact wk_here)))); (repeat' (first | exact LowE.base _ | (refine LowE.put ?_ (by first | exact .c _ | ((try simp only [okB, wkB, go_sem, seval, reduceCtorEq, rs_len]) <;> omega))))))
end
section

def byO (m : Made) : OpT := match m.by_ with
  | none => OpT.zero
  | some (o, _) => o
def byP (m : Made) : Int := match m.by_ with
  | none => 0
  | some (_, p) => p
def rmadeV (m : Made) : V := .agg [I m.p.k, S m.p.name, I m.p.n, .c (.sl (m.p.l.map Pre.cs)), I m.p.pos, B m.by_.isSome, S (byO m).name, I (byO m).prec, I (byO m).fix, I (byP m)]
def QAtom (l : List OpT) (t : List Tok) (σ : H) (b : Nat) (lam : Bool) (r : Except Bad (Pre × Nat)) : V → H → Prop := fun d σ' => match r with
  | .ok (p, j) => d = .tup [p.v, B lam] ∧ σ' = σ.set b (rst l t j 0 0)
  | .error x => (x.e == 0) = false ∧ ∃ (q : Pre) (la : Bool) (j : Nat), d = .tup [q.v, B la] ∧ σ' = σ.set b (rst l t j x.e x.pos)
def QOper (l : List OpT) (t : List Tok) (σ : H) (b : Nat) (r : Except Bad (Pre × Nat)) : V → H → Prop := fun d σ' => match r with
  | .ok (p, j) => d = p.v ∧ σ' = σ.set b (rst l t j 0 0)
  | .error x => (x.e == 0) = false ∧ ∃ (q : Pre) (j : Nat), d = q.v ∧ σ' = σ.set b (rst l t j x.e x.pos)
def QExpr (l : List OpT) (t : List Tok) (σ : H) (b : Nat) (r : Except Bad (Made × Nat)) : V → H → Prop := fun d σ' => match r with
  | .ok (m, j) => d = rmadeV m ∧ σ' = σ.set b (rst l t j 0 0)
  | .error x => (x.e == 0) = false ∧ ∃ (m : Made) (j : Nat), d = rmadeV m ∧ σ' = σ.set b (rst l t j x.e x.pos)
def QExprOK (w0 : World) (f : Nat) : Prop := ∀ (l : List OpT) (t : List Tok) (least : Int) (depth i : Nat) (r : Except Bad (Made × Nat)) (σ : H) (b : Nat), exprF f l t least depth i = some r → σ[b]? = some (rst l t i 0 0) → i ≤ t.length → t.length ≤ 1000000 → depth ≤ 200 →
  DC Tryz.prog w0 250 [.ptr b 0, I least, I depth] σ (QExpr l t σ b r)
def QAtomOK (w0 : World) (f : Nat) : Prop := ∀ (l : List OpT) (t : List Tok) (depth i : Nat) (r : Except Bad (Pre × Nat)) (σ : H) (b : Nat), atomF f l t depth i = some r → σ[b]? = some (rst l t i 0 0) → i ≤ t.length → t.length ≤ 1000000 → depth ≤ 200 →
  DC Tryz.prog w0 283 [.ptr b 0, I depth] σ (QAtom l t σ b (lamAt t i) r)
theorem lamAt_no {t : List Tok} {i : Nat} (h : ¬ ((tokL t i).kind ≠ 4 ∧ (tokL t (i + 1)).kind = 8)) : lamAt t i = false := by
  rw [lamAt, decide_eq_false_iff_not]
  rintro ⟨h1, h2⟩
  refine h ⟨?_, h2⟩
  rcases h1 with h1 | h1 <;> rw [h1] <;> decide
theorem lamAt_kind {t : List Tok} {i : Nat} (h1 : (tokL t i).kind ≠ 1) (h2 : (tokL t i).kind ≠ 2) : lamAt t i = false := by
  rw [lamAt, decide_eq_false_iff_not]
  rintro ⟨h | h, _⟩
  · exact h1 h
  · exact h2 h
set_option maxHeartbeats 4000000 in
theorem ref03_Atom {w0 : World} {f : Nat} (hE : QExprOK w0 f) : QAtomOK w0 (f + 1) := by
  intro l t depth i r σ b h hb hi ht hd
  have hlt := (List.getElem?_eq_some_iff.1 hb).1
  have hbe : σ[b]? = some (.cells [.c (opsC l), .c (toksC t), I i, I 0, I 0]) := hb
  rw [atomF_eq] at h
  refine k283.go rfl (fun hok hsz => ?_)
  have hw : IntKind.i64.wrap ((i : Int) + 1) = ((i + 1 : Nat) : Int) := by rw [wrap_in] <;> omega
  have hw2 : IntKind.i64.wrap ((i : Int) + 2) = ((i + 2 : Nat) : Int) := by rw [wrap_in] <;> omega
  have hw3 : IntKind.i64.wrap ((i : Int) + 3) = ((i + 3 : Nat) : Int) := by rw [wrap_in] <;> omega
  have hwd : IntKind.i64.wrap ((depth : Int) + 1) = ((depth + 1 : Nat) : Int) := by rw [wrap_in] <;> omega
  ((try refine W.a ?_); simp only [go_sem, seval, reduceCtorEq, c283])
  apply W.dregE (List.cons_ne_nil _ _)
  case hc =>
    (apply CanonE.advPO; simp only [go_sem, seval, reduceCtorEq, hG hbe, hbe])
    (apply CanonE.pcall (fun τ => ref03_Tok w0 t i τ); (case hg => rfl); (case hf => rfl); (case ha => first | rfl | simp))
    (apply CanonE.advPO; simp only [go_sem, seval, reduceCtorEq])
    exact CanonE.nil
  ((try refine W.a ?_); simp only [go_sem, seval, reduceCtorEq])
  cases hB : beginsL l (tokL t i)
  · rw [if_pos hB] at h
    injection h with h
    subst h
    (refine W.c1 (ref03_begins w0 l t i 0 0 _ b (hG hb _)) ?_; simp only [go_sem, seval, reduceCtorEq, hB])
    refine W.yes rfl ?_
    ((try refine W.a ?_); simp only [go_sem, seval, reduceCtorEq])
    (refine W.c1 (ref03_fail w0 l t i 30 (tokL t i).pos _ b (hG hb _)) ?_; simp only [go_sem, seval, reduceCtorEq, hS hb])
    (refine W.fg (rst_ok hok b l t i 30 (tokL t i).pos) (d := .tup [Pre.none.v, B false]) (by simp only [r283, go_sem, seval, reduceCtorEq, Pre.none]; rfl) (by simp only [resV, go_sem, seval, reduceCtorEq, Pre.none]; exact wk_here) ?_ (hl := by (first | exact .c _ | (simp only [go_sem, seval, reduceCtorEq, Pre.none]; done))))
    exact ⟨rfl, Pre.none, false, i, rfl, rfl⟩
  · rw [if_neg (by rw [hB]; decide)] at h
    have hil : i < t.length := begins_lt (l := l) (by rw [hB]; decide)
    (refine W.c1 (ref03_begins w0 l t i 0 0 _ b (hG hb _)) ?_; simp only [go_sem, seval, reduceCtorEq, hB])
    refine W.no rfl ?_
    ((try refine W.a ?_); simp only [go_sem, seval, reduceCtorEq])
    apply W.dregE (List.cons_ne_nil _ _)
    case hc =>
      (apply CanonE.advPO; simp only [go_sem, seval, reduceCtorEq, hG hbe, hw])
      (apply CanonE.pcall (fun τ => ref03_Tok w0 t (i + 1) τ); (case hg => rfl); (case hf => rfl); (case ha => first | rfl | simp))
      (apply CanonE.advPO; simp only [go_sem, seval, reduceCtorEq])
      exact CanonE.nil
    cases h3 : ((tokL t i).kind == 3)
    · have h3' : ¬ (tokL t i).kind = 3 := by simpa using h3
      ((try refine W.a ?_); simp only [go_sem, seval, reduceCtorEq, h3])
      refine W.no rfl ?_
      cases h4 : ((tokL t i).kind == 4)
      · have h4' : ¬ (tokL t i).kind = 4 := by simpa using h4
        ((try refine W.a ?_); simp only [go_sem, seval, reduceCtorEq, h4])
        refine W.no rfl ?_
        cases h5 : ((tokL t i).kind == 5)
        · rw [if_neg (by simpa using h5), if_neg h3'] at h
          ((try refine W.a ?_); simp only [go_sem, seval, reduceCtorEq, h5])
          refine W.no rfl ?_
          by_cases hc8 : (tokL t (i + 1)).kind = 8
          · rw [if_pos ⟨h4', hc8⟩] at h
            have hlam : lamAt t i = true := by
              rw [beginsL] at hB
              rw [lamAt, decide_eq_true_iff]
              refine ⟨?_, hc8⟩
              split at hB
              · rename_i hk; exact .inl (hk.resolve_right h4')
              · have := of_decide_eq_true hB
                rcases this with h | h | h
                · exact .inr h
                · exact absurd h h3'
                · rw [h] at h5; cases h5
            have hi1 := tokL_lt (t := t) (i := i + 1) (by rw [hc8]; decide)
            ((try refine W.a ?_); simp only [go_sem, seval, reduceCtorEq, hc8])
            refine W.yes rfl ?_
            ((try refine W.a ?_); simp only [go_sem, seval, reduceCtorEq])
            rw [innerF] at h
            by_cases hdd : 200 ≤ depth
            · rw [if_pos hdd] at h
              injection h with h
              subst h
              (refine W.c1 (ref03_deep_no w0 l t i depth (tokL t i).pos _ b (hG hb _) hdd (by omega)) ?_; simp only [go_sem, seval, reduceCtorEq, hS hb])
              refine W.yes rfl ?_
              ((try refine W.a ?_); simp only [go_sem, seval, reduceCtorEq])
              (refine W.fg (rst_ok hok b l t i 31 (tokL t i).pos) (d := .tup [Pre.none.v, B false]) (by simp only [r283, go_sem, seval, reduceCtorEq, Pre.none]; rfl) (by simp only [resV, go_sem, seval, reduceCtorEq, Pre.none]; exact wk_here) ?_ (hl := by (first | exact .c _ | (simp only [go_sem, seval, reduceCtorEq, Pre.none]; done))))
              exact ⟨rfl, Pre.none, false, i, rfl, rfl⟩
            · rw [if_neg hdd] at h
              (refine W.c1 (ref03_deep_yes w0 depth (.ptr b 0) (tokL t i).pos _ (by omega)) ?_; simp only [go_sem, seval, reduceCtorEq])
              refine W.no rfl ?_
              ((try refine W.a ?_); simp only [go_sem, seval, reduceCtorEq, hG hbe, hS hb, hw2, hwd])
              cases hr : exprF f l t 0 (depth + 1) (i + 2) with
              | none => rw [hr] at h; cases h
              | some y =>
                rw [hr] at h
                (refine W.call (hE l t 0 (depth + 1) (i + 2) y _ b hr (hG' hb _ _) (by omega) ht (by omega)) rfl rfl (by first | rfl | simp) ?_)
                intro v σ1 hR
                cases y with
                | error x =>
                  injection h with h
                  subst h
                  obtain ⟨he, m, j, rfl, rfl⟩ := hR
                  ((try refine W.a ?_); simp only [go_sem, seval, reduceCtorEq, hS' hb, rmadeV])
                  (refine W.fg (rst_ok hok b l t j x.e x.pos) (d := .tup [(Pre.mk 4 (tokL t i).text 0 [m.p] (tokL t i).pos).v, B true]) (by simp only [r283, go_sem, seval, reduceCtorEq]; rfl) (by simp only [resV, go_sem, seval, reduceCtorEq]; exact wk_here) ?_)
                  exact ⟨he, _, true, j, rfl, rfl⟩
                | ok y =>
                  obtain ⟨m, j⟩ := y
                  injection h with h
                  subst h
                  obtain ⟨rfl, rfl⟩ := hR
                  ((try refine W.a ?_); simp only [go_sem, seval, reduceCtorEq, hS' hb, rmadeV])
                  (refine W.fg (rst_ok hok b l t j 0 0) (d := .tup [(Pre.mk 4 (tokL t i).text 0 [m.p] (tokL t i).pos).v, B true]) (by simp only [r283, go_sem, seval, reduceCtorEq]; rfl) (by simp only [resV, go_sem, seval, reduceCtorEq]; exact wk_here) ?_)
                  exact ⟨by rw [hlam], rfl⟩
          · have hc : ¬ ((tokL t i).kind ≠ 4 ∧ (tokL t (i + 1)).kind = 8) := fun h => hc8 h.2
            have hlam := lamAt_no hc
            have h8 : ((tokL t (i + 1)).kind == 8) = false := by simpa using hc8
            rw [if_neg hc] at h
            injection h with h
            subst h
            ((try refine W.a ?_); simp only [go_sem, seval, reduceCtorEq, h8])
            refine W.no rfl ?_
            ((try refine W.a ?_); simp only [go_sem, seval, reduceCtorEq, hG hbe, hS hb, hw])
            cases h2 : ((tokL t i).kind == 2)
            · have h2' : ¬ (tokL t i).kind = 2 := by simpa using h2
              ((try refine W.a ?_); simp only [go_sem, seval, reduceCtorEq, h2])
              refine W.no rfl ?_
              ((try refine W.a ?_); simp only [go_sem, seval, reduceCtorEq])
              (refine W.fg (rst_ok hok b l t (i + 1) 0 0) (d := .tup [(Pre.mk 0 (tokL t i).text 0 [] (tokL t i).pos).v, B false]) (by simp only [r283, go_sem, seval, reduceCtorEq]; rfl) (by simp only [resV, go_sem, seval, reduceCtorEq]; exact wk_here) ?_)
              exact ⟨by rw [if_neg h2', hlam], rfl⟩
            · have h2' : (tokL t i).kind = 2 := by simpa using h2
              ((try refine W.a ?_); simp only [go_sem, seval, reduceCtorEq, h2])
              refine W.yes rfl ?_
              ((try refine W.a ?_); simp only [go_sem, seval, reduceCtorEq])
              (refine W.fg (rst_ok hok b l t (i + 1) 0 0) (d := .tup [(Pre.mk 1 (tokL t i).text 0 [] (tokL t i).pos).v, B false]) (by simp only [r283, go_sem, seval, reduceCtorEq]; rfl) (by simp only [resV, go_sem, seval, reduceCtorEq]; exact wk_here) ?_)
              exact ⟨by rw [if_pos h2', hlam], rfl⟩
        · have h5' : (tokL t i).kind = 5 := by simpa using h5
          have hlam : lamAt t i = false := lamAt_kind (by rw [h5']; decide) (by rw [h5']; decide)
          rw [if_pos h5', bracketsF] at h
          ((try refine W.a ?_); simp only [go_sem, seval, reduceCtorEq, h5])
          refine W.yes rfl ?_
          ((try refine W.a ?_); simp only [go_sem, seval, reduceCtorEq])
          apply W.dregE (List.cons_ne_nil _ _)
          case hc =>
            (apply CanonE.advPO; simp only [go_sem, seval, reduceCtorEq, hG hbe])
            (apply CanonE.pcall (fun τ => ref02_Is w0 l (tokL t (i + 1)) τ); (case hg => rfl); (case hf => rfl); (case ha => first | rfl | simp))
            (apply CanonE.advPO; simp only [go_sem, seval, reduceCtorEq, foundV])
            exact CanonE.nil
          ((try refine W.a ?_); simp only [go_sem, seval, reduceCtorEq])
          by_cases hc : (opOf l (tokL t (i + 1))).isSome ∧ (tokL t (i + 2)).kind = 6
          · rw [if_pos hc] at h
            injection h with h
            subst h
            obtain ⟨hc1, hc2⟩ := hc
            apply W.dreg
            case hc =>
              (apply Canon.advCO; simp only [advCO_nil, advCO_cons, cG_yes, cG_no, cS_some, cS_loud, go_sem, seval, reduceCtorEq, hG hbe, hc1, hw2])
              (apply Canon.call (ref03_Tok w0 t (i + 2) _); (case hg => rfl); (case hf => rfl); (case ha => first | rfl | simp))
              (apply Canon.advCO; simp only [advCO_nil, advCO_cons, cG_yes, cG_no, cS_some, cS_loud, go_sem, seval, reduceCtorEq, hc2])
              exact Canon.nil
            ((try refine W.a ?_); simp only [go_sem, seval, reduceCtorEq])
            refine W.yes rfl ?_
            ((try refine W.a ?_); simp only [go_sem, seval, reduceCtorEq, hG hbe, hS hb, hw3])
            (refine W.fg (rst_ok hok b l t (i + 3) 0 0) (d := .tup [(Pre.mk 0 (tokL t (i + 1)).text 0 [] (tokL t (i + 1)).pos).v, B false]) (by simp only [r283, go_sem, seval, reduceCtorEq]; rfl) (by simp only [resV, go_sem, seval, reduceCtorEq]; exact wk_here) ?_)
            exact ⟨by rw [hlam], rfl⟩
          · rw [if_neg hc] at h
            have two : (opOf l (tokL t (i + 1))).isSome = false ∨ ((opOf l (tokL t (i + 1))).isSome = true ∧ ((tokL t (i + 2)).kind == 6) = false) := by
              cases ho : (opOf l (tokL t (i + 1))).isSome
              · exact .inl rfl
              · refine .inr ⟨rfl, ?_⟩
                cases h6 : ((tokL t (i + 2)).kind == 6)
                · rfl
                · exact absurd ⟨ho, by simpa using h6⟩ hc
            rcases two with ho | ⟨ho, h6⟩
            all_goals first
              | (apply W.dreg
                 case hc => ((apply Canon.advCO; simp only [advCO_nil, advCO_cons, cG_yes, cG_no, cS_some, cS_loud, go_sem, seval, reduceCtorEq, hG hbe, ho, hw2]); (apply Canon.call (ref03_Tok w0 t (i + 2) _); (case hg => rfl); (case hf => rfl); (case ha => first | rfl | simp)); (apply Canon.advCO; simp only [advCO_nil, advCO_cons, cG_yes, cG_no, cS_some, cS_loud, go_sem, seval, reduceCtorEq, h6]); exact Canon.nil))
              | (apply W.dreg
                 case hc => ((apply Canon.advCO; simp only [advCO_nil, advCO_cons, cG_yes, cG_no, cS_some, cS_loud, go_sem, seval, reduceCtorEq, ho]); exact Canon.nil))
            all_goals
              ((try refine W.a ?_); simp only [go_sem, seval, reduceCtorEq])
              refine W.no rfl ?_
              ((try refine W.a ?_); simp only [go_sem, seval, reduceCtorEq])
              rw [innerF] at h
              by_cases hdd : 200 ≤ depth
              · rw [if_pos hdd] at h
                injection h with h
                subst h
                (refine W.c1 (ref03_deep_no w0 l t i depth (tokL t i).pos _ b (hG hb _) hdd (by omega)) ?_; simp only [go_sem, seval, reduceCtorEq, hS hb])
                refine W.yes rfl ?_
                ((try refine W.a ?_); simp only [go_sem, seval, reduceCtorEq])
                (refine W.fg (rst_ok hok b l t i 31 (tokL t i).pos) (d := .tup [Pre.none.v, B false]) (by simp only [r283, go_sem, seval, reduceCtorEq, Pre.none]; rfl) (by simp only [resV, go_sem, seval, reduceCtorEq, Pre.none]; exact wk_here) ?_ (hl := by (first | exact .c _ | (simp only [go_sem, seval, reduceCtorEq, Pre.none]; done))))
                exact ⟨rfl, Pre.none, false, i, rfl, rfl⟩
              · rw [if_neg hdd] at h
                (refine W.c1 (ref03_deep_yes w0 depth (.ptr b 0) (tokL t i).pos _ (by omega)) ?_; simp only [go_sem, seval, reduceCtorEq])
                refine W.no rfl ?_
                ((try refine W.a ?_); simp only [go_sem, seval, reduceCtorEq, hG hbe, hS hb, hw, hwd])
                cases hr : exprF f l t 0 (depth + 1) (i + 1) with
                | none => rw [hr] at h; cases h
                | some y =>
                  rw [hr] at h
                  (refine W.call (hE l t 0 (depth + 1) (i + 1) y _ b hr (hG' hb _ _) (by omega) ht (by omega)) rfl rfl (by first | rfl | simp) ?_)
                  intro v σ1 hR
                  cases y with
                  | error x =>
                    injection h with h
                    subst h
                    obtain ⟨he, m, j, rfl, rfl⟩ := hR
                    have hen : (x.e != 0) = true := by rw [bne, he]; rfl
                    ((try refine W.a ?_); simp only [go_sem, seval, reduceCtorEq, hS' hb, hG' hb, rmadeV, rst, hen])
                    refine W.yes rfl ?_
                    ((try refine W.a ?_); simp only [go_sem, seval, reduceCtorEq])
                    (refine W.fg (rst_ok hok b l t j x.e x.pos) (d := .tup [Pre.none.v, B false]) (by simp only [r283, go_sem, seval, reduceCtorEq, Pre.none]; rfl) (by simp only [resV, go_sem, seval, reduceCtorEq, Pre.none]; exact wk_here) ?_ (hl := by (first | exact .c _ | (simp only [go_sem, seval, reduceCtorEq, Pre.none]; done))))
                    exact ⟨he, Pre.none, false, j, rfl, rfl⟩
                  | ok y =>
                    obtain ⟨m, j⟩ := y
                    obtain ⟨rfl, rfl⟩ := hR
                    have hj := ((fuel_bounds f).2.2.1 _ _ _ _ _ _ _ hr).2
                    simp only at h
                    have hwj : IntKind.i64.wrap ((j : Int) + 1) = ((j + 1 : Nat) : Int) := by rw [wrap_in] <;> omega
                    ((try refine W.a ?_); simp only [go_sem, seval, reduceCtorEq, hS' hb, hG' hb, rmadeV, rst])
                    refine W.no rfl ?_
                    ((try refine W.a ?_); simp only [go_sem, seval, reduceCtorEq])
                    apply W.dregE (List.cons_ne_nil _ _)
                    case hc =>
                      (apply CanonE.advPO; simp only [go_sem, seval, reduceCtorEq, hG' hb])
                      (apply CanonE.pcall (fun τ => ref03_Tok w0 t j τ); (case hg => rfl); (case hf => rfl); (case ha => first | rfl | simp))
                      (apply CanonE.advPO; simp only [go_sem, seval, reduceCtorEq])
                      exact CanonE.nil
                    ((try refine W.a ?_); simp only [go_sem, seval, reduceCtorEq])
                    cases h6 : ((tokL t j).kind == 6)
                    · have h6n : ((tokL t j).kind != 6) = true := by rw [bne, h6]; rfl
                      rw [if_neg (by simpa using h6)] at h
                      injection h with h
                      subst h
                      ((try refine W.a ?_); simp only [go_sem, seval, reduceCtorEq, h6n])
                      refine W.yes rfl ?_
                      ((try refine W.a ?_); simp only [go_sem, seval, reduceCtorEq])
                      (refine W.c1 (ref03_fail w0 l t j 30 (tokL t j).pos _ b (hG' hb _ _)) ?_; simp only [go_sem, seval, reduceCtorEq, hS' hb])
                      (refine W.fg (rst_ok hok b l t j 30 (tokL t j).pos) (d := .tup [Pre.none.v, B false]) (by simp only [r283, go_sem, seval, reduceCtorEq, Pre.none]; rfl) (by simp only [resV, go_sem, seval, reduceCtorEq, Pre.none]; exact wk_here) ?_ (hl := by (first | exact .c _ | (simp only [go_sem, seval, reduceCtorEq, Pre.none]; done))))
                      exact ⟨rfl, Pre.none, false, j, rfl, rfl⟩
                    · have h6n : ((tokL t j).kind != 6) = false := by rw [bne, h6]; rfl
                      rw [if_pos (by simpa using h6)] at h
                      injection h with h
                      subst h
                      ((try refine W.a ?_); simp only [go_sem, seval, reduceCtorEq, h6n])
                      refine W.no rfl ?_
                      ((try refine W.a ?_); simp only [go_sem, seval, reduceCtorEq, hG' hb, hS' hb, hwj])
                      (refine W.fg (rst_ok hok b l t (j + 1) 0 0) (d := .tup [m.p.v, B false]) (by simp only [r283, go_sem, seval, reduceCtorEq]; rfl) (by simp only [resV, go_sem, seval, reduceCtorEq]; exact wk_here) ?_)
                      exact ⟨by rw [hlam], rfl⟩
      · have h4' : (tokL t i).kind = 4 := by simpa using h4
        have h5' : ¬ (tokL t i).kind = 5 := by rw [h4']; decide
        have hc : ¬ ((tokL t i).kind ≠ 4 ∧ (tokL t (i + 1)).kind = 8) := fun h => h.1 h4'
        have hlam := lamAt_no hc
        have h2' : ¬ (tokL t i).kind = 2 := by rw [h4']; decide
        rw [if_neg h5', if_neg h3', if_neg hc, if_neg h2'] at h
        injection h with h
        subst h
        ((try refine W.a ?_); simp only [go_sem, seval, reduceCtorEq, h4])
        refine W.yes rfl ?_
        ((try refine W.a ?_); simp only [go_sem, seval, reduceCtorEq, hG hbe, hS hb, hw])
        (refine W.fg (rst_ok hok b l t (i + 1) 0 0) (d := .tup [(Pre.mk 0 (tokL t i).text 0 [] (tokL t i).pos).v, B false]) (by simp only [r283, go_sem, seval, reduceCtorEq]; rfl) (by simp only [resV, go_sem, seval, reduceCtorEq]; exact wk_here) ?_)
        exact ⟨by rw [hlam], rfl⟩
    · have h3' : (tokL t i).kind = 3 := by simpa using h3
      have h5' : ¬ (tokL t i).kind = 5 := by rw [h3']; decide
      have hlam : lamAt t i = false := lamAt_kind (by rw [h3']; decide) (by rw [h3']; decide)
      rw [if_neg h5', if_pos h3'] at h
      injection h with h
      subst h
      ((try refine W.a ?_); simp only [go_sem, seval, reduceCtorEq, h3])
      refine W.yes rfl ?_
      ((try refine W.a ?_); simp only [go_sem, seval, reduceCtorEq, hG hbe, hS hb, hw])
      (refine W.fg (rst_ok hok b l t (i + 1) 0 0) (d := .tup [(Pre.mk 2 [] (tokL t i).n [] (tokL t i).pos).v, B false]) (by simp only [r283, go_sem, seval, reduceCtorEq]; rfl) (by simp only [resV, go_sem, seval, reduceCtorEq]; exact wk_here) ?_)
      exact ⟨by rw [hlam], rfl⟩
end
section

theorem ref03_Operand {w0 : World} {f : Nat} (hA : ∀ g, g ≤ f → QAtomOK w0 g) (l : List OpT) (t : List Tok) (depth i : Nat) (r : Except Bad (Pre × Nat)) (σ : H) (b : Nat) (h : operandF f l t depth i = some r) (hb : σ[b]? = some (rst l t i 0 0)) (hi : i ≤ t.length) (ht : t.length ≤ 1000000) (hd : depth ≤ 200) :
    DC Tryz.prog w0 270 [.ptr b 0, I depth] σ (QOper l t σ b r) := by
  have hlt := (List.getElem?_eq_some_iff.1 hb).1
  rw [operandF] at h
  refine k270.go rfl (fun hok hsz => ?_)
  ((try refine W.a ?_); simp only [go_sem, seval, reduceCtorEq, c270])
  cases ha : atomF f l t depth i with
  | none => rw [ha] at h; cases h
  | some ra =>
    rw [ha] at h
    (refine W.call (hA f (Nat.le_refl f) l t depth i ra _ b ha (hG hb _) hi ht hd) rfl rfl (by first | rfl | simp) ?_)
    intro v σ1 hR
    have hx : ∃ x : ArgsSt, (x.e = 0 ∧ x.pos = 0 ∧ argsF x.g l t depth x.i x.p x.p.pos x.last = some r ∧ x.i ≤ t.length ∧ x.g ≤ f ∨ (x.e == 0) = false ∧ r = .error ⟨x.e, x.pos⟩) ∧
        v = .tup [x.p.v, B x.last] ∧ σ1 = (σ ++ [Blk.cells [I 0, S [], I 0, .csl [], I 0]]).set b (rst l t x.i x.e x.pos) := by
      cases ra with
      | ok y =>
        obtain ⟨rfl, rfl⟩ := hR
        exact ⟨⟨f, y.1, y.2, lamAt t i, 0, 0⟩, .inl ⟨rfl, rfl, h, ((fuel_bounds f).1 _ _ _ _ _ _ ha).2, Nat.le_refl f⟩, rfl, rfl⟩
      | error y =>
        obtain ⟨he, q, la, j, rfl, rfl⟩ := hR
        injection h with h
        exact ⟨⟨0, q, j, la, y.e, y.pos⟩, .inr ⟨he, h.symm⟩, rfl, rfl⟩
    obtain ⟨x0, hinv0, rfl, rfl⟩ := hx
    ((try refine W.a ?_); simp only [go_sem, seval, reduceCtorEq, hS hb])
    refine W.loopP (fun x : ArgsSt => (x.e = 0 ∧ x.pos = 0 ∧ argsF x.g l t depth x.i x.p x0.p.pos x.last = some r ∧ x.i ≤ t.length ∧ x.g ≤ f ∨ (x.e == 0) = false ∧ r = .error ⟨x.e, x.pos⟩))
      (fun x => ⟨((((((base.put (some 0) (.ptr b 0)).put (some 1) (I depth)).put (some 4) (.ptr σ.length 0)).put (some 5) (.ptr (σ.length + 1) 0)).put (some 6) (B x.last)).put (some 7) (I x0.p.pos)), σ.set b (rst l t x.i x.e x.pos) ++ [.cells [I 0, S [], I 0, .csl [], I 0], .cells x.p.v.cellsV]⟩)
      (fun x => if x.e = 0 then x.g + 1 else 0) x0 hinv0 ?_ (fun x hx => ?_)
    · (refine Lew.env ?_; exact lee_here)
    · obtain ⟨g, p, i', last, e, pos⟩ := x
      simp only at hx
      rcases hx with ⟨rfl, rfl, hx, hi', hg⟩ | ⟨he, rfl⟩
      · obtain ⟨g', rfl⟩ : ∃ g', g = g' + 1 := by
          cases g with
          | zero => simp [argsF] at hx
          | succ g' => exact ⟨g', rfl⟩
        rw [argsF] at hx
        by_cases hc : last = true ∨ beginsL l (tokL t i') = false
        · rw [if_pos hc] at hx
          injection hx with hx
          subst hx
          have two : last = true ∨ (last = false ∧ beginsL l (tokL t i') = false) := by
            cases last
            · exact .inr ⟨rfl, by simpa using hc⟩
            · exact .inl rfl
          rcases two with rfl | ⟨rfl, hB⟩
          all_goals first
            | (((try refine W.a ?_); simp only [go_sem, seval, reduceCtorEq, hG' hb, rst])
               (refine W.c1 (ref03_begins w0 l t i' 0 0 _ b (hG' hb _ _)) ?_; simp only [go_sem, seval, reduceCtorEq, hB])
               refine W.no rfl ?_)
            | (((try refine W.a ?_); simp only [go_sem, seval, reduceCtorEq, hG' hb, rst])
               refine W.no rfl ?_)
          all_goals
            ((try refine W.a ?_); simp only [go_sem, seval, reduceCtorEq])
            (refine W.fg (rst_ok hok b l t i' 0 0) (d := p.v) (by simp only [r270, go_sem, seval, reduceCtorEq]; rfl) (by simp only [resV, go_sem, seval, reduceCtorEq]; exact wk_here) ?_)
            exact ⟨rfl, rfl⟩
        · rw [if_neg hc] at hx
          have hl : last = false := by cases last; rfl; exact absurd (.inl rfl) hc
          have hB : beginsL l (tokL t i') = true := by
            cases h : beginsL l (tokL t i')
            · exact absurd (.inr h) hc
            · rfl
          subst hl
          have hil : i' < t.length := begins_lt (l := l) (by rw [hB]; decide)
          ((try refine W.a ?_); simp only [go_sem, seval, reduceCtorEq, hG' hb, rst])
          (refine W.c1 (ref03_begins w0 l t i' 0 0 _ b (hG' hb _ _)) ?_; simp only [go_sem, seval, reduceCtorEq, hB])
          refine W.yes rfl ?_
          ((try refine W.a ?_); simp only [go_sem, seval, reduceCtorEq])
          cases ha' : atomF g' l t depth i' with
          | none => rw [ha'] at hx; cases hx
          | some ra' =>
            rw [ha'] at hx
            (refine W.call (hA g' (by omega) l t depth i' ra' _ b ha' (hG' hb _ _) hi' ht hd) rfl rfl (by first | rfl | simp) ?_)
            intro v σ1 hR
            cases ra' with
            | ok y =>
              obtain ⟨q, j⟩ := y
              obtain ⟨rfl, rfl⟩ := hR
              ((try refine W.a ?_); simp only [go_sem, seval, reduceCtorEq, hS' hb])
              refine .inv ⟨⟨g', Pre.app p q x0.p.pos, j, lamAt t i', 0, 0⟩, .inl ⟨rfl, rfl, hx, ((fuel_bounds g').1 _ _ _ _ _ _ ha').2, Nat.le_of_succ_le hg⟩, by simp, ?_⟩
              simp only [go_sem, seval, reduceCtorEq]
              (refine Lew.cutL (rst_ok hok b l t j 0 0) ?_ (by simp) (by simp) ?_ ?_ ?_; exact lee_here; ((try simp only [okB, wkB, go_sem, seval, reduceCtorEq]) <;> omega); (simp only [List.length_cons, List.length_nil, Nat.reduceAdd, List.take_succ_cons, List.take_zero, wkB, and_true]; (repeat' (refine And.intro ?_ ?_)) <;> (first | exact Blk.wk.rfl _ | (refine Blk.wk_cells ?_ rfl; (exact wk_here)))); (repeat' (first | exact LowE.base _ | (refine LowE.put ?_ (by first | exact .c _ | ((try simp only [okB, wkB, go_sem, seval, reduceCtorEq]) <;> omega))))))
            | error y =>
              obtain ⟨he, q, la, j, rfl, rfl⟩ := hR
              injection hx with hx
              subst hx
              have he' : ¬ y.e = 0 := by simpa using he
              ((try refine W.a ?_); simp only [go_sem, seval, reduceCtorEq, hS' hb])
              refine .inv ⟨⟨g', Pre.app p q x0.p.pos, j, la, y.e, y.pos⟩, .inr ⟨he, rfl⟩, by simp [he'], ?_⟩
              simp only [go_sem, seval, reduceCtorEq]
              (refine Lew.cutL (rst_ok hok b l t j y.e y.pos) ?_ (by simp) (by simp) ?_ ?_ ?_; exact lee_here; ((try simp only [okB, wkB, go_sem, seval, reduceCtorEq]) <;> omega); (simp only [List.length_cons, List.length_nil, Nat.reduceAdd, List.take_succ_cons, List.take_zero, wkB, and_true]; (repeat' (refine And.intro ?_ ?_)) <;> (first | exact Blk.wk.rfl _ | (refine Blk.wk_cells ?_ rfl; (exact wk_here)))); (repeat' (first | exact LowE.base _ | (refine LowE.put ?_ (by first | exact .c _ | ((try simp only [okB, wkB, go_sem, seval, reduceCtorEq]) <;> omega))))))
      · ((try refine W.a ?_); simp only [go_sem, seval, reduceCtorEq, hG' hb, rst, he])
        refine W.no rfl ?_
        ((try refine W.a ?_); simp only [go_sem, seval, reduceCtorEq])
        (refine W.fg (rst_ok hok b l t i' e pos) (d := p.v) (by simp only [r270, go_sem, seval, reduceCtorEq]; rfl) (by simp only [resV, go_sem, seval, reduceCtorEq]; exact wk_here) ?_)
        exact ⟨he, p, i', rfl, rfl⟩
end
section

structure QSt where
  g : Nat
  m : Made
  i : Nat
  e : Int
  pos : Int
theorem clash_eq (o : OpT) (m : Made) : clashL o m = (m.by_.isSome && !besideL o (byO m) 1) := by
  rw [clashL, byO]
  cases m.by_ with
  | none => rfl
  | some y => rfl
theorem byO_mk (p : Pre) (o : OpT) (q : Int) : byO ⟨p, some (o, q)⟩ = o := rfl
theorem byP_mk (p : Pre) (o : OpT) (q : Int) : byP ⟨p, some (o, q)⟩ = q := rfl
theorem byO_some {m : Made} {o : OpT} {q : Int} (h : m.by_ = some (o, q)) : byO m = o ∧ byP m = q := by rw [byO, byP, h]; exact ⟨rfl, rfl⟩
theorem rmade_none (p : Pre) : rmadeV ⟨p, none⟩ = .agg [I p.k, S p.name, I p.n, .c (.sl (p.l.map Pre.cs)), I p.pos, B false, S [], I 0, I 0, I 0] := rfl
set_option maxHeartbeats 8000000 in
set_option maxRecDepth 20000 in
theorem ref03_Expr {w0 : World} {f : Nat} (hA : ∀ g, g ≤ f → QAtomOK w0 g) (hE : ∀ g, g ≤ f → QExprOK w0 g) : QExprOK w0 (f + 1) := by
  intro l t least depth i r σ b h hb hi ht hd
  have hlt := (List.getElem?_eq_some_iff.1 hb).1
  have hbe : σ[b]? = some (.cells [.c (opsC l), .c (toksC t), I i, I 0, I 0]) := hb
  have hwd : IntKind.i64.wrap ((depth : Int) + 1) = ((depth + 1 : Nat) : Int) := by rw [wrap_in] <;> omega
  rw [exprF_eq] at h
  refine k250.go rfl (fun hok hsz => ?_)
  ((try refine W.a ?_); simp only [go_sem, seval, reduceCtorEq, c250])
  cases ha : operandF f l t depth i with
  | none => rw [ha] at h; cases h
  | some ra =>
    rw [ha] at h
    (refine W.call (ref03_Operand hA l t depth i ra _ b ha (hG hb _) hi ht hd) rfl rfl (by first | rfl | simp) ?_)
    intro v σ1 hR
    have hx : ∃ (q : Pre) (x : QSt), (x.e = 0 ∧ x.pos = 0 ∧ chainF x.g l t least depth x.i x.m = some r ∧ x.i ≤ t.length ∧ x.g ≤ f ∨ (x.e == 0) = false ∧ r = .error ⟨x.e, x.pos⟩) ∧ x.m = ⟨q, none⟩ ∧
        v = q.v ∧ σ1 = (σ ++ [Blk.cells [I 0, S [], I 0, .csl [], I 0, B false, S [], I 0, I 0, I 0]]).set b (rst l t x.i x.e x.pos) := by
      cases ra with
      | ok y =>
        obtain ⟨rfl, rfl⟩ := hR
        exact ⟨y.1, ⟨f, ⟨y.1, none⟩, y.2, 0, 0⟩, .inl ⟨rfl, rfl, h, (operandF_bound ha).2, Nat.le_refl f⟩, rfl, rfl, rfl⟩
      | error y =>
        obtain ⟨he, q, j, rfl, rfl⟩ := hR
        injection h with h
        exact ⟨q, ⟨0, ⟨q, none⟩, j, y.e, y.pos⟩, .inr ⟨he, h.symm⟩, rfl, rfl, rfl⟩
    obtain ⟨q0, x0, hinv0, hm0, rfl, rfl⟩ := hx
    ((try refine W.a ?_); simp only [go_sem, seval, reduceCtorEq, hS hb])
    refine W.loopP (fun x : QSt => (x.e = 0 ∧ x.pos = 0 ∧ chainF x.g l t least depth x.i x.m = some r ∧ x.i ≤ t.length ∧ x.g ≤ f ∨ (x.e == 0) = false ∧ r = .error ⟨x.e, x.pos⟩))
      (fun x => ⟨(((((base.put (some 0) (.ptr b 0)).put (some 1) (I least)).put (some 2) (I depth)).put (some 6) (.ptr σ.length 0)).put (some 7) (.ptr (σ.length + 1) 0)), σ.set b (rst l t x.i x.e x.pos) ++ [.cells [I 0, S [], I 0, .csl [], I 0, B false, S [], I 0, I 0, I 0], .cells (rmadeV x.m).cellsV]⟩)
      (fun x => if x.e = 0 then x.g + 1 else 0) x0 hinv0 ?_ (fun x hx => ?_)
    · simp only [go_sem, seval, reduceCtorEq, hm0, rmade_none]
      (refine Lew.env ?_; exact lee_here)
    · obtain ⟨g, m, i', e, pos⟩ := x
      simp only at hx
      rcases hx with ⟨rfl, rfl, hx, hi', hg⟩ | ⟨he, rfl⟩
      · obtain ⟨g', rfl⟩ : ∃ g', g = g' + 1 := by
          cases g with
          | zero => simp [chainF] at hx
          | succ g' => exact ⟨g', rfl⟩
        rw [chainF_eq] at hx
        ((try refine W.a ?_); simp only [go_sem, seval, reduceCtorEq, hG' hb, rst, rmadeV])
        refine W.yes rfl ?_
        ((try refine W.a ?_); simp only [go_sem, seval, reduceCtorEq])
        apply W.dregE (List.cons_ne_nil _ _)
        case hc =>
          (apply CanonE.advPO; simp only [go_sem, seval, reduceCtorEq, hG' hb])
          (apply CanonE.pcall (fun τ => ref03_Tok w0 t i' τ); (case hg => rfl); (case hf => rfl); (case ha => first | rfl | simp))
          (apply CanonE.advPO; simp only [go_sem, seval, reduceCtorEq])
          exact CanonE.nil
        ((try refine W.a ?_); simp only [go_sem, seval, reduceCtorEq])
        apply W.dregE (List.cons_ne_nil _ _)
        case hc =>
          (apply CanonE.advPO; simp only [go_sem, seval, reduceCtorEq, hG' hb])
          (apply CanonE.pcall (fun τ => ref02_Is w0 l (tokL t i') τ); (case hg => rfl); (case hf => rfl); (case ha => first | rfl | simp))
          (apply CanonE.advPO; simp only [go_sem, seval, reduceCtorEq, foundV])
          exact CanonE.nil
        cases ho : opOf l (tokL t i') with
        | none =>
          rw [ho] at hx
          injection hx with hx
          subst hx
          ((try refine W.a ?_); simp only [go_sem, seval, reduceCtorEq, ho, Option.isSome_none, Option.getD_none])
          refine W.yes rfl ?_
          ((try refine W.a ?_); simp only [go_sem, seval, reduceCtorEq])
          (refine W.fg (rst_ok hok b l t i' 0 0) (d := rmadeV m) (by simp only [r250, go_sem, seval, reduceCtorEq, rmadeV]; rfl) (by simp only [resV, go_sem, seval, reduceCtorEq, rmadeV]; exact wk_here) ?_ (hl := by (first | exact .c _ | (simp only [go_sem, seval, reduceCtorEq, rmadeV]; done))))
          exact ⟨rfl, rfl⟩
        | some o =>
          rw [ho] at hx
          simp only at hx
          have hil : i' < t.length := opOf_lt ho
          have hw : IntKind.i64.wrap ((i' : Int) + 1) = ((i' + 1 : Nat) : Int) := by rw [wrap_in] <;> omega
          by_cases hp : o.prec < least
          · rw [if_pos hp] at hx
            injection hx with hx
            subst hx
            ((try refine W.a ?_); simp only [go_sem, seval, reduceCtorEq, ho, Option.isSome_some, Option.getD_some, hp])
            refine W.yes rfl ?_
            ((try refine W.a ?_); simp only [go_sem, seval, reduceCtorEq])
            (refine W.fg (rst_ok hok b l t i' 0 0) (d := rmadeV m) (by simp only [r250, go_sem, seval, reduceCtorEq, rmadeV]; rfl) (by simp only [resV, go_sem, seval, reduceCtorEq, rmadeV]; exact wk_here) ?_ (hl := by (first | exact .c _ | (simp only [go_sem, seval, reduceCtorEq, rmadeV]; done))))
            exact ⟨rfl, rfl⟩
          · rw [if_neg hp] at hx
            ((try refine W.a ?_); simp only [go_sem, seval, reduceCtorEq, ho, Option.isSome_some, Option.getD_some, hp])
            refine W.no rfl ?_
            rw [clash_eq] at hx
            have three : m.by_.isSome = false ∨ (m.by_.isSome = true ∧ besideL o (byO m) 1 = true) ∨ (m.by_.isSome = true ∧ besideL o (byO m) 1 = false) := by
              cases m.by_.isSome <;> cases besideL o (byO m) 1 <;> simp
            rcases three with hs | ⟨hs, hbes⟩ | ⟨hs, hbes⟩
            rotate_left 2
            · rw [if_pos (by rw [hs, hbes]; rfl)] at hx
              injection hx with hx
              subst hx
              ((try refine W.a ?_); simp only [go_sem, seval, reduceCtorEq, hs])
              (refine W.c1 (ref02_Left w0 o (byO m) _) ?_; simp only [go_sem, seval, reduceCtorEq, hbes])
              refine W.yes rfl ?_
              ((try refine W.a ?_); simp only [go_sem, seval, reduceCtorEq])
              (refine W.c1 (ref03_fail w0 l t i' 32 (tokL t i').pos _ b (hG' hb _ _)) ?_; simp only [go_sem, seval, reduceCtorEq, hS' hb])
              (refine W.fg (rst_ok hok b l t i' 32 (tokL t i').pos) (d := rmadeV ⟨Pre.none, none⟩) (by simp only [r250, go_sem, seval, reduceCtorEq, rmade_none, Pre.none]; rfl) (by simp only [resV, go_sem, seval, reduceCtorEq, rmade_none, Pre.none]; exact wk_here) ?_ (hl := by (first | exact .c _ | (simp only [go_sem, seval, reduceCtorEq, rmade_none, Pre.none]; done))))
              exact ⟨rfl, ⟨Pre.none, none⟩, i', rfl, rfl⟩
            all_goals
              rw [if_neg (by first | (rw [hs, hbes]; decide) | simp [hs])] at hx
            all_goals first
              | (((try refine W.a ?_); simp only [go_sem, seval, reduceCtorEq, hs])
                 (refine W.c1 (ref02_Left w0 o (byO m) _) ?_; simp only [go_sem, seval, reduceCtorEq, hbes])
                 refine W.no rfl ?_)
              | (((try refine W.a ?_); simp only [go_sem, seval, reduceCtorEq, hs])
                 refine W.no rfl ?_)
            all_goals
              ((try refine W.a ?_); simp only [go_sem, seval, reduceCtorEq])
              rw [innerF] at hx
              by_cases hdd : 200 ≤ depth
              · rw [if_pos hdd] at hx
                injection hx with hx
                subst hx
                (refine W.c1 (ref03_deep_no w0 l t i' depth (tokL t i').pos _ b (hG' hb _ _) hdd (by omega)) ?_; simp only [go_sem, seval, reduceCtorEq, hS' hb])
                refine W.yes rfl ?_
                ((try refine W.a ?_); simp only [go_sem, seval, reduceCtorEq])
                (refine W.fg (rst_ok hok b l t i' 31 (tokL t i').pos) (d := rmadeV ⟨Pre.none, none⟩) (by simp only [r250, go_sem, seval, reduceCtorEq, rmade_none, Pre.none]; rfl) (by simp only [resV, go_sem, seval, reduceCtorEq, rmade_none, Pre.none]; exact wk_here) ?_ (hl := by (first | exact .c _ | (simp only [go_sem, seval, reduceCtorEq, rmade_none, Pre.none]; done))))
                exact ⟨rfl, ⟨Pre.none, none⟩, i', rfl, rfl⟩
              · rw [if_neg hdd] at hx
                (refine W.c1 (ref03_deep_yes w0 depth (.ptr b 0) (tokL t i').pos _ (by omega)) ?_; simp only [go_sem, seval, reduceCtorEq])
                refine W.no rfl ?_
                ((try refine W.a ?_); simp only [go_sem, seval, reduceCtorEq, hG' hb, hS' hb, rst, hw])
                have hin := fun y σx (hb' : σx[b]? = some (rst l t (i' + 1) 0 0)) (hr : exprF g' l t (nextL o) (depth + 1) (i' + 1) = some y) => hE g' (by omega) l t (nextL o) (depth + 1) (i' + 1) y σx b hr hb' (by omega) ht (by omega)
                have two : (nextL o = IntKind.i64.wrap (o.prec + 1) ∧ (o.fix == 2) = false) ∨ (nextL o = o.prec ∧ (o.fix == 2) = true) := by
                  rw [nextL]
                  cases h : (o.fix == 2)
                  · exact .inl ⟨if_neg (by simpa using h), rfl⟩
                  · exact .inr ⟨if_pos (by simpa using h), rfl⟩
                rcases two with ⟨hn, hfix⟩ | ⟨hn, hfix⟩
                all_goals first
                  | (((try refine W.a ?_); simp only [go_sem, seval, reduceCtorEq, hfix])
                     refine W.no rfl ?_)
                  | (((try refine W.a ?_); simp only [go_sem, seval, reduceCtorEq, hfix])
                     refine W.yes rfl ?_)
                all_goals
                  ((try refine W.a ?_); simp only [go_sem, seval, reduceCtorEq, hwd])
                  rw [hn] at hin
                  cases hr : exprF g' l t (nextL o) (depth + 1) (i' + 1) with
                  | none => rw [hr] at hx; cases hx
                  | some y =>
                    rw [hr] at hx
                    rw [hn] at hr
                    (refine W.call (hin y _ (hG' hb _ _) hr) rfl rfl (by first | rfl | simp) ?_)
                    intro v σ1 hR
                    cases y with
                    | error x =>
                      injection hx with hx
                      subst hx
                      obtain ⟨he, m', j, rfl, rfl⟩ := hR
                      have hen : (x.e != 0) = true := by rw [bne, he]; rfl
                      ((try refine W.a ?_); simp only [go_sem, seval, reduceCtorEq, hS' hb, hG' hb, rmadeV, rst, hen])
                      refine W.yes rfl ?_
                      ((try refine W.a ?_); simp only [go_sem, seval, reduceCtorEq])
                      (refine W.fg (rst_ok hok b l t j x.e x.pos) (d := rmadeV ⟨Pre.none, none⟩) (by simp only [r250, go_sem, seval, reduceCtorEq, rmade_none, Pre.none]; rfl) (by simp only [resV, go_sem, seval, reduceCtorEq, rmade_none, Pre.none]; exact wk_here) ?_ (hl := by (first | exact .c _ | (simp only [go_sem, seval, reduceCtorEq, rmade_none, Pre.none]; done))))
                      exact ⟨he, ⟨Pre.none, none⟩, j, rfl, rfl⟩
                    | ok y =>
                      obtain ⟨m', j⟩ := y
                      obtain ⟨rfl, rfl⟩ := hR
                      have hj := ((fuel_bounds g').2.2.1 _ _ _ _ _ _ _ hr).2
                      simp only at hx
                      ((try refine W.a ?_); simp only [go_sem, seval, reduceCtorEq, hS' hb, hG' hb, rmadeV, rst])
                      refine W.no rfl ?_
                      ((try refine W.a ?_); simp only [go_sem, seval, reduceCtorEq])
                      cases hby' : m'.by_ with
                      | none =>
                        rw [hby'] at hx
                        ((try refine W.a ?_); simp only [go_sem, seval, reduceCtorEq, hby', Option.isSome_none])
                        refine W.no rfl ?_
                        ((try refine W.a ?_); simp only [go_sem, seval, reduceCtorEq])
                        refine .inv ⟨⟨g', ⟨applyL o (tokL t i').pos m.p m'.p, some (o, (tokL t i').pos)⟩, j, 0, 0⟩, .inl ⟨rfl, rfl, hx, hj, Nat.le_of_succ_le hg⟩, by simp, ?_⟩
                        simp only [go_sem, seval, reduceCtorEq, rmadeV, byO_mk, byP_mk, Option.isSome_some]
                        (refine Lew.cutL (rst_ok hok b l t j 0 0) ?_ (by simp) (by simp) ?_ ?_ ?_; exact lee_here; ((try simp only [okB, wkB, go_sem, seval, reduceCtorEq]) <;> omega); (simp only [List.length_cons, List.length_nil, Nat.reduceAdd, List.take_succ_cons, List.take_zero, wkB, and_true]; (repeat' (refine And.intro ?_ ?_)) <;> (first | exact Blk.wk.rfl _ | (refine Blk.wk_cells ?_ rfl; (exact wk_here)))); (repeat' (first | exact LowE.base _ | (refine LowE.put ?_ (by first | exact .c _ | ((try simp only [okB, wkB, go_sem, seval, reduceCtorEq]) <;> omega))))))
                      | some y =>
                        obtain ⟨o2, p2⟩ := y
                        rw [hby'] at hx
                        simp only at hx
                        obtain ⟨hz1, hz2⟩ := byO_some hby'
                        cases hb2 : besideL o o2 2
                        · rw [if_neg (by rw [hb2]; decide)] at hx
                          injection hx with hx
                          subst hx
                          ((try refine W.a ?_); simp only [go_sem, seval, reduceCtorEq, hby', hz1, hz2, Option.isSome_some])
                          (refine W.c1 (ref02_Right w0 o o2 _) ?_; simp only [go_sem, seval, reduceCtorEq, hb2])
                          refine W.yes rfl ?_
                          ((try refine W.a ?_); simp only [go_sem, seval, reduceCtorEq])
                          (refine W.c1 (ref03_fail w0 l t j 32 p2 _ b (hG' hb _ _)) ?_; simp only [go_sem, seval, reduceCtorEq, hS' hb])
                          (refine W.fg (rst_ok hok b l t j 32 p2) (d := rmadeV ⟨Pre.none, none⟩) (by simp only [r250, go_sem, seval, reduceCtorEq, rmade_none, Pre.none]; rfl) (by simp only [resV, go_sem, seval, reduceCtorEq, rmade_none, Pre.none]; exact wk_here) ?_ (hl := by (first | exact .c _ | (simp only [go_sem, seval, reduceCtorEq, rmade_none, Pre.none]; done))))
                          exact ⟨rfl, ⟨Pre.none, none⟩, j, rfl, rfl⟩
                        · rw [if_pos hb2] at hx
                          ((try refine W.a ?_); simp only [go_sem, seval, reduceCtorEq, hby', hz1, hz2, Option.isSome_some])
                          (refine W.c1 (ref02_Right w0 o o2 _) ?_; simp only [go_sem, seval, reduceCtorEq, hb2])
                          refine W.no rfl ?_
                          ((try refine W.a ?_); simp only [go_sem, seval, reduceCtorEq])
                          refine .inv ⟨⟨g', ⟨applyL o (tokL t i').pos m.p m'.p, some (o, (tokL t i').pos)⟩, j, 0, 0⟩, .inl ⟨rfl, rfl, hx, hj, Nat.le_of_succ_le hg⟩, by simp, ?_⟩
                          simp only [go_sem, seval, reduceCtorEq, rmadeV, byO_mk, byP_mk, Option.isSome_some]
                          (refine Lew.cutL (rst_ok hok b l t j 0 0) ?_ (by simp) (by simp) ?_ ?_ ?_; exact lee_here; ((try simp only [okB, wkB, go_sem, seval, reduceCtorEq]) <;> omega); (simp only [List.length_cons, List.length_nil, Nat.reduceAdd, List.take_succ_cons, List.take_zero, wkB, and_true]; (repeat' (refine And.intro ?_ ?_)) <;> (first | exact Blk.wk.rfl _ | (refine Blk.wk_cells ?_ rfl; (exact wk_here)))); (repeat' (first | exact LowE.base _ | (refine LowE.put ?_ (by first | exact .c _ | ((try simp only [okB, wkB, go_sem, seval, reduceCtorEq]) <;> omega))))))
      · ((try refine W.a ?_); simp only [go_sem, seval, reduceCtorEq, hG' hb, rst, he])
        refine W.no rfl ?_
        ((try refine W.a ?_); simp only [go_sem, seval, reduceCtorEq])
        (refine W.fg (rst_ok hok b l t i' e pos) (d := rmadeV ⟨Pre.none, none⟩) (by simp only [r250, go_sem, seval, reduceCtorEq, rmade_none, Pre.none]; rfl) (by simp only [resV, go_sem, seval, reduceCtorEq, rmade_none, Pre.none]; exact wk_here) ?_ (hl := by (first | exact .c _ | (simp only [go_sem, seval, reduceCtorEq, rmade_none, Pre.none]; done))))
        exact ⟨he, ⟨Pre.none, none⟩, i', rfl, rfl⟩
end
section

theorem ref03_all (w0 : World) : ∀ f, (∀ g, g ≤ f → QAtomOK w0 g) ∧ (∀ g, g ≤ f → QExprOK w0 g)
  | 0 => ⟨fun g hg => by
      have : g = 0 := by omega
      subst this
      intro l t depth i r σ b h
      simp [atomF] at h, fun g hg => by
      have : g = 0 := by omega
      subst this
      intro l t least depth i r σ b h
      simp [exprF] at h⟩
  | f + 1 => by
    obtain ⟨h1, h2⟩ := ref03_all w0 f
    refine ⟨fun g hg => ?_, fun g hg => ?_⟩
    · rcases Nat.lt_or_ge f g with h | h
      · have : g = f + 1 := by omega
        subst this
        exact ref03_Atom (h2 f (Nat.le_refl f))
      · exact h1 g h
    · rcases Nat.lt_or_ge f g with h | h
      · have : g = f + 1 := by omega
        subst this
        exact ref03_Expr h1 h2
      · exact h2 g h
theorem ref03_Read (w0 : World) (l : List OpT) (t : List Tok) (i : Nat) (r : Except Bad (Made × Nat)) (σ : H) (h : Lamb.Expr l t 0 0 i r) (hi : i ≤ t.length) (ht : t.length ≤ 1000000) :
    DC Tryz.prog w0 213 [.c (opsC l), .c (toksC t), I i] σ (Same (readV i r) σ) := by
  obtain ⟨f, h⟩ := h
  refine k213.go rfl (fun hok hsz => ?_)
  ((try refine W.a ?_); simp only [go_sem, seval, reduceCtorEq, c213])
  (refine W.call ((ref03_all w0 f).2 f (Nat.le_refl f) l t 0 0 i r _ (σ.length + 1) h (hget σ _ 1) hi ht (by omega)) rfl rfl (by first | rfl | simp) ?_)
  intro v σ1 hR
  cases r with
  | ok x =>
    obtain ⟨m, j⟩ := x
    obtain ⟨rfl, rfl⟩ := hR
    ((try refine W.a ?_); simp only [go_sem, seval, reduceCtorEq, rmadeV, rst])
    refine W.no rfl ?_
    ((try refine W.a ?_); simp only [go_sem, seval, reduceCtorEq])
    (apply W.dregE (List.cons_ne_nil _ _); case hc => ((apply CanonE.advPO; simp only [go_sem, seval, reduceCtorEq, rst]); exact CanonE.nil))
    ((try refine W.a ?_); simp only [go_sem, seval, reduceCtorEq])
    (refine W.fs (hok) (by simp only [r213, go_sem, seval, reduceCtorEq, readV]; rfl) ?_ (hl := by (first | exact .c _ | (simp only [go_sem, seval, reduceCtorEq, readV]; done))); simp only [resV, readV]; try exact V.wk.rfl _)
    (all_goals exact wk_here)
  | error x =>
    obtain ⟨he, m, j, rfl, rfl⟩ := hR
    have hen : (x.e != 0) = true := by rw [bne, he]; rfl
    ((try refine W.a ?_); simp only [go_sem, seval, reduceCtorEq, rmadeV, rst, hen])
    refine W.yes rfl ?_
    ((try refine W.a ?_); simp only [go_sem, seval, reduceCtorEq])
    (apply W.dregE (List.cons_ne_nil _ _); case hc => ((apply CanonE.advPO; simp only [go_sem, seval, reduceCtorEq, rst]); exact CanonE.nil))
    ((try refine W.a ?_); simp only [go_sem, seval, reduceCtorEq])
    (refine W.fs (hok) (by simp only [r213, go_sem, seval, reduceCtorEq, readV, Pre.none]; rfl) ?_ (hl := by (first | exact .c _ | (simp only [go_sem, seval, reduceCtorEq, readV, Pre.none]; done))); simp only [resV, readV, Pre.none]; try exact V.wk.rfl _)
    (all_goals exact wk_here)
end
section
attribute [local go_sem] strsC qdX qdY rs_len rs_g0 rs_g rs_s0 rs_s rs_sv zeroB Typ.v Typ.cs_eq tk_mk tname_mk tn_mk tl_mk tysC

def RQ (t : List Tok) (σ : H) (b v : Nat) (r : SoR) : V → H → Prop := fun d σ' => match r with
  | .ok (s, j, l') => d = s.v ∧ σ' = qd σ b v t (j : Nat) l' 0 0
  | .error x => (x.e == 0) = false ∧ ∃ (s : Sent) (j : Nat) (l' : List OpT), d = s.v ∧ σ' = qd σ b v t j l' x.e x.pos
theorem rnm_out {t : List Tok} {l : List OpT} {σ : H} {b v : Nat} {s : Bool} {i : Nat} {d : V} {σ' : H} (hR : RNm t l σ b v (namesS t s i []) d σ') :
    ∃ (ns : List Tok) (ps : C) (j : Nat) (e p : Int), d = .tup [.c (strsC (ns.map (·.text))), .c ps] ∧ σ' = qd σ b v t (j : Nat) l e p ∧ ((e = 0 ∧ p = 0 ∧ ps = posC ns ∧ j ≤ t.length ∧ namesS t s i [] = .ok (ns, j)) ∨ ((e == 0) = false ∧ namesS t s i [] = .error ⟨e, p⟩)) := by
  cases hn : namesS t s i [] with
  | ok y =>
    obtain ⟨ns, j⟩ := y
    rw [hn] at hR
    obtain ⟨rfl, rfl⟩ := hR
    have hj := namesS_far _ _ _ _ _ (Nat.le_refl _) hn
    exact ⟨ns, _, j, 0, 0, rfl, rfl, .inl ⟨rfl, rfl, rfl, hj.2, rfl⟩⟩
  | error y =>
    rw [hn] at hR
    obtain ⟨he, j, rfl, rfl⟩ := hR
    exact ⟨[], .sl [], j, y.e, y.pos, rfl, rfl, .inr ⟨he, rfl⟩⟩
def sentP (k : Int) (names : List Str) (n pos : Int) : Sent := ⟨k, names, n, .none, .zero, .none, pos⟩
theorem sentP_v (k : Int) (names : List Str) (n pos : Int) : (sentP k names n pos).v = .agg [I k, .c (strsC names), I n, I 0, S [], I 0, .c (.sl []), S [], I 0, I 0, I 0, S [], I 0, .c (.sl []), I 0, I pos] := rfl
theorem qr_kind (w0 : World) (t : List Tok) (ht : t.length ≤ 100000) (i : Nat) (hi : i ≤ t.length) (pos : Int) (l : List OpT) (σ : H) (b v : Nat) (D : Two σ b v) :
    DC Tryz.prog w0 169 [.ptr b 0, I pos] (qd σ b v t i l 0 0) (RQ t σ b v (kindSent t i pos l)) := by
  refine k169.go rfl (fun hok hsz => ?_)
  have hlb := D.lb
  have hlv := D.lv
  generalize hr : kindSent t i pos l = r
  unfold kindSent at hr
  ((try refine W.a ?_); simp only [go_sem, seval, reduceCtorEq, c169, rsA D])
  (refine W.call (DC.liftR D (fun D' => qr_Names w0 t ht false i hi l _ b v D')) rfl rfl (by first | rfl | simp) ?_)
  intro d σ1 hR
  obtain ⟨ns, ps, i0, ee, pp, rfl, rfl, hst0⟩ := rnm_out hR
  ((try refine W.a ?_); simp only [go_sem, seval, reduceCtorEq, rsA D])
  refine W.loopP (fun x : KindSt => x.n ≤ x.i + 5 ∧ ((x.e = 0 ∧ x.p = 0 ∧ x.i ≤ t.length ∧ r = (match kindS t x.i x.n with
      | .error b => .error b
      | .ok (n, k) => endS t ⟨0, ns.map (·.text), n, .none, .zero, .none, pos⟩ k l)) ∨ ((x.e == 0) = false ∧ r = .error ⟨x.e, x.p⟩)))
    (fun x => ⟨(((((base.put (some 0) (.ptr b 0)).put (some 1) (I pos)).put (some 4) (.ptr σ.length 0)).put (some 5) (.c (strsC (ns.map (·.text))))).put (some 7) (I x.n)), qd σ b v t (x.i : Nat) l x.e x.p ++ [zeroB]⟩) (fun x => if x.e = 0 then t.length + 1 - x.i else 0) ⟨0, i0, ee, pp⟩ ?_ ?_ (fun x hx => ?_)
  · refine ⟨Nat.zero_le _, ?_⟩
    rcases hst0 with ⟨h1, h2, _, h3, h4⟩ | ⟨h1, h2⟩
    · left
      rw [h4] at hr
      exact ⟨h1, h2, h3, hr.symm⟩
    · right
      rw [h2] at hr
      exact ⟨h1, hr.symm⟩
  · (refine Lew.env ?_; exact lee_here)
  · obtain ⟨n, j, e, p⟩ := x
    obtain ⟨hnj, hst⟩ := hx
    simp only at hnj hst
    rcases hst with ⟨rfl, rfl, hjl, hr'⟩ | ⟨he, hr'⟩
    · have hwn : IntKind.i64.wrap ((n : Int) + 1) = ((n + 1 : Nat) : Int) := by rw [wrap_in] <;> omega
      have ht1 : isHere 1 [116, 121, 112, 101] (tokL t j) = typeHere (tokL t j) := rfl
      have ha1 : ∀ x, isHere 4 [45, 62] x = arrowHere x := fun _ => rfl
      rw [kindS_eq] at hr'
      ((try refine W.a ?_); simp only [go_sem, seval, reduceCtorEq, rsA D])
      refine W.yes rfl ?_
      ((try refine W.a ?_); simp only [go_sem, seval, reduceCtorEq, rsA D])
      cases hty : typeHere (tokL t j)
      · rw [hty, if_neg (by decide)] at hr'
        subst hr'
        (refine W.c1 (DC.lift D (fun D' => qr_word w0 t j (by omega) l 0 0 1 [116, 121, 112, 101] _ b v D')) ?_; simp only [go_sem, seval, reduceCtorEq, rsA D, ht1, hty])
        refine W.yes rfl ?_
        ((try refine W.a ?_); simp only [go_sem, seval, reduceCtorEq, rsA D])
        (refine W.c1 (DC.lift D (fun D' => qr_tok w0 t j l 0 0 _ b v D')) ?_; simp only [go_sem, seval, reduceCtorEq, rsA D])
        (refine W.c1 (DC.lift D (fun D' => qr_fail w0 t j l 0 0 100 (tokL t j).pos _ b v D')) ?_; simp only [go_sem, seval, reduceCtorEq, rsA D, if_true])
        refine W.no rfl ?_
        ((try refine W.a ?_); simp only [go_sem, seval, reduceCtorEq, rsA D])
        (refine W.fg (qd_ok D hok t (j : Nat) l 100 (tokL t j).pos) (d := (sentP 0 (ns.map (·.text)) n pos).v) (by simp only [r169, go_sem, seval, reduceCtorEq, sentP_v, strsC]; rfl) (by simp only [resV, go_sem, seval, reduceCtorEq, sentP_v, strsC]; exact wk_here) ?_ (hl := by (first | exact .c _ | (simp only [go_sem, seval, reduceCtorEq, sentP_v, strsC]; done))))
        exact ⟨rfl, _, _, _, rfl, rfl⟩
      · rw [hty, if_pos rfl] at hr'
        have hjt : j < t.length := tokL_lt fun e => by rw [typeHere, e] at hty; simp at hty
        (refine W.c1 (DC.lift D (fun D' => qr_word w0 t j (by omega) l 0 0 1 [116, 121, 112, 101] _ b v D')) ?_; simp only [go_sem, seval, reduceCtorEq, rsA D, ht1, hty, if_true])
        refine W.no rfl ?_
        ((try refine W.a ?_); simp only [go_sem, seval, reduceCtorEq, rsA D])
        cases har : arrowHere (tokL t (j + 1))
        · rw [har, if_neg (by decide)] at hr'
          simp only at hr'
          unfold endS at hr'
          (refine W.c1 (DC.lift D (fun D' => qr_word w0 t (j + 1) (by omega) l 0 0 4 [45, 62] _ b v D')) ?_; simp only [go_sem, seval, reduceCtorEq, rsA D, ha1, har])
          refine W.yes rfl ?_
          ((try refine W.a ?_); simp only [go_sem, seval, reduceCtorEq, rsA D])
          refine W.yes rfl ?_
          ((try refine W.a ?_); simp only [go_sem, seval, reduceCtorEq, rsA D])
          by_cases h7 : (tokL t (j + 1)).kind = 7
          · rw [if_pos h7] at hr'
            subst hr'
            (refine W.c1 (DC.lift D (fun D' => qr_end w0 t (j + 1) (by omega) l _ b v D')) ?_; simp only [go_sem, seval, reduceCtorEq, rsA D, if_pos h7])
            (refine W.fg (qd_ok D hok t ((j + 2 : Nat) : Int) l 0 0) (d := (sentP 0 (ns.map (·.text)) n pos).v) (by simp only [r169, go_sem, seval, reduceCtorEq, sentP_v, strsC]; rfl) (by simp only [resV, go_sem, seval, reduceCtorEq, sentP_v, strsC]; exact wk_here) ?_ (hl := by (first | exact .c _ | (simp only [go_sem, seval, reduceCtorEq, sentP_v, strsC]; done))))
            exact ⟨rfl, rfl⟩
          · rw [if_neg h7] at hr'
            subst hr'
            (refine W.c1 (DC.lift D (fun D' => qr_end w0 t (j + 1) (by omega) l _ b v D')) ?_; simp only [go_sem, seval, reduceCtorEq, rsA D, if_neg h7])
            (refine W.fg (qd_ok D hok t ((j + 1 : Nat) : Int) l 101 (tokL t (j + 1)).pos) (d := (sentP 0 (ns.map (·.text)) n pos).v) (by simp only [r169, go_sem, seval, reduceCtorEq, sentP_v, strsC]; rfl) (by simp only [resV, go_sem, seval, reduceCtorEq, sentP_v, strsC]; exact wk_here) ?_ (hl := by (first | exact .c _ | (simp only [go_sem, seval, reduceCtorEq, sentP_v, strsC]; done))))
            exact ⟨rfl, _, _, _, rfl, rfl⟩
        · rw [har, if_pos rfl] at hr'
          have hjt2 : j + 1 < t.length := tokL_lt fun e => by rw [arrowHere, e] at har; simp at har
          (refine W.c1 (DC.lift D (fun D' => qr_word w0 t (j + 1) (by omega) l 0 0 4 [45, 62] _ b v D')) ?_; simp only [go_sem, seval, reduceCtorEq, rsA D, ha1, har, if_true])
          refine W.no rfl ?_
          ((try refine W.a ?_); simp only [go_sem, seval, reduceCtorEq, rsA D, hwn])
          refine .inv ⟨⟨n + 1, j + 2, 0, 0⟩, ⟨by show n + 1 ≤ j + 2 + 5; omega, .inl ⟨rfl, rfl, by show j + 2 ≤ t.length; omega, hr'⟩⟩, by simp only [if_true]; omega, ?_⟩
          (refine Lew.env ?_; exact lee_here)
    · subst hr'
      ((try refine W.a ?_); simp only [go_sem, seval, reduceCtorEq, rsA D, he])
      refine W.no rfl ?_
      ((try refine W.a ?_); simp only [go_sem, seval, reduceCtorEq, rsA D, he])
      refine W.no rfl ?_
      ((try refine W.a ?_); simp only [go_sem, seval, reduceCtorEq, rsA D])
      (refine W.fg (qd_ok D hok t (j : Nat) l e p) (d := (sentP 0 (ns.map (·.text)) n pos).v) (by simp only [r169, go_sem, seval, reduceCtorEq, sentP_v, strsC]; rfl) (by simp only [resV, go_sem, seval, reduceCtorEq, sentP_v, strsC]; exact wk_here) ?_ (hl := by (first | exact .c _ | (simp only [go_sem, seval, reduceCtorEq, sentP_v, strsC]; done))))
      exact ⟨he, _, _, _, rfl, rfl⟩
theorem qr_types (w0 : World) (t : List Tok) (ht : t.length ≤ 100000) (i : Nat) (hi : i ≤ t.length) (pos : Int) (l : List OpT) (σ : H) (b v : Nat) (D : Two σ b v) :
    DC Tryz.prog w0 170 [.ptr b 0, I pos] (qd σ b v t i l 0 0) (RQ t σ b v (typeSent t i pos l)) := by
  refine k170.go rfl (fun hok hsz => ?_)
  have hlb := D.lb
  have hlv := D.lv
  generalize hr : typeSent t i pos l = r
  unfold typeSent at hr
  ((try refine W.a ?_); simp only [go_sem, seval, reduceCtorEq, c170, rsA D])
  (refine W.call (DC.liftR D (fun D' => qr_Names w0 t ht true i hi l _ b v D')) rfl rfl (by first | rfl | simp) ?_)
  intro d σ1 hR
  obtain ⟨ns, ps, j, e, p, rfl, rfl, hst⟩ := rnm_out hR
  ((try refine W.a ?_); simp only [go_sem, seval, reduceCtorEq, rsA D])
  rcases hst with ⟨rfl, rfl, _, hj, hn⟩ | ⟨he, hn⟩
  · rw [hn] at hr
    simp only at hr
    refine W.no rfl ?_
    ((try refine W.a ?_); simp only [go_sem, seval, reduceCtorEq, rsA D])
    cases hty : tyT t j with
    | error x =>
      rw [hty] at hr
      subst hr
      have hxe := tyT_err (by omega) hty
      have hxn : (x.e != 0) = true := by rw [bne, hxe]; rfl
      have hf : tyFrom t (j : Int) = .error x := by rw [tyFrom_nat hj, hty]
      apply W.dregE (List.cons_ne_nil _ _)
      case hc =>
        (apply CanonE.advPO; simp only [go_sem, seval, reduceCtorEq, rsA D])
        (apply CanonE.pcall (fun τ => ref05_Read w0 t j (by omega) τ); (case hg => rfl); (case hf => rfl); (case ha => first | rfl | simp))
        (apply CanonE.advPO; simp only [go_sem, seval, reduceCtorEq, rsA D, hf, tyReadV, Typ.none])
        exact CanonE.nil
      ((try refine W.a ?_); simp only [go_sem, seval, reduceCtorEq, rsA D, hxn])
      refine W.yes rfl ?_
      ((try refine W.a ?_); simp only [go_sem, seval, reduceCtorEq, rsA D])
      (refine W.c1 (DC.lift D (fun D' => qr_fail w0 t j l 0 0 x.e x.pos _ b v D')) ?_; simp only [go_sem, seval, reduceCtorEq, rsA D, if_true])
      (refine W.fg (qd_ok D hok t (j : Nat) l x.e x.pos) (d := (sentP 0 [] 0 0).v) (by simp only [r170, go_sem, seval, reduceCtorEq, sentP_v, strsC]; rfl) (by simp only [resV, go_sem, seval, reduceCtorEq, sentP_v, strsC]; exact wk_here) ?_ (hl := by (first | exact .c _ | (simp only [go_sem, seval, reduceCtorEq, sentP_v, strsC]; done))))
      exact ⟨hxe, _, _, _, rfl, rfl⟩
    | ok x =>
      obtain ⟨u, k, ws⟩ := x
      rw [hty] at hr
      simp only at hr
      unfold endS at hr
      have hk := tyT_far hty
      have hf : tyFrom t (j : Int) = .ok (u, k, ws) := by rw [tyFrom_nat hj, hty]
      apply W.dregE (List.cons_ne_nil _ _)
      case hc =>
        (apply CanonE.advPO; simp only [go_sem, seval, reduceCtorEq, rsA D])
        (apply CanonE.pcall (fun τ => ref05_Read w0 t j (by omega) τ); (case hg => rfl); (case hf => rfl); (case ha => first | rfl | simp))
        (apply CanonE.advPO; simp only [go_sem, seval, reduceCtorEq, rsA D, hf, tyReadV])
        exact CanonE.nil
      ((try refine W.a ?_); simp only [go_sem, seval, reduceCtorEq, rsA D])
      refine W.no rfl ?_
      ((try refine W.a ?_); simp only [go_sem, seval, reduceCtorEq, rsA D])
      by_cases h7 : (tokL t k).kind = 7
      · rw [if_pos h7] at hr
        subst hr
        (refine W.c1 (DC.lift D (fun D' => qr_end w0 t k (by omega) l _ b v D')) ?_; simp only [go_sem, seval, reduceCtorEq, rsA D, if_pos h7])
        (refine W.fg (qd_ok D hok t ((k + 1 : Nat) : Int) l 0 0) (d := (⟨1, ns.map (·.text), 0, u, .zero, .none, pos⟩ : Sent).v) (by simp only [r170, go_sem, seval, reduceCtorEq, sent_v, strsC, OpT.zero, Pre.none]; rfl) (by simp only [resV, go_sem, seval, reduceCtorEq, sent_v, strsC, OpT.zero, Pre.none]; exact wk_here) ?_ (hl := by (first | exact .c _ | (simp only [go_sem, seval, reduceCtorEq, sent_v, strsC, OpT.zero, Pre.none]; done))))
        exact ⟨rfl, rfl⟩
      · rw [if_neg h7] at hr
        subst hr
        (refine W.c1 (DC.lift D (fun D' => qr_end w0 t k (by omega) l _ b v D')) ?_; simp only [go_sem, seval, reduceCtorEq, rsA D, if_neg h7])
        (refine W.fg (qd_ok D hok t (k : Nat) l 101 (tokL t k).pos) (d := (⟨1, ns.map (·.text), 0, u, .zero, .none, pos⟩ : Sent).v) (by simp only [r170, go_sem, seval, reduceCtorEq, sent_v, strsC, OpT.zero, Pre.none]; rfl) (by simp only [resV, go_sem, seval, reduceCtorEq, sent_v, strsC, OpT.zero, Pre.none]; exact wk_here) ?_ (hl := by (first | exact .c _ | (simp only [go_sem, seval, reduceCtorEq, sent_v, strsC, OpT.zero, Pre.none]; done))))
        exact ⟨rfl, _, _, _, rfl, rfl⟩
  · rw [hn] at hr
    subst hr
    have hb : (e != 0) = true := by rw [bne, he]; rfl
    ((try refine W.a ?_); simp only [go_sem, seval, reduceCtorEq, rsA D, hb])
    refine W.yes rfl ?_
    ((try refine W.a ?_); simp only [go_sem, seval, reduceCtorEq, rsA D])
    (refine W.fg (qd_ok D hok t (j : Nat) l e p) (d := (sentP 0 [] 0 0).v) (by simp only [r170, go_sem, seval, reduceCtorEq, sentP_v, strsC]; rfl) (by simp only [resV, go_sem, seval, reduceCtorEq, sentP_v, strsC]; exact wk_here) ?_ (hl := by (first | exact .c _ | (simp only [go_sem, seval, reduceCtorEq, sentP_v, strsC]; done))))
    exact ⟨he, _, _, _, rfl, rfl⟩
theorem ref03_ReadO (w0 : World) (l : List OpT) (t : List Tok) (i v : Nat) (r : Except Bad (Made × Nat)) (σ : H) (h : Lamb.Expr l t 0 0 i r) (hi : i ≤ t.length) (ht : t.length ≤ 1000000) :
    DC Tryz.prog w0 213 [.osl v (l.map OpT.cs), .c (toksC t), I i] σ (Same (readV i r) σ) :=
  (ref03_Read w0 l t i r σ h hi ht).weakA (wk_agg_cons (.osl _ _) (wk_agg_cons (.rfl _) (wk_agg_cons (.rfl _) wk_agg_nil)))
theorem qr_clause (w0 : World) (t : List Tok) (ht : t.length ≤ 100000) (i : Nat) (hi : i ≤ t.length) (pos : Int) (l : List OpT) (σ : H) (b v : Nat) (D : Two σ b v) :
    DC Tryz.prog w0 172 [.ptr b 0, I pos] (qd σ b v t i l 0 0) (RQ t σ b v (clauseSent t i pos l)) := by
  refine k172.go rfl (fun hok hsz => ?_)
  have hlb := D.lb
  have hlv := D.lv
  generalize hr : clauseSent t i pos l = r
  unfold clauseSent at hr
  ((try refine W.a ?_); simp only [go_sem, seval, reduceCtorEq, c172, rsA D])
  have hE := exprT_is l t i
  cases hx : exprT l t i with
  | error x =>
    rw [hx] at hr hE
    subst hr
    have hxn := Lamb.Expr.err hE
    have hxe : (x.e == 0) = false := by rw [bne] at hxn; simpa using hxn
    apply W.dregE (List.cons_ne_nil _ _)
    case hc =>
      (apply CanonE.advPO; simp only [go_sem, seval, reduceCtorEq, rsA D])
      (apply CanonE.pcall (fun τ => ref03_ReadO w0 l t i v _ τ hE hi (by omega)); (case hg => rfl); (case hf => rfl); (case ha => first | rfl | simp))
      (apply CanonE.advPO; simp only [go_sem, seval, reduceCtorEq, rsA D, readV, Pre.none])
      exact CanonE.nil
    ((try refine W.a ?_); simp only [go_sem, seval, reduceCtorEq, rsA D, hxn])
    refine W.yes rfl ?_
    ((try refine W.a ?_); simp only [go_sem, seval, reduceCtorEq, rsA D])
    (refine W.c1 (DC.lift D (fun D' => qr_fail w0 t i l 0 0 x.e x.pos _ b v D')) ?_; simp only [go_sem, seval, reduceCtorEq, rsA D, if_true])
    (refine W.fg (qd_ok D hok t (i : Nat) l x.e x.pos) (d := (sentP 0 [] 0 0).v) (by simp only [r172, go_sem, seval, reduceCtorEq, sentP_v, strsC]; rfl) (by simp only [resV, go_sem, seval, reduceCtorEq, sentP_v, strsC]; exact wk_here) ?_ (hl := by (first | exact .c _ | (simp only [go_sem, seval, reduceCtorEq, sentP_v, strsC]; done))))
    exact ⟨hxe, _, _, _, rfl, rfl⟩
  | ok x =>
    obtain ⟨m, k⟩ := x
    rw [hx] at hr hE
    simp only at hr
    unfold endS at hr
    have hk := exprT_far hx
    apply W.dregE (List.cons_ne_nil _ _)
    case hc =>
      (apply CanonE.advPO; simp only [go_sem, seval, reduceCtorEq, rsA D])
      (apply CanonE.pcall (fun τ => ref03_ReadO w0 l t i v _ τ hE hi (by omega)); (case hg => rfl); (case hf => rfl); (case ha => first | rfl | simp))
      (apply CanonE.advPO; simp only [go_sem, seval, reduceCtorEq, rsA D, readV])
      exact CanonE.nil
    ((try refine W.a ?_); simp only [go_sem, seval, reduceCtorEq, rsA D])
    refine W.no rfl ?_
    ((try refine W.a ?_); simp only [go_sem, seval, reduceCtorEq, rsA D])
    by_cases h7 : (tokL t k).kind = 7
    · rw [if_pos h7] at hr
      subst hr
      (refine W.c1 (DC.lift D (fun D' => qr_end w0 t k (by omega) l _ b v D')) ?_; simp only [go_sem, seval, reduceCtorEq, rsA D, if_pos h7])
      (refine W.fg (qd_ok D hok t ((k + 1 : Nat) : Int) l 0 0) (d := (⟨3, [], 0, .none, .zero, m.p, pos⟩ : Sent).v) (by simp only [r172, go_sem, seval, reduceCtorEq, sent_v, strsC, OpT.zero, Typ.none, tk_mk, tname_mk, tn_mk, tl_mk]; rfl) (by simp only [resV, go_sem, seval, reduceCtorEq, sent_v, strsC, OpT.zero, Typ.none, tk_mk, tname_mk, tn_mk, tl_mk]; exact wk_here) ?_ (hl := by (first | exact .c _ | (simp only [go_sem, seval, reduceCtorEq, sent_v, strsC, OpT.zero, Typ.none, tk_mk, tname_mk, tn_mk, tl_mk]; done))))
      exact ⟨rfl, rfl⟩
    · rw [if_neg h7] at hr
      subst hr
      (refine W.c1 (DC.lift D (fun D' => qr_end w0 t k (by omega) l _ b v D')) ?_; simp only [go_sem, seval, reduceCtorEq, rsA D, if_neg h7])
      (refine W.fg (qd_ok D hok t (k : Nat) l 101 (tokL t k).pos) (d := (⟨3, [], 0, .none, .zero, m.p, pos⟩ : Sent).v) (by simp only [r172, go_sem, seval, reduceCtorEq, sent_v, strsC, OpT.zero, Typ.none, tk_mk, tname_mk, tn_mk, tl_mk]; rfl) (by simp only [resV, go_sem, seval, reduceCtorEq, sent_v, strsC, OpT.zero, Typ.none, tk_mk, tname_mk, tn_mk, tl_mk]; exact wk_here) ?_ (hl := by (first | exact .c _ | (simp only [go_sem, seval, reduceCtorEq, sent_v, strsC, OpT.zero, Typ.none, tk_mk, tname_mk, tn_mk, tl_mk]; done))))
      exact ⟨rfl, _, _, _, rfl, rfl⟩
end
end Go.Proofs.YtlogjjnimlnpkaaGreatDoor

/-
  Walks: types with greater variables, with others in their place, and numbered anew.
  Walks: the document's answer for types with greater variables, and with others in their place.
  Walks: numbers as texts; texts joined; a text in brackets.
  Walks: a type's text.
  Walks: the document's example of a type; which types are more than is looked at.
  Walks: the document's answer for types whose variables are numbered anew; the statement TyChanges.
  Walks: the statement TyBack.
-/
import Derived.Test.YtohcnohllbjlcaaGreatDoorQJ27
import Derived.Test.YtohcnohllbjlcaaGreatDoorQLexG
import Derived.Test.YtohcnohllbjlcaaGreatDoorQJ12
import Derived.Test.YtohcnohllbjlcaaGreatDoorQTyA2
import Derived.Lib.ItoaLen
import Derived.Lib.Join
import Derived.Test.YtohcnohllbjlcaaGreatDoorQLxD
set_option linter.unusedSimpArgs false
set_option linter.unusedVariables false
set_option maxHeartbeats 8000000
set_option maxRecDepth 20000
namespace Go.Lamb
open Go Go.RowKit
/-- Met variables, as a map's entries. -/
def kvsF (n : Nat) : List Int → List (C × C)
  | [] => []
  | x :: l => (.int .i64 x, .int .i64 n) :: kvsF (n + 1) l
theorem kvs_len : ∀ (l : List Int) (n : Nat), (kvsF n l).length = l.length
  | [], n => rfl
  | x :: l, n => by rw [kvsF, List.length_cons, List.length_cons, kvs_len l]
theorem kvs_ok : ∀ (l : List Int) (n : Nat), ((kvsF n l).all fun p => (KD.i .i64).ok p.1) = true
  | [], n => rfl
  | x :: l, n => by rw [kvsF, List.all_cons, kvs_ok l]; rfl
theorem kvs_no {v : Int} : ∀ (l : List Int) (n : Nat), (∀ j (hj : j < l.length), (l[j] == v) = false) → findC (.int .i64 v) (kvsF n l) = none ∧ ∀ y, updC (.int .i64 v) y (kvsF n l) = kvsF n l ++ [(.int .i64 v, y)]
  | [], n, _ => ⟨rfl, fun y => rfl⟩
  | x :: l, n, h => by
    have h0 := h 0 (by simp)
    simp only [List.getElem_cons_zero] at h0
    have he : eqK (.int .i64 v) (.int .i64 x) = false := by
      show (v == x) = false
      simp only [beq_eq_false_iff_ne] at h0 ⊢
      exact fun e => h0 e.symm
    obtain ⟨h1, h2⟩ := kvs_no l (n + 1) (fun j hj => by have := h (j + 1) (Nat.succ_lt_succ hj); rwa [List.getElem_cons_succ] at this)
    exact ⟨by rw [kvsF, findC, he]; exact h1, fun y => by rw [kvsF, updC, he]; show _ :: updC _ y _ = _; rw [h2]; rfl⟩
theorem kvs_yes {v : Int} : ∀ (l : List Int) (n k : Nat) (hk : k < l.length), l[k] = v → (∀ j (hj : j < l.length), j < k → (l[j] == v) = false) → findC (.int .i64 v) (kvsF n l) = some (.int .i64 ((n + k : Nat) : Int))
  | [], n, k, hk, _, _ => by simp at hk
  | x :: l, n, 0, hk, h, _ => by
    simp only [List.getElem_cons_zero] at h
    subst h
    have he : eqK (.int .i64 x) (.int .i64 x) = true := by show (x == x) = true; simp
    rw [kvsF, findC, he]; rfl
  | x :: l, n, k + 1, hk, h, h' => by
    have h0 := h' 0 (by simp) (by omega)
    simp only [List.getElem_cons_zero] at h0
    have he : eqK (.int .i64 v) (.int .i64 x) = false := by
      show (v == x) = false
      simp only [beq_eq_false_iff_ne] at h0 ⊢
      exact fun e => h0 e.symm
    have := kvs_yes l (n + 1) k (by simpa using hk) (by simpa using h) (fun j hj hjk => by have := h' (j + 1) (Nat.succ_lt_succ hj) (by omega); rwa [List.getElem_cons_succ] at this)
    rw [kvsF, findC, he]
    simp only [Bool.false_eq_true, if_false]
    rw [this]
    congr 3
    omega
theorem kvs_snoc (x : Int) : ∀ (l : List Int) (n : Nat), kvsF n (l ++ [x]) = kvsF n l ++ [(.int .i64 x, .int .i64 ((n + l.length : Nat) : Int))]
  | [], n => rfl
  | y :: l, n => by
    rw [List.cons_append, kvsF, kvsF, kvs_snoc x l, List.cons_append, List.length_cons]
    congr 5
    omega
theorem ok_setM {σ : H} (h : H.ok σ) (m : Nat) (kvs : List (C × C)) : H.ok (σ.set m (.mp kvs)) := by
  intro b hb cs tg hc x hx
  rw [List.length_set]
  rcases List.mem_or_eq_of_mem_set hb with hb | hb
  · exact h b hb cs tg hc x hx
  · rw [hb] at hc; cases hc
end Go.Lamb
namespace Go.Proofs.YtohcnohllbjlcaaGreatDoor
open Go.RowKit Go.Lamb
attribute [local go_sem] advO_skip advO_reg advO_seq advO_block advO_exit advO_endb advO_opsNil advO_ops advG_yes advG_no advG_none advS_some advS_none advO_cond advO_loop advO_dreg advO_ret advO_bad advO_inv advO_nil advO_zero wantedV Lamb.step ev_t ev_k put_some put_none argEnv popTo cellsAt V.cellsV V.rows V.toC toCs fillV bytesC byteRows appV rowsV boundV boundL binV binInt binStr eqC eqL V.isNil leaves V.leaf Ins.quiet Ins.pure List.getD_cons_zero List.getD_cons_succ List.getD_nil List.all_cons List.all_nil List.length_cons List.length_nil List.take_succ_cons List.take_zero List.drop_succ_cons List.drop_zero List.cons_append List.nil_append List.append_nil List.append_assoc List.map_cons List.map_nil List.getElem?_cons_zero List.getElem?_cons_succ List.length_append List.length_set hget0 hget hset0 hset hsets hgs0 hgs hss0 hss List.set_cons_zero List.set_cons_succ List.forall_mem_cons List.not_mem_nil false_implies implies_true Option.map_some Bool.and_true Bool.true_and Bool.not_not Bool.not_true Bool.not_false Bool.and_self Bool.or_true Bool.true_or Bool.or_false Bool.false_or Bool.and_false Bool.false_and Bool.false_eq_true beq_self_eq_true and_self and_true true_and if_true if_false Nat.zero_add Nat.add_zero Nat.le_refl Int.toNat_natCast decide_true decide_false beq_t beq_f List.length_map List.getElem?_map I S B opsC toksC OpT.v OpT.cs OpT.zero Tok.v Tok.cs Pre.v Pre.cs_eq k_mk name_mk n_mk l_mk pos_mk Pre.app applyL natCast0 natCast1 natCast2 AOp.o AOp.m AOp.f AOp.l AOp.d AOp.n AOp.x AOp.s AOp.k AOp.y AOp.z EOp.q low_c low_void low_any low_csl low_nilf low_ptr low_osl low_agg low_tup low_fn resEval advPO_nil advPO_loud advPO_quiet pL_yes pL_no pLS_some pLS_none pQ_yes pQ_no pQS_some pQS_loud eq_self Nat.sub_zero
attribute [local go_sem] Typ.v Typ.cs_eq tk_mk tname_mk tn_mk tl_mk tysC

theorem ty_Norm1 (w0 : World) (vs : List Int) (v : Int) (σ : H) (b m : Nat) (hb : σ[b]? = some (.cells [.mp m])) (hm : σ[m]? = some (.mp (kvsF 0 vs))) : DC Tryz.prog w0 71 [I v, .ptr b 0] σ (Same (Typ.var (inum vs v)).v (σ.set m (.mp (kvsF 0 (iadd vs v))))) := by
  refine k71.go rfl (fun hok hsz => ?_)
  have hko : (KD.i IntKind.i64).ok (C.int IntKind.i64 v) = true := rfl
  have hka := kvs_ok vs 0
  rcases inum_cases vs v with ⟨h1, h2, h3⟩ | ⟨hk, h2, h3, h4⟩
  · obtain ⟨f1, f2⟩ := kvs_no vs 0 h3
    have f2' := f2 (.int .i64 ((vs.length : Nat) : Int))
    have f3 := kvs_snoc v vs 0
    rw [Nat.zero_add] at f3
    have hl := kvs_len vs 0
    rw [h2, f3, h1]
    have hs : ∀ X, (σ.set m X)[m]? = some X := fun X => hgets X (List.getElem?_eq_some_iff.1 hm).1
    ((try refine W.a ?_); simp only [go_sem, seval, reduceCtorEq, c71, hG hb, hG hm, hko, hka, f1, lookV, Option.getD_none, Option.isSome_none])
    refine W.yes rfl ?_
    ((try refine W.a ?_); simp only [go_sem, seval, reduceCtorEq, hG hb, hG hm, hko, hka, hl, f2', hS hm])
    (refine W.c1 (ty_variable1 w0 (vs.length : Int) _) ?_; simp only [go_sem, seval, reduceCtorEq, Typ.var])
    (refine W.fg (ok_setM hok m _) (d := (Typ.var (vs.length : Int)).v) (by simp only [r71, go_sem, seval, reduceCtorEq, Typ.var]; rfl) (by simp only [resV, go_sem, seval, reduceCtorEq, Typ.var]; exact wk_here) ?_ (hl := by (first | exact .c _ | (simp only [go_sem, seval, reduceCtorEq, Typ.var]; done))))
    exact ⟨rfl, rfl⟩
  · have f1 := kvs_yes vs 0 _ hk h3 h4
    rw [Nat.zero_add] at f1
    rw [h2, set_here hm]
    generalize inum vs v = k at *
    ((try refine W.a ?_); simp only [go_sem, seval, reduceCtorEq, c71, hG hb, hG hm, hko, hka, f1, lookV, Option.getD_some, Option.isSome_some])
    refine W.no rfl ?_
    ((try refine W.a ?_); simp only [go_sem, seval, reduceCtorEq])
    (refine W.c1 (ty_variable1 w0 (k : Int) _) ?_; simp only [go_sem, seval, reduceCtorEq, Typ.var])
    (refine W.fg (hok) (d := (Typ.var (k : Int)).v) (by simp only [r71, go_sem, seval, reduceCtorEq, Typ.var]; rfl) (by simp only [resV, go_sem, seval, reduceCtorEq, Typ.var]; exact wk_here) ?_ (hl := by (first | exact .c _ | (simp only [go_sem, seval, reduceCtorEq, Typ.var]; done))))
    exact ⟨rfl, rfl⟩
theorem okMp {A B : H} {k k' : List (C × C)} (h : H.ok (A ++ Blk.mp k :: B)) : H.ok (A ++ Blk.mp k' :: B) := by
  intro b hb cs tg hc x hx
  have hl : (A ++ Blk.mp k' :: B).length = (A ++ Blk.mp k :: B).length := by simp
  rw [hl]
  rcases List.mem_append.1 hb with hb | hb
  · exact h b (List.mem_append_left _ hb) cs tg hc x hx
  · rcases List.mem_cons.1 hb with hb | hb
    · rw [hb] at hc; cases hc
    · exact h b (List.mem_append_right _ (List.mem_cons_of_mem _ hb)) cs tg hc x hx
theorem ty_Norm (w0 : World) (p : Typ) (hp : nodesT p ≤ 1000000) (σ : H) : DC Tryz.prog w0 37 [p.v] σ (Same (normT p).v σ) := by
  refine k37.go rfl (fun hok hsz => ?_)
  have hR : Repl w0 normG (.fn 71 [.ptr (σ.length + 3) 0]) (fun vs : List Int => σ ++ [.cells p.v.cellsV, .cells [I 0, S [], I 0, .csl []], .mp (kvsF 0 vs), .cells [.mp (σ.length + 2)]]) (σ.length + 4) := by
    refine ⟨fun _ => by simp, fun s s' L h => ?_, (low_fn _ _ _).2 (fun x hx => by simp only [List.mem_singleton] at hx; subst hx; exact .ptr (by omega)), _, _, rfl, fun L vs v => ?_⟩
    · have e : ∀ s, σ ++ [.cells p.v.cellsV, .cells [I 0, S [], I 0, .csl []], .mp (kvsF 0 s), .cells [.mp (σ.length + 2)]] ++ L = (σ ++ [.cells p.v.cellsV, .cells [I 0, S [], I 0, .csl []]]) ++ Blk.mp (kvsF 0 s) :: (.cells [.mp (σ.length + 2)] :: L) := fun s => by simp
      rw [e] at h ⊢
      exact okMp h
    · have h1 := ty_Norm1 w0 vs v (σ ++ [.cells p.v.cellsV, .cells [I 0, S [], I 0, .csl []], .mp (kvsF 0 vs), .cells [.mp (σ.length + 2)]] ++ L) (σ.length + 3) (σ.length + 2) (by rw [List.append_assoc, hget]; rfl) (by rw [List.append_assoc, hget]; rfl)
      rw [List.append_assoc, hset] at h1
      rw [List.append_assoc, List.append_assoc]
      exact h1
  have hc := ty_replaceG w0 normG _ p hp _ _ hR []
  unfold normT
  generalize subS normG [] p = u at hc ⊢
  ((try refine W.a ?_); simp only [go_sem, seval, reduceCtorEq, c37])
  (refine W.c1 (hc) ?_; simp only [go_sem, seval, reduceCtorEq])
  (refine W.fg (hok) (d := u.1.v) (by simp only [r37, go_sem, seval, reduceCtorEq]; rfl) (by simp only [resV, go_sem, seval, reduceCtorEq]; exact wk_here) ?_)
  exact ⟨rfl, rfl⟩
end Go.Proofs.YtohcnohllbjlcaaGreatDoor
namespace Go.Proofs.YtohcnohllbjlcaaGreatDoor
open Go.RowKit Go.Lamb
attribute [local go_sem] advO_skip advO_reg advO_seq advO_block advO_exit advO_endb advO_opsNil advO_ops advG_yes advG_no advG_none advS_some advS_none advO_cond advO_loop advO_dreg advO_ret advO_bad advO_inv advO_nil advO_zero wantedV Lamb.step ev_t ev_k put_some put_none argEnv popTo cellsAt V.cellsV V.rows V.toC toCs fillV bytesC byteRows appV rowsV boundV boundL binV binInt binStr eqC eqL V.isNil leaves V.leaf Ins.quiet Ins.pure List.getD_cons_zero List.getD_cons_succ List.getD_nil List.all_cons List.all_nil List.length_cons List.length_nil List.take_succ_cons List.take_zero List.drop_succ_cons List.drop_zero List.cons_append List.nil_append List.append_nil List.append_assoc List.map_cons List.map_nil List.getElem?_cons_zero List.getElem?_cons_succ List.length_append List.length_set hget0 hget hset0 hset hsets hgs0 hgs hss0 hss List.set_cons_zero List.set_cons_succ List.forall_mem_cons List.not_mem_nil false_implies implies_true Option.map_some Bool.and_true Bool.true_and Bool.not_not Bool.not_true Bool.not_false Bool.and_self Bool.or_true Bool.true_or Bool.or_false Bool.false_or Bool.and_false Bool.false_and Bool.false_eq_true beq_self_eq_true and_self and_true true_and if_true if_false Nat.zero_add Nat.add_zero Nat.le_refl Int.toNat_natCast decide_true decide_false beq_t beq_f List.length_map List.getElem?_map I S B opsC toksC OpT.v OpT.cs OpT.zero Tok.v Tok.cs Pre.v Pre.cs_eq k_mk name_mk n_mk l_mk pos_mk Pre.app applyL natCast0 natCast1 natCast2 AOp.o AOp.m AOp.f AOp.l AOp.d AOp.n AOp.x AOp.s AOp.k AOp.y AOp.z EOp.q low_c low_void low_any low_csl low_nilf low_ptr low_osl low_agg low_tup low_fn resEval advPO_nil advPO_loud advPO_quiet pL_yes pL_no pLS_some pLS_none pQ_yes pQ_no pQS_some pQS_loud eq_self Nat.sub_zero
section
attribute [local go_sem] Typ.v Typ.cs_eq tk_mk tname_mk tn_mk tl_mk tysC

end
section

theorem strconv_ItoaD {w0 : World} (hG : Glob w0) (n : Int) (h0 : -9223372036854775808 ≤ n) (h1 : n ≤ 9223372036854775807) (σ : H) : DC Tryz.prog w0 75 [I n] σ (Same (S (Lib.itoa n)) σ) := by
  refine DC.of_calls (enters_fn Tryz.func75 (by kernel_rfl) rfl) fun κ w vs hrep hfit => ?_
  obtain ⟨v, ys, rfl, hv, hfit⟩ := hfit.cons_inv
  have := hfit.nil_inv
  subst this
  cases hv with
  | c hv =>
    cases hv with
    | int _ _ =>
      refine ⟨_, .c (.str _ (by have := Lib.itoa_length_le n h0 h1; unfold maxLen; omega)), (itoaC n w h0 h1 (hG.ext hrep.ext)).mono ?_⟩
      rintro e w' ⟨rfl, hb⟩
      exact ⟨rfl, hb⟩
theorem strings_JoinD {w0 : World} (l : List Str) (sep : Str) (hj : (Lib.join l sep).length ≤ 100000000) (hn : l.length ≤ 100000000) (σ : H) : DC Tryz.prog w0 77 [.c (.sl (strsR l)), S sep] σ (Same (S (Lib.join l sep)) σ) := by
  refine DC.of_calls (enters_fn Tryz.func77 (by kernel_rfl) rfl) fun κ w vs hrep hfit => ?_
  obtain ⟨v, ys, rfl, hv, hfit⟩ := hfit.cons_inv
  obtain ⟨u, zs, rfl, hu, hfit⟩ := hfit.cons_inv
  have := hfit.nil_inv
  subst this
  cases hu with
  | c hu =>
    cases hu with
    | str _ hls =>
      cases hv with
      | c hv =>
        generalize hr : strsR l = rows at hv
        cases hv with
        | sl rows s A cap xs h0 h1 h2 h3 h4 h5 =>
          subst hr
          have hlen : (strsR l).length = l.length := by simp [strsR]
          rw [hlen] at h1 h3 ⊢
          cases l with
          | nil =>
            refine ⟨_, .c (.str _ (by rw [Lib.join_nil]; decide)), (Tryz.strings_Join_none A cap (bs sep) w).mono ?_⟩
            rintro e w' ⟨rfl, rfl⟩
            exact ⟨rfl, Below.refl _ _⟩
          | cons a r =>
            obtain ⟨b, o, rfl, hm⟩ := h4 (by simp [strsR])
            have hs : s = 1 := by
              have := h0 [C.str a] (by simp [strsR])
              simpa using this.symm
            subst hs
            have hc : ∀ (j : Nat) x, ((a :: r).map bs)[j]? = some x → w.cell? ⟨b, o + j, none⟩ = some (.string x) := fun j x hx => by
              rw [List.getElem?_map] at hx
              have hj' : j < (a :: r).length := by
                rcases Nat.lt_or_ge j (a :: r).length with h | h
                · exact h
                · rw [List.getElem?_eq_none h] at hx; cases hx
              rw [List.getElem?_eq_getElem hj'] at hx
              injection hx with hx
              subst hx
              have hx1 : j < xs.length := by rw [h3]; omega
              have e1 : (strsR (a :: r))[j]'(by rw [hlen]; exact hj') = [C.str (a :: r)[j]] := by simp only [strsR, List.getElem_map]
              have h6 := h5 j (by rw [hlen]; exact hj') 0 (by rw [e1]; exact Nat.zero_lt_one)
              have h7 := hm j hx1
              rw [List.getElem?_eq_getElem hx1] at h7
              have h8 := hrep.mem _ _ _ h7
              rw [h8]
              have e2 : xs.getD (j * 1 + 0) undef = xs[j] := by simp [List.getD, hx1]
              rw [e2] at h6
              simp only [e1, List.getElem_cons_zero] at h6
              generalize xs[j] = y at h6
              cases h6
              rfl
            have hbk : b < w.heap.size := by
              have := hc 0 (bs a) rfl
              exact cell_lt this
            have hmap : ((a :: r).map bs).map (fun x => x.data.toList) = a :: r := by
              rw [List.map_map]
              have : (fun x : ByteArray => x.data.toList) ∘ bs = id := by funext x; rfl
              rw [this, List.map_id]
            have hJ := Tryz.strings_Join b o cap ((a :: r).map bs) (bs sep) w hc hbk (by simp only [List.length_map]; simp only [List.length_cons] at hn ⊢; omega) (by rw [List.length_map]; exact h1) (by rw [hmap]; show (Lib.join (a :: r) sep).length ≤ _; omega)
            rw [hmap, List.length_map] at hJ
            refine ⟨_, .c (.str _ (by unfold maxLen; omega)), hJ.mono ?_⟩
            rintro e w' ⟨rfl, hb⟩
            exact ⟨rfl, hb⟩
theorem ty_put (w0 : World) (s : Str) (b : Bool) (hs : s.length ≤ 100000000) (σ : H) : DC Tryz.prog w0 76 [S s, B b] σ (Same (S (putL s b)) σ) := by
  refine k76.go rfl (fun hok hsz => ?_)
  have h1 : 1 + s.length ≤ 9223372036854775807 := by omega
  have h2 : s.length + 1 + 1 ≤ 9223372036854775807 := by omega
  have h3 : s.length + 1 ≤ 9223372036854775806 := by omega
  have h4 : s.length ≤ 9223372036854775805 := by omega
  ((try refine W.a ?_); simp only [go_sem, seval, reduceCtorEq, c76])
  cases b
  · refine W.no rfl ?_
    ((try refine W.a ?_); simp only [go_sem, seval, reduceCtorEq])
    (refine W.fs (hok) (by simp only [r76, go_sem, seval, reduceCtorEq]; rfl) ?_; simp only [resV]; try exact V.wk.rfl _)
  · refine W.yes rfl ?_
    ((try refine W.a ?_); simp only [go_sem, seval, reduceCtorEq, h1, h2, h3, h4])
    (refine W.fs (hok) (by simp only [r76, go_sem, seval, reduceCtorEq]; rfl) ?_; simp only [resV]; try exact V.wk.rfl _)
end
section
attribute [local go_sem] Typ.v Typ.cs_eq tk_mk tname_mk tn_mk tl_mk tysC

theorem ty_TextVar {w0 : World} (hG : Glob w0) (p : Typ) (hk : p.k = 1) (hn : inI p.n) (σ : H) : DC Tryz.prog w0 40 [p.v] σ (Same (S (textT p)) σ) := by
  refine k40.go rfl (fun hok hsz => ?_)
  rw [text_var hk]
  by_cases h0 : p.n < 0
  · rw [if_pos h0]
    ((try refine W.a ?_); simp only [go_sem, seval, reduceCtorEq, c40, hk, h0])
    refine W.yes rfl ?_
    ((try refine W.a ?_); simp only [go_sem, seval, reduceCtorEq])
    (refine W.fs (hok) (by simp only [r40, go_sem, seval, reduceCtorEq]; rfl) ?_; simp only [resV]; try exact V.wk.rfl _)
  · rw [if_neg h0]
    obtain ⟨_, hn⟩ := hn
    have e1 : p.n.tmod 26 = p.n % 26 := Int.tmod_eq_emod_of_nonneg (by omega)
    have e2 : p.n.tdiv 26 = p.n / 26 := Int.tdiv_eq_ediv_of_nonneg (by omega)
    have w1 : IntKind.i64.wrap (65 + p.n % 26) = 65 + p.n % 26 := by rw [wrap_in] <;> omega
    have w2 : IntKind.u8.wrap (65 + p.n % 26) = 65 + p.n % 26 := by
      unfold IntKind.wrap IntKind.bits IntKind.signed
      simp
      omega
    have w3 : IntKind.i64.wrap (p.n / 26) = p.n / 26 := by rw [wrap_in] <;> omega
    ((try refine W.a ?_); simp only [go_sem, seval, reduceCtorEq, c40, hk, h0])
    refine W.no rfl ?_
    ((try refine W.a ?_); simp only [go_sem, seval, reduceCtorEq])
    refine W.yes rfl ?_
    ((try refine W.a ?_); simp only [go_sem, seval, reduceCtorEq, e1, e2, w1, w2, w3])
    unfold varL
    by_cases h1 : 0 < p.n / 26
    · have h2 : p.n / 26 > 0 := h1
      have h3 := Lib.itoa_length_le (p.n / 26) (by omega) (by omega)
      have h4 : 1 + (Lib.itoa (p.n / 26)).length ≤ 9223372036854775807 := by omega
      rw [if_pos h1]
      ((try refine W.a ?_); simp only [go_sem, seval, reduceCtorEq, h2])
      refine W.yes rfl ?_
      ((try refine W.a ?_); simp only [go_sem, seval, reduceCtorEq])
      (refine W.c1 (strconv_ItoaD hG (p.n / 26) (by omega) (by omega) _) ?_; simp only [go_sem, seval, reduceCtorEq, h4])
      (refine W.fs (hok) (by simp only [r40, go_sem, seval, reduceCtorEq]; rfl) ?_; simp only [resV]; try exact V.wk.rfl _)
    · have h2 : ¬ p.n / 26 > 0 := h1
      rw [if_neg h1]
      ((try refine W.a ?_); simp only [go_sem, seval, reduceCtorEq, h2])
      refine W.no rfl ?_
      ((try refine W.a ?_); simp only [go_sem, seval, reduceCtorEq])
      (refine W.fs (hok) (by simp only [r40, go_sem, seval, reduceCtorEq]; rfl) ?_; simp only [resV]; try exact V.wk.rfl _)
theorem ty_TextArr {w0 : World} (p a b : Typ) (hA : arrowT p = true) (hl : p.l = [a, b]) (hn : (textT p).length ≤ 1000000) (σ : H)
    (ha : ∀ σ, DC Tryz.prog w0 40 [a.v] σ (Same (S (textT a)) σ)) (hb : ∀ σ, DC Tryz.prog w0 40 [b.v] σ (Same (S (textT b)) σ)) : DC Tryz.prog w0 40 [p.v] σ (Same (S (textT p)) σ) := by
  refine k40.go rfl (fun hok hsz => ?_)
  have hA' := hA
  simp only [arrowT, Bool.and_eq_true, beq_iff_eq] at hA'
  have nk : (p.k == 1) = false := by rw [hA'.1]; rfl
  obtain ⟨hn1, hn2⟩ := text_arr_len hA hl
  rw [text_arr hA hl]
  have h1 : (putL (textT a) (arrowT a)).length + 4 ≤ 9223372036854775807 := by omega
  have h2 : (putL (textT a) (arrowT a)).length + 4 + (textT b).length ≤ 9223372036854775807 := by omega
  have h3 : (putL (textT a) (arrowT a)).length + (4 + (textT b).length) ≤ 9223372036854775807 := by omega
  have h4 : (putL (textT a) (arrowT a)).length ≤ 9223372036854775803 := by omega
  ((try refine W.a ?_); simp only [go_sem, seval, reduceCtorEq, c40, nk])
  refine W.no rfl ?_
  ((try refine W.a ?_); simp only [go_sem, seval, reduceCtorEq, nk])
  refine W.no rfl ?_
  ((try refine W.a ?_); simp only [go_sem, seval, reduceCtorEq])
  (refine W.c1 (ty_arrow w0 p _) ?_; simp only [go_sem, seval, reduceCtorEq, hA])
  refine W.yes rfl ?_
  ((try refine W.a ?_); simp only [go_sem, seval, reduceCtorEq])
  apply W.dregE (List.cons_ne_nil _ _)
  case hc =>
    (apply CanonE.advPO; simp only [go_sem, seval, reduceCtorEq, hl])
    (apply CanonE.call (ha _); (case hg => rfl); (case hf => rfl); (case ha => first | rfl | simp))
    (apply CanonE.advPO; simp only [go_sem, seval, reduceCtorEq, hl])
    (apply CanonE.call (ty_arrow w0 a _); (case hg => rfl); (case hf => rfl); (case ha => first | rfl | simp))
    (apply CanonE.advPO; simp only [go_sem, seval, reduceCtorEq])
    (apply CanonE.call (ty_put w0 (textT a) (arrowT a) (by omega) _); (case hg => rfl); (case hf => rfl); (case ha => first | rfl | simp))
    (apply CanonE.advPO; simp only [go_sem, seval, reduceCtorEq, hl])
    (apply CanonE.call (hb _); (case hg => rfl); (case hf => rfl); (case ha => first | rfl | simp))
    (apply CanonE.advPO; simp only [go_sem, seval, reduceCtorEq, h1, h2, h3, h4])
    exact CanonE.nil
  ((try refine W.a ?_); simp only [go_sem, seval, reduceCtorEq])
  (refine W.fs (hok) (by simp only [r40, go_sem, seval, reduceCtorEq]; rfl) ?_; simp only [resV]; try exact V.wk.rfl _)
theorem many_of {x : Typ} (h : (x.k != 1) = true) : decide ((x.l.length : Int) > 0) = manyT x := by
  unfold manyT
  rw [h, Bool.true_and]
  apply decide_eq_decide.2
  omega
theorem many_no {x : Typ} (h : (x.k != 1) = false) : manyT x = false := by
  unfold manyT
  rw [h, Bool.false_and]
def txtL (l : List Typ) : List Str := l.map fun x => putL (textT x) (manyT x)
theorem ty_TextCon {w0 : World} (p : Typ) (hk : p.k ≠ 1) (hA : arrowT p = false) (hn : (textT p).length ≤ 1000000) (σ : H)
    (ih : ∀ x ∈ p.l, ∀ σ, DC Tryz.prog w0 40 [x.v] σ (Same (S (textT x)) σ)) : DC Tryz.prog w0 40 [p.v] σ (Same (S (textT p)) σ) := by
  refine k40.go rfl (fun hok hsz => ?_)
  have nk : (p.k == 1) = false := by simpa using hk
  obtain ⟨hn1, hn2⟩ := text_con_len hk hA
  have hlen : p.l.length ≤ 9223372036854775807 := by omega
  have hj : (Lib.join (p.name :: txtL p.l) [32]).length ≤ 100000000 := by
    have := text_con hk hA
    unfold txtL
    rw [← this]; omega
  have hj2 : (p.name :: txtL p.l).length ≤ 100000000 := by simp [txtL]; omega
  rw [text_con hk hA]
  ((try refine W.a ?_); simp only [go_sem, seval, reduceCtorEq, c40, nk])
  refine W.no rfl ?_
  ((try refine W.a ?_); simp only [go_sem, seval, reduceCtorEq, nk])
  refine W.no rfl ?_
  ((try refine W.a ?_); simp only [go_sem, seval, reduceCtorEq])
  (refine W.c1 (ty_arrow w0 p _) ?_; simp only [go_sem, seval, reduceCtorEq, hA])
  refine W.no rfl ?_
  ((try refine W.a ?_); simp only [go_sem, seval, reduceCtorEq])
  refine W.loopP (fun i => i ≤ p.l.length) (fun i => match i with
    | 0 => ⟨(((((base.put (some 1) (.ptr σ.length 0)).put (some 5) (.csl [[C.str p.name]])).put (some 63) (.c (tysC p.l))).put (some 64) (I p.l.length)).put (some 65) (I 0)), σ ++ [.cells p.v.cellsV]⟩
    | i + 1 => ⟨(((((base.put (some 1) (.ptr σ.length 0)).put (some 5) (.osl (σ.length + 2) ([C.str p.name] :: strsR (txtL (p.l.take (i + 1)))))).put (some 63) (.c (tysC p.l))).put (some 64) (I p.l.length)).put (some 65) (I ((i + 1 : Nat) : Int))), σ ++ [.cells p.v.cellsV, .gone, .spare 9 1 (i + 2)]⟩) (fun i => p.l.length - i) 0 (Nat.zero_le _) ?_ (fun i hi => ?_)
  · (refine Lew.env ?_; exact lee_here)
  · by_cases hlt : i < p.l.length
    · have hx : p.l[i]? = some p.l[i] := List.getElem?_eq_getElem hlt
      have hw := wrap_next hlt hlen
      have hmem : p.l[i] ∈ p.l := List.getElem_mem hlt
      have hc := ih _ hmem
      obtain ⟨hn3, hn4⟩ := hn2 _ hmem
      have hm : ∀ q, (p.l[i].k != 1) = q → q = (p.l[i].k != 1) := fun q h => h.symm
      have htk : txtL (p.l.take (i + 1)) = txtL (p.l.take i) ++ [putL (textT p.l[i]) (manyT p.l[i])] := by
        unfold txtL
        rw [List.take_succ_eq_append_getElem hlt, List.map_append]; rfl
      generalize p.l[i] = x at hx hc hn3 hn4 hm htk hmem
      rcases i with _ | i
      · have h1 : ((0 : Int) < (p.l.length : Int)) := by omega
        ((try refine W.a ?_); simp only [go_sem, seval, reduceCtorEq, h1])
        refine W.yes rfl ?_
        ((try refine W.a ?_); simp only [go_sem, seval, reduceCtorEq, h1, hx])
        cases hq : (x.k != 1)
        · have hmm := many_no hq
          rw [hmm] at htk
          apply W.dregE (List.cons_ne_nil _ _)
          case hc =>
            (apply CanonE.advPO; simp only [go_sem, seval, reduceCtorEq])
            (apply CanonE.call (hc _); (case hg => rfl); (case hf => rfl); (case ha => first | rfl | simp))
            (apply CanonE.advPO; simp only [go_sem, seval, reduceCtorEq, hq])
            (apply CanonE.call (ty_put w0 (textT x) false (by omega) _); (case hg => rfl); (case hf => rfl); (case ha => first | rfl | simp))
            (apply CanonE.advPO; simp only [go_sem, seval, reduceCtorEq, hq, ne_eq, not_false_eq_true, or_true])
            exact CanonE.nil
          ((try refine W.a ?_); simp only [go_sem, seval, reduceCtorEq, hw])
          refine .inv ⟨1, by omega, by omega, ?_⟩
          simp only [htk, strsR, List.map_append, List.map_cons, List.map_nil]
          (refine Lew.cutL (hok) ?_ (by simp) (by simp) ?_ ?_ ?_; exact lee_here; ((try simp only [okB, wkB, go_sem, seval, reduceCtorEq]) <;> omega); (simp only [List.length_cons, List.length_nil, Nat.reduceAdd, List.take_succ_cons, List.take_zero, wkB, and_true]; (repeat' (refine And.intro ?_ ?_)) <;> (first | exact Blk.wk.rfl _ | exact Blk.wk.gone _ | (refine Blk.wk_cells ?_ rfl; (exact wk_here)))); (repeat' (first | exact LowE.base _ | (refine LowE.put ?_ (by first | exact .c _ | ((try simp only [okB, wkB, go_sem, seval, reduceCtorEq]) <;> omega))))))
        · have hmm := many_of hq
          apply W.dregE (List.cons_ne_nil _ _)
          case hc =>
            (apply CanonE.advPO; simp only [go_sem, seval, reduceCtorEq])
            (apply CanonE.call (hc _); (case hg => rfl); (case hf => rfl); (case ha => first | rfl | simp))
            (apply CanonE.advPO; simp only [go_sem, seval, reduceCtorEq, hq, hmm])
            (apply CanonE.call (ty_put w0 (textT x) (manyT x) (by omega) _); (case hg => rfl); (case hf => rfl); (case ha => first | rfl | simp))
            (apply CanonE.advPO; simp only [go_sem, seval, reduceCtorEq, hq, ne_eq, not_false_eq_true, or_true])
            exact CanonE.nil
          ((try refine W.a ?_); simp only [go_sem, seval, reduceCtorEq, hw])
          refine .inv ⟨1, by omega, by omega, ?_⟩
          simp only [htk, strsR, List.map_append, List.map_cons, List.map_nil]
          (refine Lew.cutL (hok) ?_ (by simp) (by simp) ?_ ?_ ?_; exact lee_here; ((try simp only [okB, wkB, go_sem, seval, reduceCtorEq]) <;> omega); (simp only [List.length_cons, List.length_nil, Nat.reduceAdd, List.take_succ_cons, List.take_zero, wkB, and_true]; (repeat' (refine And.intro ?_ ?_)) <;> (first | exact Blk.wk.rfl _ | exact Blk.wk.gone _ | (refine Blk.wk_cells ?_ rfl; (exact wk_here)))); (repeat' (first | exact LowE.base _ | (refine LowE.put ?_ (by first | exact .c _ | ((try simp only [okB, wkB, go_sem, seval, reduceCtorEq]) <;> omega))))))
      · have h1 : (((i + 1 : Nat) : Int) < (p.l.length : Int)) := by omega
        have hlk : (strsR (txtL (p.l.take (i + 1)))).length = i + 1 := by
          simp only [strsR, txtL, List.length_map, List.length_take]
          omega
        have hb1 : (i + 2 + 1) * 16 ≤ 140737488355328 := by omega
        have hb2 : i + 2 + 1 ≤ 140737488355328 := by omega
        ((try refine W.a ?_); simp only [go_sem, seval, reduceCtorEq, h1])
        refine W.yes rfl ?_
        ((try refine W.a ?_); simp only [go_sem, seval, reduceCtorEq, h1, nat0, hx])
        cases hq : (x.k != 1)
        · have hmm := many_no hq
          rw [hmm] at htk
          apply W.dregE (List.cons_ne_nil _ _)
          case hc =>
            (apply CanonE.advPO; simp only [go_sem, seval, reduceCtorEq])
            (apply CanonE.call (hc _); (case hg => rfl); (case hf => rfl); (case ha => first | rfl | simp))
            (apply CanonE.advPO; simp only [go_sem, seval, reduceCtorEq, hq])
            (apply CanonE.call (ty_put w0 (textT x) false (by omega) _); (case hg => rfl); (case hf => rfl); (case ha => first | rfl | simp))
            (apply CanonE.advPO; simp only [go_sem, seval, reduceCtorEq, hq, hb1, hb2, hlk])
            exact CanonE.nil
          ((try refine W.a ?_); simp only [go_sem, seval, reduceCtorEq, hw])
          refine .inv ⟨i + 2, hlt, by omega, ?_⟩
          simp only [htk, strsR, List.map_append, List.map_cons, List.map_nil]
          (refine Lew.cutL (hok) ?_ (by simp) (by simp) ?_ ?_ ?_; exact lee_here; ((try simp only [okB, wkB, go_sem, seval, reduceCtorEq]) <;> omega); (simp only [List.length_cons, List.length_nil, Nat.reduceAdd, List.take_succ_cons, List.take_zero, wkB, and_true]; (repeat' (refine And.intro ?_ ?_)) <;> (first | exact Blk.wk.rfl _ | exact Blk.wk.gone _ | (refine Blk.wk_cells ?_ rfl; (exact wk_here)))); (repeat' (first | exact LowE.base _ | (refine LowE.put ?_ (by first | exact .c _ | ((try simp only [okB, wkB, go_sem, seval, reduceCtorEq]) <;> omega))))))
        · have hmm := many_of hq
          apply W.dregE (List.cons_ne_nil _ _)
          case hc =>
            (apply CanonE.advPO; simp only [go_sem, seval, reduceCtorEq])
            (apply CanonE.call (hc _); (case hg => rfl); (case hf => rfl); (case ha => first | rfl | simp))
            (apply CanonE.advPO; simp only [go_sem, seval, reduceCtorEq, hq, hmm])
            (apply CanonE.call (ty_put w0 (textT x) (manyT x) (by omega) _); (case hg => rfl); (case hf => rfl); (case ha => first | rfl | simp))
            (apply CanonE.advPO; simp only [go_sem, seval, reduceCtorEq, hq, hb1, hb2, hlk])
            exact CanonE.nil
          ((try refine W.a ?_); simp only [go_sem, seval, reduceCtorEq, hw])
          refine .inv ⟨i + 2, hlt, by omega, ?_⟩
          simp only [htk, strsR, List.map_append, List.map_cons, List.map_nil]
          (refine Lew.cutL (hok) ?_ (by simp) (by simp) ?_ ?_ ?_; exact lee_here; ((try simp only [okB, wkB, go_sem, seval, reduceCtorEq]) <;> omega); (simp only [List.length_cons, List.length_nil, Nat.reduceAdd, List.take_succ_cons, List.take_zero, wkB, and_true]; (repeat' (refine And.intro ?_ ?_)) <;> (first | exact Blk.wk.rfl _ | exact Blk.wk.gone _ | (refine Blk.wk_cells ?_ rfl; (exact wk_here)))); (repeat' (first | exact LowE.base _ | (refine LowE.put ?_ (by first | exact .c _ | ((try simp only [okB, wkB, go_sem, seval, reduceCtorEq]) <;> omega))))))
    · have htk : p.l.take i = p.l := List.take_of_length_le (by omega)
      rcases i with _ | i
      · have h1 : ¬ ((0 : Int) < (p.l.length : Int)) := by omega
        have hnil : p.l = [] := List.eq_nil_of_length_eq_zero (by omega)
        have hJ := strings_JoinD (w0 := w0) (p.name :: txtL p.l) [32] hj hj2
        rw [hnil] at hJ
        ((try refine W.a ?_); simp only [go_sem, seval, reduceCtorEq, h1])
        refine W.no rfl ?_
        ((try refine W.a ?_); simp only [go_sem, seval, reduceCtorEq])
        (refine W.c1w (hJ _) ?_; simp only [go_sem, seval, reduceCtorEq])
        rw [hnil]
        (refine W.fs (hok) (by simp only [r40, go_sem, seval, reduceCtorEq]; rfl) ?_; simp only [resV]; try exact V.wk.rfl _)
      · have h1 : ¬ (((i + 1 : Nat) : Int) < (p.l.length : Int)) := by omega
        have hJ := strings_JoinD (w0 := w0) (p.name :: txtL p.l) [32] hj hj2
        ((try refine W.a ?_); simp only [go_sem, seval, reduceCtorEq, h1])
        refine W.no rfl ?_
        rw [htk]
        ((try refine W.a ?_); simp only [go_sem, seval, reduceCtorEq])
        (refine W.c1w (hJ _) ?_; simp only [go_sem, seval, reduceCtorEq])
        (refine W.fs (hok) (by simp only [r40, go_sem, seval, reduceCtorEq]; rfl) ?_; simp only [resV]; try exact V.wk.rfl _)
theorem ty_Text {w0 : World} (hG : Glob w0) (p : Typ) : OkT p → (textT p).length ≤ 1000000 → ∀ (σ : H), DC Tryz.prog w0 40 [p.v] σ (Same (S (textT p)) σ) := by
  induction p using Typ.ind with
  | h p ih =>
    intro hO hn σ
    by_cases hk : p.k = 1
    · exact ty_TextVar hG p hk hO.n σ
    · cases hA : arrowT p
      · exact ty_TextCon p hk hA hn σ fun x hx => ih x hx (hO.mem hx) (by have := ((text_con_len hk hA).2 x hx).2; omega)
      · obtain ⟨a, b, hl⟩ := arrow_parts hA
        have ha : a ∈ p.l := by rw [hl]; simp
        have hb : b ∈ p.l := by rw [hl]; simp
        obtain ⟨hn1, hn2⟩ := text_arr_len hA hl
        exact ty_TextArr p a b hA hl hn σ (ih a ha (hO.mem ha) (by omega)) (ih b hb (hO.mem hb) (by omega))
end
section
attribute [local go_sem] Typ.v Typ.cs_eq tk_mk tname_mk tn_mk tl_mk tysC

theorem law05_long (w0 : World) (p : Typ) : ∀ (σ : H), DC Tryz.prog w0 58 [p.v] σ (Same (B (longT p)) σ) := by
  induction p using Typ.ind with
  | h p ih =>
  intro σ
  refine k58.go rfl (fun hok hsz => ?_)
  have hlen := typ_len hsz (List.mem_cons_self ..)
  ((try refine W.a ?_); simp only [go_sem, seval, reduceCtorEq, c58])
  rw [longT_eq]
  refine W.test rfl (fun h => ?_) (fun h => ?_)
  · ((try refine W.a ?_); simp only [go_sem, seval, reduceCtorEq])
    (refine W.fs (hok) (by simp only [r58, go_sem, seval, reduceCtorEq]; rfl) ?_; simp only [resV]; try exact V.wk.rfl _)
    rw [h, Bool.true_or]
    exact .rfl _
  · rw [h, Bool.false_or]
    ((try refine W.a ?_); simp only [go_sem, seval, reduceCtorEq])
    refine W.loopP (fun i => i ≤ p.l.length ∧ UpTo longT p.l i) (fun i => ⟨(((base.put (some 1) (.ptr σ.length 0)).put (some 2) (B false)).put (some 3) (I (i : Nat))), σ ++ [.cells p.v.cellsV]⟩) (fun i => p.l.length - i) 0 ⟨Nat.zero_le _, upTo_zero⟩ ?_ (fun i hi => ?_)
    · (refine Lew.env ?_; exact lee_here)
    · obtain ⟨hi, hinv⟩ := hi
      by_cases hlt : i < p.l.length
      · have h1 : ((i : Int) < (p.l.length : Int)) := by omega
        have hx : p.l[i]? = some p.l[i] := List.getElem?_eq_getElem hlt
        have hw : IntKind.i64.wrap ((i : Int) + 1) = ((i + 1 : Nat) : Int) := wrap_next hlt hlen
        ((try refine W.a ?_); simp only [go_sem, seval, reduceCtorEq, h1])
        refine W.yes rfl ?_
        ((try refine W.a ?_); simp only [go_sem, seval, reduceCtorEq, h1, nat0, hx])
        (refine W.c1 (ih p.l[i] (List.getElem_mem hlt) _) ?_; simp only [go_sem, seval, reduceCtorEq])
        refine W.test rfl (fun h2 => ?_) (fun h2 => ?_)
        · ((try refine W.a ?_); simp only [go_sem, seval, reduceCtorEq])
          (refine W.fs (hok) (by simp only [r58, go_sem, seval, reduceCtorEq]; rfl) ?_; simp only [resV]; try exact V.wk.rfl _)
          rw [List.any_eq_true.2 ⟨_, List.getElem_mem hlt, h2⟩]
          exact .rfl _
        · ((try refine W.a ?_); simp only [go_sem, seval, reduceCtorEq, hw])
          refine .inv ⟨i + 1, ⟨hlt, upTo_next hinv hlt h2⟩, by omega, ?_⟩
          (refine Lew.env ?_; exact lee_here)
      · have h1 : ¬ ((i : Int) < (p.l.length : Int)) := by omega
        ((try refine W.a ?_); simp only [go_sem, seval, reduceCtorEq, h1])
        refine W.no rfl ?_
        ((try refine W.a ?_); simp only [go_sem, seval, reduceCtorEq])
        (refine W.fs (hok) (by simp only [r58, go_sem, seval, reduceCtorEq]; rfl) ?_; simp only [resV]; try exact V.wk.rfl _)
        rw [List.any_eq_false.2 (fun x hx => by obtain ⟨j, hj, rfl⟩ := List.getElem_of_mem hx; rw [hinv j hj (by omega)]; decide)]
        exact .rfl _
def overT (p : Typ) : Bool := decide (leftT p 120 < 0) || longT p
theorem law05_over (w0 : World) (p : Typ) (σ : H) : DC Tryz.prog w0 27 [p.v] σ (Same (B (overT p)) σ) := by
  refine k27.go rfl (fun hok hsz => ?_)
  unfold overT
  ((try refine W.a ?_); simp only [go_sem, seval, reduceCtorEq, c27])
  (refine W.c1 (ref05_Large w0 p 120 (by decide) (by decide) _) ?_; simp only [go_sem, seval, reduceCtorEq])
  cases hq : decide (leftT p 120 < 0)
  · ((try refine W.a ?_); simp only [go_sem, seval, reduceCtorEq])
    (refine W.c1 (law05_long w0 p _) ?_; simp only [go_sem, seval, reduceCtorEq])
    (refine W.fs (hok) (by simp only [r27, go_sem, seval, reduceCtorEq]; rfl) ?_; simp only [resV]; try exact V.wk.rfl _)
  · ((try refine W.a ?_); simp only [go_sem, seval, reduceCtorEq])
    (refine W.fs (hok) (by simp only [r27, go_sem, seval, reduceCtorEq]; rfl) ?_; simp only [resV]; try exact V.wk.rfl _)
theorem over_no {p : Typ} (h : overT p = false) : nodesT p ≤ 120 ∧ longT p = false := by
  unfold overT at h
  rw [Bool.or_eq_false_iff] at h
  have := small_of (n := 120) (by decide) h.1
  exact ⟨by omega, h.2⟩
def tsrc0 : List UInt8 := [40, 65, 32, 45, 62, 32, 111, 41, 32, 45, 62, 32, 108, 105, 115, 116, 32, 65, 32, 45, 62, 32, 66]
def typ0 : Typ := .arr (.arr (.var 0) (.con [111])) (.arr (.mk 0 [108, 105, 115, 116] 0 [.var 0]) (.var 1))
theorem tsrc0_read : tyTypeF 60 (lexL tsrc0).toks 0 0 [] = some (.ok (typ0, 10, [[65], [66]])) := by kernel_rfl
theorem typ0_ok : OkT typ0 := by
  have hv : ∀ n, 0 ≤ n → n ≤ 1 → OkT (.var n) := fun n h h' => .mk (by decide) (by unfold inI; omega) (fun x hx => by cases hx)
  have hi : inI 0 := by decide
  have h2 : inI 2 := by decide
  refine .mk h2 hi fun x hx => ?_
  simp only [List.mem_cons, List.not_mem_nil, or_false] at hx
  rcases hx with rfl | rfl
  · refine .mk h2 hi fun x hx => ?_
    simp only [List.mem_cons, List.not_mem_nil, or_false] at hx
    rcases hx with rfl | rfl
    · exact hv 0 (by decide) (by decide)
    · exact .mk hi hi fun x hx => by cases hx
  · refine .mk h2 hi fun x hx => ?_
    simp only [List.mem_cons, List.not_mem_nil, or_false] at hx
    rcases hx with rfl | rfl
    · refine .mk hi hi fun x hx => ?_
      simp only [List.mem_cons, List.not_mem_nil, or_false] at hx
      subst hx
      exact hv 0 (by decide) (by decide)
    · exact hv 1 (by decide) (by decide)
theorem typ0_text : textT typ0 = tsrc0 := by kernel_rfl
theorem typ0_vars : varsT 0 typ0 = 2 := by kernel_rfl
theorem typ0_valid : validT typ0 = true := by kernel_rfl
theorem typ0_size : sizeT typ0 = 8 := by kernel_rfl
theorem typ0_parts : partsT typ0 = ([.arr (.var 0) (.con [111]), .mk 0 [108, 105, 115, 116] 0 [.var 0]], .var 1) := by kernel_rfl
theorem typ0_depth : depthT typ0 ≤ 1000000 := of_decide_eq_true (by kernel_rfl)
theorem law05_works {w0 : World} (hG : Glob w0) (σ : H) : DC Tryz.prog w0 24 [] σ (Same (B true) σ) := by
  refine k24.go rfl (fun hok hsz => ?_)
  have e0 : DC Tryz.prog w0 39 [S tsrc0] σ (Same (.tup [.c (toksC (lexL tsrc0).toks), I (lexL tsrc0).err, I (lexL tsrc0).pos]) σ) := lex_Lex hG tsrc0 (by decide) σ
  have e1 : ∀ σ, DC Tryz.prog w0 25 [.c (toksC (lexL tsrc0).toks), I 0] σ (Same (.tup [typ0.v, I 10, I 0, I 0]) σ) := fun σ => by
    have := ty_Read w0 (lexL tsrc0).toks 0 (of_decide_eq_true (by kernel_rfl)) σ
    have hr : tyFrom (lexL tsrc0).toks 0 = .ok (typ0, 10, [[65], [66]]) := by
      have e : ((0 : Nat) : Int) = 0 := rfl
      rw [← e, tyFrom_nat (Nat.zero_le _), tyT_eq ⟨60, tsrc0_read⟩]
    rw [hr] at this
    exact this
  have e2 : ∀ σ, DC Tryz.prog w0 30 [typ0.v] σ (Same (.tup [.c (tysC [.arr (.var 0) (.con [111]), .mk 0 [108, 105, 115, 116] 0 [.var 0]]), (Typ.var 1).v]) σ) := fun σ => by
    have := ty_Parts w0 typ0 typ0_depth σ
    rw [typ0_parts] at this
    exact this
  have e3 : ∀ σ, DC Tryz.prog w0 28 [typ0.v] σ (Same (B true) σ) := fun σ => by
    have := ty_Valid w0 typ0 σ
    rw [typ0_valid] at this
    exact this
  have e4 : ∀ σ, DC Tryz.prog w0 40 [typ0.v] σ (Same (S tsrc0) σ) := fun σ => by
    have := ty_Text hG typ0 typ0_ok (by rw [typ0_text]; decide) σ
    rw [typ0_text] at this
    exact this
  have e5 : ∀ σ, DC Tryz.prog w0 54 [typ0.v] σ (Same (I 2) σ) := fun σ => by
    have := ty_Vars w0 typ0 (by rw [typ0_size]; decide) σ
    rw [typ0_vars] at this
    exact this
  have e6 : ∀ σ, DC Tryz.prog w0 55 [typ0.v] σ (Same (I 8) σ) := fun σ => by
    have := ty_Size w0 typ0 (by rw [typ0_size]; decide) σ
    rw [typ0_size] at this
    exact this
  generalize typ0 = t at *
  ((try refine W.a ?_); simp only [go_sem, seval, reduceCtorEq, c24])
  (refine W.c1 (e0) ?_; simp only [go_sem, seval, reduceCtorEq])
  (refine W.c1 (e1 _) ?_; simp only [go_sem, seval, reduceCtorEq])
  (refine W.c1 (e2 _) ?_; simp only [go_sem, seval, reduceCtorEq, Typ.var])
  (refine W.c1 (e3 _) ?_; simp only [go_sem, seval, reduceCtorEq])
  (refine W.c1 (e4 _) ?_; simp only [go_sem, seval, reduceCtorEq, tsrc0])
  (refine W.c1 (e5 _) ?_; simp only [go_sem, seval, reduceCtorEq])
  (refine W.c1 (e6 _) ?_; simp only [go_sem, seval, reduceCtorEq])
  (refine W.fs (hok) (by simp only [r24, go_sem, seval, reduceCtorEq]; rfl) ?_; simp only [resV]; try exact V.wk.rfl _)
end
end Go.Proofs.YtohcnohllbjlcaaGreatDoor
namespace Go.Lamb
open Go Go.RowKit
def intsR (l : List Int) : List (List C) := l.map fun x => [C.int .i64 x]
end Go.Lamb
namespace Go.Proofs.YtohcnohllbjlcaaGreatDoor
open Go.RowKit Go.Lamb
attribute [local go_sem] advO_skip advO_reg advO_seq advO_block advO_exit advO_endb advO_opsNil advO_ops advG_yes advG_no advG_none advS_some advS_none advO_cond advO_loop advO_dreg advO_ret advO_bad advO_inv advO_nil advO_zero wantedV Lamb.step ev_t ev_k put_some put_none argEnv popTo cellsAt V.cellsV V.rows V.toC toCs fillV bytesC byteRows appV rowsV boundV boundL binV binInt binStr eqC eqL V.isNil leaves V.leaf Ins.quiet Ins.pure List.getD_cons_zero List.getD_cons_succ List.getD_nil List.all_cons List.all_nil List.length_cons List.length_nil List.take_succ_cons List.take_zero List.drop_succ_cons List.drop_zero List.cons_append List.nil_append List.append_nil List.append_assoc List.map_cons List.map_nil List.getElem?_cons_zero List.getElem?_cons_succ List.length_append List.length_set hget0 hget hset0 hset hsets hgs0 hgs hss0 hss List.set_cons_zero List.set_cons_succ List.forall_mem_cons List.not_mem_nil false_implies implies_true Option.map_some Bool.and_true Bool.true_and Bool.not_not Bool.not_true Bool.not_false Bool.and_self Bool.or_true Bool.true_or Bool.or_false Bool.false_or Bool.and_false Bool.false_and Bool.false_eq_true beq_self_eq_true and_self and_true true_and if_true if_false Nat.zero_add Nat.add_zero Nat.le_refl Int.toNat_natCast decide_true decide_false beq_t beq_f List.length_map List.getElem?_map I S B opsC toksC OpT.v OpT.cs OpT.zero Tok.v Tok.cs Pre.v Pre.cs_eq k_mk name_mk n_mk l_mk pos_mk Pre.app applyL natCast0 natCast1 natCast2 AOp.o AOp.m AOp.f AOp.l AOp.d AOp.n AOp.x AOp.s AOp.k AOp.y AOp.z EOp.q low_c low_void low_any low_csl low_nilf low_ptr low_osl low_agg low_tup low_fn resEval advPO_nil advPO_loud advPO_quiet pL_yes pL_no pLS_some pLS_none pQ_yes pQ_no pQS_some pQS_loud eq_self Nat.sub_zero
def nmX (m : Nat) (vs : List Int) : Blk := .cells [.osl m (intsR vs)]
def nmY (vs : List Int) : Blk := .spare 3 1 vs.length
abbrev nms (σ : H) (b m : Nat) (vs : List Int) : H := rs σ b m (nmX m vs) (nmY vs)
attribute [local go_sem] nmX nmY rs_len rs_g0 rs_g rs_s0 rs_s rs_sv Typ.v Typ.cs_eq tk_mk tname_mk tn_mk tl_mk tysC
end Go.Proofs.YtohcnohllbjlcaaGreatDoor
namespace Go.Proofs.YtohcnohllbjlcaaGreatDoor
open Go.RowKit Go.Lamb
attribute [local go_sem] advO_skip advO_reg advO_seq advO_block advO_exit advO_endb advO_opsNil advO_ops advG_yes advG_no advG_none advS_some advS_none advO_cond advO_loop advO_dreg advO_ret advO_bad advO_inv advO_nil advO_zero wantedV Lamb.step ev_t ev_k put_some put_none argEnv popTo cellsAt V.cellsV V.rows V.toC toCs fillV bytesC byteRows appV rowsV boundV boundL binV binInt binStr eqC eqL V.isNil leaves V.leaf Ins.quiet Ins.pure List.getD_cons_zero List.getD_cons_succ List.getD_nil List.all_cons List.all_nil List.length_cons List.length_nil List.take_succ_cons List.take_zero List.drop_succ_cons List.drop_zero List.cons_append List.nil_append List.append_nil List.append_assoc List.map_cons List.map_nil List.getElem?_cons_zero List.getElem?_cons_succ List.length_append List.length_set hget0 hget hset0 hset hsets hgs0 hgs hss0 hss List.set_cons_zero List.set_cons_succ List.forall_mem_cons List.not_mem_nil false_implies implies_true Option.map_some Bool.and_true Bool.true_and Bool.not_not Bool.not_true Bool.not_false Bool.and_self Bool.or_true Bool.true_or Bool.or_false Bool.false_or Bool.and_false Bool.false_and Bool.false_eq_true beq_self_eq_true and_self and_true true_and if_true if_false Nat.zero_add Nat.add_zero Nat.le_refl Int.toNat_natCast decide_true decide_false beq_t beq_f List.length_map List.getElem?_map I S B opsC toksC OpT.v OpT.cs OpT.zero Tok.v Tok.cs Pre.v Pre.cs_eq k_mk name_mk n_mk l_mk pos_mk Pre.app applyL natCast0 natCast1 natCast2 AOp.o AOp.m AOp.f AOp.l AOp.d AOp.n AOp.x AOp.s AOp.k AOp.y AOp.z EOp.q low_c low_void low_any low_csl low_nilf low_ptr low_osl low_agg low_tup low_fn resEval advPO_nil advPO_loud advPO_quiet pL_yes pL_no pLS_some pLS_none pQ_yes pQ_no pQS_some pQS_loud eq_self Nat.sub_zero
attribute [local go_sem] Typ.v Typ.cs_eq tk_mk tname_mk tn_mk tl_mk tysC

theorem law05_TyBack {w0 : World} (hG : Glob w0) (p : Typ) (hO : OkT p) (σ : H) : DC Tryz.prog w0 9 [p.v] σ (Same (B true) σ) := by
  refine k9.go rfl (fun hok hsz => ?_)
  ((try refine W.a ?_); simp only [go_sem, seval, reduceCtorEq, c9])
  (refine W.c1 (law05_works hG _) ?_; simp only [go_sem, seval, reduceCtorEq])
  refine W.no rfl ?_
  ((try refine W.a ?_); simp only [go_sem, seval, reduceCtorEq])
  (refine W.c1 (law05_over w0 p _) ?_; simp only [go_sem, seval, reduceCtorEq])
  cases ho : overT p
  case true =>
    refine W.yes rfl ?_
    ((try refine W.a ?_); simp only [go_sem, seval, reduceCtorEq])
    (refine W.fs (hok) (by simp only [r9, go_sem, seval, reduceCtorEq]; rfl) ?_; simp only [resV]; try exact V.wk.rfl _)
  refine W.no rfl ?_
  ((try refine W.a ?_); simp only [go_sem, seval, reduceCtorEq])
  (refine W.c1 (ty_Valid w0 p _) ?_; simp only [go_sem, seval, reduceCtorEq])
  cases hv : validT p
  case false =>
    refine W.yes rfl ?_
    ((try refine W.a ?_); simp only [go_sem, seval, reduceCtorEq])
    (refine W.fs (hok) (by simp only [r9, go_sem, seval, reduceCtorEq]; rfl) ?_; simp only [resV]; try exact V.wk.rfl _)
  obtain ⟨hn, hlong⟩ := over_no ho
  have htl := text_le p hO hlong
  obtain ⟨hx1, hx2⟩ := lex_type hv (by omega)
  have hrb := read_back hv (by omega) hx2
  have hcount := lexL_count (textT p)
  have hnn := norm_nodes p []
  have e1 := fun σ => ty_Norm w0 p (by omega) σ
  have e2 := fun σ => ty_Text hG p hO (by omega) σ
  have e3 := fun σ => lex_Lex hG (textT p) (by omega) σ
  have e4 := fun σ => ty_Read w0 (lexL (textT p)).toks 0 (by omega) σ
  have e5 := fun σ => ty_Norm w0 (normT p) (show nodesT (normT p) ≤ 1000000 by unfold normT; omega) σ
  have hr : tyFrom (lexL (textT p)).toks 0 = .ok (normT p, (lexL (textT p)).toks.length - 1, (subS normG [] p).2.map varL) := by
    have e : ((0 : Nat) : Int) = 0 := rfl
    rw [← e, tyFrom_nat (Nat.zero_le _), tyT_eq hrb]
  have hpos : 1 ≤ (lexL (textT p)).toks.length := by
    have := congrArg List.length hx2
    simp at this
    omega
  rw [hr] at e4
  rw [norm_norm] at e5
  rw [hx1] at e3
  have hw : IntKind.i64.wrap (((lexL (textT p)).toks.length : Int) - 1) = (((lexL (textT p)).toks.length - 1 : Nat) : Int) := by rw [wrap_in] <;> omega
  generalize (lexL (textT p)).toks = t at *
  generalize (lexL (textT p)).pos = q at *
  generalize normT p = n at *
  generalize textT p = s at *
  refine W.no rfl ?_
  ((try refine W.a ?_); simp only [go_sem, seval, reduceCtorEq])
  (refine W.c1 (e1 _) ?_; simp only [go_sem, seval, reduceCtorEq])
  (refine W.c1 (e2 _) ?_; simp only [go_sem, seval, reduceCtorEq])
  (refine W.c1 (e3 _) ?_; simp only [go_sem, seval, reduceCtorEq])
  refine W.no rfl ?_
  ((try refine W.a ?_); simp only [go_sem, seval, reduceCtorEq])
  (refine W.c1 (e4 _) ?_; simp only [go_sem, seval, reduceCtorEq, tyReadV])
  (refine W.c1 (ty_Same w0 n n _) ?_; simp only [go_sem, seval, reduceCtorEq, sameTy_refl])
  apply W.dregE (List.cons_ne_nil _ _)
  case hc =>
    (apply CanonE.advPO; simp only [go_sem, seval, reduceCtorEq])
    (apply CanonE.call (e5 _); (case hg => rfl); (case hf => rfl); (case ha => first | rfl | simp))
    (apply CanonE.advPO; simp only [go_sem, seval, reduceCtorEq])
    (apply CanonE.call (ty_Same w0 n n _); (case hg => rfl); (case hf => rfl); (case ha => first | rfl | simp))
    (apply CanonE.advPO; simp only [go_sem, seval, reduceCtorEq, sameTy_refl])
    exact CanonE.nil
  ((try refine W.a ?_); simp only [go_sem, seval, reduceCtorEq, hw])
  (refine W.fs (hok) (by simp only [r9, go_sem, seval, reduceCtorEq]; rfl) ?_; simp only [resV]; try exact V.wk.rfl _)
end Go.Proofs.YtohcnohllbjlcaaGreatDoor

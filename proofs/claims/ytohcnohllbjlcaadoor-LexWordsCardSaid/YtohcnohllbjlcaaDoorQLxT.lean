/-
  Walks: the document's text of a token; the statement LexWords.
-/
import Derived.Test.YtohcnohllbjlcaaDoorQLxC
import Derived.Test.YtohcnohllbjlcaaDoorQLexW
import Derived.Test.YtohcnohllbjlcaaDoorQLexC
import Derived.Test.YtohcnohllbjlcaaDoorQRefH
import Derived.Test.YtohcnohllbjlcaaDoorQRefI
import Derived.Lib.ItoaLen
set_option linter.unusedSimpArgs false
set_option linter.unusedVariables false
set_option maxHeartbeats 8000000
set_option maxRecDepth 20000
namespace Go.Lamb
open Go Go.RowKit
/-- How far the digits of N are written: m is left, s is written. -/
def DgInv (N : Nat) (x : Nat × List UInt8) : Prop := x.1 ≤ N ∧ ((x.2 = [] ∧ x.1 = N) ∨ (x.2 ≠ [] ∧ (x.1 = 0 → x.2 = Lib.decDigits N) ∧ (0 < x.1 → Lib.decDigits x.1 ++ x.2 = Lib.decDigits N)))
theorem dg_next {N m : Nat} {s : List UInt8} (h : DgInv N (m, s)) (hm : 0 < m ∨ s = []) : DgInv N (m / 10, UInt8.ofNat (48 + m % 10) :: s) := by
  obtain ⟨h0, h⟩ := h
  refine ⟨by show m / 10 ≤ N; have : m ≤ N := h0; omega, .inr ⟨by simp, ?_⟩⟩
  have key : Lib.decDigits m ++ s = Lib.decDigits N := by
    rcases h with ⟨h1, h2⟩ | ⟨h1, h2, h3⟩
    · have h1 : s = [] := h1
      have h2 : m = N := h2
      rw [h1, h2, List.append_nil]
    · rcases hm with hm | hm
      · exact h3 hm
      · exact absurd hm h1
  refine ⟨fun e => ?_, fun e => ?_⟩
  · have hlt : m < 10 := by have : m / 10 = 0 := e; omega
    rw [← key, Lib.decDigits, dif_pos hlt, Nat.mod_eq_of_lt hlt]
    rfl
  · have hlt : ¬ m < 10 := by have : 0 < m / 10 := e; omega
    show Lib.decDigits (m / 10) ++ _ = _
    rw [← key]
    conv => rhs; rw [Lib.decDigits, dif_neg hlt]
    rw [List.append_assoc]
    rfl
theorem dg_len {N m : Nat} {s : List UInt8} (hN : N ≤ 9223372036854775807) (h : DgInv N (m, s)) : s.length ≤ 21 := by
  have h21 : (Lib.decDigits N).length ≤ 21 := by
    have := Lib.itoa_length_le (N : Int) (by omega) (by omega)
    unfold Lib.itoa at this
    rw [if_neg (by omega)] at this
    simpa using this
  obtain ⟨h0, h⟩ := h
  rcases h with ⟨h1, h2⟩ | ⟨h1, h2, h3⟩
  · have h1 : s = [] := h1
    rw [h1]; simp
  · rcases Nat.eq_zero_or_pos m with e | e
    · have := h2 e
      have : s = Lib.decDigits N := this
      rw [this]; exact h21
    · have := congrArg List.length (h3 e)
      rw [List.length_append] at this
      have : (Lib.decDigits m).length + s.length = (Lib.decDigits N).length := this
      omega
end Go.Lamb
namespace Go.Proofs.YtohcnohllbjlcaaDoor
open Go.RowKit Go.Lamb
attribute [local go_sem] advO_skip advO_reg advO_seq advO_block advO_exit advO_endb advO_opsNil advO_ops advG_yes advG_no advG_none advS_some advS_none advO_cond advO_loop advO_dreg advO_ret advO_bad advO_inv advO_nil advO_zero wantedV Lamb.step ev_t ev_k put_some put_none argEnv popTo cellsAt V.cellsV V.rows V.toC toCs fillV bytesC byteRows appV rowsV boundV boundL binV binInt binStr eqC eqL V.isNil leaves V.leaf Ins.quiet Ins.pure List.getD_cons_zero List.getD_cons_succ List.getD_nil List.all_cons List.all_nil List.length_cons List.length_nil List.take_succ_cons List.take_zero List.drop_succ_cons List.drop_zero List.cons_append List.nil_append List.append_nil List.append_assoc List.map_cons List.map_nil List.getElem?_cons_zero List.getElem?_cons_succ List.length_append List.length_set hget0 hget hset0 hset hsets hgs0 hgs hss0 hss List.set_cons_zero List.set_cons_succ List.forall_mem_cons List.not_mem_nil false_implies implies_true Option.map_some Bool.and_true Bool.true_and Bool.not_not Bool.not_true Bool.not_false Bool.and_self Bool.or_true Bool.true_or Bool.or_false Bool.false_or Bool.and_false Bool.false_and Bool.false_eq_true beq_self_eq_true and_self and_true true_and if_true if_false Nat.zero_add Nat.add_zero Nat.le_refl Int.toNat_natCast decide_true decide_false beq_t beq_f List.length_map List.getElem?_map I S B opsC toksC OpT.v OpT.cs OpT.zero Tok.v Tok.cs Pre.v Pre.cs_eq k_mk name_mk n_mk l_mk pos_mk Pre.app applyL natCast0 natCast1 natCast2 AOp.o AOp.m AOp.f AOp.l AOp.d AOp.n AOp.x AOp.s AOp.k AOp.y AOp.z EOp.q low_c low_void low_any low_csl low_nilf low_ptr low_osl low_agg low_tup low_fn resEval advPO_nil advPO_loud advPO_quiet pL_yes pL_no pLS_some pLS_none pQ_yes pQ_no pQS_some pQS_loud eq_self Nat.sub_zero

theorem strconv_ItoaD {w0 : World} (hG : Glob w0) (n : Int) (h0 : -9223372036854775808 ≤ n) (h1 : n ≤ 9223372036854775807) (σ : H) : DC Tryd.prog w0 25 [I n] σ (Same (S (Lib.itoa n)) σ) := by
  refine DC.of_calls (enters_fn Tryd.func25 (by kernel_rfl) rfl) fun κ w vs hrep hfit => ?_
  obtain ⟨v, ys, rfl, hv, hfit⟩ := hfit.cons_inv
  have := hfit.nil_inv
  subst this
  cases hv with
  | c hv =>
    cases hv with
    | int _ _ =>
      refine ⟨_, .c (.str _ (by have := Lib.itoa_length_le n h0 h1; unfold maxLen; omega)), (itoaC n w h0 h1 (hG.ext hrep.ext)).mono ?_⟩
      rintro e w' ⟨rfl, hb⟩
      exact ⟨rfl, hb⟩
theorem ref01_Digits (w0 : World) (N : Nat) (hN : N ≤ 9223372036854775807) (σ : H) : DC Tryd.prog w0 26 [I (N : Int)] σ (Same (S (Lib.decDigits N)) σ) := by
  refine k26.go rfl (fun hok hsz => ?_)
  ((try refine W.a ?_); simp only [go_sem, seval, reduceCtorEq, c26])
  refine W.loopP (DgInv N) (fun x => ⟨(((base.put (some 0) (I (x.1 : Nat))).put (some 2) (S [])).put (some 3) (S x.2)), σ⟩) (fun x => x.1 + (if x.2 = [] then 1 else 0)) (N, []) ⟨Nat.le_refl _, .inl ⟨rfl, rfl⟩⟩ ?_ (fun x hx => ?_)
  · (refine Lew.env ?_; exact lee_here)
  obtain ⟨m, s⟩ := x
  have hm : m ≤ N := hx.1
  have hlen := dg_len hN hx
  have e1 : ((m : Int).tmod 10) = ((m % 10 : Nat) : Int) := by rw [Int.tmod_eq_emod_of_nonneg (by omega)]; omega
  have e2 : ((m : Int).tdiv 10) = ((m / 10 : Nat) : Int) := by rw [Int.tdiv_eq_ediv_of_nonneg (by omega)]; omega
  have w1 : IntKind.i64.wrap (48 + ((m % 10 : Nat) : Int)) = ((48 + m % 10 : Nat) : Int) := by rw [wrap_in] <;> omega
  have w2 : IntKind.u8.wrap ((48 + m % 10 : Nat) : Int) = ((48 + m % 10 : Nat) : Int) := by
    unfold IntKind.wrap IntKind.bits IntKind.signed
    simp
    omega
  have w3 : IntKind.i64.wrap ((m / 10 : Nat) : Int) = ((m / 10 : Nat) : Int) := by rw [wrap_in] <;> omega
  have w4 : IntKind.i64.wrap ((m % 10 : Nat) : Int) = ((m % 10 : Nat) : Int) := by rw [wrap_in] <;> omega
  have hl1 : 1 + s.length ≤ 9223372036854775807 := by omega
  by_cases h0 : 0 < m
  · have h1 : (m : Int) > 0 := by omega
    ((try refine W.a ?_); simp only [go_sem, seval, reduceCtorEq, h1])
    refine W.yes rfl ?_
    ((try refine W.a ?_); simp only [go_sem, seval, reduceCtorEq, e1, e2, w1, w2, w3, w4, hl1, Int.toNat_natCast])
    refine .inv ⟨(m / 10, UInt8.ofNat (48 + m % 10) :: s), dg_next hx (.inl h0), ?_, ?_⟩
    · show _ + _ < _ + _
      rw [if_neg (by simp)]
      have : m / 10 < m := by omega
      omega
    (refine Lew.env ?_; exact lee_here)
  have h1 : ¬ ((m : Int) > 0) := by omega
  by_cases hs : s = []
  · have hb : (s == []) = true := by rw [hs]; rfl
    ((try refine W.a ?_); simp only [go_sem, seval, reduceCtorEq, h1, hb])
    refine W.yes rfl ?_
    ((try refine W.a ?_); simp only [go_sem, seval, reduceCtorEq, e1, e2, w1, w2, w3, w4, hl1, Int.toNat_natCast])
    refine .inv ⟨(m / 10, UInt8.ofNat (48 + m % 10) :: s), dg_next hx (.inr hs), ?_, ?_⟩
    · show _ + _ < _ + _
      rw [if_neg (by simp), if_pos hs]
      omega
    (refine Lew.env ?_; exact lee_here)
  have hb : (s == []) = false := by simpa using hs
  ((try refine W.a ?_); simp only [go_sem, seval, reduceCtorEq, h1, hb])
  refine W.no rfl ?_
  have hfin : s = Lib.decDigits N := by
    obtain ⟨_, h⟩ := hx
    rcases h with ⟨h2, _⟩ | ⟨_, h2, _⟩
    · exact absurd h2 hs
    · exact h2 (by show m = 0; omega)
  rw [hfin]
  ((try refine W.a ?_); simp only [go_sem, seval, reduceCtorEq])
  (refine W.fs (hok) (by simp only [r26, go_sem, seval, reduceCtorEq]; rfl) ?_; simp only [resV]; try exact V.wk.rfl _)
theorem lex_TextD {w0 : World} (hG : Glob w0) (t : Lamb.Tok) (hn : t.n ≤ 9223372036854775807) (σ : H) : DC Tryd.prog w0 11 [t.v] σ (Same (S (textL t.kind t.text t.n)) σ) := by
  refine k11.go rfl (fun hok hsz => ?_)
  have hi := fun σ => strconv_ItoaD hG (max t.n 0) (by omega) (by omega) σ
  have hmm : (if t.n < 0 then 0 else t.n) = max t.n 0 := by split <;> omega
  unfold textL
  ((try refine W.a ?_); simp only [go_sem, seval, reduceCtorEq, c11])
  cases h1 : t.kind == 1
  case true =>
    refine W.yes rfl ?_
    ((try refine W.a ?_); simp only [go_sem, seval, reduceCtorEq])
    refine W.yes rfl ?_
    ((try refine W.a ?_); simp only [go_sem, seval, reduceCtorEq])
    (refine W.fs (hok) (by simp only [r11, go_sem, seval, reduceCtorEq]; rfl) ?_; simp only [resV]; try exact V.wk.rfl _)
  refine W.no rfl ?_
  ((try refine W.a ?_); simp only [go_sem, seval, reduceCtorEq])
  cases h2 : t.kind == 2
  case true =>
    refine W.yes rfl ?_
    ((try refine W.a ?_); simp only [go_sem, seval, reduceCtorEq])
    refine W.yes rfl ?_
    ((try refine W.a ?_); simp only [go_sem, seval, reduceCtorEq])
    (refine W.fs (hok) (by simp only [r11, go_sem, seval, reduceCtorEq]; rfl) ?_; simp only [resV]; try exact V.wk.rfl _)
  refine W.no rfl ?_
  ((try refine W.a ?_); simp only [go_sem, seval, reduceCtorEq])
  cases h4 : t.kind == 4
  case true =>
    refine W.yes rfl ?_
    ((try refine W.a ?_); simp only [go_sem, seval, reduceCtorEq])
    (refine W.fs (hok) (by simp only [r11, go_sem, seval, reduceCtorEq]; rfl) ?_; simp only [resV]; try exact V.wk.rfl _)
  refine W.no rfl ?_
  ((try refine W.a ?_); simp only [go_sem, seval, reduceCtorEq])
  cases h3 : t.kind == 3
  case true =>
    refine W.yes rfl ?_
    ((try refine W.a ?_); simp only [go_sem, seval, reduceCtorEq, hmm])
    (refine W.c1 (hi _) ?_; simp only [go_sem, seval, reduceCtorEq])
    (refine W.fs (hok) (by simp only [r11, go_sem, seval, reduceCtorEq]; rfl) ?_; simp only [resV]; try exact V.wk.rfl _)
  refine W.no rfl ?_
  ((try refine W.a ?_); simp only [go_sem, seval, reduceCtorEq])
  cases h5 : t.kind == 5
  case true =>
    refine W.yes rfl ?_
    ((try refine W.a ?_); simp only [go_sem, seval, reduceCtorEq])
    (refine W.fs (hok) (by simp only [r11, go_sem, seval, reduceCtorEq]; rfl) ?_; simp only [resV]; try exact V.wk.rfl _)
  refine W.no rfl ?_
  ((try refine W.a ?_); simp only [go_sem, seval, reduceCtorEq])
  cases h6 : t.kind == 6
  case true =>
    refine W.yes rfl ?_
    ((try refine W.a ?_); simp only [go_sem, seval, reduceCtorEq])
    (refine W.fs (hok) (by simp only [r11, go_sem, seval, reduceCtorEq]; rfl) ?_; simp only [resV]; try exact V.wk.rfl _)
  refine W.no rfl ?_
  ((try refine W.a ?_); simp only [go_sem, seval, reduceCtorEq])
  cases h7 : t.kind == 7
  case true =>
    refine W.yes rfl ?_
    ((try refine W.a ?_); simp only [go_sem, seval, reduceCtorEq])
    (refine W.fs (hok) (by simp only [r11, go_sem, seval, reduceCtorEq]; rfl) ?_; simp only [resV]; try exact V.wk.rfl _)
  refine W.no rfl ?_
  ((try refine W.a ?_); simp only [go_sem, seval, reduceCtorEq])
  cases h8 : t.kind == 8
  case true =>
    refine W.yes rfl ?_
    ((try refine W.a ?_); simp only [go_sem, seval, reduceCtorEq])
    (refine W.fs (hok) (by simp only [r11, go_sem, seval, reduceCtorEq]; rfl) ?_; simp only [resV]; try exact V.wk.rfl _)
  refine W.no rfl ?_
  ((try refine W.a ?_); simp only [go_sem, seval, reduceCtorEq])
  (refine W.fs (hok) (by simp only [r11, go_sem, seval, reduceCtorEq]; rfl) ?_; simp only [resV]; try exact V.wk.rfl _)
theorem ref01_TextD (w0 : World) (t : Lamb.Tok) (hn : t.n ≤ 9223372036854775807) (σ : H) : DC Tryd.prog w0 12 [t.v] σ (Same (S (textL t.kind t.text t.n)) σ) := by
  refine k12.go rfl (fun hok hsz => ?_)
  have hi : ∀ σ, DC Tryd.prog w0 26 [I (max t.n 0)] σ (Same (S (Lib.itoa (max t.n 0))) σ) := fun σ => by
    have hm : max t.n 0 = (((max t.n 0).toNat : Nat) : Int) := by omega
    rw [hm, Lib.itoa_nonneg]
    exact ref01_Digits w0 _ (by omega) σ
  have hmm : (if t.n < 0 then 0 else t.n) = max t.n 0 := by split <;> omega
  unfold textL
  ((try refine W.a ?_); simp only [go_sem, seval, reduceCtorEq, c12])
  cases h1 : t.kind == 1
  case true =>
    refine W.yes rfl ?_
    ((try refine W.a ?_); simp only [go_sem, seval, reduceCtorEq])
    refine W.yes rfl ?_
    ((try refine W.a ?_); simp only [go_sem, seval, reduceCtorEq])
    (refine W.fs (hok) (by simp only [r12, go_sem, seval, reduceCtorEq]; rfl) ?_; simp only [resV]; try exact V.wk.rfl _)
  refine W.no rfl ?_
  ((try refine W.a ?_); simp only [go_sem, seval, reduceCtorEq])
  cases h2 : t.kind == 2
  case true =>
    refine W.yes rfl ?_
    ((try refine W.a ?_); simp only [go_sem, seval, reduceCtorEq])
    refine W.yes rfl ?_
    ((try refine W.a ?_); simp only [go_sem, seval, reduceCtorEq])
    (refine W.fs (hok) (by simp only [r12, go_sem, seval, reduceCtorEq]; rfl) ?_; simp only [resV]; try exact V.wk.rfl _)
  refine W.no rfl ?_
  ((try refine W.a ?_); simp only [go_sem, seval, reduceCtorEq])
  cases h4 : t.kind == 4
  case true =>
    refine W.yes rfl ?_
    ((try refine W.a ?_); simp only [go_sem, seval, reduceCtorEq])
    (refine W.fs (hok) (by simp only [r12, go_sem, seval, reduceCtorEq]; rfl) ?_; simp only [resV]; try exact V.wk.rfl _)
  refine W.no rfl ?_
  ((try refine W.a ?_); simp only [go_sem, seval, reduceCtorEq])
  cases h3 : t.kind == 3
  case true =>
    refine W.yes rfl ?_
    ((try refine W.a ?_); simp only [go_sem, seval, reduceCtorEq, hmm])
    (refine W.c1 (hi _) ?_; simp only [go_sem, seval, reduceCtorEq])
    (refine W.fs (hok) (by simp only [r12, go_sem, seval, reduceCtorEq]; rfl) ?_; simp only [resV]; try exact V.wk.rfl _)
  refine W.no rfl ?_
  ((try refine W.a ?_); simp only [go_sem, seval, reduceCtorEq])
  cases h5 : t.kind == 5
  case true =>
    refine W.yes rfl ?_
    ((try refine W.a ?_); simp only [go_sem, seval, reduceCtorEq])
    (refine W.fs (hok) (by simp only [r12, go_sem, seval, reduceCtorEq]; rfl) ?_; simp only [resV]; try exact V.wk.rfl _)
  refine W.no rfl ?_
  ((try refine W.a ?_); simp only [go_sem, seval, reduceCtorEq])
  cases h6 : t.kind == 6
  case true =>
    refine W.yes rfl ?_
    ((try refine W.a ?_); simp only [go_sem, seval, reduceCtorEq])
    (refine W.fs (hok) (by simp only [r12, go_sem, seval, reduceCtorEq]; rfl) ?_; simp only [resV]; try exact V.wk.rfl _)
  refine W.no rfl ?_
  ((try refine W.a ?_); simp only [go_sem, seval, reduceCtorEq])
  cases h7 : t.kind == 7
  case true =>
    refine W.yes rfl ?_
    ((try refine W.a ?_); simp only [go_sem, seval, reduceCtorEq])
    (refine W.fs (hok) (by simp only [r12, go_sem, seval, reduceCtorEq]; rfl) ?_; simp only [resV]; try exact V.wk.rfl _)
  refine W.no rfl ?_
  ((try refine W.a ?_); simp only [go_sem, seval, reduceCtorEq])
  cases h8 : t.kind == 8
  case true =>
    refine W.yes rfl ?_
    ((try refine W.a ?_); simp only [go_sem, seval, reduceCtorEq])
    (refine W.fs (hok) (by simp only [r12, go_sem, seval, reduceCtorEq]; rfl) ?_; simp only [resV]; try exact V.wk.rfl _)
  refine W.no rfl ?_
  ((try refine W.a ?_); simp only [go_sem, seval, reduceCtorEq])
  (refine W.fs (hok) (by simp only [r12, go_sem, seval, reduceCtorEq]; rfl) ?_; simp only [resV]; try exact V.wk.rfl _)
/-- A contract over worlds of what looks at a text and tells a bool. -/
theorem DC.of_text {w0 : World} {f : FuncId} {s : List UInt8} {b : Bool} {σ : H} (hen : Enters Tryd.prog f) (h : ∀ w, s.length ≤ maxLen → Calls Tryd.prog f #[.string (bs s)] w (Ret (.bool b) w)) : DC Tryd.prog w0 f [S s] σ (Same (B b) σ) := by
  refine DC.of_calls hen fun κ w vs hrep hfit => ?_
  obtain ⟨v, ys, rfl, hv, hfit⟩ := hfit.cons_inv
  have := hfit.nil_inv
  subst this
  cases hv with
  | c hv =>
    cases hv with
    | str _ hl =>
      refine ⟨.bool b, .c (.bool b), (h w hl).mono ?_⟩
      rintro e w' ⟨rfl, rfl⟩
      exact ⟨rfl, Below.refl _ _⟩
theorem law01_worksD {w0 : World} (hG : Glob w0) (σ : H) : DC Tryd.prog w0 4 [] σ (Same (B true) σ) := by
  refine DC.of_calls (enters_fn Tryd.func4 (by kernel_rfl) rfl) fun κ w vs hrep hfit => ?_
  have := hfit.nil_inv
  subst this
  refine ⟨.bool true, .c (.bool true), (works_c w (hG.ext hrep.ext)).mono ?_⟩
  rintro e w' ⟨rfl, hb⟩
  exact ⟨rfl, hb⟩
theorem law01_LexWords {w0 : World} (hG : Glob w0) (s : List UInt8) (t : Lamb.Tok) (hn : t.n ≤ 9223372036854775807) (σ : H) : DC Tryd.prog w0 3 [S s, t.v] σ (Same (B true) σ) := by
  refine k3.go rfl (fun hok hsz => ?_)
  ((try refine W.a ?_); simp only [go_sem, seval, reduceCtorEq, c3])
  (refine W.c1 (law01_worksD hG _) ?_; simp only [go_sem, seval, reduceCtorEq])
  refine W.no rfl ?_
  by_cases h1 : (s.length : Int) > 2048
  · ((try refine W.a ?_); simp only [go_sem, seval, reduceCtorEq, h1])
    refine W.yes rfl ?_
    ((try refine W.a ?_); simp only [go_sem, seval, reduceCtorEq])
    (refine W.fs (hok) (by simp only [r3, go_sem, seval, reduceCtorEq]; rfl) ?_; simp only [resV]; try exact V.wk.rfl _)
  by_cases h2 : (t.text.length : Int) > 2048
  · ((try refine W.a ?_); simp only [go_sem, seval, reduceCtorEq, h1, h2])
    refine W.yes rfl ?_
    ((try refine W.a ?_); simp only [go_sem, seval, reduceCtorEq])
    (refine W.fs (hok) (by simp only [r3, go_sem, seval, reduceCtorEq]; rfl) ?_; simp only [resV]; try exact V.wk.rfl _)
  have a1 : ∀ σ, DC Tryd.prog w0 5 [S s] σ (Same (B (isNameB s)) σ) := fun σ => DC.of_text (enters_fn Tryd.func5 (by kernel_rfl) rfl) fun w hs => lex_IsName (bs s) w hs
  have a2 : ∀ σ, DC Tryd.prog w0 7 [S s] σ (Same (B (isVarB s)) σ) := fun σ => DC.of_text (enters_fn Tryd.func7 (by kernel_rfl) rfl) fun w hs => lex_IsVar (bs s) w hs
  have a3 : ∀ σ, DC Tryd.prog w0 9 [S s] σ (Same (B (isSymB s)) σ) := fun σ => DC.of_text (enters_fn Tryd.func9 (by kernel_rfl) rfl) fun w hs => lex_IsSym (bs s) w hs
  have b1 : ∀ σ, DC Tryd.prog w0 6 [S s] σ (Same (B (isNameB s)) σ) := fun σ => DC.of_text (enters_fn Tryd.func6 (by kernel_rfl) rfl) fun w hs => ref_IsName s w (by omega)
  have b2 : ∀ σ, DC Tryd.prog w0 8 [S s] σ (Same (B (isVarB s)) σ) := fun σ => DC.of_text (enters_fn Tryd.func8 (by kernel_rfl) rfl) fun w hs => ref_IsVar s w (by omega)
  have b3 : ∀ σ, DC Tryd.prog w0 10 [S s] σ (Same (B (isSymB s)) σ) := fun σ => DC.of_text (enters_fn Tryd.func10 (by kernel_rfl) rfl) fun w hs => ref_IsSym s w (by omega)
  have a4 := fun σ => lex_TextD hG t hn σ
  have b4 := fun σ => ref01_TextD w0 t hn σ
  generalize textL t.kind t.text t.n = x at *
  ((try refine W.a ?_); simp only [go_sem, seval, reduceCtorEq, h1, h2])
  refine W.no rfl ?_
  ((try refine W.a ?_); simp only [go_sem, seval, reduceCtorEq])
  apply W.dregE (List.cons_ne_nil _ _)
  case hc =>
    (apply CanonE.advPO; simp only [go_sem, seval, reduceCtorEq])
    (apply CanonE.call (a1 _); (case hg => rfl); (case hf => rfl); (case ha => first | rfl | simp))
    (apply CanonE.advPO; simp only [go_sem, seval, reduceCtorEq])
    (apply CanonE.call (b1 _); (case hg => rfl); (case hf => rfl); (case ha => first | rfl | simp))
    (apply CanonE.advPO; simp only [go_sem, seval, reduceCtorEq, beq_self_eq_true])
    (apply CanonE.call (a2 _); (case hg => rfl); (case hf => rfl); (case ha => first | rfl | simp))
    (apply CanonE.advPO; simp only [go_sem, seval, reduceCtorEq])
    (apply CanonE.call (b2 _); (case hg => rfl); (case hf => rfl); (case ha => first | rfl | simp))
    (apply CanonE.advPO; simp only [go_sem, seval, reduceCtorEq, beq_self_eq_true])
    (apply CanonE.call (a3 _); (case hg => rfl); (case hf => rfl); (case ha => first | rfl | simp))
    (apply CanonE.advPO; simp only [go_sem, seval, reduceCtorEq])
    (apply CanonE.call (b3 _); (case hg => rfl); (case hf => rfl); (case ha => first | rfl | simp))
    (apply CanonE.advPO; simp only [go_sem, seval, reduceCtorEq, beq_self_eq_true])
    (apply CanonE.call (a4 _); (case hg => rfl); (case hf => rfl); (case ha => first | rfl | simp))
    (apply CanonE.advPO; simp only [go_sem, seval, reduceCtorEq])
    (apply CanonE.call (b4 _); (case hg => rfl); (case hf => rfl); (case ha => first | rfl | simp))
    (apply CanonE.advPO; simp only [go_sem, seval, reduceCtorEq, beq_self_eq_true])
    exact CanonE.nil
  ((try refine W.a ?_); simp only [go_sem, seval, reduceCtorEq])
  (refine W.fs (hok) (by simp only [r3, go_sem, seval, reduceCtorEq]; rfl) ?_; simp only [resV]; try exact V.wk.rfl _)
end Go.Proofs.YtohcnohllbjlcaaDoor

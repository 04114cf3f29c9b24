/-
  Walks: trees as lines (show.Lines): none; any.
  Walks: the document's examples of trees; whatever text is lexed and read.
  Walks: the document's examples (layer 4).
  Walks: could operators have been declared one by one? What is written is read again.
  Walks: the statements ShowBack, ShowOnce, ShowApart.
-/
import Derived.Test.YtljjlhdkkbaehaaGreatDoorQJ35
import Derived.Test.YtljjlhdkkbaehaaGreatDoorQJ34
import Derived.Test.YtljjlhdkkbaehaaGreatDoorQLexGl
import Derived.Test.YtljjlhdkkbaehaaGreatDoorQJ15
set_option linter.unusedSimpArgs false
set_option linter.unusedVariables false
set_option maxHeartbeats 8000000
set_option maxRecDepth 20000
namespace Go.Proofs.YtljjlhdkkbaehaaGreatDoor
open Go.RowKit Go.Lamb
set_option maxRecDepth 100000 in
theorem lines_none (w0 : World) (l : List OpT) (σ : H) : DC Tryz.prog w0 13 [.c (opsC l), .c (.sl [])] σ (Same (S []) σ) := by
  refine DC.of_calls (enters_fn Tryz.func13 (by kernel_rfl) rfl) fun κ w vs hrep hfit => ?_
  obtain ⟨x, ys, rfl, hx, hfit⟩ := hfit.cons_inv
  obtain ⟨y, zs, rfl, hy, hfit⟩ := hfit.cons_inv
  have := hfit.nil_inv
  subst this
  obtain ⟨xA, xn, xc, ex⟩ : ∃ A n c, x = .slice A n c := by
    unfold opsC at hx
    cases hx with | c h => cases h; exact ⟨_, _, _, rfl⟩
  obtain ⟨yA, yc, ey⟩ : ∃ A c, y = .slice A 0 c := by
    cases hy with | c h => cases h; exact ⟨_, _, rfl⟩
  subst ex ey
  refine ⟨.string .empty, .c (.str [] (Nat.zero_le _)), ?_⟩
  have hSt := string_nil (w.alloc (.cells #[.slice xA xn xc, .pointer none, .slice none 0 0] 60)) w.heap.size (by simp)
  go_enter Tryz.func13, Tryz.ntmps13
  go_wp2_with (fail)
  go_loopw [13] (fun v wr => v = .int .i64 0 ∧ wr = w.alloc (.cells #[.slice xA xn xc, .pointer none, .slice none 0 0] 60)) (fun _ _ => 0)
  case atStart => exact ⟨rfl, rfl⟩
  case round =>
    obtain ⟨rfl, rfl⟩ := hrel
    go_wp2_with (fail)
    refine hSt.mono ?_
    rintro e w' ⟨rfl, rfl⟩
    go_wp2
    go_ret
    exact ⟨rfl, Below.drew (Below.alloc (Below.refl _ _) (Nat.le_refl _) _)⟩
theorem show_Lines {w0 : World} (hG : Glob w0) (l : List OpT) (ps : List Pre) (hO : ∀ p ∈ ps, OkP p) (hn : (linesL l ps).length ≤ 100000000) (σ : H) :
    DC Tryz.prog w0 13 [.c (opsC l), .c (.sl (ps.map Pre.cs))] σ (Same (S (linesL l ps)) σ) := by
  by_cases h : ps = []
  · subst h
    exact lines_none w0 l σ
  · exact lines_some hG l ps h hO hn σ
end Go.Proofs.YtljjlhdkkbaehaaGreatDoor
namespace Go.Proofs.YtljjlhdkkbaehaaGreatDoor
open Go.RowKit Go.Lamb

theorem read_at0 (w0 : World) (l : List OpT) (t : List Tok) (r : Except Bad (Made × Nat)) (σ : H) (h : Lamb.Expr l t 0 0 0 r) (ht : t.length ≤ 1000000) : DC Tryz.prog w0 16 [.c (opsC l), .c (toksC t), I 0] σ (Same (readV 0 r) σ) := read_Read w0 l t 0 r σ h (Nat.zero_le _) ht
end Go.Proofs.YtljjlhdkkbaehaaGreatDoor
namespace Go.Lamb
/-- Are all numbers of a tree numbers of the machine? -/
def okPb : Nat → Pre → Bool
  | 0, _ => false
  | f + 1, p => decide (p.n ≤ 9223372036854775807) && p.l.all (okPb f)
theorem okPb_ok : ∀ (f : Nat) (p : Pre), okPb f p = true → OkP p
  | 0, _, h => by cases h
  | f + 1, .mk k s n l a, h => by
    rw [okPb, Bool.and_eq_true, decide_eq_true_eq] at h
    exact .mk h.1 fun x hx => okPb_ok f x (List.all_eq_true.1 h.2 x hx)
/-- Is a text read as a tree that is written so? -/
def okTree (l : List OpT) (s out : List UInt8) : Bool := match exprF 40 l (lexL s).toks 0 0 0 with
  | some (.ok (m, _)) => okPb 30 m.p && showL l m.p == out
  | _ => false
theorem okTree_ok {l : List OpT} {s out : List UInt8} (h : okTree l s out = true) : ∃ m j, Expr l (lexL s).toks 0 0 0 (.ok (m, j)) ∧ OkP m.p ∧ showL l m.p = out := by
  unfold okTree at h
  split at h
  · rename_i m j e
    rw [Bool.and_eq_true, beq_iff_eq] at h
    exact ⟨m, j, ⟨40, e⟩, okPb_ok 30 _ h.1, h.2⟩
  · cases h
end Go.Lamb
namespace Go.Proofs.YtljjlhdkkbaehaaGreatDoor
open Go.RowKit Go.Lamb
attribute [local go_sem] advO_skip advO_reg advO_seq advO_block advO_exit advO_endb advO_opsNil advO_ops advG_yes advG_no advG_none advS_some advS_none advO_cond advO_loop advO_dreg advO_ret advO_bad advO_inv advO_nil advO_zero wantedV Lamb.step ev_t ev_k put_some put_none argEnv popTo cellsAt V.cellsV V.rows V.toC toCs fillV bytesC byteRows appV rowsV boundV boundL binV binInt binStr eqC eqL V.isNil leaves V.leaf Ins.quiet Ins.pure List.getD_cons_zero List.getD_cons_succ List.getD_nil List.all_cons List.all_nil List.length_cons List.length_nil List.take_succ_cons List.take_zero List.drop_succ_cons List.drop_zero List.cons_append List.nil_append List.append_nil List.append_assoc List.map_cons List.map_nil List.getElem?_cons_zero List.getElem?_cons_succ List.length_append List.length_set hget0 hget hset0 hset hsets hgs0 hgs hss0 hss List.set_cons_zero List.set_cons_succ List.forall_mem_cons List.not_mem_nil false_implies implies_true Option.map_some Bool.and_true Bool.true_and Bool.not_not Bool.not_true Bool.not_false Bool.and_self Bool.or_true Bool.true_or Bool.or_false Bool.false_or Bool.and_false Bool.false_and Bool.false_eq_true beq_self_eq_true and_self and_true true_and if_true if_false Nat.zero_add Nat.add_zero Nat.le_refl Int.toNat_natCast decide_true decide_false beq_t beq_f List.length_map List.getElem?_map I S B opsC toksC OpT.v OpT.cs OpT.zero Tok.v Tok.cs Pre.v Pre.cs_eq k_mk name_mk n_mk l_mk pos_mk Pre.app applyL natCast0 natCast1 natCast2 AOp.o AOp.m AOp.f AOp.l AOp.d AOp.n AOp.x AOp.s AOp.k AOp.y AOp.z EOp.q low_c low_void low_any low_csl low_nilf low_ptr low_osl low_agg low_tup low_fn resEval advPO_nil advPO_loud advPO_quiet pL_yes pL_no pLS_some pLS_none pQ_yes pQ_no pQS_some pQS_loud eq_self Nat.sub_zero
theorem law04_tree {w0 : World} (hG : Glob w0) (s : List UInt8) (hs : s.length ≤ 1000) (m : Made) (j : Nat) (h : Lamb.Expr ops0 (lexL s).toks 0 0 0 (.ok (m, j))) (σ : H) : DC Tryz.prog w0 21 [S s] σ (Same m.p.v σ) := by
  refine k21.go rfl (fun hok hsz => ?_)
  have ht : (lexL s).toks.length ≤ 1000000 := by have := lexL_count s; omega
  ((try refine W.a ?_); simp only [go_sem, seval, reduceCtorEq, c21])
  (refine W.c1 (lex_Lex hG s (by omega) _) ?_; simp only [go_sem, seval, reduceCtorEq])
  (refine W.c1 (ops_Default w0 _) ?_; simp only [go_sem, seval, reduceCtorEq])
  (refine W.c1 (read_at0 w0 ops0 _ _ _ h ht) ?_; simp only [go_sem, seval, reduceCtorEq, readV])
  (refine W.fs (hok) (by simp only [r21, go_sem, seval, reduceCtorEq]; rfl) ?_; simp only [resV]; try exact V.wk.rfl _)
theorem ex4_0 : okTree ops0 [97, 32, 45, 32, 40, 98, 32, 45, 32, 99, 41] [97, 32, 45, 32, 40, 98, 32, 45, 32, 99, 41] = true := by kernel_rfl
theorem ex4_1 : okTree ops0 [40, 97, 32, 45, 32, 98, 41, 32, 45, 32, 99] [97, 32, 45, 32, 98, 32, 45, 32, 99] = true := by kernel_rfl
theorem ex4_2 : okTree ops0 [112, 32, 40, 120, 92, 32, 120, 41, 32, 40, 102, 32, 121, 41] [112, 32, 40, 120, 92, 32, 120, 41, 32, 40, 102, 32, 121, 41] = true := by kernel_rfl
theorem ex4_3 : okTree ops0 [40, 120, 92, 32, 120, 41, 32, 44, 32, 121] [40, 120, 92, 32, 120, 41, 32, 44, 32, 121] = true := by kernel_rfl
theorem ex4_4 : okTree ops0 [40, 97, 32, 61, 32, 98, 41, 32, 61, 32, 99] [40, 97, 32, 61, 32, 98, 41, 32, 61, 32, 99] = true := by kernel_rfl
theorem ex4_5 : okTree ops0 [40, 43, 41, 32, 49] [40, 43, 41, 32, 49] = true := by kernel_rfl
theorem ex4_6 : okTree ops0 [97] [97] = true := by kernel_rfl
theorem ex4_7 : okTree ops0 [98] [98] = true := by kernel_rfl
theorem law04_works {w0 : World} (hG : Glob w0) (σ : H) : DC Tryz.prog w0 8 [] σ (Same (B true) σ) := by
  refine k8.go rfl (fun hok hsz => ?_)
  obtain ⟨m0, j0, h0, o0, t0⟩ := okTree_ok ex4_0
  obtain ⟨m1, j1, h1, o1, t1⟩ := okTree_ok ex4_1
  obtain ⟨m2, j2, h2, o2, t2⟩ := okTree_ok ex4_2
  obtain ⟨m3, j3, h3, o3, t3⟩ := okTree_ok ex4_3
  obtain ⟨m4, j4, h4, o4, t4⟩ := okTree_ok ex4_4
  obtain ⟨m5, j5, h5, o5, t5⟩ := okTree_ok ex4_5
  obtain ⟨m6, j6, h6, o6, t6⟩ := okTree_ok ex4_6
  obtain ⟨m7, j7, h7, o7, t7⟩ := okTree_ok ex4_7
  ((try refine W.a ?_); simp only [go_sem, seval, reduceCtorEq, c8])
  (refine W.c1 (ops_Default w0 _) ?_; simp only [go_sem, seval, reduceCtorEq])
  (refine W.c1 (law04_tree hG [97, 32, 45, 32, 40, 98, 32, 45, 32, 99, 41] (by decide) m0 j0 h0 _) ?_; simp only [go_sem, seval, reduceCtorEq])
  (refine W.c1 ((show_Text hG ops0 m0.p o0 (by rw [t0]; decide) _).toSame (congrArg S t0)) ?_; simp only [go_sem, seval, reduceCtorEq])
  (refine W.c1 (law04_tree hG [40, 97, 32, 45, 32, 98, 41, 32, 45, 32, 99] (by decide) m1 j1 h1 _) ?_; simp only [go_sem, seval, reduceCtorEq])
  (refine W.c1 ((show_Text hG ops0 m1.p o1 (by rw [t1]; decide) _).toSame (congrArg S t1)) ?_; simp only [go_sem, seval, reduceCtorEq])
  (refine W.c1 (law04_tree hG [112, 32, 40, 120, 92, 32, 120, 41, 32, 40, 102, 32, 121, 41] (by decide) m2 j2 h2 _) ?_; simp only [go_sem, seval, reduceCtorEq])
  (refine W.c1 ((show_Text hG ops0 m2.p o2 (by rw [t2]; decide) _).toSame (congrArg S t2)) ?_; simp only [go_sem, seval, reduceCtorEq])
  (refine W.c1 (law04_tree hG [40, 120, 92, 32, 120, 41, 32, 44, 32, 121] (by decide) m3 j3 h3 _) ?_; simp only [go_sem, seval, reduceCtorEq])
  (refine W.c1 ((show_Text hG ops0 m3.p o3 (by rw [t3]; decide) _).toSame (congrArg S t3)) ?_; simp only [go_sem, seval, reduceCtorEq])
  (refine W.c1 (law04_tree hG [40, 97, 32, 61, 32, 98, 41, 32, 61, 32, 99] (by decide) m4 j4 h4 _) ?_; simp only [go_sem, seval, reduceCtorEq])
  (refine W.c1 ((show_Text hG ops0 m4.p o4 (by rw [t4]; decide) _).toSame (congrArg S t4)) ?_; simp only [go_sem, seval, reduceCtorEq])
  (refine W.c1 (law04_tree hG [40, 43, 41, 32, 49] (by decide) m5 j5 h5 _) ?_; simp only [go_sem, seval, reduceCtorEq])
  (refine W.c1 ((show_Text hG ops0 m5.p o5 (by rw [t5]; decide) _).toSame (congrArg S t5)) ?_; simp only [go_sem, seval, reduceCtorEq])
  (refine W.c1 (law04_tree hG [97] (by decide) m6 j6 h6 _) ?_; simp only [go_sem, seval, reduceCtorEq])
  (refine W.c1 ((show_Width hG ops0 m6.p o6 (by rw [t6]; decide) _).toSame (congrArg (fun l : List UInt8 => I l.length) t6)) ?_; simp only [go_sem, seval, reduceCtorEq])
  (refine W.c1 (law04_tree hG [97] (by decide) m6 j6 h6 _) ?_; simp only [go_sem, seval, reduceCtorEq])
  (refine W.c1 (law04_tree hG [98] (by decide) m7 j7 h7 _) ?_; simp only [go_sem, seval, reduceCtorEq])
  have e8 : linesL ops0 [m6.p, m7.p] = [97, 46, 10, 98, 46, 10] := by
    simp only [linesL, t6, t7]
    rfl
  have hL := fun σ => (show_Lines hG ops0 [m6.p, m7.p] (fun p hp => by simp only [List.mem_cons, List.not_mem_nil, or_false] at hp; rcases hp with rfl | rfl; exact o6; exact o7) (by rw [e8]; decide) σ).toSame (congrArg S e8)
  simp only [List.map_cons, List.map_nil, Pre.cs_eq] at hL
  (refine W.c1w (hL _) ?_; simp only [go_sem, seval, reduceCtorEq])
  (refine W.fs (hok) (by simp only [r8, go_sem, seval, reduceCtorEq]; rfl) ?_; simp only [resV]; try exact V.wk.rfl _)
end Go.Proofs.YtljjlhdkkbaehaaGreatDoor
namespace Go.Lamb
/-- Could operators have been declared one by one? -/
def declS (l : List OpT) : Bool := (List.range l.length).all fun i => wrongL (l.take i) (l[i]?.getD .zero) == 0
theorem declS_at {l : List OpT} (h : declS l = true) {i : Nat} (hi : i < l.length) : wrongL (l.take i) l[i] = 0 := by
  have := List.all_eq_true.1 h i (by simpa using hi)
  rw [List.getElem?_eq_getElem hi] at this
  simpa using this
theorem declS_ok {l : List OpT} (h : declS l = true) : OpsOk l ∧ ∀ o ∈ l, isNameB o.name = true ∨ isSymB o.name = true := by
  have key : ∀ o ∈ l, (isNameB o.name = true ∨ isSymB o.name = true) ∧ 1 ≤ o.prec ∧ o.prec ≤ 200 := fun o ho => by
    obtain ⟨i, hi, rfl⟩ := List.getElem_of_mem ho
    have := declS_at h hi
    unfold wrongL at this
    split at this
    · omega
    · split at this
      · omega
      · rename_i h1
        split at this
        · omega
        · rename_i h2
          refine ⟨?_, by omega, by omega⟩
          simp only [not_or, not_and, Bool.not_eq_false] at h1
          cases hn : isNameB l[i].name
          · exact .inr (h1.1 hn)
          · exact .inl rfl
  exact ⟨⟨fun o ho => (key o ho).1, fun o ho => (key o ho).2⟩, fun o ho => (key o ho).1⟩
end Go.Lamb
namespace Go.Proofs.YtljjlhdkkbaehaaGreatDoor
open Go.RowKit Go.Lamb
attribute [local go_sem] advO_skip advO_reg advO_seq advO_block advO_exit advO_endb advO_opsNil advO_ops advG_yes advG_no advG_none advS_some advS_none advO_cond advO_loop advO_dreg advO_ret advO_bad advO_inv advO_nil advO_zero wantedV Lamb.step ev_t ev_k put_some put_none argEnv popTo cellsAt V.cellsV V.rows V.toC toCs fillV bytesC byteRows appV rowsV boundV boundL binV binInt binStr eqC eqL V.isNil leaves V.leaf Ins.quiet Ins.pure List.getD_cons_zero List.getD_cons_succ List.getD_nil List.all_cons List.all_nil List.length_cons List.length_nil List.take_succ_cons List.take_zero List.drop_succ_cons List.drop_zero List.cons_append List.nil_append List.append_nil List.append_assoc List.map_cons List.map_nil List.getElem?_cons_zero List.getElem?_cons_succ List.length_append List.length_set hget0 hget hset0 hset hsets hgs0 hgs hss0 hss List.set_cons_zero List.set_cons_succ List.forall_mem_cons List.not_mem_nil false_implies implies_true Option.map_some Bool.and_true Bool.true_and Bool.not_not Bool.not_true Bool.not_false Bool.and_self Bool.or_true Bool.true_or Bool.or_false Bool.false_or Bool.and_false Bool.false_and Bool.false_eq_true beq_self_eq_true and_self and_true true_and if_true if_false Nat.zero_add Nat.add_zero Nat.le_refl Int.toNat_natCast decide_true decide_false beq_t beq_f List.length_map List.getElem?_map I S B opsC toksC OpT.v OpT.cs OpT.zero Tok.v Tok.cs Pre.v Pre.cs_eq k_mk name_mk n_mk l_mk pos_mk Pre.app applyL natCast0 natCast1 natCast2 AOp.o AOp.m AOp.f AOp.l AOp.d AOp.n AOp.x AOp.s AOp.k AOp.y AOp.z EOp.q low_c low_void low_any low_csl low_nilf low_ptr low_osl low_agg low_tup low_fn resEval advPO_nil advPO_loud advPO_quiet pL_yes pL_no pLS_some pLS_none pQ_yes pQ_no pQS_some pQS_loud eq_self Nat.sub_zero
theorem ref02_DeclareS (w0 : World) (l : List OpT) (o : OpT) (σ : H) : DC Tryz.prog w0 34 [.c (opsC l), o.v] σ (Same (I (wrongL l o)) σ) := by
  obtain ⟨name, prec, fix⟩ := o
  by_cases hf : fix = 0 ∨ fix = 1 ∨ fix = 2
  · exact ref02_Declare w0 l name prec fix hf σ
  · have hw : wrongL l ⟨name, prec, fix⟩ = 1 := by
      unfold wrongL
      rw [if_pos (by simp only; omega)]
    have h0 : (fix != 0) = true := by simp; omega
    have h1 : (fix != 1) = true := by simp; omega
    have h2 : (fix != 2) = true := by simp; omega
    refine k34.go rfl (fun hok hsz => ?_)
    rw [hw]
    ((try refine W.a ?_); simp only [go_sem, seval, reduceCtorEq, c34, h0, h1, h2])
    refine W.yes rfl ?_
    ((try refine W.a ?_); simp only [go_sem, seval, reduceCtorEq])
    (refine W.fs (hok) (by simp only [r34, go_sem, seval, reduceCtorEq]; rfl) ?_; simp only [resV]; try exact V.wk.rfl _)
theorem ref04_Declared (w0 : World) (l : List OpT) (σ : H) : DC Tryz.prog w0 14 [.c (opsC l)] σ (Same (B (declS l)) σ) := by
  refine k14.go rfl (fun hok hsz => ?_)
  have hlen : l.length ≤ 9223372036854775807 := by
    have := (sz_sl.1 (sz_c.1 (hsz _ (List.mem_cons_self ..)))).1
    rw [List.length_map] at this
    exact this
  ((try refine W.a ?_); simp only [go_sem, seval, reduceCtorEq, c14])
  refine W.loopP (fun i => i ≤ l.length ∧ ∀ j (hj : j < l.length), j < i → wrongL (l.take j) l[j] = 0) (fun i => ⟨((base.put (some 0) (.c (opsC l))).put (some 3) (I (i : Nat))), σ⟩) (fun i => l.length - i) 0 ⟨Nat.zero_le _, fun j _ h => absurd h (Nat.not_lt_zero _)⟩ ?_ (fun i hi => ?_)
  · (refine Lew.env ?_; exact lee_here)
  · obtain ⟨hi, hinv⟩ := hi
    by_cases hlt : i < l.length
    · have h1 : ((i : Int) < (l.length : Int)) := by omega
      have hx : l[i]? = some l[i] := List.getElem?_eq_getElem hlt
      have hw : IntKind.i64.wrap ((i : Int) + 1) = ((i + 1 : Nat) : Int) := wrap_next hlt hlen
      have hd := fun σ => ref02_DeclareS w0 (l.take i) l[i] σ
      have hn0 : ¬ ((i : Int) < 0) := by omega
      have hle : (i : Int) ≤ (l.length : Int) := by omega
      have hnx : ∀ j (hj : j < l.length), j < i + 1 → wrongL (l.take i) l[i] = 0 → wrongL (l.take j) l[j] = 0 := fun j hj hji hz => by
        rcases Nat.lt_succ_iff_lt_or_eq.1 hji with h2 | h2
        · exact hinv j hj h2
        · subst h2; exact hz
      have hno : wrongL (l.take i) l[i] ≠ 0 → declS l = false := fun hz => by
        cases hD : declS l
        · rfl
        · exact absurd (declS_at hD hlt) hz
      simp only [opsC, List.map_take] at hd
      have hrows : ∀ r ∈ l.map OpT.cs, r.length = 3 := fun r hr => by obtain ⟨o, _, rfl⟩ := List.mem_map.1 hr; rfl
      generalize wrongL (l.take i) l[i] = wr at *
      generalize l[i] = x at *
      cases hwr : (wr != 0)
      · have hz : wr = 0 := by simpa using hwr
        ((try refine W.a ?_); simp only [go_sem, seval, reduceCtorEq, h1])
        refine W.yes rfl ?_
        ((try refine W.a ?_); simp only [go_sem, seval, reduceCtorEq])
        apply W.dreg
        case hc =>
          (apply Canon.advCO; simp only [advCO_nil, advCO_cons, cG_yes, cG_no, cS_some, cS_loud, go_sem, seval, reduceCtorEq, h1, nat0, hx, hn0, hle, eq_true hrows])
          (apply Canon.call (hd _); (case hg => rfl); (case hf => rfl); (case ha => first | rfl | simp))
          (apply Canon.advCO; simp only [advCO_nil, advCO_cons, cG_yes, cG_no, cS_some, cS_loud, go_sem, seval, reduceCtorEq, hwr])
          exact Canon.nil
        ((try refine W.a ?_); simp only [go_sem, seval, reduceCtorEq])
        refine W.no rfl ?_
        ((try refine W.a ?_); simp only [go_sem, seval, reduceCtorEq, hw])
        refine .inv ⟨i + 1, ⟨hlt, fun j hj hji => hnx j hj hji hz⟩, by omega, ?_⟩
        (refine Lew.env ?_; exact lee_here)
      · have hz : wr ≠ 0 := by simpa using hwr
        rw [hno hz]
        ((try refine W.a ?_); simp only [go_sem, seval, reduceCtorEq, h1])
        refine W.yes rfl ?_
        ((try refine W.a ?_); simp only [go_sem, seval, reduceCtorEq])
        apply W.dreg
        case hc =>
          (apply Canon.advCO; simp only [advCO_nil, advCO_cons, cG_yes, cG_no, cS_some, cS_loud, go_sem, seval, reduceCtorEq, h1, nat0, hx, hn0, hle, eq_true hrows])
          (apply Canon.call (hd _); (case hg => rfl); (case hf => rfl); (case ha => first | rfl | simp))
          (apply Canon.advCO; simp only [advCO_nil, advCO_cons, cG_yes, cG_no, cS_some, cS_loud, go_sem, seval, reduceCtorEq, hwr])
          exact Canon.nil
        ((try refine W.a ?_); simp only [go_sem, seval, reduceCtorEq])
        refine W.yes rfl ?_
        ((try refine W.a ?_); simp only [go_sem, seval, reduceCtorEq])
        (refine W.fs (hok) (by simp only [r14, go_sem, seval, reduceCtorEq]; rfl) ?_; simp only [resV]; try exact V.wk.rfl _)
    · have h1 : ¬ ((i : Int) < (l.length : Int)) := by omega
      have hyes : declS l = true := by
        unfold declS
        rw [List.all_eq_true]
        intro j hj
        have hj : j < l.length := by simpa using hj
        rw [List.getElem?_eq_getElem hj]
        simpa using hinv j hj (by omega)
      rw [hyes]
      ((try refine W.a ?_); simp only [go_sem, seval, reduceCtorEq, h1])
      refine W.no rfl ?_
      ((try refine W.a ?_); simp only [go_sem, seval, reduceCtorEq])
      (refine W.fs (hok) (by simp only [r14, go_sem, seval, reduceCtorEq]; rfl) ?_; simp only [resV]; try exact V.wk.rfl _)
end Go.Proofs.YtljjlhdkkbaehaaGreatDoor
namespace Go.Proofs.YtljjlhdkkbaehaaGreatDoor
open Go.RowKit Go.Lamb
attribute [local go_sem] advO_skip advO_reg advO_seq advO_block advO_exit advO_endb advO_opsNil advO_ops advG_yes advG_no advG_none advS_some advS_none advO_cond advO_loop advO_dreg advO_ret advO_bad advO_inv advO_nil advO_zero wantedV Lamb.step ev_t ev_k put_some put_none argEnv popTo cellsAt V.cellsV V.rows V.toC toCs fillV bytesC byteRows appV rowsV boundV boundL binV binInt binStr eqC eqL V.isNil leaves V.leaf Ins.quiet Ins.pure List.getD_cons_zero List.getD_cons_succ List.getD_nil List.all_cons List.all_nil List.length_cons List.length_nil List.take_succ_cons List.take_zero List.drop_succ_cons List.drop_zero List.cons_append List.nil_append List.append_nil List.append_assoc List.map_cons List.map_nil List.getElem?_cons_zero List.getElem?_cons_succ List.length_append List.length_set hget0 hget hset0 hset hsets hgs0 hgs hss0 hss List.set_cons_zero List.set_cons_succ List.forall_mem_cons List.not_mem_nil false_implies implies_true Option.map_some Bool.and_true Bool.true_and Bool.not_not Bool.not_true Bool.not_false Bool.and_self Bool.or_true Bool.true_or Bool.or_false Bool.false_or Bool.and_false Bool.false_and Bool.false_eq_true beq_self_eq_true and_self and_true true_and if_true if_false Nat.zero_add Nat.add_zero Nat.le_refl Int.toNat_natCast decide_true decide_false beq_t beq_f List.length_map List.getElem?_map I S B opsC toksC OpT.v OpT.cs OpT.zero Tok.v Tok.cs Pre.v Pre.cs_eq k_mk name_mk n_mk l_mk pos_mk Pre.app applyL natCast0 natCast1 natCast2 AOp.o AOp.m AOp.f AOp.l AOp.d AOp.n AOp.x AOp.s AOp.k AOp.y AOp.z EOp.q low_c low_void low_any low_csl low_nilf low_ptr low_osl low_agg low_tup low_fn resEval advPO_nil advPO_loud advPO_quiet pL_yes pL_no pLS_some pLS_none pQ_yes pQ_no pQS_some pQS_loud eq_self Nat.sub_zero
theorem law04_ShowBack {w0 : World} (hG : Glob w0) (l : List OpT) (p : Pre) (hO : OkP p) (σ : H) : DC Tryz.prog w0 6 [.c (opsC l), p.v] σ (Same (B true) σ) := by
  refine k6.go rfl (fun hok hsz => ?_)
  have ho := fun σ => law04_over w0 l p σ
  have hd := fun σ => ref04_Declared w0 l σ
  have hv := fun σ => read_Valid w0 l p σ
  ((try refine W.a ?_); simp only [go_sem, seval, reduceCtorEq, c6])
  (refine W.c1 (law04_works hG _) ?_; simp only [go_sem, seval, reduceCtorEq])
  refine W.no rfl ?_
  ((try refine W.a ?_); simp only [go_sem, seval, reduceCtorEq])
  cases hb : overS l p
  case true =>
    rw [hb] at ho
    (refine W.c1 (ho _) ?_; simp only [go_sem, seval, reduceCtorEq])
    (refine W.c1 (hd _) ?_; simp only [go_sem, seval, reduceCtorEq])
    refine W.yes rfl ?_
    ((try refine W.a ?_); simp only [go_sem, seval, reduceCtorEq])
    (refine W.fs (hok) (by simp only [r6, go_sem, seval, reduceCtorEq]; rfl) ?_; simp only [resV]; try exact V.wk.rfl _)
  rw [hb] at ho
  cases hD : declS l
  case false =>
    rw [hD] at hd
    (refine W.c1 (ho _) ?_; simp only [go_sem, seval, reduceCtorEq])
    (refine W.c1 (hd _) ?_; simp only [go_sem, seval, reduceCtorEq])
    refine W.yes rfl ?_
    ((try refine W.a ?_); simp only [go_sem, seval, reduceCtorEq])
    (refine W.fs (hok) (by simp only [r6, go_sem, seval, reduceCtorEq]; rfl) ?_; simp only [resV]; try exact V.wk.rfl _)
  rw [hD] at hd
  (refine W.c1 (ho _) ?_; simp only [go_sem, seval, reduceCtorEq])
  (refine W.c1 (hd _) ?_; simp only [go_sem, seval, reduceCtorEq])
  refine W.no rfl ?_
  ((try refine W.a ?_); simp only [go_sem, seval, reduceCtorEq])
  cases hV : validPre l p
  case false =>
    rw [hV] at hv
    (refine W.c1 (hv _) ?_; simp only [go_sem, seval, reduceCtorEq])
    refine W.yes rfl ?_
    ((try refine W.a ?_); simp only [go_sem, seval, reduceCtorEq])
    (refine W.fs (hok) (by simp only [r6, go_sem, seval, reduceCtorEq]; rfl) ?_; simp only [resV]; try exact V.wk.rfl _)
  rw [hV] at hv
  (refine W.c1 (hv _) ?_; simp only [go_sem, seval, reduceCtorEq])
  refine W.no rfl ?_
  have hlen := overS_len hb hO
  obtain ⟨_, _, hn, _⟩ := overS_no hb
  obtain ⟨he, hpos, m, hs, hx⟩ := tree_back (declS_ok hD).1 hV hO (by omega) (by omega)
  have hT := fun σ => show_Text hG l p hO (by omega) σ
  have hL := fun σ => lex_Lex hG (showL l p) (by omega) σ
  have hc := lexL_count (showL l p)
  have hR := fun σ => read_at0 w0 l _ _ σ hx (by omega)
  have hS := fun σ => read_Same w0 p m.p σ
  rw [hs] at hS
  rw [he] at hL
  generalize showL l p = s at *
  generalize (lexL s).toks = t at *
  generalize (lexL s).pos = lp at *
  have hw : IntKind.i64.wrap ((t.length : Int) - 1) = ((t.length - 1 : Nat) : Int) := by rw [wrap_in] <;> omega
  generalize t.length - 1 = n at *
  ((try refine W.a ?_); simp only [go_sem, seval, reduceCtorEq])
  (refine W.c1 (hT _) ?_; simp only [go_sem, seval, reduceCtorEq])
  (refine W.c1 (hL _) ?_; simp only [go_sem, seval, reduceCtorEq])
  refine W.no rfl ?_
  ((try refine W.a ?_); simp only [go_sem, seval, reduceCtorEq])
  (refine W.c1 (hR _) ?_; simp only [go_sem, seval, reduceCtorEq, readV])
  (refine W.c1 (hS _) ?_; simp only [go_sem, seval, reduceCtorEq])
  ((try refine W.a ?_); simp only [go_sem, seval, reduceCtorEq, hw])
  (refine W.fs (hok) (by simp only [r6, go_sem, seval, reduceCtorEq]; rfl) ?_; simp only [resV]; try exact V.wk.rfl _)
theorem law04_ShowOnce {w0 : World} (hG : Glob w0) (l : List OpT) (s : List UInt8) (σ : H) : DC Tryz.prog w0 5 [.c (opsC l), S s] σ (Same (B true) σ) := by
  refine k5.go rfl (fun hok hsz => ?_)
  have hd := fun σ => ref04_Declared w0 l σ
  ((try refine W.a ?_); simp only [go_sem, seval, reduceCtorEq, c5])
  (refine W.c1 (law04_works hG _) ?_; simp only [go_sem, seval, reduceCtorEq])
  refine W.no rfl ?_
  by_cases hl : (l.length : Int) ≤ 100
  case neg =>
    by_cases hs3 : (s.length : Int) > 300
    · ((try refine W.a ?_); simp only [go_sem, seval, reduceCtorEq, hl, hs3])
      refine W.yes rfl ?_
      ((try refine W.a ?_); simp only [go_sem, seval, reduceCtorEq])
      (refine W.fs (hok) (by simp only [r5, go_sem, seval, reduceCtorEq]; rfl) ?_; simp only [resV]; try exact V.wk.rfl _)
    · ((try refine W.a ?_); simp only [go_sem, seval, reduceCtorEq, hl, hs3])
      refine W.yes rfl ?_
      ((try refine W.a ?_); simp only [go_sem, seval, reduceCtorEq])
      (refine W.fs (hok) (by simp only [r5, go_sem, seval, reduceCtorEq]; rfl) ?_; simp only [resV]; try exact V.wk.rfl _)
  ((try refine W.a ?_); simp only [go_sem, seval, reduceCtorEq, hl])
  cases hD : declS l
  case false =>
    rw [hD] at hd
    by_cases hs3 : (s.length : Int) > 300
    · (refine W.c1 (hd _) ?_; simp only [go_sem, seval, reduceCtorEq, hs3])
      refine W.yes rfl ?_
      ((try refine W.a ?_); simp only [go_sem, seval, reduceCtorEq])
      (refine W.fs (hok) (by simp only [r5, go_sem, seval, reduceCtorEq]; rfl) ?_; simp only [resV]; try exact V.wk.rfl _)
    · (refine W.c1 (hd _) ?_; simp only [go_sem, seval, reduceCtorEq, hs3])
      refine W.yes rfl ?_
      ((try refine W.a ?_); simp only [go_sem, seval, reduceCtorEq])
      (refine W.fs (hok) (by simp only [r5, go_sem, seval, reduceCtorEq]; rfl) ?_; simp only [resV]; try exact V.wk.rfl _)
  rw [hD] at hd
  by_cases hs3 : (s.length : Int) > 300
  · (refine W.c1 (hd _) ?_; simp only [go_sem, seval, reduceCtorEq, hs3])
    refine W.yes rfl ?_
    ((try refine W.a ?_); simp only [go_sem, seval, reduceCtorEq])
    (refine W.fs (hok) (by simp only [r5, go_sem, seval, reduceCtorEq]; rfl) ?_; simp only [resV]; try exact V.wk.rfl _)
  (refine W.c1 (hd _) ?_; simp only [go_sem, seval, reduceCtorEq, hs3])
  refine W.no rfl ?_
  ((try refine W.a ?_); simp only [go_sem, seval, reduceCtorEq])
  (refine W.c1 (lex_Lex hG s (by omega) _) ?_; simp only [go_sem, seval, reduceCtorEq])
  cases he : ((lexL s).err != 0)
  case true =>
    ((try refine W.a ?_); simp only [go_sem, seval, reduceCtorEq, he])
    refine W.yes rfl ?_
    ((try refine W.a ?_); simp only [go_sem, seval, reduceCtorEq])
    (refine W.fs (hok) (by simp only [r5, go_sem, seval, reduceCtorEq]; rfl) ?_; simp only [resV]; try exact V.wk.rfl _)
  ((try refine W.a ?_); simp only [go_sem, seval, reduceCtorEq, he])
  refine W.no rfl ?_
  have hcs := lexL_count s
  obtain ⟨r, hr⟩ := Expr.some l (lexL s).toks 0 0 0
  have hR := fun σ => read_at0 w0 l _ _ σ hr (by omega)
  cases r with
  | error b =>
    have hb := Expr.err hr
    ((try refine W.a ?_); simp only [go_sem, seval, reduceCtorEq])
    (refine W.c1 (hR _) ?_; simp only [go_sem, seval, reduceCtorEq, readV, Pre.none, hb])
    refine W.yes rfl ?_
    ((try refine W.a ?_); simp only [go_sem, seval, reduceCtorEq])
    (refine W.fs (hok) (by simp only [r5, go_sem, seval, reduceCtorEq]; rfl) ?_; simp only [resV]; try exact V.wk.rfl _)
  | ok x =>
    obtain ⟨m, j⟩ := x
    obtain ⟨hV, hO⟩ := Expr.valid (declS_ok hD).1 hr
    have hdp := fun σ => ref03_Deep w0 m.p 150 (by omega) (by omega) σ
    ((try refine W.a ?_); simp only [go_sem, seval, reduceCtorEq])
    (refine W.c1 (hR _) ?_; simp only [go_sem, seval, reduceCtorEq, readV])
    refine W.no rfl ?_
    by_cases hdeep : leftP m.p 150 < 0
    · rw [decide_eq_true hdeep] at hdp
      ((try refine W.a ?_); simp only [go_sem, seval, reduceCtorEq])
      (refine W.c1 (hdp _) ?_; simp only [go_sem, seval, reduceCtorEq])
      refine W.yes rfl ?_
      ((try refine W.a ?_); simp only [go_sem, seval, reduceCtorEq])
      (refine W.fs (hok) (by simp only [r5, go_sem, seval, reduceCtorEq]; rfl) ?_; simp only [resV]; try exact V.wk.rfl _)
    rw [decide_eq_false hdeep] at hdp
    have hn := leftP_nodes m.p 150 (by omega)
    have hlen := showL_len l m.p (valid_short m.p hV) hO
    have h5 : 206 * nodesP m.p ≤ 206 * 150 := Nat.mul_le_mul_left _ (by omega)
    obtain ⟨he2, hpos, m2, hs2, hx⟩ := tree_back (declS_ok hD).1 hV hO (by omega) (by omega)
    obtain ⟨_, hO2⟩ := Expr.valid (declS_ok hD).1 hx
    have hsame := showL_same (l := l) hs2
    have hT := fun σ => show_Text hG l m.p hO (by omega) σ
    have hT2 := fun σ => show_Text hG l m2.p hO2 (by rw [← hsame]; omega) σ
    rw [← hsame] at hT2
    have hL := fun σ => lex_Lex hG (showL l m.p) (by omega) σ
    have hc := lexL_count (showL l m.p)
    have hR2 := fun σ => read_at0 w0 l _ _ σ hx (by omega)
    rw [he2] at hL
    generalize showL l m.p = a at *
    generalize (lexL a).toks = u at *
    generalize (lexL a).pos = lp at *
    generalize u.length - 1 = n at *
    ((try refine W.a ?_); simp only [go_sem, seval, reduceCtorEq])
    (refine W.c1 (hdp _) ?_; simp only [go_sem, seval, reduceCtorEq])
    refine W.no rfl ?_
    ((try refine W.a ?_); simp only [go_sem, seval, reduceCtorEq])
    (refine W.c1 (hT _) ?_; simp only [go_sem, seval, reduceCtorEq])
    (refine W.c1 (hL _) ?_; simp only [go_sem, seval, reduceCtorEq])
    (refine W.c1 (hR2 _) ?_; simp only [go_sem, seval, reduceCtorEq, readV])
    (refine W.c1 (hT2 _) ?_; simp only [go_sem, seval, reduceCtorEq])
    (refine W.fs (hok) (by simp only [r5, go_sem, seval, reduceCtorEq]; rfl) ?_; simp only [resV]; try exact V.wk.rfl _)
theorem law04_ShowApart {w0 : World} (hG : Glob w0) (l : List OpT) (p : Pre) (hO : OkP p) (q : Pre) (hQ : OkP q) (σ : H) : DC Tryz.prog w0 7 [.c (opsC l), p.v, q.v] σ (Same (B true) σ) := by
  refine k7.go rfl (fun hok hsz => ?_)
  have ho := fun σ => law04_over w0 l p σ
  have hoq := fun σ => law04_over w0 l q σ
  have hd := fun σ => ref04_Declared w0 l σ
  have hv := fun σ => read_Valid w0 l p σ
  have hvq := fun σ => read_Valid w0 l q σ
  ((try refine W.a ?_); simp only [go_sem, seval, reduceCtorEq, c7])
  (refine W.c1 (law04_works hG _) ?_; simp only [go_sem, seval, reduceCtorEq])
  refine W.no rfl ?_
  by_cases hall : overS l p = false ∧ overS l q = false ∧ declS l = true
  case neg =>
    generalize overS l p = b1 at *
    generalize overS l q = b2 at *
    generalize declS l = b3 at *
    ((try refine W.a ?_); simp only [go_sem, seval, reduceCtorEq])
    cases b1 <;> cases b2 <;> cases b3 <;> first | (exact absurd ⟨rfl, rfl, rfl⟩ hall) | (
      (refine W.c1 (ho _) ?_; simp only [go_sem, seval, reduceCtorEq])
      (refine W.c1 (hoq _) ?_; simp only [go_sem, seval, reduceCtorEq])
      (refine W.c1 (hd _) ?_; simp only [go_sem, seval, reduceCtorEq])
      refine W.yes rfl ?_
      ((try refine W.a ?_); simp only [go_sem, seval, reduceCtorEq])
      (refine W.fs (hok) (by simp only [r7, go_sem, seval, reduceCtorEq]; rfl) ?_; simp only [resV]; try exact V.wk.rfl _))
  obtain ⟨hb1, hb2, hD⟩ := hall
  rw [hb1] at ho
  rw [hb2] at hoq
  rw [hD] at hd
  ((try refine W.a ?_); simp only [go_sem, seval, reduceCtorEq])
  (refine W.c1 (ho _) ?_; simp only [go_sem, seval, reduceCtorEq])
  (refine W.c1 (hoq _) ?_; simp only [go_sem, seval, reduceCtorEq])
  (refine W.c1 (hd _) ?_; simp only [go_sem, seval, reduceCtorEq])
  refine W.no rfl ?_
  ((try refine W.a ?_); simp only [go_sem, seval, reduceCtorEq])
  by_cases hvv : validPre l p = true ∧ validPre l q = true
  case neg =>
    generalize validPre l p = b1 at *
    generalize validPre l q = b2 at *
    cases b1 <;> cases b2 <;> first | (exact absurd ⟨rfl, rfl⟩ hvv) | (
      (refine W.c1 (hv _) ?_; simp only [go_sem, seval, reduceCtorEq])
      (refine W.c1 (hvq _) ?_; simp only [go_sem, seval, reduceCtorEq])
      refine W.yes rfl ?_
      ((try refine W.a ?_); simp only [go_sem, seval, reduceCtorEq])
      (refine W.fs (hok) (by simp only [r7, go_sem, seval, reduceCtorEq]; rfl) ?_; simp only [resV]; try exact V.wk.rfl _))
  obtain ⟨hV, hVq⟩ := hvv
  rw [hV] at hv
  rw [hVq] at hvq
  (refine W.c1 (hv _) ?_; simp only [go_sem, seval, reduceCtorEq])
  (refine W.c1 (hvq _) ?_; simp only [go_sem, seval, reduceCtorEq])
  refine W.no rfl ?_
  have hlen := overS_len hb1 hO
  have hlenq := overS_len hb2 hQ
  obtain ⟨_, _, hn, _⟩ := overS_no hb1
  obtain ⟨_, _, hnq, _⟩ := overS_no hb2
  obtain ⟨_, _, m, hs, hx⟩ := tree_back (declS_ok hD).1 hV hO (by omega) (by omega)
  obtain ⟨_, _, m2, hs2, hx2⟩ := tree_back (declS_ok hD).1 hVq hQ (by omega) (by omega)
  have heq : (showL l p == showL l q) = samePre p q := by
    rw [Bool.eq_iff_iff, beq_iff_eq]
    constructor
    · intro e
      rw [← e] at hx2
      have hm := Expr.one hx hx2
      injection hm with hm
      injection hm with hm _
      subst hm
      exact samePre_trans p m.p q hs (by rw [samePre_comm]; exact hs2)
    · exact showL_same
  have hT := fun σ => show_Text hG l p hO (by omega) σ
  have hT2 := fun σ => show_Text hG l q hQ (by omega) σ
  have hS := fun σ => read_Same w0 p q σ
  rw [← heq] at hS
  generalize showL l p = a at *
  generalize showL l q = b at *
  ((try refine W.a ?_); simp only [go_sem, seval, reduceCtorEq])
  apply W.dreg
  case hc =>
    (apply Canon.advCO; simp only [advCO_nil, advCO_cons, cG_yes, cG_no, cS_some, cS_loud, go_sem, seval, reduceCtorEq])
    (apply Canon.call (hT _); (case hg => rfl); (case hf => rfl); (case ha => first | rfl | simp))
    (apply Canon.advCO; simp only [advCO_nil, advCO_cons, cG_yes, cG_no, cS_some, cS_loud, go_sem, seval, reduceCtorEq])
    (apply Canon.call (hT2 _); (case hg => rfl); (case hf => rfl); (case ha => first | rfl | simp))
    (apply Canon.advCO; simp only [advCO_nil, advCO_cons, cG_yes, cG_no, cS_some, cS_loud, go_sem, seval, reduceCtorEq])
    (apply Canon.call (hS _); (case hg => rfl); (case hf => rfl); (case ha => first | rfl | simp))
    (apply Canon.advCO; simp only [advCO_nil, advCO_cons, cG_yes, cG_no, cS_some, cS_loud, go_sem, seval, reduceCtorEq])
    exact Canon.nil
  ((try refine W.a ?_); simp only [go_sem, seval, reduceCtorEq])
  (refine W.fs (hok) (by simp only [r7, go_sem, seval, reduceCtorEq]; rfl) ?_; simp only [resV]; try exact V.wk.rfl _)
end Go.Proofs.YtljjlhdkkbaehaaGreatDoor

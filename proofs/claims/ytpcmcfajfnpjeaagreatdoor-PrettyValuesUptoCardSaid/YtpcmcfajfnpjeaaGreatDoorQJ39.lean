/-
  Walks: an application as a tree; a term as a tree.
  The code of some functions, without addresses.
  The code of some functions, without addresses.
  Walks: the document's answer: what is neither an abstraction nor an application.
  Walks: the document's answer: a tree as a text.
  Walks: a term as a tree and as a text, of the program and of the document.
  Walks: pretty.Tree, pretty.Text, and the document's text.
  Walks: is a signature, a term, or are names more than is looked at (law14.over)?
  Walks: the statement PrettyTexts.
  Walks: the statement PrettyNames.
  The document's examples of layer 14 hold; the statements PrettyTexts and PrettyNames.
  Walks: strings.Builder's WriteString at a block of its own.
  Walks: types with greater variables, with others in their place, and numbered anew.
  Plain: terms whose variables are numbered as they are met; terms with other numbers for their variables.
  Walks: a term whose variables are numbered as they are met.
  Walks: values of names, as lines.
  Walks: a term with others in the place of variables.
  Walks: the leaves of a term, told one after the other; a term's variables.
  The code of some functions, without addresses.
  Walks: the variables of a term.
  Plain: values whose variables have other numbers, as lines.
  Walks: the statement PrettyValues.
  The statement PrettyValues: the document's examples hold.
  Plain: a program none of whose functions starts a goroutine: none of its calls does.
-/
import Derived.Test.YtpcmcfajfnpjeaaGreatDoorQJ38
import Derived.Test.YtpcmcfajfnpjeaaGreatDoorQJ35
import Derived.Test.YtpcmcfajfnpjeaaGreatDoorChecked
import Derived.Test.YtpcmcfajfnpjeaaGreatDoorQJ14
import Derived.Lib.ItoaMem
import Derived.Test.YtpcmcfajfnpjeaaGreatDoorQJ36
import Derived.Test.YtpcmcfajfnpjeaaGreatDoorQLexRow
set_option linter.unusedSimpArgs false
set_option linter.unusedVariables false
set_option maxHeartbeats 8000000
set_option maxRecDepth 20000
namespace Go.Lamb
theorem nodesMs_len : ∀ (l : List Typ), l.length ≤ nodesMs l
  | [] => Nat.zero_le _
  | p :: l => by
    have := nodesMs_len l
    rw [nodesMs, nodesM_eq, List.length_cons]
    omega
end Go.Lamb
namespace Go.Proofs.YtpcmcfajfnpjeaaGreatDoor
open Go.RowKit Go.Lamb
attribute [local go_sem] advO_skip advO_reg advO_seq advO_block advO_exit advO_endb advO_opsNil advO_ops advG_yes advG_no advG_none advS_some advS_none advO_cond advO_loop advO_dreg advO_ret advO_bad advO_inv advO_nil advO_zero wantedV Lamb.step ev_t ev_k put_some put_none argEnv popTo cellsAt V.cellsV V.rows V.sub V.toC toCs fillV bytesC byteRows appV rowsV boundV boundL binV binInt binStr eqC eqL V.isNil leaves V.leaf Ins.quiet Ins.pure List.getD_cons_zero List.getD_cons_succ List.getD_nil List.all_cons List.all_nil List.length_cons List.length_nil List.take_succ_cons List.take_zero List.drop_succ_cons List.drop_zero List.cons_append List.nil_append List.append_nil List.append_assoc List.map_cons List.map_nil List.getElem?_cons_zero List.getElem?_cons_succ List.length_append List.length_set hget0 hget hset0 hset hsets hgs0 hgs hss0 hss List.set_cons_zero List.set_cons_succ List.forall_mem_cons List.not_mem_nil false_implies implies_true Option.map_some Bool.and_true Bool.true_and Bool.not_not Bool.not_true Bool.not_false Bool.and_self Bool.or_true Bool.true_or Bool.or_false Bool.false_or Bool.and_false Bool.false_and Bool.false_eq_true beq_self_eq_true and_self and_true true_and if_true if_false Nat.zero_add Nat.add_zero Nat.le_refl Int.toNat_natCast decide_true decide_false beq_t beq_f List.length_map List.getElem?_map I S B opsC toksC OpT.v OpT.cs OpT.zero Tok.v Tok.cs Pre.v Pre.cs_eq k_mk name_mk n_mk l_mk pos_mk Pre.app applyL natCast0 natCast1 natCast2 AOp.o AOp.m AOp.f AOp.l AOp.d AOp.n AOp.x AOp.s AOp.k AOp.y AOp.z EOp.q low_c low_void low_any low_csl low_nilf low_ptr low_osl low_agg low_tup low_fn resEval advPO_nil advPO_loud advPO_quiet pL_yes pL_no pLS_some pLS_none pQ_yes pQ_no pQS_some pQS_loud eq_self Nat.sub_zero
section
attribute [local go_sem] Typ.v Typ.cs_eq Pre.v Pre.cs_eq Pre.app tk_mk tname_mk tn_mk tl_mk
section
variable {w0 : World} {s : Sg} {vars : List Str} {F : V}
theorem wtree_app (t a : Typ) (l : List Typ) (k : Nat) (h : (t.k == 6) = true) (hl : t.l = a :: l) (hlen : l.length + 1 ≤ 9223372036854775807) (hb : ∀ u ∈ t.l, TreeOK w0 s vars F u k) : TreeOK w0 s vars F t k := fun τ M hR N hk hN => by
  have hE : treeM s vars k t = accM s vars k a l l.length := by
    have h : t.k = 6 := by simpa using h
    rw [treeM_eq, if_neg (by omega), if_pos h, hl, accM_all]
  rw [hE]
  clear hE
  obtain ⟨tk, tn, tm, tl⟩ := t
  have hl : tl = a :: l := hl
  subst hl
  have h : (tk == 6) = true := h
  have k1 : (tk == 1) = false := pkind_no (t := .mk tk tn tm (a :: l)) h 1 (by decide)
  have k2 : (tk == 2) = false := pkind_no (t := .mk tk tn tm (a :: l)) h 2 (by decide)
  have k3 : (tk == 3) = false := pkind_no (t := .mk tk tn tm (a :: l)) h 3 (by decide)
  have k4 : (tk == 4) = false := pkind_no (t := .mk tk tn tm (a :: l)) h 4 (by decide)
  have k5 : (tk == 5) = false := pkind_no (t := .mk tk tn tm (a :: l)) h 5 (by decide)
  have ha := hb a (List.mem_cons_self ..)
  have hA := accM_zero s vars k a l
  unfold TreeOK at ha
  generalize hG : accM s vars k a l = A at hA ⊢
  have hS : ∀ i (hi : i < l.length), A (i + 1) = .app (A i) (treeM s vars k l[i]) 0 := fun i hi => by rw [← hG]; exact accM_succ s vars k a l i hi
  rw [← hA] at ha
  have h00 : (0 : Int) < ((l.length + 1 : Nat) : Int) := by omega
  obtain ⟨f, caps, rfl, hc⟩ := hR.call
  refine k58.go rfl (fun hok hsz => ?_)
  have hl0 := hR.len
  have tg0 : ∀ N x L, (τ N ++ x :: L)[M]? = some x := fun s => at_g0 (hl0 s)
  have tg : ∀ N k L, (τ N ++ L)[M + k]? = L[k]? := fun s => at_g (hl0 s)
  have ts0 : ∀ N x L, (τ N ++ L).set M x = τ N ++ L.set 0 x := fun s => at_s0 (hl0 s)
  have ts : ∀ N k x L, (τ N ++ L).set (M + k) x = τ N ++ L.set k x := fun s => at_s (hl0 s)
  (((try refine W.a ?_); (try simp only [bne, go_sem, seval, reduceCtorEq, c58, wrV, h, k1, k2, k3, k4, k5, hl0, tg0, tg, ts0, ts, *])); (repeat' (first | (refine W.yes rfl ?_; (refine W.a ?_; simp only [bne, go_sem, seval, reduceCtorEq, c58, wrV, h, k1, k2, k3, k4, k5, hl0, tg0, tg, ts0, ts, *])) | (refine W.no rfl ?_; (refine W.a ?_; simp only [bne, go_sem, seval, reduceCtorEq, c58, wrV, h, k1, k2, k3, k4, k5, hl0, tg0, tg, ts0, ts, *])) | (refine W.testn rfl (fun hT => ?_) (fun hT => ?_) <;> (refine W.a ?_; simp only [bne, go_sem, seval, reduceCtorEq, c58, wrV, h, k1, k2, k3, k4, k5, hl0, tg0, tg, ts0, ts, *])) | (refine W.test rfl (fun hT => ?_) (fun hT => ?_) <;> (refine W.a ?_; simp only [bne, go_sem, seval, reduceCtorEq, c58, wrV, h, k1, k2, k3, k4, k5, hl0, tg0, tg, ts0, ts, *])) | (refine advG_ifn _ _ _ _ (fun hT => ?_) (fun hT => ?_) <;> simp only [bne, go_sem, seval, reduceCtorEq, c58, wrV, h, k1, k2, k3, k4, k5, hl0, tg0, tg, ts0, ts, *]) | (refine advG_if _ _ _ _ (fun hT => ?_) (fun hT => ?_) <;> simp only [bne, go_sem, seval, reduceCtorEq, c58, wrV, h, k1, k2, k3, k4, k5, hl0, tg0, tg, ts0, ts, *]))))
  apply W.dregS (S0 := fun σ => ∃ N', N ≤ N' ∧ N' ≤ 1001 ∧ σ = τ N' ++ [.cells [I 0, .c (.sl (strsR vars)), .fn f caps], .cells [I tk, S tn, I tm, .c (.sl ([.int .i64 a.k, .str a.name, .int .i64 a.n, .sl (a.l.map Typ.cs)] :: l.map Typ.cs))], .cells [I 0, S [], I 0, .csl [], I 0]])
    (S := fun σ => ∃ N', N ≤ N' ∧ N' ≤ 1001 ∧ σ = τ N' ++ [.cells [I 0, .c (.sl (strsR vars)), .fn f caps], .cells [I tk, S tn, I tm, .c (.sl ([.int .i64 a.k, .str a.name, .int .i64 a.n, .sl (a.l.map Typ.cs)] :: l.map Typ.cs))], .cells [I 0, S [], I 0, .csl [], I 0], .cells (A 0).v.cellsV]) (List.cons_ne_nil _ _) ⟨N, Nat.le_refl _, hN, rfl⟩
  case hc =>
    have hR0 := hR.more [.cells [I 0, .c (.sl (strsR vars)), .fn f caps], .cells [I tk, S tn, I tm, .c (.sl ([.int .i64 a.k, .str a.name, .int .i64 a.n, .sl (a.l.map Typ.cs)] :: l.map Typ.cs))], .cells [I 0, S [], I 0, .csl [], I 0]]
    have hR1 := hR.more [.cells [I 0, .c (.sl (strsR vars)), .fn f caps], .cells [I tk, S tn, I tm, .c (.sl ([.int .i64 a.k, .str a.name, .int .i64 a.n, .sl (a.l.map Typ.cs)] :: l.map Typ.cs))], .cells [I 0, S [], I 0, .csl [], I 0], .cells [I 0, S [], I 0, .csl [], I 0]]
    apply CanonS.loud (S1 := fun σ => ∃ N', N ≤ N' ∧ N' ≤ 1001 ∧ σ = τ N' ++ [.cells [I 0, .c (.sl (strsR vars)), .fn f caps], .cells [I tk, S tn, I tm, .c (.sl ([.int .i64 a.k, .str a.name, .int .i64 a.n, .sl (a.l.map Typ.cs)] :: l.map Typ.cs))], .cells [I 0, S [], I 0, .csl [], I 0], .cells [I 0, S [], I 0, .csl [], I 0]])
    case h =>
      refine YieldS.step (v := .ptr (M + 3) 0) rfl ?_
      rintro σ ⟨N', h1, h2, rfl⟩
      refine ⟨_, ?_, N', h1, h2, rfl⟩
      simp only [go_sem, seval, reduceCtorEq, hl0, tg0, tg, ts0, ts]
    case k =>
    apply CanonS.runN 6 (σ0 := τ N ++ [.cells [I 0, .c (.sl (strsR vars)), .fn f caps], .cells [I tk, S tn, I tm, .c (.sl ([.int .i64 a.k, .str a.name, .int .i64 a.n, .sl (a.l.map Typ.cs)] :: l.map Typ.cs))], .cells [I 0, S [], I 0, .csl [], I 0], .cells [I 0, S [], I 0, .csl [], I 0]])
    case h0 => exact ⟨N, Nat.le_refl _, hN, rfl⟩
    case h =>
      rintro σ ⟨N', _, _, rfl⟩
      simp only [go_sem, seval, reduceCtorEq, runQ, hl0, tg0, tg, ts0, ts, nat0, h00]
      rfl
    case hp =>
      intro T hT
      simp only [List.mem_cons, List.not_mem_nil, or_false] at hT
      subst hT
      rintro σ ⟨N', _, _, rfl⟩
      simp only [go_sem, seval, reduceCtorEq, runQ, hl0, tg0, tg, ts0, ts, nat0, h00]
    case k =>
    simp only [go_sem, seval, reduceCtorEq]
    apply CanonS.quiet
    case h =>
      apply YieldS.call rfl rfl rfl
      rintro σ ⟨N', h1, h2, rfl⟩
      exact (ha (fun N => τ N ++ _) _ hR1 N' (by omega) h2).mono fun d σ' ⟨q1, N2, q2, q3, q4⟩ => ⟨q1, N2, by omega, q3, q4⟩
    case hp =>
      intro T hT
      simp only [List.length_cons, List.length_nil, Nat.sub_zero, List.take_succ_cons, List.take_zero, List.mem_cons, List.not_mem_nil, or_false] at hT
      subst hT
      apply YieldS.call rfl rfl rfl
      rintro σ ⟨N', h1, h2, rfl⟩
      exact (ha (fun N => τ N ++ _) _ hR0 N' (by omega) h2).mono fun d σ' ⟨q1, N2, q2, q3, q4⟩ => ⟨q1, N2, by omega, q3, q4⟩
    case k =>
    simp only [go_sem, seval, reduceCtorEq]
    apply CanonS.loud (v := .void)
    case k => exact .nil
    case h =>
      refine YieldS.step (v := .void) rfl ?_
      rintro σ ⟨N', h1, h3, rfl⟩
      refine ⟨_, ?_, N', h1, h3, rfl⟩
      simp only [go_sem, seval, reduceCtorEq, hl0, tg0, tg, ts0, ts]
  case h =>
    rintro σ ⟨N1, n1, n2, rfl⟩
    have hrw : (∀ (x : List C), x ∈ List.map Typ.cs l → x.length = 4) ↔ True := by
      simp only [List.mem_map, iff_true]
      rintro x ⟨u, _, rfl⟩
      rw [Typ.cs_eq]; rfl
    have hge : (1 : Int) ≤ ((l.length + 1 : Nat) : Int) := by omega
    have htk : ∀ r, List.take (l.length + 1 - 1) (List.drop 1 (r :: List.map Typ.cs l)) = List.map Typ.cs l := fun r => by
      rw [Nat.add_sub_cancel, List.drop_succ_cons, List.drop_zero, List.take_of_length_le (by simp)]
    have htk2 : List.take l.length (List.map Typ.cs l) = List.map Typ.cs l := List.take_of_length_le (by simp)
    ((try refine W.a ?_); simp only [go_sem, seval, reduceCtorEq, hl0, tg0, tg, ts0, ts, nat0, h00, V.sub, hrw, hge, htk, htk2])
    refine W.loopP (fun x : Nat × Nat => x.1 ≤ l.length ∧ N ≤ x.2 ∧ x.2 ≤ 1001) (fun x => ⟨((((((((base.put (some 2) (I (k : Int))).put (some 3) (.ptr M 0)).put (some 4) (.ptr (M + 1) 0)).put (some 6) (.ptr (M + 2) 0)).put (some 7) (.ptr (M + 3) 0)).put (some 79) (.c (.sl (l.map Typ.cs)))).put (some 80) (I (l.length : Int))).put (some 81) (I (x.1 : Int))), τ x.2 ++ [.cells [I 0, .c (.sl (strsR vars)), .fn f caps], .cells [I tk, S tn, I tm, .c (.sl ([.int .i64 a.k, .str a.name, .int .i64 a.n, .sl (a.l.map Typ.cs)] :: l.map Typ.cs))], .cells [I 0, S [], I 0, .csl [], I 0], .cells (A x.1).v.cellsV]⟩) (fun x => l.length - x.1) (0, N1) ⟨Nat.zero_le _, n1, n2⟩ ?_ (fun ⟨i, N2⟩ ⟨hi, m1, m2⟩ => ?_)
    · (refine Lew.env ?_; exact lee_here)
    · have hi : i ≤ l.length := hi
      have m1 : N ≤ N2 := m1
      have m2 : N2 ≤ 1001 := m2
      by_cases hlt : i < l.length
      · have h1 : (i : Int) < (l.length : Int) := by omega
        have hx : l[i]? = some l[i] := List.getElem?_eq_getElem hlt
        have hw : IntKind.i64.wrap ((i : Int) + 1) = ((i + 1 : Nat) : Int) := by rw [wrap_in] <;> omega
        have h0 : (0 : Int) ≤ (i : Int) := by omega
        have hu := hb l[i] (List.mem_cons_of_mem _ (List.getElem_mem hlt))
        have hn := hS i hlt
        ((try refine W.a ?_); simp only [go_sem, seval, reduceCtorEq, h1])
        refine W.yes rfl ?_
        ((try refine W.a ?_); simp only [go_sem, seval, reduceCtorEq, h1, h0, hx, hl0, tg0, tg, ts0, ts])
        apply W.dregS (S0 := fun σ => ∃ N', N2 ≤ N' ∧ N' ≤ 1001 ∧ σ = τ N' ++ [.cells [I 0, .c (.sl (strsR vars)), .fn f caps], .cells [I tk, S tn, I tm, .c (.sl ([.int .i64 a.k, .str a.name, .int .i64 a.n, .sl (a.l.map Typ.cs)] :: l.map Typ.cs))], .cells [I 0, S [], I 0, .csl [], I 0], .cells (A i).v.cellsV, .cells (l[i]'hlt).v.cellsV])
          (S := fun σ => ∃ N', N2 ≤ N' ∧ N' ≤ 1001 ∧ σ = τ N' ++ [.cells [I 0, .c (.sl (strsR vars)), .fn f caps], .cells [I tk, S tn, I tm, .c (.sl ([.int .i64 a.k, .str a.name, .int .i64 a.n, .sl (a.l.map Typ.cs)] :: l.map Typ.cs))], .cells [I 0, S [], I 0, .csl [], I 0], .cells (Pre.app (A i) (treeM s vars k (l[i]'hlt)) 0).v.cellsV, .cells (l[i]'hlt).v.cellsV]) (List.cons_ne_nil _ _) ⟨N2, Nat.le_refl _, m2, rfl⟩
        case hc =>
          apply CanonS.runN 3 (σ0 := τ N2 ++ [.cells [I 0, .c (.sl (strsR vars)), .fn f caps], .cells [I tk, S tn, I tm, .c (.sl ([.int .i64 a.k, .str a.name, .int .i64 a.n, .sl (a.l.map Typ.cs)] :: l.map Typ.cs))], .cells [I 0, S [], I 0, .csl [], I 0], .cells (A i).v.cellsV, .cells (l[i]'hlt).v.cellsV])
          case h0 => exact ⟨N2, Nat.le_refl _, m2, rfl⟩
          case h =>
            rintro σ ⟨N', _, _, rfl⟩
            simp only [go_sem, seval, reduceCtorEq, runQ, hl0, tg0, tg, ts0, ts]
            rfl
          case hp =>
            intro T hT
            cases hT
          case k =>
          simp only [go_sem, seval, reduceCtorEq]
          apply CanonS.loud
          case h =>
            apply YieldS.call (S' := fun σ => ∃ N', N2 ≤ N' ∧ N' ≤ 1001 ∧ σ = τ N' ++ [.cells [I 0, .c (.sl (strsR vars)), .fn f caps], .cells [I tk, S tn, I tm, .c (.sl ([.int .i64 a.k, .str a.name, .int .i64 a.n, .sl (a.l.map Typ.cs)] :: l.map Typ.cs))], .cells [I 0, S [], I 0, .csl [], I 0], .cells (A i).v.cellsV, .cells (l[i]'hlt).v.cellsV]) rfl rfl rfl
            rintro σ ⟨N', h1, h2, rfl⟩
            exact (hu (fun N => τ N ++ _) _ (hR.more _) N' (by omega) h2).mono fun d σ' ⟨q1, N2, q2, q3, q4⟩ => ⟨q1, N2, by omega, q3, q4⟩
          case k =>
          apply CanonS.runN 2 (σ0 := τ N2 ++ [.cells [I 0, .c (.sl (strsR vars)), .fn f caps], .cells [I tk, S tn, I tm, .c (.sl ([.int .i64 a.k, .str a.name, .int .i64 a.n, .sl (a.l.map Typ.cs)] :: l.map Typ.cs))], .cells [I 0, S [], I 0, .csl [], I 0], .cells (A i).v.cellsV, .cells (l[i]'hlt).v.cellsV])
          case h0 => exact ⟨N2, Nat.le_refl _, m2, rfl⟩
          case h =>
            rintro σ ⟨N', _, _, rfl⟩
            simp only [go_sem, seval, reduceCtorEq, runQ, hl0, tg0, tg, ts0, ts]
            rfl
          case hp =>
            intro T hT
            simp only [List.mem_cons, List.not_mem_nil, or_false] at hT
            subst hT
            rintro σ ⟨N', _, _, rfl⟩
            simp only [go_sem, seval, reduceCtorEq, runQ, hl0, tg0, tg, ts0, ts]
          case k =>
          simp only [go_sem, seval, reduceCtorEq]
          apply CanonS.loud
          case h =>
            apply YieldS.call (S' := fun σ => ∃ N', N2 ≤ N' ∧ N' ≤ 1001 ∧ σ = τ N' ++ [.cells [I 0, .c (.sl (strsR vars)), .fn f caps], .cells [I tk, S tn, I tm, .c (.sl ([.int .i64 a.k, .str a.name, .int .i64 a.n, .sl (a.l.map Typ.cs)] :: l.map Typ.cs))], .cells [I 0, S [], I 0, .csl [], I 0], .cells (A i).v.cellsV, .cells (l[i]'hlt).v.cellsV]) rfl rfl rfl
            rintro σ ⟨N', h1, h2, rfl⟩
            refine (DC.weakA (pretty_apply1 w0 (A i) (treeM s vars k l[i]) _) ?_).mono fun d σ' (q : Same _ _ d σ') => ⟨q.1, N', h1, h2, q.2⟩
            simp only [go_sem, seval, reduceCtorEq]
            (all_goals exact wk_here)
          case k =>
          simp only [go_sem, seval, reduceCtorEq]
          apply CanonS.loud (v := .void)
          case k => exact .nil
          case h =>
            refine YieldS.step (v := .void) rfl ?_
            rintro σ ⟨N', h1, h3, rfl⟩
            refine ⟨_, ?_, N', h1, h3, rfl⟩
            simp only [go_sem, seval, reduceCtorEq, hl0, tg0, tg, ts0, ts]
        case h =>
          rintro σ ⟨N3, n3, n4, rfl⟩
          ((try refine W.a ?_); simp only [go_sem, seval, reduceCtorEq, hw])
          refine .inv ⟨(i + 1, N3), ⟨hlt, by omega, n4⟩, by omega, ?_⟩
          rw [hn]
          have e3 := hl0 N3
          have hokN : H.ok (τ N3) := by
            have := hR.ok N N3 [] (by rw [List.append_nil]; exact hok)
            rwa [List.append_nil] at this
          have hfl : (∀ x, x ∈ caps → V.low ((τ N3).length + 4) x) ↔ True := by
            simp only [iff_true]
            intro x hx
            cases hR.low with
            | fn h => exact V.low_mono (by omega) (h x hx)
          simp only [go_sem, seval, reduceCtorEq]
          (refine Lew.cutL (hokN) ?_ (by simp; omega) (by simp) ?_ ?_ ?_; exact lee_here; ((try simp only [okB, wkB, go_sem, seval, reduceCtorEq, hfl]) <;> omega); (simp only [List.length_cons, List.length_nil, Nat.reduceAdd, List.take_succ_cons, List.take_zero, wkB, and_true]; (repeat' (refine And.intro ?_ ?_)) <;> (first | exact Blk.wk.rfl _ | exact Blk.wk.gone _ | (refine Blk.wk_cells ?_ rfl; (exact wk_here)))); (repeat' (first | exact LowE.base _ | (refine LowE.put ?_ (by first | exact .c _ | ((try simp only [okB, wkB, go_sem, seval, reduceCtorEq, hfl]) <;> omega))))))
      · obtain rfl : i = l.length := by omega
        have h1 : ¬ ((l.length : Nat) : Int) < ((l.length : Nat) : Int) := by omega
        have hokN : H.ok (τ N2) := by
          have := hR.ok N N2 [] (by rw [List.append_nil]; exact hok)
          rwa [List.append_nil] at this
        ((try refine W.a ?_); simp only [go_sem, seval, reduceCtorEq, h1])
        refine W.no rfl ?_
        ((try refine W.a ?_); simp only [go_sem, seval, reduceCtorEq, hl0, tg0, tg, ts0, ts])
        (refine W.fg (hokN) (d := (A l.length).v) (by simp only [r58, go_sem, seval, reduceCtorEq, tg0, tg]; rfl) (by simp only [resV, go_sem, seval, reduceCtorEq, tg0, tg]; exact wk_here) ?_ (hl := by (first | exact .c _ | (simp only [go_sem, seval, reduceCtorEq, tg0, tg]; done))) (hn := by rw [hl0]))
        exact ⟨by rw [Pre.v], N2, m1, m2, rfl⟩
theorem wtree_all (hG : Glob w0) (t : Typ) : OkT t → validM t = true → nearM 1099511627776 t = true → ∀ (k : Nat), k + nodesM t ≤ 1000 → TreeOK w0 s vars F t k := by
  refine Typ.ind (P := fun t => OkT t → validM t = true → nearM 1099511627776 t = true → ∀ (k : Nat), k + nodesM t ≤ 1000 → TreeOK w0 s vars F t k) (fun t ih hO hv hnr k hk => ?_) t
  rw [validM_eq, Bool.and_eq_true] at hv
  rw [nearM_eq, Bool.and_eq_true] at hnr
  have hn := hv.1
  have hkids : ∀ u ∈ t.l, validM u = true := List.all_eq_true.1 hv.2
  have hnears : ∀ u ∈ t.l, nearM 1099511627776 u = true := List.all_eq_true.1 hnr.2
  have hnear := hnr.1
  rcases nodeM_kinds hn with h | h | h | h | h | h | h
  · exact wtree_const t k (by simp [h])
  · have h1 : 1 ≤ t.n := by unfold nodeM at hn; simp [h] at hn; exact hn.1.1
    obtain ⟨N, hN⟩ : ∃ N : Nat, t.n = (N : Int) := ⟨t.n.toNat, by omega⟩
    refine wtree_eigen hG t k (by simp [h]) N hN ?_
    simp [h] at hnear
    omega
  · exact wtree_int t k (by simp [h])
  · have h1 : 0 ≤ t.n ∧ t.n ≤ 4611686018427387904 := by unfold nodeM at hn; simp [h] at hn; exact ⟨hn.1.1.1, hn.1.1.2⟩
    obtain ⟨N, hN⟩ : ∃ N : Nat, t.n = (N : Int) := ⟨t.n.toNat, by omega⟩
    by_cases hlt : N < k
    · exact wtree_bound t k (by simp [h]) N hN hlt (by omega)
    · exact wtree_far hG t k (by simp [h]) N hN (by omega) (by omega)
  · have h1 : 0 ≤ t.n ∧ t.n ≤ 4611686018427387904 := by unfold nodeM at hn; simp [h] at hn; exact ⟨hn.1.1.1, hn.1.1.2⟩
    obtain ⟨N, hN⟩ : ∃ N : Nat, t.n = (N : Int) := ⟨t.n.toNat, by omega⟩
    exact wtree_var hG t k (by simp [h]) N hN (by omega)
  · have h1 : t.l.length = 1 := by unfold nodeM at hn; simp [h] at hn; exact hn.2
    obtain ⟨b, hb⟩ : ∃ b, t.l = [b] := by
      match hl : t.l, h1 with
      | [b], _ => exact ⟨b, rfl⟩
    have hm : b ∈ t.l := by rw [hb]; exact List.mem_cons_self ..
    have := nodesM_mem hm
    have hpos := nodesM_eq b
    exact wtree_lam t b k (by simp [h]) hb (by omega) (ih b hm (hO.mem hm) (hkids b hm) (hnears b hm) (k + 1) (by omega))
  · have h1 : 2 ≤ t.l.length := by unfold nodeM at hn; simp [h] at hn; exact hn.1.1.2
    obtain ⟨a, l, hl⟩ : ∃ a l, t.l = a :: l := by
      match hl : t.l, h1 with
      | a :: l, _ => exact ⟨a, l, rfl⟩
    refine wtree_app t a l k (by simp [h]) hl ?_ (fun u hu => ih u hu (hO.mem hu) (hkids u hu) (hnears u hu) k (by have := nodesM_mem hu; omega))
    have := nodesMs_len t.l
    rw [hl] at this
    have := nodesM_eq t
    rw [hl] at this
    simp only [List.length_cons] at *
    omega
end
end
section
def c13 : AC := .seq (.reg [.o 3 (.box (.t 0)),.o 4 (.box (.t 1)),.o 6 (.mov (.k (.c (.bool false))))]) (.seq (.seq (.reg [.f 11 1 3,.l 12 11,.o 13 (.lenr (.t 12)),.o 14 (.bin .gtr (.t 13) (.k (.c (.int .i64 60)))),.m 15 14,.z 16 (.fadd 2 (.t 3)) 15,.z 17 (.load1 (.t 16)) 15,.z 18 (.lenr (.t 17)) 15,.z 19 (.bin .gtr (.t 18) (.k (.c (.int .i64 120)))) 15,.o 20 (.pick (.t 15) (.k (.c (.bool true))) (.t 19)),.m 21 20,.z 22 (.mov (.t 2)) 21,.z 23 (.lenr (.t 22)) 21,.z 24 (.bin .gtr (.t 23) (.k (.c (.int .i64 20)))) 21,.o 25 (.pick (.t 21) (.k (.c (.bool true))) (.t 24))]) (.cond (.t 25) (.seq (.reg [.o 6 (.mov (.k (.c (.bool true))))]) (.ret)) (.skip))) (.seq (.seq (.reg [.o 7 (.mov (.k (.c (.int .i64 0))))]) (.block 0 (.loop (.seq (.seq (.reg [.m 26 7,.f 27 1 3,.l 28 27,.o 29 (.lenr (.t 28)),.o 30 (.bin .lss (.t 26) (.t 29))]) (.cond (.t 30) (.skip) (.exit 0))) (.seq (.block 1 (.seq (.reg [.f 33 1 3,.l 34 33,.m 35 7,.o 36 (.iadd 5 (.t 34) (.t 35)),.f 37 0 36,.l 38 37,.o 39 (.lens (.t 38)),.o 40 (.bin .gtr (.t 39) (.k (.c (.int .i64 60))))]) (.cond (.t 40) (.seq (.reg [.o 6 (.mov (.k (.c (.bool true))))]) (.ret)) (.skip)))) (.reg [.m 31 7,.o 32 (.bin .add (.t 31) (.k (.c (.int .i64 1)))),.m 7 32])))))) (.seq (.seq (.reg [.o 8 (.mov (.k (.c (.int .i64 0))))]) (.block 2 (.loop (.seq (.seq (.reg [.m 41 8,.f 42 2 3,.l 43 42,.o 44 (.lenr (.t 43)),.o 45 (.bin .lss (.t 41) (.t 44))]) (.cond (.t 45) (.skip) (.exit 2))) (.seq (.block 3 (.seq (.reg [.f 48 2 3,.l 49 48,.m 50 8,.o 51 (.iadd 3 (.t 49) (.t 50)),.f 52 0 51,.l 53 52,.o 54 (.lens (.t 53)),.o 55 (.bin .gtr (.t 54) (.k (.c (.int .i64 60))))]) (.cond (.t 55) (.seq (.reg [.o 6 (.mov (.k (.c (.bool true))))]) (.ret)) (.skip)))) (.reg [.m 46 8,.o 47 (.bin .add (.t 46) (.k (.c (.int .i64 1)))),.m 8 47])))))) (.seq (.seq (.reg [.o 9 (.mov (.k (.c (.int .i64 0))))]) (.block 4 (.loop (.seq (.seq (.reg [.m 56 9,.m 57 2,.o 58 (.lenr (.t 57)),.o 59 (.bin .lss (.t 56) (.t 58))]) (.cond (.t 59) (.skip) (.exit 4))) (.seq (.block 5 (.seq (.reg [.m 62 2,.m 63 9,.o 64 (.iadd 1 (.t 62) (.t 63)),.l 65 64,.o 66 (.lens (.t 65)),.o 67 (.bin .gtr (.t 66) (.k (.c (.int .i64 60))))]) (.cond (.t 67) (.seq (.reg [.o 6 (.mov (.k (.c (.bool true))))]) (.ret)) (.skip)))) (.reg [.m 60 9,.o 61 (.bin .add (.t 60) (.k (.c (.int .i64 1)))),.m 9 61])))))) (.seq (.reg [.d 68 4 4,.k 69 53 [(.t 68),(.k (.c (.int .i64 1099511627776)))],.m 10 69]) (.seq (.reg [.d 70 4 4,.k 71 52 [(.t 70),(.k (.c (.int .i64 60)))],.m 72 71,.z 73 (.mov (.t 10)) 72,.z 74 (.un .not (.t 73)) 72,.o 75 (.pick (.t 72) (.k (.c (.bool true))) (.t 74)),.m 6 75]) (.ret)))))))
def r13 : List ResV := [.tmp 6]
theorem k13 : CodeIs Tryz.prog 13 3 Tryz.f13 c13 r13 := .auto Tryz.func13
def c3 : AC := .seq (.reg [.o 3 (.box (.t 0)),.o 4 (.box (.t 1)),.o 6 (.mov (.k (.c (.bool false))))]) (.seq (.reg [.k 13 12 [],.m 7 13]) (.seq (.seq (.reg [.m 14 7,.o 15 (.un .not (.t 14))]) (.cond (.t 15) (.seq (.reg [.o 6 (.mov (.k (.c (.bool false))))]) (.ret)) (.skip))) (.seq (.reg [.d 16 3 3,.d 17 4 4,.m 18 2,.k 19 13 [(.t 16),(.t 17),(.t 18)],.m 8 19]) (.seq (.seq (.reg [.m 20 8]) (.cond (.t 20) (.seq (.reg [.m 21 7,.m 6 21]) (.ret)) (.skip))) (.seq (.reg [.d 22 3 3,.d 23 4 4,.m 24 2,.k 25 14 [(.t 22),(.t 23),(.t 24)],.o 9 (.box (.k (.agg [.c (.int .i64 0),.c (.str []),.c (.int .i64 0),.csl [],.c (.int .i64 0)]))),.s 5 9 25]) (.seq (.reg [.o 26 (.build [.c (.int .i64 0),.c (.str []),.c (.int .i64 0),.csl [],.c (.int .i64 0)] []),.o 10 (.box (.k (.agg [.c (.int .i64 0),.c (.str []),.c (.int .i64 0),.csl [],.c (.int .i64 0)]))),.s 5 10 26]) (.seq (.reg [.d 27 4 4,.k 28 15 [(.t 27)],.m 11 28]) (.seq (.seq (.reg [.m 29 11]) (.cond (.t 29) (.reg [.d 30 3 3,.d 31 4 4,.m 32 2,.k 33 16 [(.t 30),(.t 31),(.t 32),(.k (.c (.int .i64 0)))],.s 5 10 33]) (.skip))) (.seq (.reg [.d 34 5 9,.d 35 5 10,.k 36 17 [(.t 34),(.t 35)],.m 12 36]) (.seq (.dreg [.m 37 7,.m 38 37,.y 39 (.mov (.t 12)) 38,.o 40 (.pick (.t 38) (.t 39) (.k (.c (.bool false)))),.m 41 40,.y 42 (.loadn 3 (.t 3)) 41,.y 43 (.loadn 4 (.t 4)) 41,.y 44 (.mov (.t 2)) 41,.y 45 (.call (.k (.fn 18 [])) [(.t 42),(.t 43),(.t 44)]) 41,.y 46 (.loadn 3 (.t 3)) 41,.y 47 (.loadn 4 (.t 4)) 41,.y 48 (.mov (.t 2)) 41,.y 49 (.call (.k (.fn 19 [])) [(.t 46),(.t 47),(.t 48)]) 41,.y 50 (.bin .eql (.t 45) (.t 49)) 41,.o 51 (.pick (.t 41) (.t 50) (.k (.c (.bool false)))),.m 6 51] [.q (.m 37 7),.q (.m 38 37),.q (.y 39 (.mov (.t 12)) 38),.q (.o 40 (.pick (.t 38) (.t 39) (.k (.c (.bool false))))),.q (.m 41 40),.q (.y 42 (.loadn 3 (.t 3)) 41),.q (.y 43 (.loadn 4 (.t 4)) 41),.q (.y 44 (.mov (.t 2)) 41),⟨.y 45 (.call (.k (.fn 18 [])) [(.t 42),(.t 43),(.t 44)]) 41,true,0⟩,.q (.y 46 (.loadn 3 (.t 3)) 41),.q (.y 47 (.loadn 4 (.t 4)) 41),.q (.y 48 (.mov (.t 2)) 41),⟨.y 49 (.call (.k (.fn 19 [])) [(.t 46),(.t 47),(.t 48)]) 41,true,1⟩,⟨.y 50 (.bin .eql (.t 45) (.t 49)) 41,false,2⟩,⟨.o 51 (.pick (.t 41) (.t 50) (.k (.c (.bool false)))),false,2⟩,⟨.m 6 51,false,2⟩]) (.ret)))))))))))
def r3 : List ResV := [.tmp 6]
theorem k3 : CodeIs Tryz.prog 3 3 Tryz.f3 c3 r3 := .auto Tryz.func3
def c4 : AC := .seq (.reg [.o 3 (.box (.t 0)),.o 6 (.mov (.k (.c (.bool false))))]) (.seq (.reg [.k 13 12 [],.m 7 13]) (.seq (.seq (.reg [.m 14 7,.o 15 (.un .not (.t 14))]) (.cond (.t 15) (.seq (.reg [.o 6 (.mov (.k (.c (.bool false))))]) (.ret)) (.skip))) (.seq (.reg [.d 16 3 3,.o 17 (.build [.c (.int .i64 0),.c (.str []),.c (.int .i64 0),.csl []] []),.m 18 1,.k 19 13 [(.t 16),(.t 17),(.t 18)],.m 8 19]) (.seq (.seq (.reg [.m 20 8]) (.cond (.t 20) (.seq (.reg [.m 21 7,.m 6 21]) (.ret)) (.skip))) (.seq (.reg [.d 22 3 3,.m 23 1,.k 24 20 [(.t 22),(.t 23)],.m 9 24]) (.seq (.seq (.reg [.m 25 9,.o 26 (.eqn false 2 (.t 25))]) (.cond (.t 26) (.seq (.reg [.o 6 (.mov (.k (.c (.bool false))))]) (.ret)) (.skip))) (.seq (.reg [.m 27 9,.m 28 2,.o 29 (.call (.t 27) [(.t 28)]),.m 10 29]) (.seq (.seq (.reg [.m 30 2,.o 31 (.bin .lss (.t 30) (.k (.c (.int .i64 0)))),.m 32 31,.z 33 (.mov (.t 2)) 32,.z 34 (.bin .gtr (.t 33) (.k (.c (.int .i64 100000)))) 32,.o 35 (.pick (.t 32) (.k (.c (.bool true))) (.t 34))]) (.cond (.t 35) (.seq (.reg [.m 36 7,.m 37 36,.y 38 (.mov (.t 10)) 37,.y 39 (.bin .eql (.t 38) (.k (.c (.str [])))) 37,.o 40 (.pick (.t 37) (.t 39) (.k (.c (.bool false)))),.m 6 40]) (.ret)) (.skip))) (.seq (.seq (.reg [.m 41 2,.o 42 (.bin .gtr (.t 41) (.k (.c (.int .i64 60))))]) (.cond (.t 42) (.seq (.reg [.m 43 7,.m 44 43,.y 45 (.mov (.t 10)) 44,.y 46 (.lens (.t 45)) 44,.y 47 (.bin .gtr (.t 46) (.k (.c (.int .i64 1)))) 44,.o 48 (.pick (.t 44) (.t 47) (.k (.c (.bool false)))),.m 6 48]) (.ret)) (.skip))) (.seq (.reg [.d 50 3 3,.m 51 10,.k 52 21 [(.t 50),(.t 51)],.m 49 52,.x 53 49 0,.x 54 49 1,.o 11 (.box (.k (.agg [.c (.int .i64 0),.c (.str []),.c (.int .i64 0),.csl []]))),.s 4 11 53,.m 12 54]) (.seq (.reg [.m 55 7,.m 56 55,.y 57 (.mov (.t 10)) 56,.y 58 (.loadn 3 (.t 3)) 56,.y 59 (.mov (.t 1)) 56,.y 60 (.mov (.t 2)) 56,.y 61 (.call (.k (.fn 22 [])) [(.t 58),(.t 59),(.t 60)]) 56,.y 62 (.bin .eql (.t 57) (.t 61)) 56,.o 63 (.pick (.t 56) (.t 62) (.k (.c (.bool false)))),.m 64 63,.y 65 (.mov (.t 12)) 64,.y 66 (.un .not (.t 65)) 64,.o 67 (.pick (.t 64) (.t 66) (.k (.c (.bool false)))),.m 68 67,.y 69 (.mov (.t 9)) 68,.y 70 (.mov (.t 2)) 68,.y 71 (.call (.t 69) [(.t 70)]) 68,.y 72 (.mov (.t 10)) 68,.y 73 (.bin .eql (.t 71) (.t 72)) 68,.o 74 (.pick (.t 68) (.t 73) (.k (.c (.bool false)))),.m 6 74]) (.ret))))))))))))
def r4 : List ResV := [.tmp 6]
theorem k4 : CodeIs Tryz.prog 4 3 Tryz.f4 c4 r4 := .auto Tryz.func4
end
end Go.Proofs.YtpcmcfajfnpjeaaGreatDoor
namespace Go.Proofs.YtpcmcfajfnpjeaaGreatDoor
open Go.RowKit Go.Lamb
end Go.Proofs.YtpcmcfajfnpjeaaGreatDoor
namespace Go.Proofs.YtpcmcfajfnpjeaaGreatDoor
open Go.RowKit Go.Lamb
attribute [local go_sem] advO_skip advO_reg advO_seq advO_block advO_exit advO_endb advO_opsNil advO_ops advG_yes advG_no advG_none advS_some advS_none advO_cond advO_loop advO_dreg advO_ret advO_bad advO_inv advO_nil advO_zero wantedV Lamb.step ev_t ev_k put_some put_none argEnv popTo cellsAt V.cellsV V.rows V.sub V.toC toCs fillV bytesC byteRows appV rowsV boundV boundL binV binInt binStr eqC eqL V.isNil leaves V.leaf Ins.quiet Ins.pure List.getD_cons_zero List.getD_cons_succ List.getD_nil List.all_cons List.all_nil List.length_cons List.length_nil List.take_succ_cons List.take_zero List.drop_succ_cons List.drop_zero List.cons_append List.nil_append List.append_nil List.append_assoc List.map_cons List.map_nil List.getElem?_cons_zero List.getElem?_cons_succ List.length_append List.length_set hget0 hget hset0 hset hsets hgs0 hgs hss0 hss List.set_cons_zero List.set_cons_succ List.forall_mem_cons List.not_mem_nil false_implies implies_true Option.map_some Bool.and_true Bool.true_and Bool.not_not Bool.not_true Bool.not_false Bool.and_self Bool.or_true Bool.true_or Bool.or_false Bool.false_or Bool.and_false Bool.false_and Bool.false_eq_true beq_self_eq_true and_self and_true true_and if_true if_false Nat.zero_add Nat.add_zero Nat.le_refl Int.toNat_natCast decide_true decide_false beq_t beq_f List.length_map List.getElem?_map I S B opsC toksC OpT.v OpT.cs OpT.zero Tok.v Tok.cs Pre.v Pre.cs_eq k_mk name_mk n_mk l_mk pos_mk Pre.app applyL natCast0 natCast1 natCast2 AOp.o AOp.m AOp.f AOp.l AOp.d AOp.n AOp.x AOp.s AOp.k AOp.y AOp.z EOp.q low_c low_void low_any low_csl low_nilf low_ptr low_osl low_agg low_tup low_fn resEval advPO_nil advPO_loud advPO_quiet pL_yes pL_no pLS_some pLS_none pQ_yes pQ_no pQS_some pQS_loud eq_self Nat.sub_zero
section
attribute [local go_sem] Pre.v
end
section
attribute [local go_sem] Pre.v
end
end Go.Proofs.YtpcmcfajfnpjeaaGreatDoor
namespace Go.Lamb
open Go Go.RowKit
def FitP (p : Pre) (n : Nat) : Prop := OkP p ∧ longP p = false ∧ nodesP p + 1 ≤ n
theorem FitP.leaf {k : Int} {s : Str} {n : Int} {m : Nat} (h1 : s.length ≤ 100) (h2 : n ≤ 9223372036854775807) (h3 : 2 ≤ m) : FitP (.mk k s n [] 0) m := by
  refine ⟨.mk h2 (fun x h => by cases h), ?_, ?_⟩
  · rw [longP_eq]
    show (decide ((s.length : Int) > 100) || List.any [] longP) = false
    simp; omega
  · rw [nodesP, nodesPs]; omega
theorem FitP.app {f x : Pre} {n m : Nat} (h1 : FitP f n) (h2 : FitP x m) : FitP (.app f x 0) (n + m) := by
  obtain ⟨a1, a2, a3⟩ := h1
  obtain ⟨b1, b2, b3⟩ := h2
  refine ⟨.mk (by decide) (fun y hy => ?_), ?_, ?_⟩
  · simp only [List.mem_cons, List.not_mem_nil, or_false] at hy
    rcases hy with rfl | rfl
    · exact a1
    · exact b1
  · rw [longP_eq]
    show (decide ((([] : Str).length : Int) > 100) || List.any [f, x] longP) = false
    simp [a2, b2]
  · rw [Pre.app, nodesP, nodesPs, nodesPs, nodesPs]; omega
theorem FitP.mono {p : Pre} {n m : Nat} (h : FitP p n) (hm : n ≤ m) : FitP p m := ⟨h.1, h.2.1, Nat.le_trans h.2.2 hm⟩
theorem FitP.apps : ∀ (l : List Typ) (f : Typ → Pre) (a : Pre) (n : Nat), FitP a n → (∀ u ∈ l, FitP (f u) (4 * nodesM u)) → FitP ((l.map f).foldl (fun a b => Pre.app a b 0) a) (n + 4 * nodesMs l)
  | [], f, a, n, ha, _ => by
    rw [nodesMs]
    exact ha
  | u :: l, f, a, n, ha, h => by
    rw [nodesMs, List.map_cons, List.foldl_cons]
    exact (FitP.apps l f _ _ (ha.app (h u (List.mem_cons_self ..))) (fun v hv => h v (List.mem_cons_of_mem _ hv))).mono (by omega)
theorem numP_fit (n : Int) (h : n ≤ 9223372036854775807) : FitP (numP n) 4 := by
  unfold numP
  split
  · exact FitP.leaf (Nat.zero_le _) h (by decide)
  · refine FitP.app (n := 2) (m := 2) (FitP.leaf (by decide) (by decide) (by decide)) (FitP.leaf (Nat.zero_le _) ?_ (by decide))
    split <;> omega
theorem treeM_fit (s : Sg) (vars : List Str) (hvv : ∀ x ∈ vars, x.length ≤ 100) (hT : (takenT s vars).length ≤ 900000) (t : Typ) : OkT t → validM t = true → nearM 1099511627776 t = true → ∀ (k : Nat), k + nodesM t ≤ 1000 → FitP (treeM s vars k t) (4 * nodesM t) := by
  have hnm : ∀ i, i ≤ 1000 → (nameM s vars i).length ≤ 100 := fun i hi => by
    have h1 := numAt_le s vars i
    have h2 := dec_len (u := numAt s vars i + 1) (by omega)
    unfold nameM nmX
    simp only [List.length_cons]
    omega
  refine Typ.ind (P := fun t => OkT t → validM t = true → nearM 1099511627776 t = true → ∀ (k : Nat), k + nodesM t ≤ 1000 → FitP (treeM s vars k t) (4 * nodesM t)) (fun t ih hO hv hnr k hk => ?_) t
  rw [validM_eq, Bool.and_eq_true] at hv
  rw [nearM_eq, Bool.and_eq_true] at hnr
  have hn := hv.1
  have hkids : ∀ u ∈ t.l, validM u = true := List.all_eq_true.1 hv.2
  have hnears : ∀ u ∈ t.l, nearM 1099511627776 u = true := List.all_eq_true.1 hnr.2
  have hnear := hnr.1
  have hne := nodesM_eq t
  have h4 : 4 ≤ 4 * nodesM t := by omega
  rcases nodeM_kinds hn with h | h | h | h | h | h | h
  · rw [treeM_eq, if_neg (by omega), if_neg (by omega), leafP, if_neg (by omega), if_neg (by omega), if_neg (by omega), if_neg (by omega)]
    refine FitP.leaf ?_ (by decide) (by omega)
    have hf : fitsB t.name = true := by
      unfold nodeM at hn
      rw [if_pos h] at hn
      simp only [Bool.and_eq_true, Bool.or_eq_true, isNameB, isSymB] at hn
      rcases hn.1.1 with h | h
      · exact h.1.1
      · exact h.1
    simp [fitsB] at hf
    omega
  · have h1 : 1 ≤ t.n := by unfold nodeM at hn; simp [h] at hn; exact hn.1.1
    have h2 : t.n ≤ 1099511627776 := by simp [h] at hnear; omega
    rw [treeM_eq, if_neg (by omega), if_neg (by omega), leafP, if_neg (by omega), if_neg (by omega), if_pos h]
    refine FitP.leaf ?_ (by decide) (by omega)
    have := dec_len (u := t.n.toNat) (by omega)
    simp only [List.length_cons]
    omega
  · rw [treeM_eq, if_neg (by omega), if_neg (by omega), leafP, if_pos h]
    exact (numP_fit t.n hO.n.2).mono h4
  · have h1 : 0 ≤ t.n ∧ t.n ≤ 4611686018427387904 := by unfold nodeM at hn; simp [h] at hn; exact ⟨hn.1.1.1, hn.1.1.2⟩
    rw [treeM_eq, if_neg (by omega), if_neg (by omega), leafP, if_neg (by omega), if_neg (by omega), if_neg (by omega), if_pos h]
    split
    · exact FitP.leaf (hnm _ (by omega)) (by decide) (by omega)
    · refine FitP.leaf ?_ (by decide) (by omega)
      have := dec_len (u := t.n.toNat - k) (by omega)
      simp only [List.length_cons]
      omega
  · have h1 : 0 ≤ t.n ∧ t.n ≤ 4611686018427387904 := by unfold nodeM at hn; simp [h] at hn; exact ⟨hn.1.1.1, hn.1.1.2⟩
    rw [treeM_eq, if_neg (by omega), if_neg (by omega), leafP, if_neg (by omega), if_pos h]
    split
    · rename_i hlt
      refine FitP.leaf ?_ (by decide) (by omega)
      have : t.n.toNat < vars.length := by omega
      rw [List.getD_eq_getElem?_getD, List.getElem?_eq_getElem this]
      exact hvv _ (List.getElem_mem this)
    · refine FitP.leaf ?_ (by decide) (by omega)
      have := dec_len (u := t.n.toNat) (by omega)
      simp only [List.length_cons]
      omega
  · have h1 : t.l.length = 1 := by unfold nodeM at hn; simp [h] at hn; exact hn.2
    obtain ⟨b, hb⟩ : ∃ b, t.l = [b] := by
      match hl : t.l, h1 with
      | [b], _ => exact ⟨b, rfl⟩
    have hm : b ∈ t.l := by rw [hb]; exact List.mem_cons_self ..
    have hlt := nodesM_mem hm
    have hpos := nodesM_eq b
    obtain ⟨c1, c2, c3⟩ := ih b hm (hO.mem hm) (hkids b hm) (hnears b hm) (k + 1) (by omega)
    rw [treeM_eq, if_pos h, hb]
    refine ⟨.mk (by decide) (fun y hy => ?_), ?_, ?_⟩
    · rw [List.map_cons, List.map_nil, List.mem_singleton] at hy
      rw [hy]; exact c1
    · rw [longP_eq]
      have := hnm k (by omega)
      show (decide (((nameM s vars k).length : Int) > 100) || List.any [treeM s vars (k + 1) b] longP) = false
      simp [c2]
      omega
    · rw [nodesP, List.map_cons, List.map_nil, nodesPs, nodesPs]; omega
  · have h1 : 2 ≤ t.l.length := by unfold nodeM at hn; simp [h] at hn; exact hn.1.1.2
    obtain ⟨a, l, hl⟩ : ∃ a l, t.l = a :: l := by
      match hl : t.l, h1 with
      | a :: l, _ => exact ⟨a, l, rfl⟩
    have hk' : ∀ u ∈ t.l, FitP (treeM s vars k u) (4 * nodesM u) := fun u hu => ih u hu (hO.mem hu) (hkids u hu) (hnears u hu) k (by have := nodesM_mem hu; omega)
    rw [treeM_eq, if_neg (by omega), if_pos h, hl, List.map_cons]
    rw [hl] at hk' hne
    rw [nodesMs] at hne
    exact (FitP.apps l _ _ _ (hk' a (List.mem_cons_self ..)) (fun u hu => hk' u (List.mem_cons_of_mem _ hu))).mono (by omega)
noncomputable def preM (s : Sg) (vars : List Str) (t : Typ) : Pre := if validM t = true then treeM s vars 0 t else .none
theorem preM_fit (s : Sg) (vars : List Str) (hv : ∀ x ∈ vars, x.length ≤ 100) (hT : (takenT s vars).length ≤ 900000) (t : Typ) (hO : OkT t) (hn : nearM 1099511627776 t = true) (hl : nodesM t ≤ 1000) : OkP (preM s vars t) ∧ (showL s.ops (preM s vars t)).length ≤ 100000000 := by
  have key : FitP (preM s vars t) 4004 := by
    unfold preM
    split
    · rename_i h
      exact (treeM_fit s vars hv hT t hO h hn 0 (by omega)).mono (by omega)
    · exact FitP.leaf (Nat.zero_le _) (by decide) (by decide)
  obtain ⟨h1, h2, h3⟩ := key
  have := showL_len s.ops _ h2 h1
  have : 206 * nodesP (preM s vars t) ≤ 206 * 4004 := Nat.mul_le_mul_left _ (by omega)
  exact ⟨h1, by omega⟩
end Go.Lamb
namespace Go.Proofs.YtpcmcfajfnpjeaaGreatDoor
open Go.RowKit Go.Lamb
end Go.Proofs.YtpcmcfajfnpjeaaGreatDoor
namespace Go.Lamb
open Go Go.RowKit
def overM (s : Sg) (t : Typ) (vars : List Str) : Bool :=
  decide (60 < s.types.length) || (decide (120 < s.ops.length) || (decide (20 < vars.length) || (s.types.any (fun x => decide (60 < x.name.length)) || (s.ops.any (fun x => decide (60 < x.name.length)) || (vars.any (fun x => decide (60 < x.length)) || (decide (leftT t 60 < 0) || !nearM 1099511627776 t))))))
theorem overM_no {s : Sg} {t : Typ} {vars : List Str} (h : overM s t vars = false) : (takenT s vars).length ≤ 900000 ∧ (∀ x ∈ vars, x.length ≤ 100) ∧ nodesM t ≤ 60 ∧ nearM 1099511627776 t = true ∧ (∀ x ∈ s.types, x.name.length ≤ 60) ∧ (∀ x ∈ s.ops, x.name.length ≤ 60) ∧ vars.length ≤ 20 := by
  unfold overM at h
  simp only [Bool.or_eq_false_iff, decide_eq_false_iff_not, Bool.not_eq_false', List.any_eq_false, decide_eq_true_eq] at h
  obtain ⟨h1, h2, h3, h4, h5, h6, h7, h8⟩ := h
  refine ⟨?_, fun x hx => by have := h6 x hx; omega, ?_, h8, fun x hx => by have := h4 x hx; omega, fun x hx => by have := h5 x hx; omega, by omega⟩
  · unfold takenT
    simp only [List.length_append, List.length_map]
    omega
  · have := leftT_nodesM t 60 (by omega)
    omega
end Go.Lamb
namespace Go.Proofs.YtpcmcfajfnpjeaaGreatDoor
open Go.RowKit Go.Lamb
attribute [local go_sem] advO_skip advO_reg advO_seq advO_block advO_exit advO_endb advO_opsNil advO_ops advG_yes advG_no advG_none advS_some advS_none advO_cond advO_loop advO_dreg advO_ret advO_bad advO_inv advO_nil advO_zero wantedV Lamb.step ev_t ev_k put_some put_none argEnv popTo cellsAt V.cellsV V.rows V.sub V.toC toCs fillV bytesC byteRows appV rowsV boundV boundL binV binInt binStr eqC eqL V.isNil leaves V.leaf Ins.quiet Ins.pure List.getD_cons_zero List.getD_cons_succ List.getD_nil List.all_cons List.all_nil List.length_cons List.length_nil List.take_succ_cons List.take_zero List.drop_succ_cons List.drop_zero List.cons_append List.nil_append List.append_nil List.append_assoc List.map_cons List.map_nil List.getElem?_cons_zero List.getElem?_cons_succ List.length_append List.length_set hget0 hget hset0 hset hsets hgs0 hgs hss0 hss List.set_cons_zero List.set_cons_succ List.forall_mem_cons List.not_mem_nil false_implies implies_true Option.map_some Bool.and_true Bool.true_and Bool.not_not Bool.not_true Bool.not_false Bool.and_self Bool.or_true Bool.true_or Bool.or_false Bool.false_or Bool.and_false Bool.false_and Bool.false_eq_true beq_self_eq_true and_self and_true true_and if_true if_false Nat.zero_add Nat.add_zero Nat.le_refl Int.toNat_natCast decide_true decide_false beq_t beq_f List.length_map List.getElem?_map I S B opsC toksC OpT.v OpT.cs OpT.zero Tok.v Tok.cs Pre.v Pre.cs_eq k_mk name_mk n_mk l_mk pos_mk Pre.app applyL natCast0 natCast1 natCast2 AOp.o AOp.m AOp.f AOp.l AOp.d AOp.n AOp.x AOp.s AOp.k AOp.y AOp.z EOp.q low_c low_void low_any low_csl low_nilf low_ptr low_osl low_agg low_tup low_fn resEval advPO_nil advPO_loud advPO_quiet pL_yes pL_no pLS_some pLS_none pQ_yes pQ_no pQS_some pQS_loud eq_self Nat.sub_zero
section
section
attribute [local go_sem] Sg.v Typ.v Typ.cs_eq Pre.v Pre.cs_eq Pre.app tk_mk tname_mk tn_mk tl_mk
theorem pretty_Tree {w0 : World} (hG : Glob w0) (s : Sg) (t : Typ) (vars : List Str) (hO : OkT t) (hn : nearM 1099511627776 t = true) (hl : nodesM t ≤ 1000) (hT : (takenT s vars).length ≤ 900000) (σ : H) : DC Tryz.prog w0 14 [s.v, t.v, .c (.sl (strsR vars))] σ (Same (preM s vars t).v σ) := by
  refine k14.go rfl (fun hok hsz => ?_)
  have hV := fun σ => term_Valid w0 t σ
  cases hv : validM t
  · have hE : preM s vars t = .none := by unfold preM; rw [hv]; rfl
    rw [hE]
    rw [hv] at hV
    ((try refine W.a ?_); simp only [go_sem, seval, reduceCtorEq, c14])
    (refine W.c1 (hV _) ?_; simp only [go_sem, seval, reduceCtorEq])
    ((try refine W.a ?_); simp only [go_sem, seval, reduceCtorEq])
    refine W.yes rfl ?_
    ((try refine W.a ?_); simp only [go_sem, seval, reduceCtorEq, Pre.none])
    (refine W.fs (hok) (by simp only [r14, go_sem, seval, reduceCtorEq]; rfl) ?_; simp only [resV]; try exact V.wk.rfl _)
    all_goals (all_goals exact wk_here)
  · have hE : preM s vars t = treeM s vars 0 t := by unfold preM; rw [if_pos hv]
    rw [hE]
    rw [hv] at hV
    have hW : ∃ Y : Nat → H, ∃ (f : FuncId) (caps : List V), (∀ N, N ≤ 1001 → DC Tryz.prog w0 58 [wrV vars (.fn f caps), t.v, I ((0 : Nat) : Int)] (σ ++ .cells s.v.cellsV :: .cells t.v.cellsV :: .cells [I 0, S [], I 0, .csl [], I 0] ::  Y N) (fun d σ' => d = (treeM s vars 0 t).v ∧ ∃ N', N ≤ N' ∧ N' ≤ 1001 ∧ σ' = σ ++ .cells s.v.cellsV :: .cells t.v.cellsV :: .cells [I 0, S [], I 0, .csl [], I 0] ::  Y N')) ∧
        DC Tryz.prog w0 20 [s.v, .c (.sl (strsR vars))] (σ ++ [.cells s.v.cellsV, .cells t.v.cellsV, .cells [I 0, S [], I 0, .csl [], I 0]]) (Same (.fn f caps) (σ ++ .cells s.v.cellsV :: .cells t.v.cellsV :: .cells [I 0, S [], I 0, .csl [], I 0] ::  Y 0)) := by
      have hR := nm_R hG s vars hT (σ ++ [.cells s.v.cellsV, .cells t.v.cellsV, .cells [I 0, S [], I 0, .csl [], I 0]]) []
      have e3 : (σ ++ [Blk.cells s.v.cellsV, .cells t.v.cellsV, .cells [I 0, S [], I 0, .csl [], I 0]]).length = σ.length + 3 := by simp
      have hW := wtree_all (w0 := w0) (s := s) (vars := vars) hG t hO hv hn 0 (by omega) _ _ hR
      have hNm := pretty_Names w0 s vars (σ ++ [.cells s.v.cellsV, .cells t.v.cellsV, .cells [I 0, S [], I 0, .csl [], I 0]])
      rw [e3] at hW hNm
      refine ⟨fun N => nmB s vars (σ.length + 3) N (cntOf s vars N), 68, [.ptr (σ.length + 3 + 2) 0, .ptr (σ.length + 3 + 3) 0, .ptr (σ.length + 3 + 4) 0], fun N hN => ?_, ?_⟩
      · simpa only [List.append_assoc, List.cons_append, List.nil_append, List.append_nil] using hW N (Nat.zero_le _) hN
      · simpa only [List.append_assoc, List.cons_append, List.nil_append, List.append_nil, cntOf, if_pos] using hNm
    obtain ⟨Y, f, caps, hW, hNm⟩ := hW
    ((try refine W.a ?_); simp only [go_sem, seval, reduceCtorEq, c14])
    (refine W.c1 (hV _) ?_; simp only [go_sem, seval, reduceCtorEq])
    ((try refine W.a ?_); simp only [go_sem, seval, reduceCtorEq])
    refine W.no rfl ?_
    ((try refine W.a ?_); simp only [go_sem, seval, reduceCtorEq])
    apply W.dregS (S0 := fun x => x = σ ++ [.cells s.v.cellsV, .cells t.v.cellsV, .cells [I 0, S [], I 0, .csl [], I 0]]) (S := fun x => ∃ N', N' ≤ 1001 ∧ x = σ ++ .cells s.v.cellsV :: .cells t.v.cellsV :: .cells (treeM s vars 0 t).v.cellsV ::  Y N') (List.cons_ne_nil _ _) rfl
    case hc =>
      apply CanonS.runN 2 (σ0 := σ ++ [.cells s.v.cellsV, .cells t.v.cellsV, .cells [I 0, S [], I 0, .csl [], I 0]])
      case h0 => rfl
      case h =>
        rintro x rfl
        simp only [go_sem, seval, reduceCtorEq, runQ]
        rfl
      case hp =>
        intro T hT
        cases hT
      case k =>
      simp only [go_sem, seval, reduceCtorEq]
      apply CanonS.loud
      case h =>
        apply YieldS.call (S' := fun x => x = σ ++ .cells s.v.cellsV :: .cells t.v.cellsV :: .cells [I 0, S [], I 0, .csl [], I 0] ::  Y 0) rfl rfl rfl
        rintro x rfl
        exact hNm.mono fun d x q => q
      case k =>
      apply CanonS.runN 3 (σ0 := σ ++ .cells s.v.cellsV :: .cells t.v.cellsV :: .cells [I 0, S [], I 0, .csl [], I 0] ::  Y 0)
      case h0 => rfl
      case h =>
        rintro x rfl
        simp only [go_sem, seval, reduceCtorEq, runQ]
        rfl
      case hp =>
        intro T hT
        simp only [List.mem_cons, List.not_mem_nil, or_false] at hT
        subst hT
        rintro x rfl
        simp only [go_sem, seval, reduceCtorEq, runQ]
      case k =>
      simp only [go_sem, seval, reduceCtorEq]
      apply CanonS.loud
      case h =>
        apply YieldS.call (S' := fun x => ∃ N', N' ≤ 1001 ∧ x = σ ++ .cells s.v.cellsV :: .cells t.v.cellsV :: .cells [I 0, S [], I 0, .csl [], I 0] ::  Y N') rfl rfl rfl
        rintro x rfl
        exact (hW 0 (by decide)).mono fun d x ⟨q1, N', _, q2, q3⟩ => ⟨q1, N', q2, q3⟩
      case k =>
      simp only [go_sem, seval, reduceCtorEq]
      apply CanonS.loud (v := .void)
      case k => exact .nil
      case h =>
        refine YieldS.step (v := .void) rfl ?_
        rintro x ⟨N', h1, rfl⟩
        refine ⟨_, ?_, N', h1, rfl⟩
        simp only [go_sem, seval, reduceCtorEq]
    case h =>
      rintro x ⟨N', h1, rfl⟩
      ((try refine W.a ?_); simp only [go_sem, seval, reduceCtorEq])
      (refine W.fs (hok) (by simp only [r14, go_sem, seval, reduceCtorEq]; rfl) ?_; simp only [resV]; try exact V.wk.rfl _)
      all_goals (all_goals exact wk_here)
noncomputable def textM (s : Sg) (vars : List Str) (t : Typ) : Str := showL s.ops (preM s vars t)
theorem pretty_Text {w0 : World} (hG : Glob w0) (s : Sg) (t : Typ) (vars : List Str) (hO : OkT t) (hn : nearM 1099511627776 t = true) (hl : nodesM t ≤ 1000) (hT : (takenT s vars).length ≤ 900000) (hvv : ∀ x ∈ vars, x.length ≤ 100) (σ : H) : DC Tryz.prog w0 18 [s.v, t.v, .c (.sl (strsR vars))] σ (Same (S (textM s vars t)) σ) := by
  refine k18.go rfl (fun hok hsz => ?_)
  have h1 := fun σ => pretty_Tree hG s t vars hO hn hl hT σ
  obtain ⟨f1, f2⟩ := preM_fit s vars hvv hT t hO hn hl
  have h2 := fun σ => show_Text hG s.ops (preM s vars t) f1 f2 σ
  unfold textM
  generalize showL s.ops (preM s vars t) = x at *
  unfold opsC at h2
  ((try refine W.a ?_); simp only [go_sem, seval, reduceCtorEq, c18])
  apply W.dreg
  case hc =>
    (apply Canon.advCO; simp only [advCO_nil, advCO_cons, cG_yes, cG_no, cS_some, cS_loud, go_sem, seval, reduceCtorEq])
    (apply Canon.call (h1 _); (case hg => rfl); (case hf => rfl); (case ha => first | rfl | simp))
    (apply Canon.advCO; simp only [advCO_nil, advCO_cons, cG_yes, cG_no, cS_some, cS_loud, go_sem, seval, reduceCtorEq])
    (apply Canon.call (h2 _); (case hg => rfl); (case hf => rfl); (case ha => first | rfl | simp))
    (apply Canon.advCO; simp only [advCO_nil, advCO_cons, cG_yes, cG_no, cS_some, cS_loud, go_sem, seval, reduceCtorEq])
    exact Canon.nil
  ((try refine W.a ?_); simp only [go_sem, seval, reduceCtorEq])
  (refine W.fs (hok) (by simp only [r18, go_sem, seval, reduceCtorEq]; rfl) ?_; simp only [resV]; try exact V.wk.rfl _)
  all_goals (all_goals exact wk_here)
end
end
section
attribute [local go_sem] Sg.v Typ.v Typ.cs_eq tk_mk tname_mk tn_mk tl_mk kdsC nmsC opsC strsR NmT.cs OpT.cs
theorem over14_big (w0 : World) (s : Sg) (t : Typ) (vars : List Str) (h : 60 < s.types.length ∨ 120 < s.ops.length ∨ 20 < vars.length) (σ : H) : DC Tryz.prog w0 13 [s.v, t.v, .c (.sl (strsR vars))] σ (Same (B true) σ) := by
  refine k13.go rfl (fun hok hsz => ?_)
  by_cases h1 : 60 < s.types.length
  · have h1' : (s.types.length : Int) > 60 := by omega
    ((try refine W.a ?_); simp only [go_sem, seval, reduceCtorEq, c13, h1'])
    refine W.yes rfl ?_
    ((try refine W.a ?_); simp only [go_sem, seval, reduceCtorEq])
    (refine W.fs (hok) (by simp only [r13, go_sem, seval, reduceCtorEq]; rfl) ?_; simp only [resV]; try exact V.wk.rfl _)
  have h1' : ¬ (s.types.length : Int) > 60 := by omega
  by_cases h2 : 120 < s.ops.length
  · have h2' : (s.ops.length : Int) > 120 := by omega
    ((try refine W.a ?_); simp only [go_sem, seval, reduceCtorEq, c13, h1', h2'])
    refine W.yes rfl ?_
    ((try refine W.a ?_); simp only [go_sem, seval, reduceCtorEq])
    (refine W.fs (hok) (by simp only [r13, go_sem, seval, reduceCtorEq]; rfl) ?_; simp only [resV]; try exact V.wk.rfl _)
  have h2' : ¬ (s.ops.length : Int) > 120 := by omega
  have h3' : (vars.length : Int) > 20 := by omega
  ((try refine W.a ?_); simp only [go_sem, seval, reduceCtorEq, c13, h1', h2', h3'])
  refine W.yes rfl ?_
  ((try refine W.a ?_); simp only [go_sem, seval, reduceCtorEq])
  (refine W.fs (hok) (by simp only [r13, go_sem, seval, reduceCtorEq]; rfl) ?_; simp only [resV]; try exact V.wk.rfl _)
theorem law14_over (w0 : World) (s : Sg) (t : Typ) (vars : List Str) (σ : H) : DC Tryz.prog w0 13 [s.v, t.v, .c (.sl (strsR vars))] σ (Same (B (overM s t vars)) σ) := by
  by_cases hbig : 60 < s.types.length ∨ 120 < s.ops.length ∨ 20 < vars.length
  · have e : overM s t vars = true := by
      unfold overM
      rcases hbig with h | h | h <;> simp [h]
    rw [e]
    exact over14_big w0 s t vars hbig σ
  have g1 : ¬ (s.types.length : Int) > 60 := by omega
  have g2 : ¬ (s.ops.length : Int) > 120 := by omega
  have g3 : ¬ (vars.length : Int) > 20 := by omega
  have hO : overM s t vars = (s.types.any (fun x => decide (60 < x.name.length)) || (s.ops.any (fun x => decide (60 < x.name.length)) || (vars.any (fun x => decide (60 < x.length)) || (decide (leftT t 60 < 0) || !nearM 1099511627776 t)))) := by
    unfold overM
    rw [decide_eq_false (by omega), decide_eq_false (by omega), decide_eq_false (by omega)]
    rfl
  rw [hO]
  clear hO
  refine k13.go rfl (fun hok hsz => ?_)
  have hTa : ∀ b, (true || b) = true := fun b => rfl
  have hN := fun σ => ref07_Near w0 1099511627776 (by decide) (by decide) t σ
  have hL := fun σ => ref07_Large w0 t 60 (by decide) (by decide) σ
  ((try refine W.a ?_); simp only [go_sem, seval, reduceCtorEq, c13, g1, g2, g3])
  refine W.no rfl ?_
  ((try refine W.a ?_); simp only [go_sem, seval, reduceCtorEq])
  refine W.loopP (fun i => i ≤ s.types.length ∧ UpTo (fun x => decide (60 < x.name.length)) s.types i) (fun i => ⟨((((base.put (some 2) (.c (.sl (strsR vars)))).put (some 3) (.ptr σ.length 0)).put (some 4) (.ptr (σ.length + 1) 0)).put (some 7) (I (i : Nat))), σ ++ [.cells s.v.cellsV, .cells t.v.cellsV]⟩) (fun i => s.types.length - i) 0 ⟨Nat.zero_le _, upTo_zero⟩ ?_ (fun i hi => ?_)
  · (refine Lew.env ?_; exact lee_here)
  obtain ⟨hi, hinv⟩ := hi
  by_cases hlt : i < s.types.length
  · have h1 : ((i : Int) < (s.types.length : Int)) := by omega
    have hx : s.types[i]? = some s.types[i] := List.getElem?_eq_getElem hlt
    have hw : IntKind.i64.wrap ((i : Int) + 1) = ((i + 1 : Nat) : Int) := by rw [wrap_in] <;> omega
    ((try refine W.a ?_); simp only [go_sem, seval, reduceCtorEq, h1])
    refine W.yes rfl ?_
    ((try refine W.a ?_); simp only [go_sem, seval, reduceCtorEq, h1, nat0, hx])
    refine W.test rfl (fun h => ?_) (fun h => ?_)
    · have hb : decide (60 < s.types[i].name.length) = true := by simp only [decide_eq_true_eq] at h ⊢; omega
      rw [show s.types.any (fun x => decide (60 < x.name.length)) = true from any_at hlt hb, hTa]
      ((try refine W.a ?_); simp only [go_sem, seval, reduceCtorEq])
      (refine W.fs (hok) (by simp only [r13, go_sem, seval, reduceCtorEq]; rfl) ?_; simp only [resV]; try exact V.wk.rfl _)
    · have hb : decide (60 < s.types[i].name.length) = false := by simp only [decide_eq_false_iff_not] at h ⊢; omega
      ((try refine W.a ?_); simp only [go_sem, seval, reduceCtorEq, hw])
      refine .inv ⟨i + 1, ⟨hlt, upTo_next hinv hlt hb⟩, by omega, ?_⟩
      (refine Lew.env ?_; exact lee_here)
  have h1 : ¬ ((i : Int) < (s.types.length : Int)) := by omega
  rw [show s.types.any (fun x => decide (60 < x.name.length)) = false from any_no (fun j hj => hinv j hj (by omega)), Bool.false_or]
  clear hinv hi hlt
  ((try refine W.a ?_); simp only [go_sem, seval, reduceCtorEq, h1])
  refine W.no rfl ?_
  ((try refine W.a ?_); simp only [go_sem, seval, reduceCtorEq])
  clear h1
  refine W.loopP (fun i => i ≤ s.ops.length ∧ UpTo (fun x => decide (60 < x.name.length)) s.ops i) (fun i => ⟨((((base.put (some 2) (.c (.sl (strsR vars)))).put (some 3) (.ptr σ.length 0)).put (some 4) (.ptr (σ.length + 1) 0)).put (some 8) (I (i : Nat))), σ ++ [.cells s.v.cellsV, .cells t.v.cellsV]⟩) (fun i => s.ops.length - i) 0 ⟨Nat.zero_le _, upTo_zero⟩ ?_ (fun i hi => ?_)
  · (refine Lew.env ?_; exact lee_here)
  obtain ⟨hi, hinv⟩ := hi
  by_cases hlt : i < s.ops.length
  · have h1 : ((i : Int) < (s.ops.length : Int)) := by omega
    have hx : s.ops[i]? = some s.ops[i] := List.getElem?_eq_getElem hlt
    have hw : IntKind.i64.wrap ((i : Int) + 1) = ((i + 1 : Nat) : Int) := by rw [wrap_in] <;> omega
    ((try refine W.a ?_); simp only [go_sem, seval, reduceCtorEq, h1])
    refine W.yes rfl ?_
    ((try refine W.a ?_); simp only [go_sem, seval, reduceCtorEq, h1, nat0, hx])
    refine W.test rfl (fun h => ?_) (fun h => ?_)
    · have hb : decide (60 < s.ops[i].name.length) = true := by simp only [decide_eq_true_eq] at h ⊢; omega
      rw [show s.ops.any (fun x => decide (60 < x.name.length)) = true from any_at hlt hb, hTa]
      ((try refine W.a ?_); simp only [go_sem, seval, reduceCtorEq])
      (refine W.fs (hok) (by simp only [r13, go_sem, seval, reduceCtorEq]; rfl) ?_; simp only [resV]; try exact V.wk.rfl _)
    · have hb : decide (60 < s.ops[i].name.length) = false := by simp only [decide_eq_false_iff_not] at h ⊢; omega
      ((try refine W.a ?_); simp only [go_sem, seval, reduceCtorEq, hw])
      refine .inv ⟨i + 1, ⟨hlt, upTo_next hinv hlt hb⟩, by omega, ?_⟩
      (refine Lew.env ?_; exact lee_here)
  have h1 : ¬ ((i : Int) < (s.ops.length : Int)) := by omega
  rw [show s.ops.any (fun x => decide (60 < x.name.length)) = false from any_no (fun j hj => hinv j hj (by omega)), Bool.false_or]
  clear hinv hi hlt
  ((try refine W.a ?_); simp only [go_sem, seval, reduceCtorEq, h1])
  refine W.no rfl ?_
  ((try refine W.a ?_); simp only [go_sem, seval, reduceCtorEq])
  clear h1
  refine W.loopP (fun i => i ≤ vars.length ∧ UpTo (fun x => decide (60 < x.length)) vars i) (fun i => ⟨((((base.put (some 2) (.c (.sl (strsR vars)))).put (some 3) (.ptr σ.length 0)).put (some 4) (.ptr (σ.length + 1) 0)).put (some 9) (I (i : Nat))), σ ++ [.cells s.v.cellsV, .cells t.v.cellsV]⟩) (fun i => vars.length - i) 0 ⟨Nat.zero_le _, upTo_zero⟩ ?_ (fun i hi => ?_)
  · (refine Lew.env ?_; exact lee_here)
  obtain ⟨hi, hinv⟩ := hi
  by_cases hlt : i < vars.length
  · have h1 : ((i : Int) < (vars.length : Int)) := by omega
    have hx : vars[i]? = some vars[i] := List.getElem?_eq_getElem hlt
    have hw : IntKind.i64.wrap ((i : Int) + 1) = ((i + 1 : Nat) : Int) := by rw [wrap_in] <;> omega
    ((try refine W.a ?_); simp only [go_sem, seval, reduceCtorEq, h1])
    refine W.yes rfl ?_
    ((try refine W.a ?_); simp only [go_sem, seval, reduceCtorEq, h1, nat0, hx])
    refine W.test rfl (fun h => ?_) (fun h => ?_)
    · have hb : decide (60 < vars[i].length) = true := by simp only [decide_eq_true_eq] at h ⊢; omega
      rw [show vars.any (fun x => decide (60 < x.length)) = true from any_at hlt hb, hTa]
      ((try refine W.a ?_); simp only [go_sem, seval, reduceCtorEq])
      (refine W.fs (hok) (by simp only [r13, go_sem, seval, reduceCtorEq]; rfl) ?_; simp only [resV]; try exact V.wk.rfl _)
    · have hb : decide (60 < vars[i].length) = false := by simp only [decide_eq_false_iff_not] at h ⊢; omega
      ((try refine W.a ?_); simp only [go_sem, seval, reduceCtorEq, hw])
      refine .inv ⟨i + 1, ⟨hlt, upTo_next hinv hlt hb⟩, by omega, ?_⟩
      (refine Lew.env ?_; exact lee_here)
  have h1 : ¬ ((i : Int) < (vars.length : Int)) := by omega
  rw [show vars.any (fun x => decide (60 < x.length)) = false from any_no (fun j hj => hinv j hj (by omega)), Bool.false_or]
  clear hinv hi hlt
  ((try refine W.a ?_); simp only [go_sem, seval, reduceCtorEq, h1])
  refine W.no rfl ?_
  ((try refine W.a ?_); simp only [go_sem, seval, reduceCtorEq])
  clear h1
  (refine W.c1 (hN _) ?_; simp only [go_sem, seval, reduceCtorEq])
  ((try refine W.a ?_); simp only [go_sem, seval, reduceCtorEq])
  (refine W.c1 (hL _) ?_; simp only [go_sem, seval, reduceCtorEq])
  generalize decide (leftT t 60 < 0) = bl at *
  generalize nearM 1099511627776 t = bn at *
  cases bl
  · ((try refine W.a ?_); simp only [go_sem, seval, reduceCtorEq])
    (refine W.fs (hok) (by simp only [r13, go_sem, seval, reduceCtorEq]; rfl) ?_; simp only [resV]; try exact V.wk.rfl _)
  · ((try refine W.a ?_); simp only [go_sem, seval, reduceCtorEq])
    (refine W.fs (hok) (by simp only [r13, go_sem, seval, reduceCtorEq]; rfl) ?_; simp only [resV]; try exact V.wk.rfl _)
end
section
attribute [local go_sem] Sg.v Typ.v Typ.cs_eq Pre.v Pre.cs_eq Pre.app tk_mk tname_mk tn_mk tl_mk kdsC nmsC opsC
end
section
attribute [local go_sem] Sg.v Typ.v Typ.cs_eq tk_mk tname_mk tn_mk tl_mk kdsC nmsC opsC
end
end Go.Proofs.YtpcmcfajfnpjeaaGreatDoor
namespace Go.Proofs.YtpcmcfajfnpjeaaGreatDoor
open Go.RowKit Go.Lamb
theorem works14 {w0 : World} (hG : Glob w0) (σ : H) : DC Tryz.prog w0 12 [] σ (Same (B true) σ) :=
  runX_true (X := X14) (G := Glob) (fun _ _ h hb => h.ext hb) (fun _ h => X14_ok h) run14 hG σ
end Go.Proofs.YtpcmcfajfnpjeaaGreatDoor
namespace Go.Lamb
open Go Go.RowKit
def kvsF (n : Nat) : List Int → List (C × C)
  | [] => []
  | x :: l => (.int .i64 x, .int .i64 n) :: kvsF (n + 1) l
theorem kvs_len : ∀ (l : List Int) (n : Nat), (kvsF n l).length = l.length
  | [], n => rfl
  | x :: l, n => by rw [kvsF, List.length_cons, List.length_cons, kvs_len l]
theorem kvs_ok : ∀ (l : List Int) (n : Nat), ((kvsF n l).all fun p => (KD.i .i64).ok p.1) = true
  | [], n => rfl
  | x :: l, n => by rw [kvsF, List.all_cons, kvs_ok l]; rfl
theorem kvs_no {v : Int} : ∀ (l : List Int) (n : Nat), (∀ j (hj : j < l.length), (l[j] == v) = false) → findC (.int .i64 v) (kvsF n l) = none ∧ ∀ y, updC (.int .i64 v) y (kvsF n l) = kvsF n l ++ [(.int .i64 v, y)]
  | [], n, _ => ⟨rfl, fun y => rfl⟩
  | x :: l, n, h => by
    have h0 := h 0 (by simp)
    simp only [List.getElem_cons_zero] at h0
    have he : eqK (.int .i64 v) (.int .i64 x) = false := by
      show (v == x) = false
      simp only [beq_eq_false_iff_ne] at h0 ⊢
      exact fun e => h0 e.symm
    obtain ⟨h1, h2⟩ := kvs_no l (n + 1) (fun j hj => by have := h (j + 1) (Nat.succ_lt_succ hj); rwa [List.getElem_cons_succ] at this)
    exact ⟨by rw [kvsF, findC, he]; exact h1, fun y => by rw [kvsF, updC, he]; show _ :: updC _ y _ = _; rw [h2]; rfl⟩
theorem kvs_yes {v : Int} : ∀ (l : List Int) (n k : Nat) (hk : k < l.length), l[k] = v → (∀ j (hj : j < l.length), j < k → (l[j] == v) = false) → findC (.int .i64 v) (kvsF n l) = some (.int .i64 ((n + k : Nat) : Int))
  | [], n, k, hk, _, _ => by simp at hk
  | x :: l, n, 0, hk, h, _ => by
    simp only [List.getElem_cons_zero] at h
    subst h
    have he : eqK (.int .i64 x) (.int .i64 x) = true := by show (x == x) = true; simp
    rw [kvsF, findC, he]; rfl
  | x :: l, n, k + 1, hk, h, h' => by
    have h0 := h' 0 (by simp) (by omega)
    simp only [List.getElem_cons_zero] at h0
    have he : eqK (.int .i64 v) (.int .i64 x) = false := by
      show (v == x) = false
      simp only [beq_eq_false_iff_ne] at h0 ⊢
      exact fun e => h0 e.symm
    have := kvs_yes l (n + 1) k (by simpa using hk) (by simpa using h) (fun j hj hjk => by have := h' (j + 1) (Nat.succ_lt_succ hj) (by omega); rwa [List.getElem_cons_succ] at this)
    rw [kvsF, findC, he]
    simp only [Bool.false_eq_true, if_false]
    rw [this]
    congr 3
    omega
theorem kvs_snoc (x : Int) : ∀ (l : List Int) (n : Nat), kvsF n (l ++ [x]) = kvsF n l ++ [(.int .i64 x, .int .i64 ((n + l.length : Nat) : Int))]
  | [], n => rfl
  | y :: l, n => by
    rw [List.cons_append, kvsF, kvsF, kvs_snoc x l, List.cons_append, List.length_cons]
    congr 5
    omega
theorem ok_setM {σ : H} (h : H.ok σ) (m : Nat) (kvs : List (C × C)) : H.ok (σ.set m (.mp kvs)) := by
  intro b hb cs tg hc x hx
  rw [List.length_set]
  rcases List.mem_or_eq_of_mem_set hb with hb | hb
  · exact h b hb cs tg hc x hx
  · rw [hb] at hc; cases hc
end Go.Lamb
namespace Go.Lamb
open Go Go.RowKit
mutual
def foldM {α : Type} (g : α → Typ → Int → α) (k : Int) (a : α) : Typ → α
  | .mk kd nm n l => if kd = 5 then foldMs g (k + 1) a l else if kd = 6 then foldMs g k a l else g a (.mk kd nm n l) k
def foldMs {α : Type} (g : α → Typ → Int → α) (k : Int) (a : α) : List Typ → α
  | [] => a
  | x :: l => foldMs g k (foldM g k a x) l
end
theorem foldMs_eq {α : Type} (g : α → Typ → Int → α) (k : Int) : ∀ (l : List Typ) (a : α), foldMs g k a l = l.foldl (foldM g k) a
  | [], a => by rw [foldMs]; rfl
  | x :: l, a => by rw [foldMs, foldMs_eq g k l, List.foldl_cons]
theorem foldM_eq {α : Type} (g : α → Typ → Int → α) (k : Int) (a : α) (t : Typ) : foldM g k a t = if t.k = 5 then t.l.foldl (foldM g (k + 1)) a else if t.k = 6 then t.l.foldl (foldM g k) a else g a t k := by
  cases t
  rw [foldM, foldMs_eq, foldMs_eq]
  rfl
mutual
def renM (met : List Int) : Typ → Typ × List Int
  | .mk kd nm n l => if kd = 4 then (.mk kd nm (inum met n : Nat) l, iadd met n) else (.mk kd nm n (renMs met l).1, (renMs met l).2)
def renMs (met : List Int) : List Typ → List Typ × List Int
  | [] => ([], met)
  | x :: l => ((renM met x).1 :: (renMs (renM met x).2 l).1, (renMs (renM met x).2 l).2)
end
theorem renM_eq (met : List Int) (t : Typ) : renM met t = if t.k = 4 then (.mk t.k t.name (inum met t.n : Nat) t.l, iadd met t.n) else (.mk t.k t.name t.n (renMs met t.l).1, (renMs met t.l).2) := by
  cases t
  rw [renM]
  rfl
mutual
def mapV (f : Int → Int) : Typ → Typ
  | .mk kd nm n l => if kd = 4 then .mk kd nm (f n) l else .mk kd nm n (mapVs f l)
def mapVs (f : Int → Int) : List Typ → List Typ
  | [] => []
  | x :: l => mapV f x :: mapVs f l
end
theorem mapVs_map (f : Int → Int) : ∀ (l : List Typ), mapVs f l = l.map (mapV f)
  | [] => by rw [mapVs]; rfl
  | x :: l => by rw [mapVs, mapVs_map f l]; rfl
theorem mapV_eq (f : Int → Int) (t : Typ) : mapV f t = if t.k = 4 then .mk t.k t.name (f t.n) t.l else .mk t.k t.name t.n (t.l.map (mapV f)) := by
  cases t
  rw [mapV, mapVs_map]
  rfl
theorem mapV_k (f : Int → Int) (t : Typ) : (mapV f t).k = t.k := by
  rw [mapV_eq]; split <;> rfl
theorem findIdx_map {f : Int → Int} (hf : ∀ a b, f a = f b → a = b) (v : Int) : ∀ (vs : List Int), (vs.map f).findIdx? (· == f v) = vs.findIdx? (· == v)
  | [] => rfl
  | x :: l => by
    rw [List.map_cons, List.findIdx?_cons, List.findIdx?_cons, findIdx_map hf v l]
    have : (f x == f v) = (x == v) := by
      by_cases h : x = v
      · subst h; simp
      · have h2 : f x ≠ f v := fun e => h (hf _ _ e)
        rw [beq_eq_false_iff_ne.2 h, beq_eq_false_iff_ne.2 h2]
    rw [this]
theorem inum_map {f : Int → Int} (hf : ∀ a b, f a = f b → a = b) (vs : List Int) (v : Int) : inum (vs.map f) (f v) = inum vs v := by
  unfold inum; rw [findIdx_map hf, List.length_map]
theorem iadd_map {f : Int → Int} (hf : ∀ a b, f a = f b → a = b) (vs : List Int) (v : Int) : iadd (vs.map f) (f v) = (iadd vs v).map f := by
  unfold iadd; rw [findIdx_map hf]; split
  · rfl
  · rw [List.map_append]; rfl
theorem renM_map {f : Int → Int} (hf : ∀ a b, f a = f b → a = b) (t : Typ) : ∀ met, renM (met.map f) (mapV f t) = ((renM met t).1, (renM met t).2.map f) := by
  refine Typ.ind (P := fun t => ∀ met, renM (met.map f) (mapV f t) = ((renM met t).1, (renM met t).2.map f)) (fun t ih met => ?_) t
  rw [mapV_eq, renM_eq met t]
  split
  · rename_i h
    rw [renM_eq, if_pos (by exact h)]
    simp only [tk_mk, tname_mk, tn_mk, tl_mk, inum_map hf, iadd_map hf]
  · rename_i h
    rw [renM_eq, if_neg (by exact h)]
    simp only [tk_mk, tname_mk, tn_mk, tl_mk]
    have key : ∀ (l : List Typ), (∀ u ∈ l, u ∈ t.l) → ∀ met, renMs (met.map f) (l.map (mapV f)) = ((renMs met l).1, (renMs met l).2.map f) := by
      intro l
      induction l with
      | nil => intro _ met; rw [List.map_nil, renMs, renMs]
      | cons x l ihl =>
        intro hm met
        rw [List.map_cons, renMs, renMs, ih x (hm x (List.mem_cons_self ..)) met]
        simp only []
        rw [ihl (fun u hu => hm u (List.mem_cons_of_mem _ hu))]
    rw [key t.l (fun _ h => h)]
theorem renMs_len : ∀ (l : List Typ) (met : List Int), (renMs met l).1.length = l.length
  | [], met => by rw [renMs]
  | x :: l, met => by rw [renMs, List.length_cons, List.length_cons, renMs_len l]
theorem renMs_take : ∀ (l : List Typ) (met : List Int) (i : Nat) (h : i < l.length), (renMs met (l.take (i + 1))) = ((renMs met (l.take i)).1 ++ [(renM (renMs met (l.take i)).2 l[i]).1], (renM (renMs met (l.take i)).2 l[i]).2)
  | x :: l, met, 0, h => by
    simp only [List.take_succ_cons, List.take_zero, List.getElem_cons_zero]
    rw [renMs, renMs, renMs]; rfl
  | x :: l, met, i + 1, h => by
    have := renMs_take l (renM met x).2 i (by simpa using h)
    simp only [List.take_succ_cons, List.getElem_cons_succ]
    rw [renMs, this, renMs]
    rfl
theorem renM_met (t : Typ) : ∀ met, (renM met t).2.length ≤ met.length + nodesM t := by
  refine Typ.ind (P := fun t => ∀ met, (renM met t).2.length ≤ met.length + nodesM t) (fun t ih met => ?_) t
  rw [renM_eq]
  have hp := nodesM_pos t
  split
  · have := (iadd_len met t.n).1
    simp only
    omega
  · have key : ∀ (l : List Typ), (∀ u ∈ l, u ∈ t.l) → ∀ met, (renMs met l).2.length ≤ met.length + nodesMs l := by
      intro l
      induction l with
      | nil => intro _ met; rw [renMs]; simp
      | cons x l ihl =>
        intro hm met
        rw [renMs, nodesMs]
        have h1 := ih x (hm x (List.mem_cons_self ..)) met
        have h2 := ihl (fun u hu => hm u (List.mem_cons_of_mem _ hu)) (renM met x).2
        simp only at h2 ⊢
        omega
    have := key t.l (fun _ h => h) met
    rw [nodesM_eq]
    simp only
    omega
theorem renM_nodes (t : Typ) : ∀ met, nodesM (renM met t).1 = nodesM t := by
  refine Typ.ind (P := fun t => ∀ met, nodesM (renM met t).1 = nodesM t) (fun t ih met => ?_) t
  rw [renM_eq]
  split
  · rw [nodesM_mk, nodesM_eq t]
  · have key : ∀ (l : List Typ), (∀ u ∈ l, u ∈ t.l) → ∀ met, nodesMs (renMs met l).1 = nodesMs l := by
      intro l
      induction l with
      | nil => intro _ met; rw [renMs]
      | cons x l ihl =>
        intro hm met
        rw [renMs, nodesMs, nodesMs, ih x (hm x (List.mem_cons_self ..)) met, ihl (fun u hu => hm u (List.mem_cons_of_mem _ hu))]
    rw [nodesM_mk, key t.l (fun _ h => h) met, nodesM_eq t]
theorem iadd_num (met : List Int) (v : Int) : inum met v < (iadd met v).length := by
  rcases inum_cases met v with ⟨h1, h2, _⟩ | ⟨hk, h2, _⟩
  · rw [h1, h2, List.length_append]; simp
  · rw [h2]; exact hk
theorem renM_fit {m : Int} (hm : m ≤ 4611686018427387904) (t : Typ) : ∀ met : List Int, OkT t → nearM m t = true → ((met.length + nodesM t : Nat) : Int) ≤ m → OkT (renM met t).1 ∧ nearM m (renM met t).1 = true := by
  refine Typ.ind (P := fun t => ∀ met : List Int, OkT t → nearM m t = true → ((met.length + nodesM t : Nat) : Int) ≤ m → OkT (renM met t).1 ∧ nearM m (renM met t).1 = true) (fun t ih met hO hn hl => ?_) t
  have hp := nodesM_pos t
  have hkids := near_kids hn
  have hnode : t.k ≠ 2 → -m ≤ t.n ∧ t.n ≤ m := fun h => near_node hn h
  rw [renM_eq]
  split
  · have h1 := iadd_num met t.n
    have h2 := (iadd_len met t.n).1
    refine ⟨.mk hO.k (by unfold inI; omega) (fun x hx => hO.mem hx), near_of (.inr ?_) (fun u hu => hkids u hu)⟩
    simp only [tn_mk]
    omega
  · have key : ∀ (l : List Typ), (∀ u ∈ l, u ∈ t.l) → ∀ met : List Int, ((met.length + nodesMs l : Nat) : Int) ≤ m → ∀ u ∈ (renMs met l).1, OkT u ∧ nearM m u = true := by
      intro l
      induction l with
      | nil => intro _ met _ u hu; rw [renMs] at hu; cases hu
      | cons x l ihl =>
        intro hs met hle u hu
        rw [nodesMs] at hle
        have hx := hs x (List.mem_cons_self ..)
        rw [renMs] at hu
        rcases List.mem_cons.1 hu with rfl | hu
        · exact ih x hx met (hO.mem hx) (hkids x hx) (by omega)
        · have := renM_met x met
          exact ihl (fun v hv => hs v (List.mem_cons_of_mem _ hv)) _ (by omega) u hu
    have hle : ((met.length + nodesMs t.l : Nat) : Int) ≤ m := by rw [nodesM_eq] at hl; omega
    have key := key t.l (fun _ h => h) met hle
    refine ⟨.mk hO.k hO.n (fun x hx => (key x hx).1), near_of ?_ (fun u hu => (key u hu).2)⟩
    by_cases hk : t.k = 2
    · exact .inl hk
    · exact .inr (hnode hk)
/-! ### values, as lines -/
def metN (met : List Int) (t : Typ) : Typ × List Int := if validM t = true then renM met t else (t, met)
theorem metN_map {f : Int → Int} (hf : ∀ a b, f a = f b → a = b) (t : Typ) (h1 : validM t = true) (h2 : validM (mapV f t) = true) (met : List Int) : metN (met.map f) (mapV f t) = ((metN met t).1, (metN met t).2.map f) := by
  unfold metN
  rw [if_pos h1, if_pos h2, renM_map hf]
mutual
def allV (p : Int → Bool) : Typ → Bool
  | .mk kd _ n l => if kd = 4 then p n else allVs p l
def allVs (p : Int → Bool) : List Typ → Bool
  | [] => true
  | x :: l => allV p x && allVs p l
end
theorem allVs_all (p : Int → Bool) : ∀ (l : List Typ), allVs p l = l.all (allV p)
  | [] => by rw [allVs]; rfl
  | x :: l => by rw [allVs, allVs_all p l]; rfl
theorem allV_eq (p : Int → Bool) (t : Typ) : allV p t = if t.k = 4 then p t.n else t.l.all (allV p) := by
  cases t
  rw [allV, allVs_all]
  rfl
theorem allV_mono {p q : Int → Bool} (t : Typ) : (∀ n, p n = true → q n = true) → allV p t = true → allV q t = true := by
  refine Typ.ind (P := fun t => (∀ n, p n = true → q n = true) → allV p t = true → allV q t = true) (fun t ih h hp => ?_) t
  rw [allV_eq] at hp ⊢
  split
  · rename_i hk; rw [if_pos hk] at hp; exact h _ hp
  · rename_i hk; rw [if_neg hk] at hp
    exact List.all_eq_true.2 fun u hu => ih u hu h (List.all_eq_true.1 hp u hu)
def varG : List Int → Typ → Int → List Int := fun acc u _ => if u.k = 4 then iadd acc u.n else acc
def varsM (t : Typ) : List Int := foldM varG 0 [] t
theorem iadd_mem (vs : List Int) (v : Int) : v ∈ iadd vs v ∧ ∀ x ∈ vs, x ∈ iadd vs v := by
  rcases inum_cases vs v with ⟨_, h2, _⟩ | ⟨hk, h2, h3, _⟩
  · rw [h2]; exact ⟨by simp, fun x hx => by simp [hx]⟩
  · rw [h2]
    refine ⟨?_, fun x hx => hx⟩
    have := List.getElem_mem hk
    rwa [h3] at this
theorem varsM_sub (t : Typ) : validM t = true → ∀ (k : Int) (acc : List Int), (∀ x ∈ acc, x ∈ foldM varG k acc t) ∧ allV (fun n => (foldM varG k acc t).contains n) t = true := by
  refine Typ.ind (P := fun t => validM t = true → ∀ (k : Int) (acc : List Int), (∀ x ∈ acc, x ∈ foldM varG k acc t) ∧ allV (fun n => (foldM varG k acc t).contains n) t = true) (fun t ih hv k acc => ?_) t
  have key : ∀ (j : Int) (l : List Typ), (∀ u ∈ l, u ∈ t.l) → ∀ acc, (∀ x ∈ acc, x ∈ l.foldl (foldM varG j) acc) ∧ ∀ u ∈ l, allV (fun n => (l.foldl (foldM varG j) acc).contains n) u = true := by
    intro j l
    induction l with
    | nil => intro _ acc; exact ⟨fun x hx => hx, fun u hu => by cases hu⟩
    | cons x l ihl =>
      intro hm acc
      have hx := hm x (List.mem_cons_self ..)
      obtain ⟨h1, h2⟩ := ih x hx (valid_kids hv x hx) j acc
      obtain ⟨h3, h4⟩ := ihl (fun u hu => hm u (List.mem_cons_of_mem _ hu)) (foldM varG j acc x)
      rw [List.foldl_cons]
      refine ⟨fun y hy => h3 y (h1 y hy), fun u hu => ?_⟩
      rcases List.mem_cons.1 hu with rfl | hu
      · exact allV_mono u (fun n hn => by simp only [List.contains_iff_mem] at hn ⊢; exact h3 n hn) h2
      · exact h4 u hu
  rw [foldM_eq, allV_eq]
  by_cases h5 : t.k = 5
  · rw [if_pos h5, if_neg (by omega)]
    obtain ⟨h1, h2⟩ := key (k + 1) t.l (fun _ h => h) acc
    exact ⟨h1, List.all_eq_true.2 h2⟩
  · rw [if_neg h5]
    by_cases h6 : t.k = 6
    · rw [if_pos h6, if_neg (by omega)]
      obtain ⟨h1, h2⟩ := key k t.l (fun _ h => h) acc
      exact ⟨h1, List.all_eq_true.2 h2⟩
    · rw [if_neg h6]
      by_cases h4 : t.k = 4
      · rw [if_pos h4]
        unfold varG
        rw [if_pos h4]
        exact ⟨(iadd_mem acc t.n).2, by simp only [List.contains_iff_mem]; exact (iadd_mem acc t.n).1⟩
      · rw [if_neg h4, valid_leaf hv h5 h6]
        unfold varG
        rw [if_neg h4]
        exact ⟨fun x hx => hx, rfl⟩
theorem varsM_all {t : Typ} (hv : validM t = true) : allV (fun n => (varsM t).contains n) t = true := (varsM_sub t hv 0 []).2
theorem foldl_len {g : List Int → Typ → List Int} {f : Typ → Nat} : ∀ (l : List Typ) (acc : List Int), (∀ u ∈ l, ∀ acc, (g acc u).length ≤ acc.length + f u) → (l.foldl g acc).length ≤ acc.length + (l.map f).sum
  | [], acc, _ => by simp
  | x :: l, acc, h => by
    have h1 := h x (List.mem_cons_self ..) acc
    have h2 := foldl_len l (g acc x) (fun u hu => h u (List.mem_cons_of_mem _ hu))
    rw [List.foldl_cons, List.map_cons, List.sum_cons]
    omega
theorem nodesMs_sumL : ∀ (l : List Typ), nodesMs l = (l.map nodesM).sum
  | [] => by rw [nodesMs]; rfl
  | x :: l => by rw [nodesMs, nodesMs_sumL l, List.map_cons, List.sum_cons]
theorem varsM_len (t : Typ) : ∀ (k : Int) (acc : List Int), (foldM varG k acc t).length ≤ acc.length + nodesM t := by
  refine Typ.ind (P := fun t => ∀ (k : Int) (acc : List Int), (foldM varG k acc t).length ≤ acc.length + nodesM t) (fun t ih k acc => ?_) t
  rw [foldM_eq, nodesM_eq, nodesMs_sumL]
  split
  · have := foldl_len (g := foldM varG (k + 1)) (f := nodesM) t.l acc (fun u hu acc => ih u hu _ acc)
    omega
  · split
    · have := foldl_len (g := foldM varG k) (f := nodesM) t.l acc (fun u hu acc => ih u hu _ acc)
      omega
    · unfold varG
      split
      · have := (iadd_len acc t.n).1
        omega
      · omega
theorem var_parts {t : Typ} (h : validM t = true) (hk : t.k = 4) : t.name = [] ∧ t.l = [] ∧ 0 ≤ t.n := by
  have hn := valid_node h
  unfold nodeM at hn
  simp [hk] at hn
  exact ⟨hn.1.2, hn.2, hn.1.1.1⟩
theorem inst_map {f : Int → Int} {by_ : List Typ} (hb : ∀ i (hi : i < by_.length), by_[i] = .mk 4 [] (f (i : Nat)) []) (t : Typ) : validM t = true → allV (fun n => decide (n < (by_.length : Int))) t = true → ∀ k, walkM (instF by_) k t = mapV f t := by
  refine Typ.ind (P := fun t => validM t = true → allV (fun n => decide (n < (by_.length : Int))) t = true → ∀ k, walkM (instF by_) k t = mapV f t) (fun t ih hv ha k => ?_) t
  have hmap : ∀ j, t.k ≠ 4 → t.l.map (walkM (instF by_) j) = t.l.map (mapV f) := fun j h4 => List.map_congr_left fun u hu => by
    rw [allV_eq, if_neg h4] at ha
    exact ih u hu (valid_kids hv u hu) (List.all_eq_true.1 ha u hu) j
  rw [walkM_eq, mapV_eq]
  by_cases h5 : t.k = 5
  · rw [if_pos h5, if_neg (by omega), hmap _ (by omega), withM, if_neg (fun h => by have := h.1; omega)]
  · rw [if_neg h5]
    by_cases h6 : t.k = 6
    · rw [if_pos h6, if_neg (by omega), hmap _ (by omega), withM, if_neg]
      rintro ⟨_, _, h1, h2⟩
      obtain ⟨_, _, a, b, l, hl, ha6⟩ := valid_app hv h6
      rw [hl, List.map_cons, List.headD_cons, mapV_k] at h1
      exact ha6 h1
    · rw [if_neg h6]
      by_cases h4 : t.k = 4
      · obtain ⟨e1, e2, e3⟩ := var_parts hv h4
        rw [allV_eq, if_pos h4] at ha
        have ha := of_decide_eq_true ha
        rw [if_pos h4]
        unfold instF
        rw [if_pos ⟨h4, e3, ha⟩]
        have hlt : t.n.toNat < by_.length := by omega
        have hg : by_.getD t.n.toNat .none = .mk 4 [] (f t.n) [] := by
          rw [List.getD_eq_getElem?_getD, List.getElem?_eq_getElem hlt, Option.getD_some, hb _ hlt, Int.toNat_of_nonneg e3]
        rw [hg, shiftM, walkM_eq, if_neg (by simp [tk_mk]), if_neg (by simp [tk_mk]), shiftF, if_neg (by simp [tk_mk]), h4, e1, e2]
      · rw [if_neg h4]
        have hl := valid_leaf hv h5 h6
        unfold instF
        rw [if_neg (fun h => h4 h.1), hl]
        cases t
        simp only [tl_mk] at hl
        subst hl
        rfl
end Go.Lamb
namespace Go.Lamb
open Go Go.RowKit
theorem flat4_get {rows : List (List C)} (h : ∀ r ∈ rows, r.length = 4) {i : Nat} (hi : i < rows.length) : (rows.flatten.drop (i * 4)).take 4 = rows[i] := by
  have h1 := rowsOf_get 4 rows.length rows.flatten i (by rw [rowsOf_length]; exact hi)
  rw [← h1]
  have h2 := rowsOf_flat h
  simp only [h2]
theorem flat4_len {rows : List (List C)} : (∀ r ∈ rows, r.length = 4) → rows.flatten.length = rows.length * 4 := by
  induction rows with
  | nil => intro _; rfl
  | cons r l ih =>
    intro h
    rw [List.flatten_cons, List.length_append, ih (fun q hq => h q (List.mem_cons_of_mem _ hq)), h r (List.mem_cons_self ..), List.length_cons]
    omega
theorem flat4_set {rows : List (List C)} : (∀ r ∈ rows, r.length = 4) → ∀ {i : Nat} (hi : i < rows.length) (y : List C), y.length = 4 → rows.flatten.take (i * 4) ++ y ++ rows.flatten.drop (i * 4 + 4) = (rows.set i y).flatten := by
  induction rows with
  | nil => intro _ i hi; simp at hi
  | cons r l ih =>
    intro h i hi y hy
    have hr := h r (List.mem_cons_self ..)
    cases i with
    | zero =>
      rw [List.set_cons_zero, List.flatten_cons, List.flatten_cons, Nat.zero_mul, List.take_zero, List.nil_append, Nat.zero_add, ← hr, List.drop_left]
    | succ i =>
      rw [List.set_cons_succ, List.flatten_cons, List.flatten_cons, ← ih (fun q hq => h q (List.mem_cons_of_mem _ hq)) (by simpa using hi) y hy]
      have e1 : (i + 1) * 4 = r.length + i * 4 := by rw [hr]; omega
      rw [e1, List.take_append, List.take_of_length_le (by omega), Nat.add_sub_cancel_left, Nat.add_assoc, List.drop_append, List.drop_of_length_le (by omega), Nat.add_sub_cancel_left, List.nil_append]
      simp only [List.append_assoc]
def rnRow (met : List Int) (l : List Typ) (i : Nat) : List Typ := (renMs met (l.take i)).1 ++ l.drop i
theorem rnRow_len {met : List Int} {l : List Typ} {i : Nat} : (rnRow met l i).length = l.length := by
  unfold rnRow
  rw [List.length_append, renMs_len, List.length_take, List.length_drop]
  omega
theorem rnRow_get {met : List Int} {l : List Typ} {i : Nat} (hi : i < l.length) : (rnRow met l i)[i]? = some l[i] := by
  unfold rnRow
  have e : (renMs met (l.take i)).1.length = i := by rw [renMs_len, List.length_take]; omega
  rw [List.getElem?_append_right (by omega), e, Nat.sub_self, List.getElem?_drop, Nat.add_zero, List.getElem?_eq_getElem hi]
theorem rnRow_set {met : List Int} {l : List Typ} {i : Nat} (hi : i < l.length) : (rnRow met l i).set i (renM (renMs met (l.take i)).2 l[i]).1 = rnRow met l (i + 1) := by
  unfold rnRow
  have e : (renMs met (l.take i)).1.length = i := by rw [renMs_len, List.length_take]; omega
  rw [List.set_append_right _ _ (by omega), e, Nat.sub_self, List.drop_eq_getElem_cons hi, List.set_cons_zero, renMs_take l met i hi, List.append_assoc]
  rfl
theorem rnRow_end {met : List Int} {l : List Typ} : rnRow met l l.length = (renMs met l).1 := by
  unfold rnRow
  rw [List.take_length, List.drop_length, List.append_nil]
theorem rows4 (l : List Typ) : ∀ r ∈ l.map Typ.cs, r.length = 4 := fun r hr => by
  obtain ⟨u, _, rfl⟩ := List.mem_map.1 hr
  rw [Typ.cs_eq]; rfl
end Go.Lamb
namespace Go.Lamb
open Go Go.RowKit
theorem inst_nodes {by_ : List Typ} {C : Nat} (hC : 1 ≤ C) (hb : ∀ u ∈ by_, nodesM u ≤ C) (t : Typ) (j : Nat) : nodesM (walkM (instF by_) (j : Int) t) ≤ C * nodesM t := by
  refine nodesM_walk hC (fun v k _ _ => ?_) t j
  have hv1 := nodesM_pos v
  have hv : nodesM v ≤ C * nodesM v := Nat.le_mul_of_pos_left _ hC
  unfold instF
  split
  · rename_i h
    have hlt : v.n.toNat < by_.length := by omega
    have hg : by_.getD v.n.toNat .none = by_[v.n.toNat] := by
      rw [List.getD_eq_getElem?_getD, List.getElem?_eq_getElem hlt, Option.getD_some]
    rw [hg]
    refine Nat.le_trans (shift_nodes 0 k _ 0) (Nat.le_trans (hb _ (List.getElem_mem hlt)) (Nat.le_mul_of_pos_right _ hv1))
  · exact hv
end Go.Lamb
namespace Go.Lamb
open Go Go.RowKit
def intR (l : List Int) : List (List C) := l.map fun k => [C.int .i64 k]
theorem intR_len (l : List Int) : (intR l).length = l.length := by unfold intR; rw [List.length_map]
theorem iadd_if (vs : List Int) (v : Int) : iadd vs v = if vs.contains v = true then vs else vs ++ [v] := by
  rcases inum_cases vs v with ⟨_, h2, h3⟩ | ⟨hk, h2, h3, _⟩
  · rw [h2, if_neg]
    intro hc
    obtain ⟨j, hj, e⟩ := List.getElem_of_mem (List.contains_iff_mem.1 hc)
    have := h3 j hj
    rw [e] at this
    simp at this
  · rw [h2, if_pos]
    rw [List.contains_iff_mem, ← h3]
    exact List.getElem_mem hk
end Go.Lamb
namespace Go.Proofs.YtpcmcfajfnpjeaaGreatDoor
open Go.RowKit Go.Lamb
attribute [local go_sem] advO_skip advO_reg advO_seq advO_block advO_exit advO_endb advO_opsNil advO_ops advG_yes advG_no advG_none advS_some advS_none advO_cond advO_loop advO_dreg advO_ret advO_bad advO_inv advO_nil advO_zero wantedV Lamb.step ev_t ev_k put_some put_none argEnv popTo cellsAt V.cellsV V.rows V.sub V.toC toCs fillV bytesC byteRows appV rowsV boundV boundL binV binInt binStr eqC eqL V.isNil leaves V.leaf Ins.quiet Ins.pure List.getD_cons_zero List.getD_cons_succ List.getD_nil List.all_cons List.all_nil List.length_cons List.length_nil List.take_succ_cons List.take_zero List.drop_succ_cons List.drop_zero List.cons_append List.nil_append List.append_nil List.append_assoc List.map_cons List.map_nil List.getElem?_cons_zero List.getElem?_cons_succ List.length_append List.length_set hget0 hget hset0 hset hsets hgs0 hgs hss0 hss List.set_cons_zero List.set_cons_succ List.forall_mem_cons List.not_mem_nil false_implies implies_true Option.map_some Bool.and_true Bool.true_and Bool.not_not Bool.not_true Bool.not_false Bool.and_self Bool.or_true Bool.true_or Bool.or_false Bool.false_or Bool.and_false Bool.false_and Bool.false_eq_true beq_self_eq_true and_self and_true true_and if_true if_false Nat.zero_add Nat.add_zero Nat.le_refl Int.toNat_natCast decide_true decide_false beq_t beq_f List.length_map List.getElem?_map I S B opsC toksC OpT.v OpT.cs OpT.zero Tok.v Tok.cs Pre.v Pre.cs_eq k_mk name_mk n_mk l_mk pos_mk Pre.app applyL natCast0 natCast1 natCast2 AOp.o AOp.m AOp.f AOp.l AOp.d AOp.n AOp.x AOp.s AOp.k AOp.y AOp.z EOp.q low_c low_void low_any low_csl low_nilf low_ptr low_osl low_agg low_tup low_fn resEval advPO_nil advPO_loud advPO_quiet pL_yes pL_no pLS_some pLS_none pQ_yes pQ_no pQS_some pQS_loud eq_self Nat.sub_zero
section
def wrB (A : V) (v : Nat) (s : List UInt8) : Blk := .cells [A, .osl v (byteRows s)] (some 123)
abbrev wbs (σ : H) (b v : Nat) (A : V) (s : List UInt8) : H := rs σ b v (wrB A v s) (wrY s)
theorem wbs_ok {σ : H} {b v : Nat} (D : Two σ b v) {X Y : Blk} (h : H.ok (rs σ b v X Y)) (s : List UInt8) : H.ok (wbs σ b v (.ptr b 0) s) :=
  rs_ok D h (fun cs tg hc x hx => by
    unfold wrB at hc
    injection hc with hc _
    subst hc
    simp only [List.mem_cons, List.not_mem_nil, or_false] at hx
    rcases hx with rfl | rfl
    · exact .ptr D.lb
    · exact .osl D.lv) (fun cs tg hc => by unfold wrY at hc; cases hc)
theorem copyCheckV (w0 : World) (σ : H) (b v : Nat) (D : Two σ b v) (A : V) (hA : A = .c .nilp ∨ A = .ptr b 0) (s : List UInt8) :
    DC Tryz.prog w0 175 [.ptr b 0] (wbs σ b v A s) (Same (.tup []) (wbs σ b v (.ptr b 0) s)) :=
  (copyCheckB w0 _ b A _ (rs_b D _ _) hA).mono fun d σ' ⟨h1, h2⟩ => ⟨h1, by rw [h2]; exact rs_sb D _ _ _⟩
theorem wbs_push (σ : H) (b v : Nat) (A : V) (s t : List UInt8) : wbs σ b v A (s ++ t) = rs σ b v (.cells [A, .osl v (byteRows s ++ byteRows t)] (some 123)) (.spare 5 1 (s.length + t.length)) := by
  show rs σ b v (wrB A v (s ++ t)) (wrY (s ++ t)) = _
  simp only [wrB, wrY, byteRows, List.map_append, List.length_append]
attribute [local go_sem] wrB wrY rs_len rs_g0 rs_g rs_s0 rs_s rs_sv
theorem builder_WriteStringB (w0 : World) (σ : H) (b v : Nat) (D : Two σ b v) (A : V) (hA : A = .c .nilp ∨ A = .ptr b 0) (s t : List UInt8) (hn : s.length + t.length ≤ 100000000000) :
    DC Tryz.prog w0 86 [.ptr b 0, S t] (wbs σ b v A s) (Same (.tup [I t.length, .c .nili]) (wbs σ b v (.ptr b 0) (s ++ t))) := by
  refine k86.go rfl (fun hok hsz => ?_)
  have hok2 := wbs_ok D hok (s ++ t)
  rw [wbs_push] at hok2 ⊢
  have hl1 : (byteRows s).length = s.length := by simp [byteRows]
  have hl2 : (byteRows t).length = t.length := by simp [byteRows]
  have hr : ∀ r ∈ t.map (fun b => [C.int .u8 b.toNat]), r.length = 1 := fun r hr => by
    obtain ⟨c, _, rfl⟩ := List.mem_map.1 hr
    rfl
  have hb1 : (s.length + t.length) * 1 ≤ 140737488355328 := by omega
  have hb2 : s.length + t.length ≤ 140737488355328 := by omega
  ((try refine W.a ?_); simp only [go_sem, seval, reduceCtorEq, c86, rsA D])
  (refine W.c1 (copyCheckV w0 σ b v D A hA s) ?_; simp only [go_sem, seval, reduceCtorEq])
  ((try refine W.a ?_); simp only [go_sem, seval, reduceCtorEq, rsA D, hl1, hl2, eq_true hr, hb1, hb2])
  (refine W.fs (hok2) (by simp only [r86, go_sem, seval, reduceCtorEq]; rfl) ?_; simp only [resV]; try exact V.wk.rfl _)
end
section
attribute [local go_sem] Typ.v Typ.cs_eq tk_mk tname_mk tn_mk tl_mk tysC

end
section
section
theorem clone_tmV (w0 : World) (l : List (List C)) (hl0 : l ≠ []) (hb3 : ∀ r ∈ l, r.length = 4) (hn : l.length ≤ 1000000) (σ : H) : DC Tryz.prog w0 174 [.c (.sl l)] σ (Same (.vec σ.length l.length) (σ ++ [.vec 30 4 l.flatten])) := by
  refine k174.goN rfl (fun hok hsz => ?_)
  have hb1 : l.length * 56 ≤ 140737488355328 := by omega
  have hb2 : l.length ≤ 140737488355328 := by omega
  ((try refine W.a ?_); simp only [go_sem, seval, reduceCtorEq, c174])
  refine W.opsFork rfl rfl rfl (fun b hb => ?_)
  cases b
  · ((try refine W.a ?_); simp only [go_sem, seval, reduceCtorEq])
    refine W.no rfl ?_
    refine W.skip (W.seq (W.reg (W.opsStep rfl rfl (W.opsStep rfl rfl ?_))))
    refine W.opsVec (olds := []) (news := l) rfl rfl rfl rfl ⟨hl0, (fun r hr => by cases hr), hb3, by simpa using hb1, by simpa using hb2⟩ ?_
    ((try refine W.a ?_); simp only [go_sem, seval, reduceCtorEq, List.nil_append])
    refine W.ret ⟨_, _, rfl, .rfl _, ?_⟩
    exact ⟨rfl, rfl⟩
  · exact absurd (hb rfl) hl0
end
section
attribute [local go_sem] Typ.v Typ.cs_eq tk_mk tname_mk tn_mk tl_mk tysC
theorem renamed_var (w0 : World) (t : Typ) (h4 : t.k = 4) (met : List Int) (σ : H) (m : Nat) (hm : σ[m]? = some (.mp (kvsF 0 met))) : DC Tryz.prog w0 85 [t.v, .mp m] σ (Same (renM met t).1.v (σ.set m (.mp (kvsF 0 (renM met t).2)))) := by
  refine k85.go rfl (fun hok hsz => ?_)
  have k4 : (t.k == 4) = true := by simp [h4]
  rw [renM_eq, if_pos h4]
  have hko : (KD.i IntKind.i64).ok (C.int IntKind.i64 t.n) = true := rfl
  have hka := kvs_ok met 0
  simp only
  rcases inum_cases met t.n with ⟨h1, h2, h3⟩ | ⟨hk, h2, h3, h5⟩
  · obtain ⟨f1, f2⟩ := kvs_no met 0 h3
    have f2' := f2 (.int .i64 ((met.length : Nat) : Int))
    have f3 := kvs_snoc t.n met 0
    rw [Nat.zero_add] at f3
    have hl := kvs_len met 0
    rw [h2, f3, h1]
    have hs : ∀ X, (σ.set m X)[m]? = some X := fun X => hgets X (List.getElem?_eq_some_iff.1 hm).1
    clear h4
    ((try refine W.a ?_); simp only [go_sem, seval, reduceCtorEq, c85, k4])
    refine W.yes rfl ?_
    ((try refine W.a ?_); simp only [go_sem, seval, reduceCtorEq, hG hm, hko, hka, f1, lookV, Option.getD_none, Option.isSome_none])
    refine W.yes rfl ?_
    ((try refine W.a ?_); simp only [go_sem, seval, reduceCtorEq, hG hm, hko, hka, hl, f2', hS hm])
    (refine W.fg (ok_setM hok m _) (d := (Typ.mk t.k t.name (met.length : Nat) t.l).v) (by simp only [r85, go_sem, seval, reduceCtorEq]; rfl) (by simp only [resV, go_sem, seval, reduceCtorEq]; exact wk_here) ?_)
    exact ⟨rfl, rfl⟩
  · have f1 := kvs_yes met 0 (inum met t.n) hk h3 h5
    rw [Nat.zero_add] at f1
    rw [h2]
    generalize inum met t.n = i at *
    have hE : σ.set m (.mp (kvsF 0 met)) = σ := by
      obtain ⟨hlt, e⟩ := List.getElem?_eq_some_iff.1 hm
      rw [← e]; exact List.set_getElem_self hlt
    rw [hE]
    clear h4
    ((try refine W.a ?_); simp only [go_sem, seval, reduceCtorEq, c85, k4])
    refine W.yes rfl ?_
    ((try refine W.a ?_); simp only [go_sem, seval, reduceCtorEq, hG hm, hko, hka, f1, lookV, Option.getD_some, Option.isSome_some])
    refine W.no rfl ?_
    ((try refine W.a ?_); simp only [go_sem, seval, reduceCtorEq])
    (refine W.fg (hok) (d := (Typ.mk t.k t.name (i : Nat) t.l).v) (by simp only [r85, go_sem, seval, reduceCtorEq]; rfl) (by simp only [resV, go_sem, seval, reduceCtorEq]; exact wk_here) ?_)
    exact ⟨rfl, rfl⟩
theorem renamed_none (w0 : World) (t : Typ) (h4 : t.k ≠ 4) (hl : t.l = []) (met : List Int) (σ : H) (m : Nat) (hm : σ[m]? = some (.mp (kvsF 0 met))) : DC Tryz.prog w0 85 [t.v, .mp m] σ (Same (renM met t).1.v (σ.set m (.mp (kvsF 0 (renM met t).2)))) := by
  refine k85.go rfl (fun hok hsz => ?_)
  have k4 : (t.k == 4) = false := by simp [h4]
  rw [renM_eq, if_neg h4, hl, renMs]
  have hE : σ.set m (.mp (kvsF 0 met)) = σ := set_here hm
  simp only
  rw [hE]
  obtain ⟨tk, tn, tm, tl⟩ := t
  have hl : tl = [] := hl
  subst hl
  have k4 : (tk == 4) = false := k4
  clear h4
  ((try refine W.a ?_); simp only [go_sem, seval, reduceCtorEq, c85, k4])
  refine W.no rfl ?_
  ((try refine W.a ?_); simp only [go_sem, seval, reduceCtorEq])
  (refine W.c1 (clone_tmN w0 [] rfl _) ?_; simp only [go_sem, seval, reduceCtorEq])
  ((try refine W.a ?_); simp only [go_sem, seval, reduceCtorEq])
  refine W.loopP (fun (_ : Unit) => True) (fun _ => ⟨((((((base.put (some 1) (.mp m)).put (some 2) (.ptr σ.length 0)).put (some 4) (.ptr (σ.length + 1) 0)).put (some 7) (.osl (σ.length + 2) [])).put (some 34) (I 0)).put (some 35) (I 0)), σ ++ [.cells [I tk, S tn, I tm, .c (.sl [])], .cells [I 0, S [], I 0, .csl []], .spare 30 4 0]⟩) (fun _ => 0) () trivial ?_ (fun _ _ => ?_)
  · (refine Lew.env ?_; exact lee_here)
  ((try refine W.a ?_); simp only [go_sem, seval, reduceCtorEq])
  refine W.no rfl ?_
  ((try refine W.a ?_); simp only [go_sem, seval, reduceCtorEq])
  (refine W.fs (hok) (by simp only [r85, go_sem, seval, reduceCtorEq]; rfl) ?_; simp only [resV]; try exact V.wk.rfl _)
  all_goals (all_goals exact wk_here)
theorem pretty_renamed (w0 : World) (t : Typ) : nodesM t ≤ 100000 → ∀ (met : List Int) (σ : H) (m : Nat), σ[m]? = some (.mp (kvsF 0 met)) → DC Tryz.prog w0 85 [t.v, .mp m] σ (Same (renM met t).1.v (σ.set m (.mp (kvsF 0 (renM met t).2)))) := by
  refine Typ.ind (P := fun t => nodesM t ≤ 100000 → ∀ (met : List Int) (σ : H) (m : Nat), σ[m]? = some (.mp (kvsF 0 met)) → DC Tryz.prog w0 85 [t.v, .mp m] σ (Same (renM met t).1.v (σ.set m (.mp (kvsF 0 (renM met t).2))))) (fun t ih hb met σ m hm => ?_) t
  by_cases h4 : t.k = 4
  · exact renamed_var w0 t h4 met σ m hm
  by_cases hl0 : t.l = []
  · exact renamed_none w0 t h4 hl0 met σ m hm
  refine k85.go rfl (fun hok hsz => ?_)
  rw [renM_eq, if_neg h4]
  have hlen := kids_nodes t
  have k4 : (t.k == 4) = false := by simp [h4]
  have hne : t.l.map Typ.cs ≠ [] := by simpa using hl0
  have hcl := fun σ => clone_tmV w0 (t.l.map Typ.cs) hne (rows4 t.l) (by rw [List.length_map]; omega) σ
  rw [List.length_map] at hcl
  obtain ⟨N, T, Z, F, hT0, hTl, hTo, hTn, hFl, hF0, hFn, hget, hset, hkid⟩ : ∃ (N : Nat) (T : Nat → H) (Z : Nat → Typ) (F : Nat → List C), T 0 = σ ∧ (∀ i, (T i).length = N) ∧ (∀ i, H.ok (T i)) ∧ T t.l.length = σ.set m (.mp (kvsF 0 (renMs met t.l).2)) ∧ (∀ i, (F i).length = t.l.length * 4) ∧ F 0 = (t.l.map Typ.cs).flatten ∧ rowsOf 4 t.l.length (F t.l.length) = (renMs met t.l).1.map Typ.cs ∧
      (∀ i (hi : i < t.l.length), List.take 4 (List.drop (i * 4) (List.map V.c (F i))) = [.c (.int .i64 t.l[i].k), .c (.str t.l[i].name), .c (.int .i64 t.l[i].n), .c (.sl (t.l[i].l.map Typ.cs))]) ∧
      (∀ i (hi : i < t.l.length), List.take (i * 4) (F i) ++ .int .i64 (Z i).k :: .str (Z i).name :: .int .i64 (Z i).n :: .sl ((Z i).l.map Typ.cs) :: List.drop (i * 4 + 4) (F i) = F (i + 1)) ∧
      (∀ i (hi : i < t.l.length) L, DC Tryz.prog w0 85 [t.l[i].v, .mp m] (T i ++ L) (Same (Z i).v (T (i + 1) ++ L))) := by
    refine ⟨σ.length, fun i => σ.set m (.mp (kvsF 0 (renMs met (t.l.take i)).2)), fun i => (renM (renMs met (t.l.take i)).2 (t.l.getD i .none)).1, fun i => ((rnRow met t.l i).map Typ.cs).flatten, ?_, fun i => List.length_set .., fun i => ok_setM hok m _, by simp only [List.take_length], fun i => ?_, ?_, ?_, fun i hi => ?_, fun i hi => ?_, fun i hi L => ?_⟩
    · simp only [List.take_zero, renMs]
      exact set_here hm
    · rw [flat4_len (rows4 _), List.length_map, rnRow_len]
    · simp only [rnRow, List.take_zero, renMs, List.drop_zero, List.nil_append]
    · have h := rowsOf_flat (rows4 (renMs met t.l).1)
      rw [List.length_map, renMs_len] at h
      simp only [rnRow_end]
      exact h
    · have hi' : i < (rnRow met t.l i).length := by rw [rnRow_len]; exact hi
      have e : ((rnRow met t.l i).map Typ.cs)[i]'(by rw [List.length_map]; exact hi') = t.l[i].cs := by
        rw [List.getElem_map, (List.getElem_eq_iff _).2 (rnRow_get hi)]
      dsimp only
      rw [← List.map_drop, ← List.map_take, flat4_get (rows4 _) (by rw [List.length_map]; exact hi'), e, Typ.cs_eq]
      rfl
    · have hi' : i < (rnRow met t.l i).length := by rw [rnRow_len]; exact hi
      have h := flat4_set (rows4 (rnRow met t.l i)) (i := i) (by rw [List.length_map]; exact hi') ((renM (renMs met (t.l.take i)).2 t.l[i]).1).cs (by rw [Typ.cs_eq]; rfl)
      rw [← List.map_set, rnRow_set hi, Typ.cs_eq, List.append_assoc] at h
      simp only [List.getD_eq_getElem?_getD, List.getElem?_eq_getElem hi, Option.getD_some]
      exact h
    · have hlt : m < σ.length := (List.getElem?_eq_some_iff.1 hm).1
      have hmem := List.getElem_mem hi
      have hnd := nodesM_mem hmem
      have h := ih t.l[i] hmem (by omega) (renMs met (t.l.take i)).2 (σ.set m (.mp (kvsF 0 (renMs met (t.l.take i)).2)) ++ L) m (by rw [List.getElem?_append_left (by simpa using hlt), hgets _ hlt])
      rw [List.set_append_left _ _ (by simpa using hlt), List.set_set] at h
      simp only [List.getD_eq_getElem?_getD, List.getElem?_eq_getElem hi, Option.getD_some, renMs_take t.l met i hi]
      exact h
  simp only
  rw [← hTn]
  rw [← hF0] at hcl
  generalize (renMs met t.l).1 = zs at *
  subst hT0
  have tg0 : ∀ i x L, (T i ++ x :: L)[N]? = some x := fun i => at_g0 (hTl i)
  have tg : ∀ i k L, (T i ++ L)[N + k]? = L[k]? := fun i => at_g (hTl i)
  have ts0 : ∀ i x L, (T i ++ L).set N x = T i ++ L.set 0 x := fun i => at_s0 (hTl i)
  have ts : ∀ i k x L, (T i ++ L).set (N + k) x = T i ++ L.set k x := fun i => at_s (hTl i)
  clear hTn hF0 ih hm h4 hl0 hne
  ((try refine W.a ?_); simp only [go_sem, seval, reduceCtorEq, c85, k4, hTl, tg0, tg, ts0, ts])
  refine W.no rfl ?_
  ((try refine W.a ?_); simp only [go_sem, seval, reduceCtorEq, hTl, tg0, tg, ts0, ts])
  (refine W.c1 (hcl _) ?_; simp only [go_sem, seval, reduceCtorEq, hTl, tg0, tg, ts0, ts])
  ((try refine W.a ?_); simp only [go_sem, seval, reduceCtorEq, hTl, tg0, tg, ts0, ts])
  refine W.loopP (fun i => i ≤ t.l.length) (fun i => ⟨((((((base.put (some 1) (.mp m)).put (some 2) (.ptr N 0)).put (some 4) (.ptr (N + 1) 0)).put (some 7) (.vec (N + 2) t.l.length)).put (some 34) (I (t.l.length : Int))).put (some 35) (I (i : Int))), T i ++ [.cells t.v.cellsV, .cells [I 0, S [], I 0, .csl []], .vec 30 4 (F i)]⟩) (fun i => t.l.length - i) 0 (Nat.zero_le _) ?_ (fun i hi => ?_)
  · (refine Lew.env ?_; exact lee_here)
  by_cases hlt : i < t.l.length
  · have h1 : (i : Int) < (t.l.length : Int) := by omega
    have h0 : (0 : Int) ≤ (i : Int) := by omega
    have hw : IntKind.i64.wrap ((i : Int) + 1) = ((i + 1 : Nat) : Int) := by rw [wrap_in] <;> omega
    have hki := fun L => hkid i hlt L
    have hgi := hget i hlt
    have hsi := hset i hlt
    have hFi := hFl i
    have hii : i * 4 + 4 ≤ t.l.length * 4 := by omega
    ((try refine W.a ?_); simp only [go_sem, seval, reduceCtorEq, h1])
    refine W.yes rfl ?_
    ((try refine W.a ?_); simp only [go_sem, seval, reduceCtorEq, h1, h0, hgi, hFi, hii, hTl, tg0, tg, ts0, ts])
    (refine W.c1 (hki _) ?_; simp only [go_sem, seval, reduceCtorEq, hTl, tg0, tg, ts0, ts])
    ((try refine W.a ?_); simp only [go_sem, seval, reduceCtorEq, hw, h1, h0, hsi, hFi, hii, hTl, tg0, tg, ts0, ts])
    refine .inv ⟨i + 1, hlt, by omega, ?_⟩
    (refine Lew.env ?_; exact lee_here)
  obtain rfl : i = t.l.length := by omega
  have h1 : ¬ ((t.l.length : Nat) : Int) < ((t.l.length : Nat) : Int) := by omega
  have hnl := hTl t.l.length
  refine W.frzV (b := N + 2) (e := 30) (size := 4) (k := t.l.length) (cs := F t.l.length) 7 rfl (tg _ 2 _) (Nat.le_of_eq (hFl _).symm) ?_
  ((try refine W.a ?_); simp only [go_sem, seval, reduceCtorEq, h1, hFn, hTl, tg0, tg, ts0, ts])
  refine W.no rfl ?_
  ((try refine W.a ?_); simp only [go_sem, seval, reduceCtorEq, hFn, hTl, tg0, tg, ts0, ts])
  (refine W.fg (hTo _) (d := (Typ.mk t.k t.name t.n zs).v) (by simp only [r85, go_sem, seval, reduceCtorEq, tg0, tg]; rfl) (by simp only [resV, go_sem, seval, reduceCtorEq, tg0, tg]; exact wk_here) ?_ (hl := by (first | exact .c _ | (simp only [go_sem, seval, reduceCtorEq, tg0, tg]; done))) (hn := hnl))
  exact ⟨rfl, rfl⟩
end
end
section
noncomputable def valsM (s : Sg) : List Int → List Str → List Typ → List UInt8
  | met, nm :: names, t :: l => nm ++ [32, 61, 32] ++ textM s [] (metN met t).1 ++ [10] ++ valsM s (metN met t).2 names l
  | _, _, _ => []
theorem metN_fit {m : Int} (hm : m ≤ 4611686018427387904) (t : Typ) (met : List Int) (hO : OkT t) (hn : nearM m t = true) (hl : ((met.length + nodesM t : Nat) : Int) ≤ m) : OkT (metN met t).1 ∧ nearM m (metN met t).1 = true ∧ nodesM (metN met t).1 = nodesM t ∧ (metN met t).2.length ≤ met.length + nodesM t := by
  unfold metN
  split
  · obtain ⟨h1, h2⟩ := renM_fit hm t met hO hn hl
    exact ⟨h1, h2, renM_nodes t met, renM_met t met⟩
  · exact ⟨hO, hn, rfl, Nat.le_add_right _ _⟩
theorem textM_len (s : Sg) (hT : (takenT s []).length ≤ 900000) (t : Typ) (hO : OkT t) (hn : nearM 1099511627776 t = true) (hl : nodesM t ≤ 1000) : (textM s [] t).length ≤ 100000000 :=
  (preM_fit s [] (fun x hx => by cases hx) hT t hO hn hl).2
def bA (b i : Nat) : V := if i = 0 then .c .nilp else .ptr b 0
theorem bA_or (b i : Nat) : bA b i = .c .nilp ∨ bA b i = .ptr b 0 := by unfold bA; split <;> simp
theorem bA_succ (b i : Nat) : bA b (i + 1) = .ptr b 0 := by unfold bA; rw [if_neg (by omega)]
theorem builder_writeL (w0 : World) (σ : H) (c0 c1 : Blk) (L : H) (A : V) (hA : A = .c .nilp ∨ A = .ptr (σ.length + 2) 0) (s t : List UInt8) (hn : s.length + t.length ≤ 100000000000) :
    DC Tryz.prog w0 86 [.ptr (σ.length + 2) 0, S t] (σ ++ (c0 :: c1 :: .cells [A, .osl (σ.length + 3) (byteRows s)] (some 123) :: .spare 5 1 s.length :: L))
      (Same (.tup [I t.length, .c .nili]) (σ ++ (c0 :: c1 :: .cells [.ptr (σ.length + 2) 0, .osl (σ.length + 3) (byteRows (s ++ t))] (some 123) :: .spare 5 1 (s ++ t).length :: L))) := by
  have D : Two (σ ++ (c0 :: c1 :: Blk.gone :: Blk.gone :: L)) (σ.length + 2) (σ.length + 3) := ⟨by omega, by simp, by simp⟩
  have hE : ∀ X Y : Blk, rs (σ ++ (c0 :: c1 :: Blk.gone :: Blk.gone :: L)) (σ.length + 2) (σ.length + 3) X Y = σ ++ (c0 :: c1 :: X :: Y :: L) := fun X Y => by
    unfold rs
    rw [hset, hset]
    rfl
  have h := builder_WriteStringB w0 _ _ _ D A hA s t hn
  simp only [wbs, hE] at h
  exact h
section
attribute [local go_sem] Sg.v Typ.v Typ.cs_eq tk_mk tname_mk tn_mk tl_mk tysC kdsC nmsC opsC
theorem values_some {w0 : World} (hG : Glob w0) (s : Sg) (names : List Str) (l : List Typ) (hT : (takenT s []).length ≤ 900000) (hnm : ∀ x ∈ names, x.length ≤ 100) (hl : ∀ t ∈ l, OkT t ∧ nearM 1099511627776 t = true ∧ nodesM t ≤ 60) (hll : l.length ≤ 6) (hn0 : names ≠ []) (hl0 : l ≠ []) (σ : H) :
    DC Tryz.prog w0 26 [s.v, .c (.sl (strsR names)), .c (tysC l)] σ (Same (S (valsM s [] names l)) σ) := by
  refine k26.go rfl (fun hok hsz => ?_)
  have hlen : names.length ≤ 9223372036854775807 := by
    have := sz_rows (hsz _ (List.mem_cons_of_mem _ (List.mem_cons_self ..)))
    simpa [strsR] using this
  obtain ⟨n, hn⟩ : ∃ n, n = min names.length l.length := ⟨_, rfl⟩
  have hmn : (if ((l.length : Nat) : Int) < ((names.length : Nat) : Int) then ((l.length : Nat) : Int) else ((names.length : Nat) : Int)) = (n : Int) := by split <;> omega
  have hlp : 0 < l.length := List.length_pos_iff.2 hl0
  have hnp : 0 < names.length := List.length_pos_iff.2 hn0
  have hn6 : n ≤ 6 := by omega
  ((try refine W.a ?_); simp only [go_sem, seval, reduceCtorEq, c26, strsR, hmn])
  refine W.ownCell (σ.length + 2) 1 5 1 (cs := [.c .nilp, .csl []]) (tg := some 123) ?_ rfl ?_
  · simp only [hget, List.getElem?_cons_succ, List.getElem?_cons_zero]
  simp only [go_sem, seval, reduceCtorEq]
  refine W.loopP (α := Nat × List Int × List UInt8) (fun x => x.1 ≤ n ∧ x.2.1.length ≤ x.1 * 60 ∧ x.2.2.length ≤ x.1 * 100000200 ∧ x.2.2 ++ valsM s x.2.1 (names.drop x.1) (l.drop x.1) = valsM s [] names l ∧ (x.1 = n → x.2.2 ≠ [])) (fun x => ⟨(((((((base.put (some 1) (.c (.sl (strsR names)))).put (some 2) (.c (.sl (l.map Typ.cs)))).put (some 3) (.ptr σ.length 0)).put (some 7) (.mp (σ.length + 1))).put (some 8) (.ptr (σ.length + 2) 0)).put (some 16) (I (n : Int))).put (some 17) (I (x.1 : Int))), σ ++ [.cells s.v.cellsV, .mp (kvsF 0 x.2.1), .cells [bA (σ.length + 2) x.1, .osl (σ.length + 3) (byteRows x.2.2)] (some 123), .spare 5 1 x.2.2.length]⟩) (fun x => n - x.1) (0, [], []) ⟨Nat.zero_le _, by simp, by simp, by simp, fun h => by simp only at h; omega⟩ ?_ (fun x hx => ?_)
  · simp only [kvsF, bA, if_pos, strsR]
    simp only [go_sem, seval, reduceCtorEq, natCast0, byteRows]
    (refine Lew.env ?_; exact lee_here)
  obtain ⟨i, met, acc⟩ := x
  obtain ⟨hi, hmt, hac, hsum, hne⟩ := hx
  simp only at hi hmt hac hsum hne
  by_cases hlt : i < n
  · have h1 : (i : Int) < (n : Int) := by omega
    have h0 : (0 : Int) ≤ (i : Int) := by omega
    have hi1 : i < names.length := by omega
    have hi2 : i < l.length := by omega
    have hi1' : (i : Int) < (names.length : Int) := by omega
    have hi2' : (i : Int) < (l.length : Int) := by omega
    have hx1 : names[i]? = some names[i] := List.getElem?_eq_getElem hi1
    have hx2 : l[i]? = some l[i] := List.getElem?_eq_getElem hi2
    have hw : IntKind.i64.wrap ((i : Int) + 1) = ((i + 1 : Nat) : Int) := by rw [wrap_in] <;> omega
    obtain ⟨o1, o2, o3⟩ := hl _ (List.getElem_mem hi2)
    have hnmi := hnm _ (List.getElem_mem hi1)
    obtain ⟨q1, q2, q3, q4⟩ := metN_fit (m := 1099511627776) (by decide) l[i] met o1 o2 (by omega)
    have hX := fun σ => pretty_Text hG s (metN met l[i]).1 [] q1 q2 (by omega) hT (fun x hx => by cases hx) σ
    have hXl := textM_len s hT (metN met l[i]).1 q1 q2 (by omega)
    have hV := fun σ => term_Valid w0 l[i] σ
    have hs2 : acc ++ (names[i] ++ 32 :: 61 :: 32 :: (textM s [] (metN met l[i]).1 ++ [10])) ++ valsM s (metN met l[i]).2 (names.drop (i + 1)) (l.drop (i + 1)) = valsM s [] names l := by
      rw [← hsum, List.drop_eq_getElem_cons hi1, List.drop_eq_getElem_cons hi2, valsM]
      simp only [List.append_assoc, List.cons_append, List.nil_append]
    have hR : ∀ c0 L, validM l[i] = true → DC Tryz.prog w0 85 [l[i].v, .mp (σ.length + 1)] (σ ++ (c0 :: .mp (kvsF 0 met) :: L)) (Same (metN met l[i]).1.v (σ ++ (c0 :: .mp (kvsF 0 (metN met l[i]).2) :: L))) := fun c0 L hv => by
      have h := pretty_renamed w0 l[i] (by omega) met (σ ++ (c0 :: .mp (kvsF 0 met) :: L)) (σ.length + 1) (by rw [hget]; rfl)
      rw [hset] at h
      have e : metN met l[i] = renM met l[i] := by unfold metN; rw [if_pos hv]
      rw [e]
      exact h
    have hnR : validM l[i] = false → (metN met l[i]).1 = l[i] ∧ (metN met l[i]).2 = met := fun hv => by unfold metN; rw [hv]; exact ⟨rfl, rfl⟩
    have hbA := bA_or (σ.length + 2) i
    have hWr := fun c0 c1 L A hA => builder_writeL w0 σ c0 c1 L A hA acc (names[i] ++ 32 :: 61 :: 32 :: (textM s [] (metN met l[i]).1 ++ [10])) (by simp only [List.length_append, List.length_cons, List.length_nil]; omega)
    have hnew : (acc ++ (names[i] ++ 32 :: 61 :: 32 :: (textM s [] (metN met l[i]).1 ++ [10]))).length ≤ (i + 1) * 100000200 := by simp only [List.length_append, List.length_cons, List.length_nil]; omega
    have hnm2 : acc ++ (names[i] ++ 32 :: 61 :: 32 :: (textM s [] (metN met l[i]).1 ++ [10])) ≠ [] := by simp
    simp only [strsR, List.map_nil] at hX
    generalize (metN met l[i]).1 = z at *
    generalize (metN met l[i]).2 = met' at *
    generalize textM s [] z = X at *
    generalize names[i] = nm at *
    generalize bA (σ.length + 2) i = A at *
    have hq1 : nm.length + 3 ≤ 9223372036854775807 := by omega
    have hq2 : nm.length + 3 + X.length ≤ 9223372036854775807 := by omega
    have hq3 : nm.length + (X.length + 1 + 1 + 1) + 1 ≤ 9223372036854775807 := by omega
    cases hv : validM l[i]
    · rw [hv] at hV
      obtain ⟨e1, e2⟩ := hnR hv
      subst e1 e2
      clear hR hnR
      ((try refine W.a ?_); simp only [go_sem, seval, reduceCtorEq, h1])
      refine W.yes rfl ?_
      ((try refine W.a ?_); simp only [go_sem, seval, reduceCtorEq, strsR, h1, h0, hi1', hi2', hx1, hx2])
      (refine W.c1 (hV _) ?_; simp only [go_sem, seval, reduceCtorEq])
      refine W.no rfl ?_
      ((try refine W.a ?_); simp only [go_sem, seval, reduceCtorEq, strsR, h1, h0, hi1', hi2', hx1, hx2])
      apply W.dregE (List.cons_ne_nil _ _)
      case hc =>
        (apply CanonE.advPO; simp only [go_sem, seval, reduceCtorEq, strsR, h1, h0, hi1', hi2', hx1, hx2, hq1, hq2, hq3])
        (apply CanonE.callw (hX _); (case hg => rfl); (case hf => rfl); (case ha => rfl); (case hw => ((exact wk_here))))
        (apply CanonE.advPO; simp only [go_sem, seval, reduceCtorEq, strsR, h1, h0, hi1', hi2', hx1, hx2, hq1, hq2, hq3])
        (apply CanonE.call (hWr _ _ _ A hbA); (case hg => rfl); (case hf => rfl); (case ha => first | rfl | simp))
        (apply CanonE.advPO; simp only [go_sem, seval, reduceCtorEq])
        exact CanonE.nil
      ((try refine W.a ?_); simp only [go_sem, seval, reduceCtorEq, hw])
      refine .inv ⟨(i + 1, met', acc ++ (nm ++ 32 :: 61 :: 32 :: (X ++ [10]))), ⟨hlt, by simp only; omega, hnew, hs2, fun _ => hnm2⟩, by simp only; omega, ?_⟩
      simp only [bA_succ]
      simp only [go_sem, seval, reduceCtorEq]
      (refine Lew.cutL (hok) ?_ (by simp) (by simp) ?_ ?_ ?_; exact lee_here; ((try simp only [okB, wkB, go_sem, seval, reduceCtorEq, strsR, low_mp]) <;> omega); (simp only [List.length_cons, List.length_nil, Nat.reduceAdd, List.take_succ_cons, List.take_zero, wkB, and_true]; (repeat' (refine And.intro ?_ ?_)) <;> (first | exact Blk.wk.rfl _ | exact Blk.wk.gone _ | (refine Blk.wk_cells ?_ rfl; (exact wk_here)))); (repeat' (first | exact LowE.base _ | (refine LowE.put ?_ (by first | exact .c _ | ((try simp only [okB, wkB, go_sem, seval, reduceCtorEq, strsR, low_mp]) <;> omega))))))
    · rw [hv] at hV
      have hR1 := fun c0 L => hR c0 L hv
      clear hR hnR
      ((try refine W.a ?_); simp only [go_sem, seval, reduceCtorEq, h1])
      refine W.yes rfl ?_
      ((try refine W.a ?_); simp only [go_sem, seval, reduceCtorEq, strsR, h1, h0, hi1', hi2', hx1, hx2])
      (refine W.c1 (hV _) ?_; simp only [go_sem, seval, reduceCtorEq])
      refine W.yes rfl ?_
      ((try refine W.a ?_); simp only [go_sem, seval, reduceCtorEq, strsR, h1, h0, hi1', hi2', hx1, hx2])
      (refine W.c1 (hR1 _ _) ?_; simp only [go_sem, seval, reduceCtorEq])
      ((try refine W.a ?_); simp only [go_sem, seval, reduceCtorEq, strsR, h1, h0, hi1', hi2', hx1, hx2])
      apply W.dregE (List.cons_ne_nil _ _)
      case hc =>
        (apply CanonE.advPO; simp only [go_sem, seval, reduceCtorEq, strsR, h1, h0, hi1', hi2', hx1, hx2, hq1, hq2, hq3])
        (apply CanonE.callw (hX _); (case hg => rfl); (case hf => rfl); (case ha => rfl); (case hw => ((exact wk_here))))
        (apply CanonE.advPO; simp only [go_sem, seval, reduceCtorEq, strsR, h1, h0, hi1', hi2', hx1, hx2, hq1, hq2, hq3])
        (apply CanonE.call (hWr _ _ _ A hbA); (case hg => rfl); (case hf => rfl); (case ha => first | rfl | simp))
        (apply CanonE.advPO; simp only [go_sem, seval, reduceCtorEq])
        exact CanonE.nil
      ((try refine W.a ?_); simp only [go_sem, seval, reduceCtorEq, hw])
      refine .inv ⟨(i + 1, met', acc ++ (nm ++ 32 :: 61 :: 32 :: (X ++ [10]))), ⟨hlt, by simp only; omega, hnew, hs2, fun _ => hnm2⟩, by simp only; omega, ?_⟩
      simp only [bA_succ]
      simp only [go_sem, seval, reduceCtorEq]
      (refine Lew.cutL (hok) ?_ (by simp) (by simp) ?_ ?_ ?_; exact lee_here; ((try simp only [okB, wkB, go_sem, seval, reduceCtorEq, strsR, low_mp]) <;> omega); (simp only [List.length_cons, List.length_nil, Nat.reduceAdd, List.take_succ_cons, List.take_zero, wkB, and_true]; (repeat' (refine And.intro ?_ ?_)) <;> (first | exact Blk.wk.rfl _ | exact Blk.wk.gone _ | (refine Blk.wk_cells ?_ rfl; (exact wk_here)))); (repeat' (first | exact LowE.base _ | (refine LowE.put ?_ (by first | exact .c _ | ((try simp only [okB, wkB, go_sem, seval, reduceCtorEq, strsR, low_mp]) <;> omega))))))
  obtain rfl : i = n := by omega
  have h1 : ¬ ((i : Int) < (i : Int)) := by omega
  have hdr : valsM s met (names.drop i) (l.drop i) = [] := by
    rcases Nat.le_total names.length l.length with h | h
    · have e : names.drop i = [] := List.drop_of_length_le (by omega)
      rw [e, valsM]
      intro _ _ _ _ h; cases h
    · have e : l.drop i = [] := List.drop_of_length_le (by omega)
      rw [e, valsM]
      intro _ _ _ _ _ h; cases h
  rw [hdr, List.append_nil] at hsum
  rw [← hsum]
  have hS := fun c0 c1 A => builder_StringB w0 (σ ++ [c0, c1, .cells [A, .osl (σ.length + 3) (byteRows acc)] (some 123), .spare 5 1 acc.length]) (σ.length + 2) (σ.length + 3) A acc (hne rfl) (by rw [hget]; rfl) (by rw [hget]; rfl)
  ((try refine W.a ?_); simp only [go_sem, seval, reduceCtorEq, h1])
  refine W.no rfl ?_
  ((try refine W.a ?_); simp only [go_sem, seval, reduceCtorEq])
  (refine W.c1 (hS _ _ _) ?_; simp only [go_sem, seval, reduceCtorEq])
  ((try refine W.a ?_); simp only [go_sem, seval, reduceCtorEq])
  (refine W.fs (hok) (by simp only [r26, go_sem, seval, reduceCtorEq]; rfl) ?_; simp only [resV]; try exact V.wk.rfl _)
end
set_option maxHeartbeats 1000000 in
set_option maxRecDepth 100000 in
theorem string_nil0 (w : World) (p : Nat) (h2 : w.cell? ⟨p, 1, none⟩ = some (.slice none 0 0)) :
    Calls Tryz.prog 87 #[.pointer (some ⟨p, 0, none⟩)] w fun e w' => e = .returned (.string .empty) ∧ w' = w.drew := by
  have c1 : w.drew.cell? ⟨p, 1, none⟩ = some (.slice none 0 0) := h2
  have hSD : (Builtin.unsafeSliceData_ #[121] 212 #[.slice none 0 0]).run Tryz.prog w.drew = .ok (.pointer none) w.drew := rfl
  have hUS : (Builtin.unsafeString_ #[212, 3] 9 #[.pointer none, .int .i64 0]).run Tryz.prog w.drew = .ok (.string .empty) w.drew := Lib.run_unsafeString_none w.drew _ _ _ none
  go_enter Tryz.func87, Tryz.ntmps87
  go_wp2
  go_region
  all_goals (go_wp2; go_ret; exact ⟨rfl, rfl⟩)
set_option maxRecDepth 100000 in
theorem values_none (w0 : World) (s : Sg) (names : List Str) (l : List Typ) (h0 : names = [] ∨ l = []) (σ : H) : DC Tryz.prog w0 26 [s.v, .c (.sl (strsR names)), .c (tysC l)] σ (Same (S []) σ) := by
  refine DC.of_calls (enters_fn Tryz.func26 (by kernel_rfl) rfl) fun κ w vs hrep hfit => ?_
  obtain ⟨x, ys, rfl, hx, hfit⟩ := hfit.cons_inv
  obtain ⟨y, zs, rfl, hy, hfit⟩ := hfit.cons_inv
  obtain ⟨z, us, rfl, hz, hfit⟩ := hfit.cons_inv
  have := hfit.nil_inv
  subst this
  obtain ⟨A, c, ey⟩ : ∃ A c, y = .slice A names.length c := by
    cases hy with
    | c h => cases h; exact ⟨_, _, by simp only [strsR, List.length_map]; rfl⟩
  obtain ⟨A', c', ez⟩ : ∃ A c, z = .slice A l.length c := by
    unfold tysC at hz
    cases hz with
    | c h => cases h; exact ⟨_, _, by simp only [List.length_map]; rfl⟩
  obtain ⟨x0, x1, x2, ex⟩ : ∃ x0 x1 x2, x = .agg #[x0, x1, x2] := by
    unfold Sg.v at hx
    cases hx with
    | agg h h1 =>
      rename_i xs
      match xs, h with
      | [x0, x1, x2], _ => exact ⟨x0, x1, x2, rfl⟩
  subst ex ey ez
  refine ⟨.string .empty, .c (.str [] (by decide)), ?_⟩
  go_enter Tryz.func26, Tryz.ntmps26
  go_wp2
  rw [show ∀ W : World, (Instr.makeMap 119 none).run Tryz.prog W = .ok (.map (some W.heap.size)) (W.alloc (.map #[] 0)) from fun W => rfl]
  simp only [Result.andThen]
  rw [Oper.upon_value]
  go_wp2
  have hm : min (names.length : Int) (l.length : Int) = 0 := by rcases h0 with rfl | rfl <;> simp <;> omega
  rw [hm]
  go_loopw [17] (fun v wr => v = .int .i64 0 ∧ wr = ((w.alloc (.cells #[x0, x1, x2] 26)).alloc (.map #[] 0)).alloc (.cells #[.pointer none, .slice none 0 0] 123)) (fun _ _ => 0)
  case atStart => exact ⟨rfl, rfl⟩
  case round =>
    obtain ⟨rfl, rfl⟩ := hrel
    go_wp2_with fail
    refine (string_nil0 _ _ ?_).mono ?_
    · exact World.cell?_alloc_at _ _ _ _ (by simp)
    rintro e w' ⟨rfl, rfl⟩
    go_wp2
    go_ret
    exact ⟨rfl, ((((Below.refl _ w).alloc (Nat.le_refl _) _).alloc (by simp) _).alloc (by simp; omega) _).drew⟩
theorem pretty_Values {w0 : World} (hG : Glob w0) (s : Sg) (names : List Str) (l : List Typ) (hf : l ≠ [] → (takenT s []).length ≤ 900000 ∧ ∀ x ∈ names, x.length ≤ 100) (hl : ∀ t ∈ l, OkT t ∧ nearM 1099511627776 t = true ∧ nodesM t ≤ 60) (hll : l.length ≤ 6) (σ : H) :
    DC Tryz.prog w0 26 [s.v, .c (.sl (strsR names)), .c (tysC l)] σ (Same (S (valsM s [] names l)) σ) := by
  by_cases h : names = [] ∨ l = []
  · have e : valsM s [] names l = [] := by
      rcases h with rfl | rfl
      · unfold valsM; cases l <;> rfl
      · unfold valsM; cases names <;> rfl
    rw [e]
    exact values_none w0 s names l h σ
  · have h1 : names ≠ [] := fun e => h (.inl e)
    have h2 : l ≠ [] := fun e => h (.inr e)
    exact values_some hG s names l (hf h2).1 (hf h2).2 hl hll h1 h2 σ
end
section
attribute [local go_sem] Typ.v Typ.cs_eq tk_mk tname_mk tn_mk tl_mk tysC
theorem inst_leaf (w0 : World) (by_ : List Typ) (hb : ∀ u ∈ by_, nearM 2305843009213693952 u = true ∧ nodesM u ≤ 40000) (p : Nat) (σ : H) (e1 : σ[p]? = some (.cells [.c (tysC by_)])) (u : Typ) (j : Nat) (hj : j ≤ 100000) :
    DC Tryz.prog w0 82 [u.v, I (j : Int), .ptr p 0] σ (Same (instF by_ u (j : Int)).v σ) := by
  refine k82.go rfl (fun hok hsz => ?_)
  have e1 : ∀ L, (σ ++ L)[p]? = some (.cells [.c (.sl (by_.map Typ.cs))]) := fun L => by rw [List.getElem?_append_left (List.getElem?_eq_some_iff.1 e1).1]; exact e1
  by_cases h4 : u.k = 4
  · have k4 : (u.k == 4) = true := by simp [h4]
    by_cases h0 : 0 ≤ u.n
    · by_cases h1 : u.n < (by_.length : Int)
      · have hlt : u.n.toNat < by_.length := by omega
        have hx : by_[u.n.toNat]? = some by_[u.n.toNat] := List.getElem?_eq_getElem hlt
        have hE : instF by_ u (j : Int) = shiftM 0 (j : Int) by_[u.n.toNat] := by
          unfold instF; rw [if_pos ⟨h4, h0, h1⟩, List.getD_eq_getElem?_getD, hx, Option.getD_some]
        obtain ⟨b1, b2⟩ := hb _ (List.getElem_mem hlt)
        have hS := fun σ => term_Shift w0 by_[u.n.toNat] 0 (j : Int) (by decide) (by decide) (by omega) (by omega) b1 b2 σ
        rw [hE]
        generalize by_[u.n.toNat] = y at *
        generalize shiftM 0 (j : Int) y = z at *
        clear h4 hE
        ((try refine W.a ?_); simp only [go_sem, seval, reduceCtorEq, c82, k4, e1, h0, h1])
        refine W.yes rfl ?_
        ((try refine W.a ?_); simp only [go_sem, seval, reduceCtorEq, e1, h0, h1, hx])
        (refine W.c1 (hS _) ?_; simp only [go_sem, seval, reduceCtorEq])
        ((try refine W.a ?_); simp only [go_sem, seval, reduceCtorEq])
        (refine W.fs (hok) (by simp only [r82, go_sem, seval, reduceCtorEq]; rfl) ?_; simp only [resV]; try exact V.wk.rfl _)
        all_goals (all_goals exact wk_here)
      · have hE : instF by_ u (j : Int) = u := by unfold instF; rw [if_neg (fun h => h1 h.2.2)]
        rw [hE]
        clear h4 hE
        ((try refine W.a ?_); simp only [go_sem, seval, reduceCtorEq, c82, k4, e1, h0, h1])
        refine W.no rfl ?_
        ((try refine W.a ?_); simp only [go_sem, seval, reduceCtorEq])
        (refine W.fs (hok) (by simp only [r82, go_sem, seval, reduceCtorEq]; rfl) ?_; simp only [resV]; try exact V.wk.rfl _)
        all_goals (all_goals exact wk_here)
    · have hE : instF by_ u (j : Int) = u := by unfold instF; rw [if_neg (fun h => h0 h.2.1)]
      rw [hE]
      clear h4 hE
      ((try refine W.a ?_); simp only [go_sem, seval, reduceCtorEq, c82, k4, e1, h0])
      refine W.no rfl ?_
      ((try refine W.a ?_); simp only [go_sem, seval, reduceCtorEq])
      (refine W.fs (hok) (by simp only [r82, go_sem, seval, reduceCtorEq]; rfl) ?_; simp only [resV]; try exact V.wk.rfl _)
      all_goals (all_goals exact wk_here)
  · have hE : instF by_ u (j : Int) = u := by unfold instF; rw [if_neg (fun h => h4 h.1)]
    have k4 : (u.k == 4) = false := by simp [h4]
    rw [hE]
    clear h4 hE
    ((try refine W.a ?_); simp only [go_sem, seval, reduceCtorEq, c82, k4])
    refine W.no rfl ?_
    ((try refine W.a ?_); simp only [go_sem, seval, reduceCtorEq])
    (refine W.fs (hok) (by simp only [r82, go_sem, seval, reduceCtorEq]; rfl) ?_; simp only [resV]; try exact V.wk.rfl _)
    all_goals (all_goals exact wk_here)
theorem inst_R (w0 : World) (by_ : List Typ) (C : Nat) (hC : 1 ≤ C) (hb : ∀ u ∈ by_, nearM 2305843009213693952 u = true ∧ nodesM u ≤ C) (hCm : C ≤ 40000) (p : Nat) :
    LeafR w0 (fun σ => σ[p]? = some (.cells [.c (tysC by_)])) (fun u => nodesM u ≤ 40000 ∧ C * nodesM u ≤ 40000) (instF by_) 82 [.ptr p 0] where
  more := fun σ L e1 => by rw [List.getElem?_append_left (List.getElem?_eq_some_iff.1 e1).1]; exact e1
  low := fun σ e1 x hx => by
    have h1 := (List.getElem?_eq_some_iff.1 e1).1
    simp only [List.mem_cons, List.not_mem_nil, or_false] at hx
    subst hx
    exact .ptr h1
  kid := fun u ⟨h2, h3⟩ v hv => ⟨by have := nodesM_mem hv; omega, Nat.le_trans (Nat.mul_le_mul_left _ (Nat.le_of_lt (nodesM_mem hv))) h3⟩
  len := fun u ⟨h2, _⟩ => Nat.le_trans (kids_nodes u) h2
  big := fun u ⟨_, h3⟩ j => Nat.le_trans (kids_nodes _) (Nat.le_trans (inst_nodes hC (fun u hu => (hb u hu).2) u j) h3)
  leaf := fun σ e1 u j _ hj _ _ => inst_leaf w0 by_ (fun u hu => ⟨(hb u hu).1, by have := (hb u hu).2; omega⟩) p σ e1 u j hj
theorem term_Inst (w0 : World) (t : Typ) (by_ : List Typ) (C : Nat) (hC : 1 ≤ C) (hb : ∀ u ∈ by_, nearM 2305843009213693952 u = true ∧ nodesM u ≤ C) (hCm : C ≤ 40000) (hn : nodesM t ≤ 40000) (hm : C * nodesM t ≤ 40000) (σ : H) : DC Tryz.prog w0 25 [t.v, .c (tysC by_)] σ (Same (instM by_ t).v σ) := by
  refine k25.go rfl (fun hok hsz => ?_)
  have hw := walk_term (inst_R w0 by_ C hC hb hCm (σ.length + 1)) t ⟨hn, hm⟩ 0 (by omega) (σ ++ [.cells t.v.cellsV, .cells [.c (tysC by_)], .cells [I 0, S [], I 0, .csl []]]) (by simp)
  have hz : instM by_ t = walkM (instF by_) ((0 : Nat) : Int) t := rfl
  rw [hz]
  generalize walkM (instF by_) ((0 : Nat) : Int) t = z at *
  ((try refine W.a ?_); simp only [go_sem, seval, reduceCtorEq, c25])
  (refine W.c1 (hw) ?_; simp only [go_sem, seval, reduceCtorEq])
  ((try refine W.a ?_); simp only [go_sem, seval, reduceCtorEq])
  (refine W.fs (hok) (by simp only [r25, go_sem, seval, reduceCtorEq]; rfl) ?_; simp only [resV]; try exact V.wk.rfl _)
  all_goals (all_goals exact wk_here)
end
section
attribute [local go_sem] Typ.v Typ.cs_eq tk_mk tname_mk tn_mk tl_mk tysC
structure TellR (w0 : World) {α : Type} (τ : α → H) (M : Nat) (g : α → Typ → Int → α) (Good : Nat → α → Prop) (Pp : Typ → Prop) (fid : FuncId) (caps : List V) : Prop where
  len : ∀ a, (τ a).length = M
  ok : ∀ a b X, H.ok (τ a ++ X) → H.ok (τ b ++ X)
  low : ∀ x ∈ caps, V.low M x
  kid : ∀ u, Pp u → ∀ v ∈ u.l, Pp v
  lens : ∀ u, Pp u → u.l.length ≤ 2000000
  less : ∀ n m a, n ≤ m → Good m a → Good n a
  good : ∀ n a u j, Pp u → Good (n + 1) a → Good n (g a u j)
  tell : ∀ n a u (j : Nat) X, Pp u → Good (n + 1) a → j ≤ 4000000 → u.k ≠ 5 → u.k ≠ 6 → DC Tryz.prog w0 fid ([u.v, I (j : Int)] ++ caps) (τ a ++ X) (Same (.tup []) (τ (g a u (j : Int)) ++ X))
section
variable {w0 : World} {α : Type} {τ : α → H} {M : Nat} {g : α → Typ → Int → α} {Good : Nat → α → Prop} {Pp : Typ → Prop} {fid : FuncId} {caps : List V}
theorem TellR.fold (hR : TellR w0 τ M g Good Pp fid caps) (t : Typ) : Pp t → ∀ (k : Int) (n : Nat) a, Good (n + nodesM t) a → Good n (foldM g k a t) := by
  refine Typ.ind (P := fun t => Pp t → ∀ (k : Int) (n : Nat) a, Good (n + nodesM t) a → Good n (foldM g k a t)) (fun t ih hp k n a hg => ?_) t
  have key : ∀ (j : Int) (l : List Typ), (∀ u ∈ l, u ∈ t.l) → ∀ n a, Good (n + nodesMs l) a → Good n (l.foldl (foldM g j) a) := by
    intro j l
    induction l with
    | nil => intro _ n a h; exact hR.less _ _ _ (Nat.le_add_right _ _) h
    | cons x l ihl =>
      intro hm n a h
      have hx := hm x (List.mem_cons_self ..)
      rw [List.foldl_cons]
      refine ihl (fun u hu => hm u (List.mem_cons_of_mem _ hu)) n _ (ih x hx (hR.kid t hp x hx) j (n + nodesMs l) a ?_)
      rw [nodesMs] at h
      exact hR.less _ _ _ (by omega) h
  rw [foldM_eq]
  have hn := nodesM_eq t
  split
  · exact key _ t.l (fun _ h => h) n a (hR.less _ _ _ (by omega) hg)
  · split
    · exact key _ t.l (fun _ h => h) n a (hR.less _ _ _ (by omega) hg)
    · exact hR.good n a t k hp (hR.less _ _ _ (by omega) hg)
theorem term_each (hR : TellR w0 τ M g Good Pp fid caps) (t : Typ) : Pp t → ∀ (k : Nat) (n : Nat) a X, k + nodesM t ≤ 4000000 → Good (n + nodesM t) a → DC Tryz.prog w0 79 [t.v, I (k : Int), .fn fid caps] (τ a ++ X) (Same (.tup []) (τ (foldM g (k : Int) a t) ++ X)) := by
  refine Typ.ind (P := fun t => Pp t → ∀ (k : Nat) (n : Nat) a X, k + nodesM t ≤ 4000000 → Good (n + nodesM t) a → DC Tryz.prog w0 79 [t.v, I (k : Int), .fn fid caps] (τ a ++ X) (Same (.tup []) (τ (foldM g (k : Int) a t) ++ X))) (fun t ih hp k n a X hk hg => ?_) t
  refine k79.go rfl (fun hok hsz => ?_)
  have hl0 := hR.len
  have hl1 : ∀ a, (τ a ++ X).length = M + X.length := fun a => by rw [List.length_append, hl0]
  have hokN : ∀ b, H.ok (τ b ++ X) := fun b => hR.ok a b X hok
  by_cases hlf : t.k ≠ 5 ∧ t.k ≠ 6
  · have hc := fun L => hR.tell n a t k (X ++ L) hp (hR.less _ _ _ (by have := nodesM_pos t; omega) hg) (by omega) hlf.1 hlf.2
    have hN := hokN (foldM g (k : Int) a t)
    rw [foldM_eq, if_neg hlf.1, if_neg hlf.2] at hN ⊢
    simp only [← List.append_assoc] at hc
    have hnl : (τ (g a t (k : Int)) ++ X).length = (τ a ++ X).length := by rw [hl1, hl1]
    generalize τ (g a t (k : Int)) ++ X = S2 at *
    generalize τ a ++ X = S1 at *
    have k5 : (t.k == 5) = false := by simp [hlf.1]
    have k6 : (t.k == 6) = false := by simp [hlf.2]
    clear hlf hl0 hl1 hokN
    ((try refine W.a ?_); simp only [go_sem, seval, reduceCtorEq, c79, bne, k5, k6])
    refine W.yes rfl ?_
    ((try refine W.a ?_); simp only [go_sem, seval, reduceCtorEq])
    (refine W.c1 (hc _) ?_; simp only [go_sem, seval, reduceCtorEq])
    ((try refine W.a ?_); simp only [go_sem, seval, reduceCtorEq])
    (refine W.fg (hN) (d := .tup []) (by simp only [r79, go_sem, seval, reduceCtorEq]; rfl) (by simp only [resV, go_sem, seval, reduceCtorEq]; exact wk_here) ?_ (hn := hnl))
    exact ⟨rfl, rfl⟩
  obtain ⟨B, hB, hwk, hwi⟩ : ∃ B : Nat, B ≤ 1 ∧ (∀ a, foldM g (k : Int) a t = t.l.foldl (foldM g ((k + B : Nat) : Int)) a) ∧ ∀ σ, DC Tryz.prog w0 170 [t.v] σ (Same (.tup [.c (tysC t.l), I (B : Int)]) σ) := by
    by_cases h5 : t.k = 5
    · refine ⟨1, Nat.le_refl _, fun a => ?_, fun σ => ?_⟩
      · rw [foldM_eq, if_pos h5]; rfl
      · have := term_within w0 t σ
        rwa [if_pos (.inl h5), if_pos h5] at this
    · have h6 : t.k = 6 := by omega
      refine ⟨0, by decide, fun a => ?_, fun σ => ?_⟩
      · rw [foldM_eq, if_neg h5, if_pos h6]; rfl
      · have := term_within w0 t σ
        rwa [if_pos (.inr h6), if_neg h5] at this
  have hor : (t.k == 5) = true ∧ (t.k == 6) = false ∨ (t.k == 5) = false ∧ (t.k == 6) = true := by
    by_cases h5 : t.k = 5
    · exact .inl ⟨by simp [h5], by simp [h5]⟩
    · exact .inr ⟨by simp [h5], by simp; omega⟩
  have hlen := hR.lens t hp
  rw [hwk]
  -- what there is behind some kids
  obtain ⟨F, hF0, hFs, hFn, hFe⟩ : ∃ F : Nat → α, F 0 = a ∧ (∀ i (hi : i < t.l.length), F (i + 1) = foldM g ((k + B : Nat) : Int) (F i) t.l[i]) ∧ (∀ i (hi : i < t.l.length), Good (n + nodesM t.l[i]) (F i)) ∧ F t.l.length = t.l.foldl (foldM g ((k + B : Nat) : Int)) a := by
    refine ⟨fun i => (t.l.take i).foldl (foldM g ((k + B : Nat) : Int)) a, rfl, fun i hi => ?_, fun i hi => ?_, by simp only [List.take_length]⟩
    · simp only [List.take_succ_eq_append_getElem hi, List.foldl_append, List.foldl_cons, List.foldl_nil]
    · have key : ∀ (l r : List Typ), (∀ u ∈ l, u ∈ t.l) → ∀ a, Good (n + nodesMs (l ++ r)) a → Good (n + nodesMs r) (l.foldl (foldM g ((k + B : Nat) : Int)) a) := by
        intro l r
        induction l with
        | nil => intro _ a h; exact h
        | cons x l ihl =>
          intro hm a h
          have hx := hm x (List.mem_cons_self ..)
          rw [List.foldl_cons]
          refine ihl (fun u hu => hm u (List.mem_cons_of_mem _ hu)) _ (hR.fold x (hR.kid t hp x hx) _ _ a ?_)
          rw [List.cons_append, nodesMs] at h
          exact hR.less _ _ _ (by omega) h
      have h1 := key (t.l.take i) (t.l.drop i) (fun u hu => List.mem_of_mem_take hu) a (hR.less _ _ _ (by rw [List.take_append_drop]; have := nodesM_eq t; omega) hg)
      rw [List.drop_eq_getElem_cons hi, nodesMs] at h1
      exact hR.less _ _ _ (by omega) h1
  rw [← hFe, ← hF0] at *
  have hkids : ∀ i (hi : i < t.l.length) L, DC Tryz.prog w0 79 [t.l[i].v, I ((k + B : Nat) : Int), .fn fid caps] (τ (F i) ++ X ++ L) (Same (.tup []) (τ (F (i + 1)) ++ X ++ L)) := fun i hi L => by
    have hm := List.getElem_mem hi
    have := nodesM_mem hm
    rw [hFs i hi, List.append_assoc, List.append_assoc]
    exact ih _ hm (hR.kid t hp _ hm) (k + B) n (F i) (X ++ L) (by omega) (hFn i hi)
  have hlow : ∀ x ∈ caps, V.low (M + X.length) x := fun x hx => V.low_mono (Nat.le_add_right _ _) (hR.low x hx)
  generalize hTe : (fun i => τ (F i) ++ X) = T at *
  have hTi : ∀ i, τ (F i) ++ X = T i := fun i => congrFun hTe i
  have hTl : ∀ i, (T i).length = M + X.length := fun i => by rw [← hTi]; exact hl1 _
  have hTo : ∀ i, H.ok (T i) := fun i => by rw [← hTi]; exact hokN _
  simp only [hTi] at *
  generalize M + X.length = m at *
  clear hTe hTi hl1 hokN hFe hFs hFn hwk hl0
  have hw0 : IntKind.i64.wrap ((k : Int) + (B : Int)) = ((k + B : Nat) : Int) := by rw [wrap_in] <;> omega
  have hlow4 : (∀ x, x ∈ caps → V.low (m + 1) x) ↔ True := by
    simp only [iff_true]
    exact fun x hx => V.low_mono (by omega) (hlow x hx)
  have tg0 : ∀ i x L, (T i ++ x :: L)[m]? = some x := fun i => at_g0 (hTl i)
  have tg : ∀ i k L, (T i ++ L)[m + k]? = L[k]? := fun i => at_g (hTl i)
  have ts0 : ∀ i x L, (T i ++ L).set m x = T i ++ L.set 0 x := fun i => at_s0 (hTl i)
  have ts : ∀ i k x L, (T i ++ L).set (m + k) x = T i ++ L.set k x := fun i => at_s (hTl i)
  rcases hor with ⟨k5, k6⟩ | ⟨k5, k6⟩
  all_goals clear hlf
  all_goals (
    ((try refine W.a ?_); simp only [go_sem, seval, reduceCtorEq, c79, bne, k5, k6, hTl, tg0, tg, ts0, ts])
    refine W.no rfl ?_
    ((try refine W.a ?_); simp only [go_sem, seval, reduceCtorEq, hTl, tg0, tg, ts0, ts])
    (refine W.c1 (hwi _) ?_; simp only [go_sem, seval, reduceCtorEq, hTl, tg0, tg, ts0, ts])
    refine W.loopP (fun i => i ≤ t.l.length) (fun i => ⟨(((((((base.put (some 1) (I (k : Int))).put (some 2) (.fn fid caps)).put (some 3) (.ptr m 0)).put (some 7) (I (B : Int))).put (some 27) (.c (.sl (t.l.map Typ.cs)))).put (some 28) (I (t.l.length : Int))).put (some 29) (I (i : Int))), T i ++ [.cells t.v.cellsV]⟩) (fun i => t.l.length - i) 0 (Nat.zero_le _) ?_ (fun i hi => ?_)
    · (refine Lew.env ?_; exact lee_here)
    by_cases hlt : i < t.l.length
    · have h1 : (i : Int) < (t.l.length : Int) := by omega
      have h0 : (0 : Int) ≤ (i : Int) := by omega
      have hx : t.l[i]? = some t.l[i] := List.getElem?_eq_getElem hlt
      have hw : IntKind.i64.wrap ((i : Int) + 1) = ((i + 1 : Nat) : Int) := by rw [wrap_in] <;> omega
      have hki := fun L => hkids i hlt L
      have hTo1 := hTo (i + 1)
      ((try refine W.a ?_); simp only [go_sem, seval, reduceCtorEq, h1])
      refine W.yes rfl ?_
      ((try refine W.a ?_); simp only [go_sem, seval, reduceCtorEq, h1, h0, hx, hw0, hTl, tg0, tg, ts0, ts])
      (refine W.c1 (hki _) ?_; simp only [go_sem, seval, reduceCtorEq, hTl, tg0, tg, ts0, ts])
      ((try refine W.a ?_); simp only [go_sem, seval, reduceCtorEq, hw])
      refine .inv ⟨i + 1, hlt, by omega, ?_⟩
      have e3 := hTl (i + 1)
      (refine Lew.cutL (hTo1) ?_ (by simp; omega) (by simp) ?_ ?_ ?_; exact lee_here; ((try simp only [okB, wkB, go_sem, seval, reduceCtorEq, hlow4, hTl]) <;> omega); (simp only [List.length_cons, List.length_nil, Nat.reduceAdd, List.take_succ_cons, List.take_zero, wkB, and_true]; (repeat' (refine And.intro ?_ ?_)) <;> (first | exact Blk.wk.rfl _ | exact Blk.wk.gone _ | (refine Blk.wk_cells ?_ rfl; (exact wk_here)))); (repeat' (first | exact LowE.base _ | (refine LowE.put ?_ (by first | exact .c _ | ((try simp only [okB, wkB, go_sem, seval, reduceCtorEq, hlow4, hTl]) <;> omega))))))
    obtain rfl : i = t.l.length := by omega
    have h1 : ¬ ((t.l.length : Nat) : Int) < ((t.l.length : Nat) : Int) := by omega
    have hnl := hTl t.l.length
    ((try refine W.a ?_); simp only [go_sem, seval, reduceCtorEq, h1])
    refine W.no rfl ?_
    ((try refine W.a ?_); simp only [go_sem, seval, reduceCtorEq])
    (refine W.done (Fin.sameW (hTo t.l.length) (by (first | rfl | assumption | exact List.length_set .. | simp)) (by simp only [r79, go_sem, seval, reduceCtorEq]; rfl) ?_ (by (first | exact .c _ | (simp only [go_sem, seval, reduceCtorEq]; done))) (by (first | rfl | exact (List.append_nil _).symm))); simp only [resV]; try exact V.wk.rfl _))
end
end
section
def c81 : AC := .seq (.reg [.o 4 (.mov (.k (.c (.bool false))))]) (.seq (.reg [.m 5 0,.m 6 1,.k 7 171 [(.t 5),(.t 6)],.o 8 (.bin .geq (.t 7) (.k (.c (.int .i64 0)))),.m 4 8]) (.ret))
def r81 : List ResV := [.tmp 4]
theorem k81 : CodeIs Tryz.prog 81 2 Tryz.f81 c81 r81 := .auto Tryz.func81
def c171 : AC := .seq (.reg [.o 4 (.mov (.k (.c (.int .i64 0))))]) (.seq (.seq (.reg [.m 6 0,.o 7 (.lenr (.t 6)),.o 8 (.mov (.k (.c (.int .i64 0))))]) (.block 0 (.loop (.seq (.reg [.o 9 (.bin .lss (.t 8) (.t 7))]) (.seq (.cond (.t 9) (.skip) (.exit 0)) (.seq (.block 1 (.seq (.reg [.m 10 8,.m 5 10]) (.seq (.reg [.m 11 1,.m 12 0,.m 13 5,.o 14 (.iadd 1 (.t 12) (.t 13)),.l 15 14,.o 16 (.bin .eql (.t 11) (.t 15))]) (.cond (.t 16) (.seq (.reg [.m 17 5,.m 4 17]) (.ret)) (.skip))))) (.reg [.o 18 (.bin .add (.t 8) (.k (.c (.int .i64 1)))),.m 8 18]))))))) (.seq (.reg [.o 4 (.mov (.k (.c (.int .i64 (-1)))))]) (.ret)))
def r171 : List ResV := [.tmp 4]
theorem k171 : CodeIs Tryz.prog 171 2 Tryz.f171 c171 r171 := .auto Tryz.func171
def c5 : AC := .seq (.reg [.o 4 (.box (.t 0)),.o 8 (.mov (.k (.c (.bool false))))]) (.seq (.reg [.k 19 12 [],.m 9 19]) (.seq (.seq (.reg [.m 20 9,.o 21 (.un .not (.t 20))]) (.cond (.t 21) (.seq (.reg [.o 8 (.mov (.k (.c (.bool false))))]) (.ret)) (.skip))) (.seq (.seq (.reg [.m 22 2,.o 23 (.lenr (.t 22)),.o 24 (.bin .gtr (.t 23) (.k (.c (.int .i64 6)))),.m 25 24,.z 26 (.mov (.t 3)) 25,.z 27 (.bin .lss (.t 26) (.k (.c (.int .i64 0)))) 25,.o 28 (.pick (.t 25) (.k (.c (.bool true))) (.t 27)),.m 29 28,.z 30 (.mov (.t 3)) 29,.z 31 (.bin .gtr (.t 30) (.k (.c (.int .i64 1000)))) 29,.o 32 (.pick (.t 29) (.k (.c (.bool true))) (.t 31))]) (.cond (.t 32) (.seq (.reg [.m 33 9,.m 8 33]) (.ret)) (.skip))) (.seq (.reg [.o 10 (.mov (.k (.csl [])))]) (.seq (.seq (.reg [.o 11 (.mov (.k (.c (.int .i64 0))))]) (.block 0 (.loop (.seq (.seq (.reg [.m 34 11,.m 35 2,.o 36 (.lenr (.t 35)),.o 37 (.bin .lss (.t 34) (.t 36))]) (.cond (.t 37) (.skip) (.exit 0))) (.seq (.block 1 (.seq (.dreg [.d 40 3 4,.m 41 2,.m 42 11,.o 43 (.iadd 4 (.t 41) (.t 42)),.d 44 4 43,.m 45 1,.k 46 13 [(.t 40),(.t 44),(.t 45)],.m 12 46] [.q (.d 40 3 4),.q (.m 41 2),.q (.m 42 11),.q (.o 43 (.iadd 4 (.t 41) (.t 42))),.q (.d 44 4 43),.q (.m 45 1),⟨.k 46 13 [(.t 40),(.t 44),(.t 45)],true,0⟩,⟨.m 12 46,false,1⟩]) (.seq (.reg [.m 47 2,.m 48 11,.o 49 (.iadd 4 (.t 47) (.t 48)),.d 50 4 49,.k 51 23 [(.t 50)],.m 13 51]) (.seq (.reg [.m 52 2,.m 53 11,.o 54 (.iadd 4 (.t 52) (.t 53)),.d 55 4 54,.k 56 24 [(.t 55)],.m 14 56]) (.seq (.seq (.reg [.m 57 12,.m 58 57,.z 59 (.mov (.t 13)) 58,.z 60 (.un .not (.t 59)) 58,.o 61 (.pick (.t 58) (.k (.c (.bool true))) (.t 60))]) (.cond (.t 61) (.seq (.reg [.m 62 9,.m 8 62]) (.ret)) (.skip))) (.seq (.reg [.o 15 (.mov (.k (.c (.int .i64 0))))]) (.seq (.seq (.reg [.o 16 (.mov (.k (.c (.int .i64 0))))]) (.block 2 (.loop (.seq (.seq (.reg [.m 63 16,.m 64 14,.o 65 (.lenr (.t 64)),.o 66 (.bin .lss (.t 63) (.t 65))]) (.cond (.t 66) (.skip) (.exit 2))) (.seq (.block 3 (.reg [.m 69 15,.m 70 14,.m 71 16,.o 72 (.iadd 1 (.t 70) (.t 71)),.l 73 72,.o 74 (.mx (.t 69) (.t 73)),.m 15 74])) (.reg [.m 67 16,.o 68 (.bin .add (.t 67) (.k (.c (.int .i64 1)))),.m 16 68])))))) (.seq (.seq (.reg [.m 75 15,.o 76 (.bin .gtr (.t 75) (.k (.c (.int .i64 100))))]) (.cond (.t 76) (.seq (.reg [.m 77 9,.m 8 77]) (.ret)) (.skip))) (.seq (.reg [.o 17 (.mov (.k (.csl [])))]) (.seq (.seq (.reg [.o 18 (.mov (.k (.c (.int .i64 0))))]) (.block 4 (.loop (.seq (.seq (.reg [.m 78 18,.m 79 15,.o 80 (.bin .leq (.t 78) (.t 79))]) (.cond (.t 80) (.skip) (.exit 4))) (.seq (.block 5 (.reg [.m 83 17,.m 84 3,.m 85 18,.o 86 (.bin .sub (.k (.c (.int .i64 100))) (.t 85)),.o 87 (.bin .mul (.k (.c (.int .i64 2))) (.t 86)),.o 88 (.bin .add (.t 84) (.t 87)),.o 89 (.build [.c (.int .i64 0),.c (.str []),.c (.int .i64 0),.csl []] [(0,1,(.k (.c (.int .i64 4)))),(2,1,(.t 88))]),.o 90 (.bsl 4 [(.t 89)]),.o 91 (.app 30 4 56 (.t 83) (.t 90)),.m 17 91])) (.reg [.m 81 18,.o 82 (.bin .add (.t 81) (.k (.c (.int .i64 1)))),.m 18 82])))))) (.reg [.m 92 10,.m 93 2,.m 94 11,.o 95 (.iadd 4 (.t 93) (.t 94)),.d 96 4 95,.m 97 17,.k 98 25 [(.t 96),(.t 97)],.o 99 (.bsl 4 [(.t 98)]),.o 100 (.app 30 4 56 (.t 92) (.t 99)),.m 10 100]))))))))))) (.reg [.m 38 11,.o 39 (.bin .add (.t 38) (.k (.c (.int .i64 1)))),.m 11 39])))))) (.seq (.dreg [.m 101 9,.m 102 101,.y 103 (.loadn 3 (.t 4)) 102,.y 104 (.mov (.t 1)) 102,.y 105 (.mov (.t 10)) 102,.y 106 (.call (.k (.fn 26 [])) [(.t 103),(.t 104),(.t 105)]) 102,.y 107 (.loadn 3 (.t 4)) 102,.y 108 (.mov (.t 1)) 102,.y 109 (.mov (.t 2)) 102,.y 110 (.call (.k (.fn 26 [])) [(.t 107),(.t 108),(.t 109)]) 102,.y 111 (.bin .eql (.t 106) (.t 110)) 102,.o 112 (.pick (.t 102) (.t 111) (.k (.c (.bool false)))),.m 8 112] [.q (.m 101 9),.q (.m 102 101),.q (.y 103 (.loadn 3 (.t 4)) 102),.q (.y 104 (.mov (.t 1)) 102),.q (.y 105 (.mov (.t 10)) 102),⟨.y 106 (.call (.k (.fn 26 [])) [(.t 103),(.t 104),(.t 105)]) 102,true,0⟩,.q (.y 107 (.loadn 3 (.t 4)) 102),.q (.y 108 (.mov (.t 1)) 102),.q (.y 109 (.mov (.t 2)) 102),⟨.y 110 (.call (.k (.fn 26 [])) [(.t 107),(.t 108),(.t 109)]) 102,true,1⟩,⟨.y 111 (.bin .eql (.t 106) (.t 110)) 102,false,2⟩,⟨.o 112 (.pick (.t 102) (.t 111) (.k (.c (.bool false)))),false,2⟩,⟨.m 8 112,false,2⟩]) (.ret)))))))
def r5 : List ResV := [.tmp 8]
theorem k5 : CodeIs Tryz.prog 5 4 Tryz.f5 c5 r5 := .auto Tryz.func5
end
section
section
attribute [local go_sem] intR
theorem int_index (w0 : World) (l : List Int) (k : Int) (σ : H) : DC Tryz.prog w0 171 [.c (.sl (intR l)), I k] σ (Same (I (idxI (· == k) l)) σ) := by
  refine k171.go rfl (fun hok hsz => ?_)
  have hlen : l.length ≤ 9223372036854775807 := sz_rows (hsz _ (List.mem_cons_self ..))
  ((try refine W.a ?_); simp only [go_sem, seval, reduceCtorEq, c171])
  refine W.loopP (fun i => i ≤ l.length ∧ UpTo (· == k) l i) (fun i => ⟨((((base.put (some 0) (.c (.sl (l.map fun k => [C.int .i64 k])))).put (some 1) (I k)).put (some 7) (I l.length)).put (some 8) (I (i : Nat))), σ⟩) (fun i => l.length - i) 0 ⟨Nat.zero_le _, upTo_zero⟩ ?_ (fun i hi => ?_)
  · (refine Lew.env ?_; exact lee_here)
  · obtain ⟨hi, hinv⟩ := hi
    by_cases hlt : i < l.length
    · have h1 : ((i : Int) < (l.length : Int)) := by omega
      have hx : l[i]? = some l[i] := List.getElem?_eq_getElem hlt
      have hw : IntKind.i64.wrap ((i : Int) + 1) = ((i + 1 : Nat) : Int) := wrap_next hlt hlen
      ((try refine W.a ?_); simp only [go_sem, seval, reduceCtorEq, h1])
      refine W.yes rfl ?_
      ((try refine W.a ?_); simp only [go_sem, seval, reduceCtorEq, h1, nat0, hx])
      refine W.test rfl (fun h => ?_) (fun h => ?_)
      · ((try refine W.a ?_); simp only [go_sem, seval, reduceCtorEq])
        (refine W.ret (Fin.same hok (by simp only [resEval, r171, go_sem, seval, reduceCtorEq]; rfl) ?_ (by first | exact .c _ | (simp only [go_sem, seval, reduceCtorEq]; done)) (by first | exact ⟨[], (List.append_nil _).symm⟩ | exact ⟨_, rfl⟩)); simp only [resV])
        rw [idxI_at hinv hlt (by simp only [beq_iff_eq] at h ⊢; exact h.symm)]
      · ((try refine W.a ?_); simp only [go_sem, seval, reduceCtorEq, hw])
        refine .inv ⟨i + 1, ⟨hlt, upTo_next hinv hlt (by simp only [beq_eq_false_iff_ne] at h ⊢; exact fun e => h e.symm)⟩, by omega, ?_⟩
        (refine Lew.env ?_; exact lee_here)
    · have h1 : ¬ ((i : Int) < (l.length : Int)) := by omega
      ((try refine W.a ?_); simp only [go_sem, seval, reduceCtorEq, h1])
      refine W.no rfl ?_
      ((try refine W.a ?_); simp only [go_sem, seval, reduceCtorEq])
      (refine W.ret (Fin.same hok (by simp only [resEval, r171, go_sem, seval, reduceCtorEq]; rfl) ?_ (by first | exact .c _ | (simp only [go_sem, seval, reduceCtorEq]; done)) (by first | exact ⟨[], (List.append_nil _).symm⟩ | exact ⟨_, rfl⟩)); simp only [resV])
      rw [idxI_none (fun j hj => hinv j hj (by omega))]
end
theorem int_contains (w0 : World) (l : List Int) (k : Int) (σ : H) : DC Tryz.prog w0 81 [.c (.sl (intR l)), I k] σ (Same (B (l.contains k)) σ) := by
  refine k81.go rfl (fun hok hsz => ?_)
  ((try refine W.a ?_); simp only [go_sem, seval, reduceCtorEq, c81])
  (refine W.c1 (int_index w0 l k _) ?_; simp only [go_sem, seval, reduceCtorEq])
  (refine W.fs (hok) (by simp only [r81, go_sem, seval, reduceCtorEq]; rfl) ?_; simp only [resV]; try exact V.wk.rfl _)
  rw [← bool_idx]
  exact .rfl _
def varsH (σ : H) (c : Blk) (acc : List Int) : H := σ ++ [c, .cells [.osl (σ.length + 2) (intR acc)] none, .spare 3 1 acc.length]
theorem varsH_len (σ : H) (c : Blk) (acc : List Int) : (varsH σ c acc).length = σ.length + 3 := by unfold varsH; simp
theorem varsH_ok {σ X : H} {c : Blk} {acc : List Int} (h : H.ok (varsH σ c acc ++ X)) (acc' : List Int) : H.ok (varsH σ c acc' ++ X) := by
  intro B hB cs tg hc x hx
  have hl : (varsH σ c acc' ++ X).length = (varsH σ c acc ++ X).length := by simp only [List.length_append, varsH_len]
  have hl2 : σ.length + 3 ≤ (varsH σ c acc' ++ X).length := by simp only [List.length_append, varsH_len]; omega
  unfold varsH at h hB
  rcases List.mem_append.1 hB with hB | hB
  · rcases List.mem_append.1 hB with hB | hB
    · rw [hl]; exact h B (List.mem_append_left _ (List.mem_append_left _ hB)) cs tg hc x hx
    · simp only [List.mem_cons, List.not_mem_nil, or_false] at hB
      rcases hB with hB | rfl | rfl
      · rw [hl]; exact h B (List.mem_append_left _ (List.mem_append_right _ (by rw [hB]; exact List.mem_cons_self ..))) cs tg hc x hx
      · injection hc with hc; subst hc
        simp only [List.mem_cons, List.not_mem_nil, or_false] at hx
        subst hx; exact .osl (by omega)
      · cases hc
  · rw [hl]; exact h B (List.mem_append_right _ hB) cs tg hc x hx
section
attribute [local go_sem] Typ.v Typ.cs_eq tk_mk tname_mk tn_mk tl_mk tysC varsH
theorem vars_tell (w0 : World) (σ X : H) (c : Blk) (u : Typ) (j : Nat) (acc : List Int) (hn : acc.length ≤ 4000000) : DC Tryz.prog w0 80 [u.v, I (j : Int), .ptr (σ.length + 1) 0] (varsH σ c acc ++ X) (Same (.tup []) (varsH σ c (varG acc u (j : Int)) ++ X)) := by
  refine k80.go rfl (fun hok hsz => ?_)
  have hok2 := varsH_ok hok (varG acc u (j : Int))
  have hl2 : (varsH σ c (varG acc u (j : Int)) ++ X).length = (varsH σ c acc ++ X).length := by simp only [List.length_append, varsH_len]
  unfold varG at hok2 hl2 ⊢
  by_cases h4 : u.k = 4
  · have k4 : (u.k == 4) = true := by simp [h4]
    rw [if_pos h4, iadd_if] at hok2 hl2 ⊢
    have hc := fun σ => int_contains w0 acc u.n σ
    have hb1 : (acc.length + 1) * 8 ≤ 140737488355328 := by omega
    have hb2 : acc.length + 1 ≤ 140737488355328 := by omega
    have hil := intR_len acc
    clear h4
    cases hcn : acc.contains u.n
    · rw [hcn] at hc hok2 hl2
      rw [if_neg (by simp)] at hok2 hl2 ⊢
      have hE : intR (acc ++ [u.n]) = intR acc ++ [[C.int .i64 u.n]] := by unfold intR; rw [List.map_append]; rfl
      simp only [varsH, hE, List.length_append, List.length_cons, List.length_nil, Nat.zero_add, List.append_assoc, List.cons_append, List.nil_append] at hok2 hl2 ⊢
      generalize intR acc = R at *
      ((try refine W.a ?_); simp only [go_sem, seval, reduceCtorEq, c80, k4])
      (refine W.c1w (hc _) ?_; simp only [go_sem, seval, reduceCtorEq])
      ((try refine W.a ?_); simp only [go_sem, seval, reduceCtorEq])
      refine W.yes rfl ?_
      ((try refine W.a ?_); simp only [go_sem, seval, reduceCtorEq, hb1, hb2, hil])
      (refine W.done (Fin.sameW (hok2) (by (first | rfl | assumption | exact List.length_set .. | simp)) (by simp only [r80, go_sem, seval, reduceCtorEq]; rfl) ?_ (by (first | exact .c _ | (simp only [go_sem, seval, reduceCtorEq]; done))) (by (first | (rw [List.append_assoc]; done) | (rw [List.append_assoc]; rfl)))); simp only [resV]; try exact V.wk.rfl _)
    · rw [hcn] at hc hok2 hl2
      rw [if_pos rfl] at hok2 hl2 ⊢
      simp only [varsH, List.length_append, List.length_cons, List.length_nil, Nat.zero_add, List.append_assoc, List.cons_append, List.nil_append] at hok2 hl2 ⊢
      generalize intR acc = R at *
      ((try refine W.a ?_); simp only [go_sem, seval, reduceCtorEq, c80, k4])
      (refine W.c1w (hc _) ?_; simp only [go_sem, seval, reduceCtorEq])
      ((try refine W.a ?_); simp only [go_sem, seval, reduceCtorEq])
      refine W.no rfl ?_
      ((try refine W.a ?_); simp only [go_sem, seval, reduceCtorEq])
      (refine W.done (Fin.sameW (hok2) (by (first | rfl | assumption | exact List.length_set .. | simp)) (by simp only [r80, go_sem, seval, reduceCtorEq]; rfl) ?_ (by (first | exact .c _ | (simp only [go_sem, seval, reduceCtorEq]; done))) (by (first | (rw [List.append_assoc]; done) | (rw [List.append_assoc]; rfl)))); simp only [resV]; try exact V.wk.rfl _)
  · have k4 : (u.k == 4) = false := by simp [h4]
    rw [if_neg h4] at hok2 hl2 ⊢
    clear h4
    simp only [varsH, List.length_append, List.length_cons, List.length_nil, Nat.zero_add, List.append_assoc, List.cons_append, List.nil_append] at hok2 hl2 ⊢
    ((try refine W.a ?_); simp only [go_sem, seval, reduceCtorEq, c80, k4])
    refine W.no rfl ?_
    ((try refine W.a ?_); simp only [go_sem, seval, reduceCtorEq])
    (refine W.done (Fin.sameW (hok2) (by (first | rfl | assumption | exact List.length_set .. | simp)) (by simp only [r80, go_sem, seval, reduceCtorEq]; rfl) ?_ (by (first | exact .c _ | (simp only [go_sem, seval, reduceCtorEq]; done))) (by (first | (rw [List.append_assoc]; done) | (rw [List.append_assoc]; rfl)))); simp only [resV]; try exact V.wk.rfl _)
end
theorem vars_R (w0 : World) (σ : H) (c : Blk) : TellR w0 (varsH σ c) (σ.length + 3) varG (fun n acc => acc.length + n ≤ 4000000) (fun u => nodesM u ≤ 2000000) 80 [.ptr (σ.length + 1) 0] where
  len := varsH_len σ c
  ok := fun a b X h => varsH_ok h b
  low := fun x hx => by
    simp only [List.mem_cons, List.not_mem_nil, or_false] at hx
    subst hx
    exact .ptr (by omega)
  kid := fun u h v hv => by have := nodesM_mem hv; omega
  lens := fun u h => Nat.le_trans (kids_nodes u) h
  less := fun n m a h k => by omega
  good := fun n a u j h k => by
    unfold varG
    split
    · have := (iadd_len a u.n).1
      omega
    · omega
  tell := fun n a u j X h k hj _ _ => vars_tell w0 σ X c u j a (by omega)
theorem term_Vars (w0 : World) (t : Typ) (hn : nodesM t ≤ 2000000) (σ : H) : DC Tryz.prog w0 24 [t.v] σ (Same (.c (.sl (intR (varsM t)))) σ) := by
  refine k24.go rfl (fun hok hsz => ?_)
  have hE := term_each (vars_R w0 σ (.cells t.v.cellsV)) t hn 0 0 [] [] (by omega) (by simp; omega)
  simp only [List.append_nil, varsH] at hE
  have hz : varsM t = foldM varG ((0 : Nat) : Int) [] t := rfl
  rw [hz]
  generalize foldM varG ((0 : Nat) : Int) [] t = z at *
  generalize hR : intR z = R at *
  simp only [Typ.v, intR, List.map_nil, List.length_nil, V.cellsV] at hE
  ((try refine W.a ?_); simp only [go_sem, seval, reduceCtorEq, c24, Typ.v])
  refine W.ownCell (σ.length + 1) 0 3 1 (cs := [.csl []]) (tg := none) ?_ rfl ?_
  · simp only [hget, List.getElem?_cons_succ, List.getElem?_cons_zero]
  ((try refine W.a ?_); simp only [go_sem, seval, reduceCtorEq, Typ.v])
  (refine W.c1 (hE) ?_; simp only [go_sem, seval, reduceCtorEq])
  ((try refine W.a ?_); simp only [go_sem, seval, reduceCtorEq, Typ.v])
  (refine W.fs (hok) (by simp only [r24, go_sem, seval, reduceCtorEq]; rfl) ?_; simp only [resV]; try exact V.wk.rfl _)
  all_goals (all_goals exact wk_here)
end
end Go.Proofs.YtpcmcfajfnpjeaaGreatDoor
namespace Go.Lamb
open Go Go.RowKit
/-! ### other numbers for variables, as far as they go -/
theorem mapV_nodes (f : Int → Int) (t : Typ) : nodesM (mapV f t) = nodesM t := by
  refine Typ.ind (P := fun t => nodesM (mapV f t) = nodesM t) (fun t ih => ?_) t
  rw [mapV_eq]
  split
  · rw [nodesM_mk, nodesM_eq t]
  · rw [nodesM_mk, nodesM_eq t, nodesMs_sumL, nodesMs_sumL, List.map_map]
    congr 2
    exact List.map_congr_left fun u hu => ih u hu
theorem mapV_fit {m : Int} {f : Int → Int} {p : Int → Bool} (hf : ∀ n, p n = true → -m ≤ f n ∧ f n ≤ m) (hm : m ≤ 4611686018427387904) (t : Typ) : OkT t → nearM m t = true → allV p t = true → OkT (mapV f t) ∧ nearM m (mapV f t) = true := by
  refine Typ.ind (P := fun t => OkT t → nearM m t = true → allV p t = true → OkT (mapV f t) ∧ nearM m (mapV f t) = true) (fun t ih hO hn ha => ?_) t
  have hkids := near_kids hn
  have hnode : t.k ≠ 2 → -m ≤ t.n ∧ t.n ≤ m := fun h => near_node hn h
  rw [allV_eq] at ha
  rw [mapV_eq]
  by_cases h4 : t.k = 4
  · rw [if_pos h4] at ha ⊢
    obtain ⟨f1, f2⟩ := hf _ ha
    exact ⟨.mk hO.k (by unfold inI; omega) (fun x hx => hO.mem hx), near_of (.inr (by simp only [tn_mk]; omega)) (fun u hu => hkids u hu)⟩
  · rw [if_neg h4] at ha ⊢
    have key : ∀ u ∈ t.l.map (mapV f), OkT u ∧ nearM m u = true := fun u hu => by
      obtain ⟨v, hv, rfl⟩ := List.mem_map.1 hu
      exact ih v hv (hO.mem hv) (hkids v hv) (List.all_eq_true.1 ha v hv)
    refine ⟨.mk hO.k hO.n (fun x hx => (key x hx).1), near_of ?_ (fun u hu => (key u hu).2)⟩
    by_cases hk : t.k = 2
    · exact .inl hk
    · exact .inr (hnode hk)
theorem mapV_validP {f : Int → Int} {p : Int → Bool} (hf : ∀ n, p n = true → 0 ≤ n → 0 ≤ f n ∧ f n ≤ 4611686018427387904) (t : Typ) : validM t = true → allV p t = true → validM (mapV f t) = true := by
  refine Typ.ind (P := fun t => validM t = true → allV p t = true → validM (mapV f t) = true) (fun t ih hv ha => ?_) t
  have hn := valid_node hv
  rw [allV_eq] at ha
  rw [mapV_eq]
  by_cases h4 : t.k = 4
  · rw [if_pos h4] at ha ⊢
    obtain ⟨e1, e2, _⟩ := var_parts hv h4
    unfold nodeM at hn
    simp [h4] at hn
    have := hf t.n ha hn.1.1.1
    refine valid_of ?_ (fun u hu => by rw [tl_mk, e2] at hu; cases hu)
    simp [nodeM, tk_mk, tn_mk, tl_mk, tname_mk, h4, e1, e2, this]
  · rw [if_neg h4] at ha ⊢
    refine valid_of ?_ (fun u hu => ?_)
    · unfold nodeM at hn ⊢
      simp only [tk_mk, tn_mk, tl_mk, tname_mk, List.length_map]
      have hh : ∀ d, ((t.l.map (mapV f)).headD d).k = (t.l.headD d).k := fun d => by
        cases t.l with
        | nil => rfl
        | cons a l => rw [List.map_cons, List.headD_cons, List.headD_cons, mapV_k]
      first | rw [hh]; exact hn | simpa [hh] using hn
    · rw [tl_mk] at hu
      obtain ⟨v, hv', rfl⟩ := List.mem_map.1 hu
      exact ih v hv' (valid_kids hv v hv') (List.all_eq_true.1 ha v hv')
def byF (by_ : Int) (n : Int) : Int := by_ + 2 * (100 - n)
theorem byF_inj (b : Int) : ∀ x y, byF b x = byF b y → x = y := fun x y h => by unfold byF at h; omega
def topOf (l : List Int) : Int := l.foldl (fun a x => if x > a then x else a) 0
theorem foldl_max_ge : ∀ (l : List Int) (a : Int), a ≤ l.foldl (fun a x => if x > a then x else a) a ∧ ∀ x ∈ l, x ≤ l.foldl (fun a x => if x > a then x else a) a
  | [], a => ⟨Int.le_refl _, fun x hx => by cases hx⟩
  | y :: l, a => by
    obtain ⟨h1, h2⟩ := foldl_max_ge l (if y > a then y else a)
    rw [List.foldl_cons]
    have hb : a ≤ (if y > a then y else a) ∧ y ≤ (if y > a then y else a) := by split <;> omega
    generalize (if y > a then y else a) = b at *
    refine ⟨by omega, fun x hx => ?_⟩
    rcases List.mem_cons.1 hx with rfl | hx
    · omega
    · exact h2 x hx
theorem topOf_ge (l : List Int) : 0 ≤ topOf l ∧ ∀ x ∈ l, x ≤ topOf l := foldl_max_ge l 0
def toL (b : Int) (n : Nat) : List Typ := (List.range n).map fun k => .mk 4 [] (byF b (k : Nat)) []
theorem toL_len (b : Int) (n : Nat) : (toL b n).length = n := by simp [toL]
theorem toL_get (b : Int) (n i : Nat) (hi : i < (toL b n).length) : (toL b n)[i] = .mk 4 [] (byF b (i : Nat)) [] := by simp [toL]
theorem toL_succ (b : Int) (n : Nat) : toL b (n + 1) = toL b n ++ [.mk 4 [] (byF b (n : Nat)) []] := by simp [toL, List.range_succ]
theorem inst_top (b : Int) (t : Typ) (hv : validM t = true) : instM (toL b ((topOf (varsM t)).toNat + 1)) t = mapV (byF b) t := by
  refine inst_map (fun i hi => toL_get b _ i hi) t hv ?_ 0
  refine allV_mono t (fun n hn => ?_) (varsM_all hv)
  have h := (topOf_ge (varsM t)).2 n (by simpa [List.contains_iff_mem] using hn)
  have := (topOf_ge (varsM t)).1
  rw [toL_len, decide_eq_true_eq]
  omega
theorem top_all (t : Typ) (hv : validM t = true) (h100 : topOf (varsM t) ≤ 100) : allV (fun n => decide (n ≤ 100)) t = true := by
  refine allV_mono t (fun n hn => ?_) (varsM_all hv)
  have h := (topOf_ge (varsM t)).2 n (by simpa [List.contains_iff_mem] using hn)
  rw [decide_eq_true_eq]
  omega
mutual
theorem allV_and (p q : Int → Bool) : ∀ (t : Typ), allV p t = true → allV q t = true → allV (fun n => p n && q n) t = true
  | .mk k _ n l, h1, h2 => by
    rw [allV] at h1 h2 ⊢
    split at h1
    · rename_i hk; rw [if_pos hk] at h2; rw [if_pos hk, h1, h2]; rfl
    · rename_i hk; rw [if_neg hk] at h2; rw [if_neg hk]; exact allVs_and p q l h1 h2
theorem allVs_and (p q : Int → Bool) : ∀ (l : List Typ), allVs p l = true → allVs q l = true → allVs (fun n => p n && q n) l = true
  | [], _, _ => by rw [allVs]
  | x :: l, h1, h2 => by
    rw [allVs, Bool.and_eq_true] at h1 h2 ⊢
    exact ⟨allV_and p q x h1.1 h2.1, allVs_and p q l h1.2 h2.2⟩
end
theorem allV_pos (t : Typ) : validM t = true → allV (fun n => decide (0 ≤ n)) t = true := by
  refine Typ.ind (P := fun t => validM t = true → allV (fun n => decide (0 ≤ n)) t = true) (fun t ih hv => ?_) t
  rw [allV_eq]
  split
  · rename_i h4
    exact decide_eq_true (var_parts hv h4).2.2
  · exact List.all_eq_true.2 fun u hu => ih u hu (valid_kids hv u hu)
structure ValT (b : Int) (t : Typ) : Prop where
  ok : OkT t
  valid : validM t = true
  nodes : nodesM t ≤ 60
  near : nearM 1099511627776 t = true
  top : topOf (varsM t) ≤ 100
theorem ValT.map {b : Int} {t : Typ} (h : ValT b t) (hb0 : 0 ≤ b) (hb1 : b ≤ 1000) : OkT (mapV (byF b) t) ∧ nearM 1099511627776 (mapV (byF b) t) = true ∧ nodesM (mapV (byF b) t) ≤ 60 ∧ validM (mapV (byF b) t) = true := by
  have ha := allV_and _ _ t (top_all t h.valid h.top) (allV_pos t h.valid)
  have hp : ∀ n : Int, (decide (n ≤ 100) && decide (0 ≤ n)) = true → 0 ≤ n ∧ n ≤ 100 := fun n hn => by
    rw [Bool.and_eq_true, decide_eq_true_eq, decide_eq_true_eq] at hn; omega
  obtain ⟨h1, h2⟩ := mapV_fit (m := 1099511627776) (f := byF b) (fun n hn => by have := hp n hn; unfold byF; omega) (by decide) t h.ok h.near ha
  refine ⟨h1, h2, by rw [mapV_nodes]; exact h.nodes, mapV_validP (f := byF b) (fun n hn _ => ?_) t h.valid ha⟩
  have := hp n hn
  unfold byF
  omega
end Go.Lamb
namespace Go.Proofs.YtpcmcfajfnpjeaaGreatDoor
open Go.RowKit Go.Lamb
theorem valsM_map (s : Sg) (f : Int → Int) (hf : ∀ a b, f a = f b → a = b) : ∀ (names : List Str) (l : List Typ) (met : List Int), (∀ t ∈ l, validM t = true ∧ validM (mapV f t) = true) → valsM s (met.map f) names (l.map (mapV f)) = valsM s met names l
  | [], l, met, _ => by
    cases l <;> (unfold valsM; rfl)
  | nm :: names, [], met, _ => by unfold valsM; rfl
  | nm :: names, t :: l, met, h => by
    obtain ⟨h1, h2⟩ := h t (List.mem_cons_self ..)
    rw [List.map_cons, valsM, valsM, metN_map hf t h1 h2]
    simp only
    rw [valsM_map s f hf names l _ (fun u hu => h u (List.mem_cons_of_mem _ hu))]
end Go.Proofs.YtpcmcfajfnpjeaaGreatDoor
namespace Go.Proofs.YtpcmcfajfnpjeaaGreatDoor
open Go.RowKit Go.Lamb
attribute [local go_sem] advO_skip advO_reg advO_seq advO_block advO_exit advO_endb advO_opsNil advO_ops advG_yes advG_no advG_none advS_some advS_none advO_cond advO_loop advO_dreg advO_ret advO_bad advO_inv advO_nil advO_zero wantedV Lamb.step ev_t ev_k put_some put_none argEnv popTo cellsAt V.cellsV V.rows V.sub V.toC toCs fillV bytesC byteRows appV rowsV boundV boundL binV binInt binStr eqC eqL V.isNil leaves V.leaf Ins.quiet Ins.pure List.getD_cons_zero List.getD_cons_succ List.getD_nil List.all_cons List.all_nil List.length_cons List.length_nil List.take_succ_cons List.take_zero List.drop_succ_cons List.drop_zero List.cons_append List.nil_append List.append_nil List.append_assoc List.map_cons List.map_nil List.getElem?_cons_zero List.getElem?_cons_succ List.length_append List.length_set hget0 hget hset0 hset hsets hgs0 hgs hss0 hss List.set_cons_zero List.set_cons_succ List.forall_mem_cons List.not_mem_nil false_implies implies_true Option.map_some Bool.and_true Bool.true_and Bool.not_not Bool.not_true Bool.not_false Bool.and_self Bool.or_true Bool.true_or Bool.or_false Bool.false_or Bool.and_false Bool.false_and Bool.false_eq_true beq_self_eq_true and_self and_true true_and if_true if_false Nat.zero_add Nat.add_zero Nat.le_refl Int.toNat_natCast decide_true decide_false beq_t beq_f List.length_map List.getElem?_map I S B opsC toksC OpT.v OpT.cs OpT.zero Tok.v Tok.cs Pre.v Pre.cs_eq k_mk name_mk n_mk l_mk pos_mk Pre.app applyL natCast0 natCast1 natCast2 AOp.o AOp.m AOp.f AOp.l AOp.d AOp.n AOp.x AOp.s AOp.k AOp.y AOp.z EOp.q low_c low_void low_any low_csl low_nilf low_ptr low_osl low_agg low_tup low_fn resEval advPO_nil advPO_loud advPO_quiet pL_yes pL_no pLS_some pLS_none pQ_yes pQ_no pQS_some pQS_loud eq_self Nat.sub_zero
attribute [local go_sem] Sg.v Typ.v Typ.cs_eq tk_mk tname_mk tn_mk tl_mk kdsC nmsC opsC tysC
theorem topOf_take {l : List Int} {i : Nat} (hi : i < l.length) : topOf (l.take (i + 1)) = if l[i] > topOf (l.take i) then l[i] else topOf (l.take i) := by
  unfold topOf
  rw [List.take_succ_eq_append_getElem hi, List.foldl_append]
  rfl
theorem takenT_less {s : Sg} {vars : List Str} (h : (takenT s vars).length ≤ 900000) : (takenT s []).length ≤ 900000 := by
  unfold takenT at *
  simp only [List.length_append, List.length_nil] at *
  omega
theorem law14_PrettyValues {w0 : World} (hG : Glob w0) (hwk : ∀ σ, DC Tryz.prog w0 12 [] σ (Same (B true) σ)) (s : Sg) (names : List Str) (l : List Typ) (by_ : Int) (hO : ∀ t ∈ l, OkT t) (hN : ∀ t ∈ l, nodesM t ≤ 2000000) (σ : H) : DC Tryz.prog w0 5 [s.v, .c (.sl (strsR names)), .c (tysC l), I by_] σ (Same (B true) σ) := by
  refine k5.go rfl (fun hok hsz => ?_)
  by_cases h6 : (l.length : Int) > 6
  · ((try refine W.a ?_); simp only [go_sem, seval, reduceCtorEq, c5])
    (refine W.c1 (hwk _) ?_; simp only [go_sem, seval, reduceCtorEq])
    ((try refine W.a ?_); simp only [go_sem, seval, reduceCtorEq])
    refine W.no rfl ?_
    ((try refine W.a ?_); simp only [go_sem, seval, reduceCtorEq, h6])
    refine W.yes rfl ?_
    ((try refine W.a ?_); simp only [go_sem, seval, reduceCtorEq])
    (refine W.fs (hok) (by simp only [r5, go_sem, seval, reduceCtorEq]; rfl) ?_; simp only [resV]; try exact V.wk.rfl _)
  by_cases hb0 : by_ < 0
  · ((try refine W.a ?_); simp only [go_sem, seval, reduceCtorEq, c5])
    (refine W.c1 (hwk _) ?_; simp only [go_sem, seval, reduceCtorEq])
    ((try refine W.a ?_); simp only [go_sem, seval, reduceCtorEq])
    refine W.no rfl ?_
    ((try refine W.a ?_); simp only [go_sem, seval, reduceCtorEq, h6, hb0])
    refine W.yes rfl ?_
    ((try refine W.a ?_); simp only [go_sem, seval, reduceCtorEq])
    (refine W.fs (hok) (by simp only [r5, go_sem, seval, reduceCtorEq]; rfl) ?_; simp only [resV]; try exact V.wk.rfl _)
  by_cases hb1 : by_ > 1000
  · ((try refine W.a ?_); simp only [go_sem, seval, reduceCtorEq, c5])
    (refine W.c1 (hwk _) ?_; simp only [go_sem, seval, reduceCtorEq])
    ((try refine W.a ?_); simp only [go_sem, seval, reduceCtorEq])
    refine W.no rfl ?_
    ((try refine W.a ?_); simp only [go_sem, seval, reduceCtorEq, h6, hb0, hb1])
    refine W.yes rfl ?_
    ((try refine W.a ?_); simp only [go_sem, seval, reduceCtorEq])
    (refine W.fs (hok) (by simp only [r5, go_sem, seval, reduceCtorEq]; rfl) ?_; simp only [resV]; try exact V.wk.rfl _)
  ((try refine W.a ?_); simp only [go_sem, seval, reduceCtorEq, c5])
  (refine W.c1 (hwk _) ?_; simp only [go_sem, seval, reduceCtorEq])
  ((try refine W.a ?_); simp only [go_sem, seval, reduceCtorEq])
  refine W.no rfl ?_
  ((try refine W.a ?_); simp only [go_sem, seval, reduceCtorEq, h6, hb0, hb1])
  refine W.no rfl ?_
  ((try refine W.a ?_); simp only [go_sem, seval, reduceCtorEq])
  refine W.own 10 30 4 rfl ?_
  refine W.loopP (fun i => i ≤ l.length ∧ (∀ j (hj : j < l.length), j < i → ValT by_ l[j]) ∧ (0 < i → (takenT s []).length ≤ 900000 ∧ ∀ x ∈ names, x.length ≤ 100)) (fun i => ⟨(((((((base.put (some 1) (.c (.sl (strsR names)))).put (some 2) (.c (.sl (l.map Typ.cs)))).put (some 3) (I by_)).put (some 4) (.ptr σ.length 0)).put (some 9) (B true)).put (some 10) (.osl (σ.length + 1) (((l.take i).map (mapV (byF by_))).map Typ.cs))).put (some 11) (I (i : Int))), σ ++ [.cells s.v.cellsV, .spare 30 4 i]⟩) (fun i => l.length - i) 0 ⟨Nat.zero_le _, fun j _ hj => absurd hj (Nat.not_lt_zero _), fun h => absurd h (Nat.lt_irrefl _)⟩ ?_ (fun i hi => ?_)
  · simp only [List.take_zero, List.map_nil]
    simp only [go_sem, seval, reduceCtorEq, natCast0]
    (refine Lew.env ?_; exact lee_here)
  obtain ⟨hi, hval, htk⟩ := hi
  by_cases hlt : i < l.length
  · have h1 : (i : Int) < (l.length : Int) := by omega
    have h0 : (0 : Int) ≤ (i : Int) := by omega
    have hx : l[i]? = some l[i] := List.getElem?_eq_getElem hlt
    have hw : IntKind.i64.wrap ((i : Int) + 1) = ((i + 1 : Nat) : Int) := by rw [wrap_in] <;> omega
    have hm := List.getElem_mem hlt
    have ho := fun σ => law14_over w0 s l[i] names σ
    have hV := fun σ => term_Valid w0 l[i] σ
    have hVs := fun σ => term_Vars w0 l[i] (hN _ hm) σ
    cases hv : overM s l[i] names
    · obtain ⟨g1, g2, g3, g4, _⟩ := overM_no hv
      cases hq : validM l[i]
      · rw [hv] at ho
        rw [hq] at hV
        ((try refine W.a ?_); simp only [go_sem, seval, reduceCtorEq, h1])
        refine W.yes rfl ?_
        ((try refine W.a ?_); simp only [go_sem, seval, reduceCtorEq])
        apply W.dreg
        case hc =>
          (apply Canon.advCO; simp only [advCO_nil, advCO_cons, cG_yes, cG_no, cS_some, cS_loud, go_sem, seval, reduceCtorEq, h1, h0, hx])
          (apply Canon.call (ho _); (case hg => rfl); (case hf => rfl); (case ha => first | rfl | simp))
          (apply Canon.advCO; simp only [advCO_nil, advCO_cons, cG_yes, cG_no, cS_some, cS_loud, go_sem, seval, reduceCtorEq])
          exact Canon.nil
        ((try refine W.a ?_); simp only [go_sem, seval, reduceCtorEq, h1, h0, hx])
        (refine W.c1 (hV _) ?_; simp only [go_sem, seval, reduceCtorEq])
        ((try refine W.a ?_); simp only [go_sem, seval, reduceCtorEq, h1, h0, hx])
        (refine W.c1 (hVs _) ?_; simp only [go_sem, seval, reduceCtorEq])
        ((try refine W.a ?_); simp only [go_sem, seval, reduceCtorEq])
        refine W.yes rfl ?_
        ((try refine W.a ?_); simp only [go_sem, seval, reduceCtorEq])
        (refine W.fs (hok) (by simp only [r5, go_sem, seval, reduceCtorEq]; rfl) ?_; simp only [resV]; try exact V.wk.rfl _)
      · rw [hv] at ho
        rw [hq] at hV
        have hlv : (intR (varsM l[i])).length = (varsM l[i]).length := intR_len _
        obtain ⟨vs, hvs⟩ : ∃ vs, vs = varsM l[i] := ⟨_, rfl⟩
        have hvl : vs.length ≤ 100000 := by
          have := varsM_len l[i] 0 []
          rw [hvs]
          unfold varsM
          simp only [List.length_nil] at this
          omega
        rw [← hvs] at hVs hlv
        ((try refine W.a ?_); simp only [go_sem, seval, reduceCtorEq, h1])
        refine W.yes rfl ?_
        ((try refine W.a ?_); simp only [go_sem, seval, reduceCtorEq])
        apply W.dreg
        case hc =>
          (apply Canon.advCO; simp only [advCO_nil, advCO_cons, cG_yes, cG_no, cS_some, cS_loud, go_sem, seval, reduceCtorEq, h1, h0, hx])
          (apply Canon.call (ho _); (case hg => rfl); (case hf => rfl); (case ha => first | rfl | simp))
          (apply Canon.advCO; simp only [advCO_nil, advCO_cons, cG_yes, cG_no, cS_some, cS_loud, go_sem, seval, reduceCtorEq])
          exact Canon.nil
        ((try refine W.a ?_); simp only [go_sem, seval, reduceCtorEq, h1, h0, hx])
        (refine W.c1 (hV _) ?_; simp only [go_sem, seval, reduceCtorEq])
        ((try refine W.a ?_); simp only [go_sem, seval, reduceCtorEq, h1, h0, hx])
        (refine W.c1 (hVs _) ?_; simp only [go_sem, seval, reduceCtorEq])
        ((try refine W.a ?_); simp only [go_sem, seval, reduceCtorEq])
        refine W.no rfl ?_
        ((try refine W.a ?_); simp only [go_sem, seval, reduceCtorEq])
        refine W.loopP (fun k => k ≤ vs.length) (fun k => ⟨((((((((((base.put (some 1) (.c (.sl (strsR names)))).put (some 2) (.c (.sl (l.map Typ.cs)))).put (some 3) (I by_)).put (some 4) (.ptr σ.length 0)).put (some 9) (B true)).put (some 10) (.osl (σ.length + 1) (((l.take i).map (mapV (byF by_))).map Typ.cs))).put (some 11) (I (i : Int))).put (some 14) (.c (.sl (intR vs)))).put (some 15) (I (topOf (vs.take k)))).put (some 16) (I (k : Int))), σ ++ [.cells s.v.cellsV, .spare 30 4 i]⟩) (fun k => vs.length - k) 0 (Nat.zero_le _) ?_ (fun k hk => ?_)
        · (refine Lew.env ?_; exact lee_here)
        by_cases hkl : k < vs.length
        · have k1 : (k : Int) < (vs.length : Int) := by omega
          have k0 : (0 : Int) ≤ (k : Int) := by omega
          have kx : (intR vs)[k]? = some [C.int .i64 vs[k]] := by unfold intR; rw [List.getElem?_map, List.getElem?_eq_getElem hkl]; rfl
          have kw : IntKind.i64.wrap ((k : Int) + 1) = ((k + 1 : Nat) : Int) := by rw [wrap_in] <;> omega
          have kt := topOf_take hkl
          ((try refine W.a ?_); simp only [go_sem, seval, reduceCtorEq, k1, hlv])
          refine W.yes rfl ?_
          ((try refine W.a ?_); simp only [go_sem, seval, reduceCtorEq, k1, k0, kx, kw, hlv])
          refine .inv ⟨k + 1, hkl, by omega, ?_⟩
          rw [kt]
          (refine Lew.env ?_; exact lee_here)
        obtain rfl : k = vs.length := by omega
        have k1 : ¬ ((vs.length : Nat) : Int) < ((vs.length : Nat) : Int) := by omega
        rw [List.take_length]
        by_cases ht : topOf vs > 100
        · ((try refine W.a ?_); simp only [go_sem, seval, reduceCtorEq, k1, hlv])
          refine W.no rfl ?_
          ((try refine W.a ?_); simp only [go_sem, seval, reduceCtorEq, ht])
          refine W.yes rfl ?_
          ((try refine W.a ?_); simp only [go_sem, seval, reduceCtorEq])
          (refine W.fs (hok) (by simp only [r5, go_sem, seval, reduceCtorEq]; rfl) ?_; simp only [resV]; try exact V.wk.rfl _)
        obtain ⟨tp, htp⟩ : ∃ tp : Nat, topOf vs = (tp : Int) := ⟨(topOf vs).toNat, by have := (topOf_ge vs).1; omega⟩
        have hVT : ValT by_ l[i] := ⟨hO _ hm, hq, g3, g4, by rw [← hvs]; omega⟩
        have htp100 : tp ≤ 100 := by omega
        have hin := inst_top by_ l[i] hq
        rw [← hvs, htp, Int.toNat_natCast] at hin
        rw [htp] at ht ⊢
        ((try refine W.a ?_); simp only [go_sem, seval, reduceCtorEq, k1, hlv])
        refine W.no rfl ?_
        ((try refine W.a ?_); simp only [go_sem, seval, reduceCtorEq, ht])
        refine W.no rfl ?_
        ((try refine W.a ?_); simp only [go_sem, seval, reduceCtorEq])
        refine W.own 17 30 4 rfl ?_
        refine W.loopP (fun k => k ≤ tp + 1) (fun k => ⟨((((((((((base.put (some 1) (.c (.sl (strsR names)))).put (some 2) (.c (.sl (l.map Typ.cs)))).put (some 3) (I by_)).put (some 4) (.ptr σ.length 0)).put (some 9) (B true)).put (some 10) (.osl (σ.length + 1) (((l.take i).map (mapV (byF by_))).map Typ.cs))).put (some 11) (I (i : Int))).put (some 15) (I (tp : Int))).put (some 17) (.osl (σ.length + 2) ((toL by_ k).map Typ.cs))).put (some 18) (I (k : Int))), σ ++ [.cells s.v.cellsV, .spare 30 4 i, .spare 30 4 k]⟩) (fun k => tp + 1 - k) 0 (Nat.zero_le _) ?_ (fun k hk => ?_)
        · simp only [toL, List.range_zero, List.map_nil]
          simp only [go_sem, seval, reduceCtorEq, natCast0]
          (refine Lew.env ?_; exact lee_here)
        by_cases hkl : k ≤ tp
        · have k1 : (k : Int) ≤ (tp : Int) := by omega
          have kw : IntKind.i64.wrap ((k : Int) + 1) = ((k + 1 : Nat) : Int) := by rw [wrap_in] <;> omega
          have kw1 : IntKind.i64.wrap (100 - (k : Int)) = 100 - (k : Int) := by rw [wrap_in] <;> omega
          have kw2 : IntKind.i64.wrap (2 * (100 - (k : Int))) = 2 * (100 - (k : Int)) := by rw [wrap_in] <;> omega
          have kw3 : IntKind.i64.wrap (by_ + 2 * (100 - (k : Int))) = byF by_ (k : Int) := by rw [wrap_in]; rfl; omega; omega
          have kl : (toL by_ k).length = k := toL_len by_ k
          have kb1 : (k + 1) * 56 ≤ 140737488355328 := by omega
          have kb2 : k + 1 ≤ 140737488355328 := by omega
          have kE : (toL by_ (k + 1)).map Typ.cs = (toL by_ k).map Typ.cs ++ [[C.int .i64 4, C.str [], C.int .i64 (byF by_ (k : Int)), C.sl []]] := by
            rw [toL_succ, List.map_append, List.map_cons, List.map_nil, Typ.cs_eq]
            rfl
          ((try refine W.a ?_); simp only [go_sem, seval, reduceCtorEq, k1])
          refine W.yes rfl ?_
          ((try refine W.a ?_); simp only [go_sem, seval, reduceCtorEq, k1, kw, kw1, kw2, kw3, kl, kb1, kb2])
          refine .inv ⟨k + 1, by omega, by omega, ?_⟩
          rw [kE]
          (refine Lew.env ?_; exact lee_here)
        obtain rfl : k = tp + 1 := by omega
        have k1 : ¬ ((tp + 1 : Nat) : Int) ≤ (tp : Int) := by omega
        have hI := fun σ => term_Inst w0 l[i] (toL by_ (tp + 1)) 1 (Nat.le_refl _) (fun u hu => by
          obtain ⟨j, hj, rfl⟩ := List.getElem_of_mem hu
          rw [toL_get]
          rw [toL_len] at hj
          refine ⟨near_of (.inr (by simp only [tn_mk, byF]; omega)) (fun u hu => by cases hu), ?_⟩
          rw [nodesM_mk, nodesMs]; decide) (by decide) (by omega) (by omega) σ
        rw [hin] at hI
        have hl6 : l.length ≤ 6 := by omega
        have hlm : (((l.take i).map (mapV (byF by_))).map Typ.cs).length = i := by simp; omega
        have hb1 : (i + 1) * 56 ≤ 140737488355328 := by omega
        have hb2 : i + 1 ≤ 140737488355328 := by omega
        have hb3 : i ≤ 140737488355327 := by omega
        have hE : ((l.take (i + 1)).map (mapV (byF by_))).map Typ.cs = ((l.take i).map (mapV (byF by_))).map Typ.cs ++ [(mapV (byF by_) l[i]).cs] := by
          rw [List.take_succ_eq_append_getElem hlt]
          simp only [List.map_append, List.map_cons, List.map_nil]
        rw [Typ.cs_eq] at hE
        generalize mapV (byF by_) l[i] = z at *
        generalize hmr : ((l.take i).map (mapV (byF by_))).map Typ.cs = mr at *
        ((try refine W.a ?_); simp only [go_sem, seval, reduceCtorEq, k1])
        refine W.no rfl ?_
        ((try refine W.a ?_); simp only [go_sem, seval, reduceCtorEq, h1, h0, hx])
        (refine W.c1w (hI _) ?_; simp only [go_sem, seval, reduceCtorEq])
        ((try refine W.a ?_); simp only [go_sem, seval, reduceCtorEq, hlm, hb1, hb2, hb3, hw])
        refine .inv ⟨i + 1, ⟨hlt, fun j hj hji => ?_, fun _ => ⟨takenT_less g1, g2⟩⟩, by omega, ?_⟩
        · rcases Nat.lt_or_ge j i with h | h
          · exact hval j hj h
          · obtain rfl : j = i := by omega
            exact hVT
        · rw [hE]
          (refine Lew.cutL (hok) ?_ (by simp) (by simp) ?_ ?_ ?_; exact lee_here; ((try simp only [okB, wkB, go_sem, seval, reduceCtorEq, strsR, low_mp]) <;> omega); (simp only [List.length_cons, List.length_nil, Nat.reduceAdd, List.take_succ_cons, List.take_zero, wkB, and_true]; (repeat' (refine And.intro ?_ ?_)) <;> (first | exact Blk.wk.rfl _ | exact Blk.wk.gone _ | (refine Blk.wk_cells ?_ rfl; (exact wk_here)))); (repeat' (first | exact LowE.base _ | (refine LowE.put ?_ (by first | exact .c _ | ((try simp only [okB, wkB, go_sem, seval, reduceCtorEq, strsR, low_mp]) <;> omega))))))
    · rw [hv] at ho
      ((try refine W.a ?_); simp only [go_sem, seval, reduceCtorEq, h1])
      refine W.yes rfl ?_
      ((try refine W.a ?_); simp only [go_sem, seval, reduceCtorEq])
      apply W.dreg
      case hc =>
        (apply Canon.advCO; simp only [advCO_nil, advCO_cons, cG_yes, cG_no, cS_some, cS_loud, go_sem, seval, reduceCtorEq, h1, h0, hx])
        (apply Canon.call (ho _); (case hg => rfl); (case hf => rfl); (case ha => first | rfl | simp))
        (apply Canon.advCO; simp only [advCO_nil, advCO_cons, cG_yes, cG_no, cS_some, cS_loud, go_sem, seval, reduceCtorEq])
        exact Canon.nil
      ((try refine W.a ?_); simp only [go_sem, seval, reduceCtorEq, h1, h0, hx])
      (refine W.c1 (hV _) ?_; simp only [go_sem, seval, reduceCtorEq])
      ((try refine W.a ?_); simp only [go_sem, seval, reduceCtorEq, h1, h0, hx])
      (refine W.c1 (hVs _) ?_; simp only [go_sem, seval, reduceCtorEq])
      ((try refine W.a ?_); simp only [go_sem, seval, reduceCtorEq])
      refine W.yes rfl ?_
      ((try refine W.a ?_); simp only [go_sem, seval, reduceCtorEq])
      (refine W.fs (hok) (by simp only [r5, go_sem, seval, reduceCtorEq]; rfl) ?_; simp only [resV]; try exact V.wk.rfl _)
  obtain rfl : i = l.length := by omega
  have h1 : ¬ ((l.length : Nat) : Int) < ((l.length : Nat) : Int) := by omega
  have hall : ∀ t ∈ l, ValT by_ t := fun t ht => by
    obtain ⟨j, hj, rfl⟩ := List.getElem_of_mem ht
    exact hval j hj hj
  rw [List.take_length]
  have hl6 : l.length ≤ 6 := by omega
  have hfit : 0 < l.length → (takenT s []).length ≤ 900000 ∧ ∀ x ∈ names, x.length ≤ 100 := htk
  have hA := fun σ => pretty_Values hG s names l (fun h => hfit (List.length_pos_iff.2 h)) (fun t ht => ⟨(hall t ht).ok, (hall t ht).near, (hall t ht).nodes⟩) hl6 σ
  have hB := fun σ => pretty_Values hG s names (l.map (mapV (byF by_))) (fun h => hfit (List.length_pos_iff.2 (fun e => h (by rw [e]; rfl)))) (fun t ht => by
    obtain ⟨u, hu, rfl⟩ := List.mem_map.1 ht
    obtain ⟨a, b, c, _⟩ := (hall u hu).map (by omega) (by omega)
    exact ⟨a, b, c⟩) (by rw [List.length_map]; exact hl6) σ
  have hEq : valsM s [] names (l.map (mapV (byF by_))) = valsM s [] names l := by
    have := valsM_map s (byF by_) (byF_inj by_) names l [] (fun t ht => ⟨(hall t ht).valid, ((hall t ht).map (by omega) (by omega)).2.2.2⟩)
    simpa using this
  rw [hEq] at hB
  generalize valsM s [] names l = x at *
  generalize l.map (mapV (byF by_)) = m at *
  ((try refine W.a ?_); simp only [go_sem, seval, reduceCtorEq, h1])
  refine W.no rfl ?_
  ((try refine W.a ?_); simp only [go_sem, seval, reduceCtorEq])
  apply W.dregE (List.cons_ne_nil _ _)
  case hc =>
    (apply CanonE.advPO; simp only [go_sem, seval, reduceCtorEq])
    (apply CanonE.callw (hB _); (case hg => rfl); (case hf => rfl); (case ha => rfl); (case hw => ((exact wk_here))))
    (apply CanonE.advPO; simp only [go_sem, seval, reduceCtorEq])
    (apply CanonE.call (hA _); (case hg => rfl); (case hf => rfl); (case ha => first | rfl | simp))
    (apply CanonE.advPO; simp only [go_sem, seval, reduceCtorEq])
    exact CanonE.nil
  ((try refine W.a ?_); simp only [go_sem, seval, reduceCtorEq])
  (refine W.fs (hok) (by simp only [r5, go_sem, seval, reduceCtorEq]; rfl) ?_; simp only [resV]; try exact V.wk.rfl _)
end Go.Proofs.YtpcmcfajfnpjeaaGreatDoor
namespace Go.Proofs.YtpcmcfajfnpjeaaGreatDoor
open Go.RowKit Go.Lamb
theorem law14_PrettyValuesW {w0 : World} (hG : Glob w0) (s : Sg) (names : List Str) (l : List Typ) (hO : ∀ t ∈ l, OkT t) (hN : ∀ t ∈ l, nodesM t ≤ 2000000) (by_ : Int) (σ : H) : DC Tryz.prog w0 5 [s.v, .c (.sl (strsR names)), .c (tysC l), I by_] σ (Same (B true) σ) := law14_PrettyValues hG (works14 hG) s names l by_ hO hN σ
end Go.Proofs.YtpcmcfajfnpjeaaGreatDoor
namespace Go.Lamb
open Go Go.RowKit
theorem goes_no {P : Program} (h : P.funcs.any Func.goes = false) (f : FuncId) : P.goes f = false := by
  unfold Program.goes
  rw [h, Bool.and_false, Bool.or_false, List.any_eq_false]
  intro g _ hg
  cases hf : P.funcs[g]? with
  | none => rw [hf] at hg; cases hg
  | some fn =>
    rw [hf] at hg
    have hg : fn.goes = true := by simpa using hg
    obtain ⟨hlt, e⟩ := Array.getElem?_eq_some_iff.1 hf
    rw [Array.any_eq_false] at h
    have := h g hlt
    rw [e, hg] at this
    exact absurd rfl this
theorem goesBy_no {P : Program} (h : P.funcs.any Func.goes = false) {c : OpenClaim} (hs : c.start = .entering) : false = c.goesBy P := by
  unfold OpenClaim.goesBy Program.goesAt Program.goesFrom
  rw [hs]
  cases P.funcNamed c.func with
  | none => rfl
  | some f => simp [goes_no h f]
end Go.Lamb
namespace Go.Proofs.YtpcmcfajfnpjeaaGreatDoor
open Go.RowKit Go.Lamb
theorem nogo : Tryz.pinned.checked.prog.funcs.any Func.goes = false := by kernel_rfl
end Go.Proofs.YtpcmcfajfnpjeaaGreatDoor

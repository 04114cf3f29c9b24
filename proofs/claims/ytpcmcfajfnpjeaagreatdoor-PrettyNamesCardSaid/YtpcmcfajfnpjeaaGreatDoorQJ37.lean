/-
  Walks: the names of binders, told one after the other.
  Walks: the next name of a binder.
  Walks: a term as a tree.
  Walks: how many types and variables there are in a type.
  Walks: a type with others in the place of variables (ty.replace), whatever the function that tells them.
  Walks: an abstraction as a tree.
  Walks: an application as a tree; a term as a tree.
  The code of some functions, without addresses.
  The code of some functions, without addresses.
  Walks: the document's answer: what is neither an abstraction nor an application.
  Walks: the document's answer: a tree as a text.
  Walks: a term as a tree and as a text, of the program and of the document.
  Walks: pretty.Tree, pretty.Text, and the document's text.
  Walks: is a signature, a term, or are names more than is looked at (law14.over)?
  Walks: the statement PrettyTexts.
  Walks: the statement PrettyNames.
  The document's examples of layer 14 hold; the statements PrettyTexts and PrettyNames.
  Plain: a program none of whose functions starts a goroutine: none of its calls does.
-/
import Derived.Test.YtpcmcfajfnpjeaaGreatDoorQJ35
import Derived.Test.YtpcmcfajfnpjeaaGreatDoorQJ36
import Derived.Test.YtpcmcfajfnpjeaaGreatDoorQJ14
import Derived.Test.YtpcmcfajfnpjeaaGreatDoorChecked
import Derived.Lib.ItoaMem
import Derived.Test.YtpcmcfajfnpjeaaGreatDoorQLexRow
set_option linter.unusedSimpArgs false
set_option linter.unusedVariables false
set_option maxHeartbeats 8000000
set_option maxRecDepth 20000
namespace Go.Lamb
open Go Go.RowKit
noncomputable def nmsOf (s : Sg) (vars : List Str) (N : Nat) : List Str := (List.range N).map (nameM s vars)
theorem nmsOf_succ (s : Sg) (vars : List Str) (N : Nat) : nmsOf s vars (N + 1) = nmsOf s vars N ++ [nameM s vars N] := by simp [nmsOf, List.range_succ]
theorem nmsOf_len (s : Sg) (vars : List Str) (N : Nat) : (nmsOf s vars N).length = N := by simp [nmsOf]
theorem nmsOf_get (s : Sg) (vars : List Str) {N i : Nat} (h : i < N) : (nmsOf s vars N)[i]? = some (nameM s vars i) := by simp [nmsOf, h]
noncomputable def cntOf (s : Sg) (vars : List Str) (N : Nat) : Nat := if N = 0 then 0 else numAt s vars (N - 1) + 1
def Tried (s : Sg) (vars : List Str) (N c : Nat) : Prop := cntN (tkX s vars) c = N
theorem tried_cnt (s : Sg) (vars : List Str) (N : Nat) : Tried s vars N (cntOf s vars N) := by
  unfold Tried cntOf
  split
  · rename_i h; subst h; rfl
  · rename_i h
    have := numAt_at s vars (N - 1)
    rw [cntN, if_neg (by rw [this.1]; simp), this.2]
    omega
theorem tried_le {s : Sg} {vars : List Str} {N c i : Nat} (h : Tried s vars N c) (hi : N ≤ i) : c ≤ numAt s vars i := by
  have h1 := numAt_at s vars i
  rcases Nat.lt_or_ge (numAt s vars i) c with hl | hl
  · have h2 := cntN_le (tkX s vars) (show numAt s vars i + 1 ≤ c from hl)
    rw [cntN, if_neg (by rw [h1.1]; simp), h1.2] at h2
    unfold Tried at h
    omega
  · exact hl
theorem tried_free {s : Sg} {vars : List Str} {N c : Nat} (h : Tried s vars N c) (hf : tkX s vars (c + 1) = false) : numAt s vars N = c ∧ Tried s vars (N + 1) (c + 1) ∧ cntOf s vars (N + 1) = c + 1 := by
  have h1 : numAt s vars N = c := nameAt_one (numAt_at s vars N) ⟨hf, h⟩
  refine ⟨h1, ?_, ?_⟩
  · unfold Tried at h ⊢
    rw [cntN, if_neg (by rw [hf]; simp), h]
  · unfold cntOf
    rw [if_neg (by omega), Nat.add_sub_cancel, h1]
theorem tried_taken {s : Sg} {vars : List Str} {N c : Nat} (h : Tried s vars N c) (hf : tkX s vars (c + 1) = true) : Tried s vars N (c + 1) := by
  unfold Tried at h ⊢
  rw [cntN, if_pos hf, h]; rfl
end Go.Lamb
namespace Go.Proofs.YtpcmcfajfnpjeaaGreatDoor
open Go.RowKit Go.Lamb
attribute [local go_sem] advO_skip advO_reg advO_seq advO_block advO_exit advO_endb advO_opsNil advO_ops advG_yes advG_no advG_none advS_some advS_none advO_cond advO_loop advO_dreg advO_ret advO_bad advO_inv advO_nil advO_zero wantedV Lamb.step ev_t ev_k put_some put_none argEnv popTo cellsAt V.cellsV V.rows V.sub V.toC toCs fillV bytesC byteRows appV rowsV boundV boundL binV binInt binStr eqC eqL V.isNil leaves V.leaf Ins.quiet Ins.pure List.getD_cons_zero List.getD_cons_succ List.getD_nil List.all_cons List.all_nil List.length_cons List.length_nil List.take_succ_cons List.take_zero List.drop_succ_cons List.drop_zero List.cons_append List.nil_append List.append_nil List.append_assoc List.map_cons List.map_nil List.getElem?_cons_zero List.getElem?_cons_succ List.length_append List.length_set hget0 hget hset0 hset hsets hgs0 hgs hss0 hss List.set_cons_zero List.set_cons_succ List.forall_mem_cons List.not_mem_nil false_implies implies_true Option.map_some Bool.and_true Bool.true_and Bool.not_not Bool.not_true Bool.not_false Bool.and_self Bool.or_true Bool.true_or Bool.or_false Bool.false_or Bool.and_false Bool.false_and Bool.false_eq_true beq_self_eq_true and_self and_true true_and if_true if_false Nat.zero_add Nat.add_zero Nat.le_refl Int.toNat_natCast decide_true decide_false beq_t beq_f List.length_map List.getElem?_map I S B opsC toksC OpT.v OpT.cs OpT.zero Tok.v Tok.cs Pre.v Pre.cs_eq k_mk name_mk n_mk l_mk pos_mk Pre.app applyL natCast0 natCast1 natCast2 AOp.o AOp.m AOp.f AOp.l AOp.d AOp.n AOp.x AOp.s AOp.k AOp.y AOp.z EOp.q low_c low_void low_any low_csl low_nilf low_ptr low_osl low_agg low_tup low_fn resEval advPO_nil advPO_loud advPO_quiet pL_yes pL_no pLS_some pLS_none pQ_yes pQ_no pQS_some pQS_loud eq_self Nat.sub_zero
section
attribute [local go_sem] Sg.v findV foundV Typ.v OpT.v nmX

theorem names_taken (w0 : World) (s : Sg) (vars : List Str) (name : Str) (σ : H) (b : Nat) (h0 : σ[b]? = some (.cells s.v.cellsV)) (h1 : σ[b + 1]? = some (.cells [.c (.sl (strsR vars))])) :
    DC Tryz.prog w0 65 [S name, .ptr b 0, .ptr (b + 1) 0] σ (Same (B (takenX s vars name)) σ) := by
  refine k65.go rfl (fun hok hsz => ?_)
  have hT : takenX s vars name = ((findN s.types name).isSome || (findL s.ops name).isSome || vars.contains name) := rfl
  rw [hT]
  clear hT
  have h0' : σ[b]? = some (.cells [.c (kdsC s.kinds), .c (nmsC s.types), .c (opsC s.ops)]) := h0
  have g0 := hG h0'
  have g1 := hG h1
  cases hA : (findN s.types name).isSome <;> cases hB : (findL s.ops name).isSome
  all_goals
    ((try refine W.a ?_); simp only [go_sem, seval, reduceCtorEq, c65, g0, g1, h0', h1])
    (refine W.c1 (sig_Find w0 s name _) ?_; simp only [go_sem, seval, reduceCtorEq])
    ((try refine W.a ?_); simp only [go_sem, seval, reduceCtorEq, hA, g0, g1])
    (refine W.c1 (ops_Find w0 s.ops name _) ?_; simp only [go_sem, seval, reduceCtorEq])
    ((try refine W.a ?_); simp only [go_sem, seval, reduceCtorEq, hA, hB, g0, g1])
  · (refine W.c1 (str_contains w0 vars name _) ?_; simp only [go_sem, seval, reduceCtorEq])
    (refine W.fs (hok) (by simp only [r65, go_sem, seval, reduceCtorEq]; rfl) ?_; simp only [resV]; try exact V.wk.rfl _)
  all_goals
    (refine W.fs (hok) (by simp only [r65, go_sem, seval, reduceCtorEq]; rfl) ?_; simp only [resV]; try exact V.wk.rfl _)
noncomputable def nmB (s : Sg) (vars : List Str) (b N c : Nat) : H := [.cells s.v.cellsV, .cells [.c (.sl (strsR vars))], .cells [.osl (b + 5) (strsR (nmsOf s vars N))], .cells [I (c : Nat)], .cells [.fn 65 [.ptr b 0, .ptr (b + 1) 0]], .spare 9 1 N]
theorem pretty_Names (w0 : World) (s : Sg) (vars : List Str) (σ : H) : DC Tryz.prog w0 20 [s.v, .c (.sl (strsR vars))] σ (Same (.fn 68 [.ptr (σ.length + 2) 0, .ptr (σ.length + 3) 0, .ptr (σ.length + 4) 0]) (σ ++ nmB s vars σ.length 0 0)) := by
  refine k20.goN rfl (fun hok hsz => ?_)
  ((try refine W.a ?_); simp only [go_sem, seval, reduceCtorEq, c20])
  refine W.ownCell (σ.length + 2) 0 9 1 (cs := [.csl []]) (tg := none) ?_ rfl ?_
  · simp only [hget, List.getElem?_cons_succ, List.getElem?_cons_zero]
  · ((try refine W.a ?_); simp only [go_sem, seval, reduceCtorEq])
    refine W.ret ⟨_, _, rfl, .rfl _, rfl, ?_⟩
    simp only [nmB, nmsOf, List.range_zero, List.map_nil, strsR, go_sem]
end
section
attribute [local go_sem] Sg.v findV foundV Typ.v OpT.v

theorem names_takenL (w0 : World) (s : Sg) (vars : List Str) (name : Str) (σ L : H) :
    DC Tryz.prog w0 65 [S name, .ptr σ.length 0, .ptr (σ.length + 1) 0] (σ ++ (.cells [.c (kdsC s.kinds), .c (nmsC s.types), .c (.sl (s.ops.map OpT.cs))] :: .cells [.c (.sl (strsR vars))] :: L)) (Same (B (takenX s vars name)) (σ ++ (.cells [.c (kdsC s.kinds), .c (nmsC s.types), .c (.sl (s.ops.map OpT.cs))] :: .cells [.c (.sl (strsR vars))] :: L))) :=
  names_taken w0 s vars name _ _ (by rw [hget0]; rfl) (by rw [hget]; rfl)
theorem nm_len (s : Sg) (vars : List Str) (b N c : Nat) : (nmB s vars b N c).length = 6 := rfl
theorem nm_ok {s : Sg} {vars : List Str} {σ L : H} {N c : Nat} (h : H.ok (σ ++ (nmB s vars σ.length N c ++ L))) (N' c' : Nat) : H.ok (σ ++ (nmB s vars σ.length N' c' ++ L)) := by
  intro B hB cs tg hc x hx
  have hl : (σ ++ (nmB s vars σ.length N' c' ++ L)).length = (σ ++ (nmB s vars σ.length N c ++ L)).length := by simp [nm_len]
  have hl2 : σ.length + 6 ≤ (σ ++ (nmB s vars σ.length N' c' ++ L)).length := by simp [nm_len]
  rcases List.mem_append.1 hB with hB | hB
  · rw [hl]; exact h B (List.mem_append_left _ hB) cs tg hc x hx
  · rcases List.mem_append.1 hB with hB | hB
    · simp only [nmB, List.mem_cons, List.not_mem_nil, or_false] at hB
      rcases hB with rfl | rfl | rfl | rfl | rfl | rfl
      · injection hc with hc; subst hc
        simp only [Sg.v, V.cellsV, List.mem_cons, List.not_mem_nil, or_false] at hx
        rcases hx with rfl | rfl | rfl <;> exact .c _
      · injection hc with hc; subst hc
        simp only [List.mem_cons, List.not_mem_nil, or_false] at hx
        subst hx; exact .c _
      · injection hc with hc; subst hc
        simp only [List.mem_cons, List.not_mem_nil, or_false] at hx
        subst hx; exact .osl (by omega)
      · injection hc with hc; subst hc
        simp only [List.mem_cons, List.not_mem_nil, or_false] at hx
        subst hx; exact .c _
      · injection hc with hc; subst hc
        simp only [List.mem_cons, List.not_mem_nil, or_false] at hx
        subst hx
        refine .fn fun y hy => ?_
        simp only [List.mem_cons, List.not_mem_nil, or_false] at hy
        rcases hy with rfl | rfl <;> exact .ptr (by omega)
      · cases hc
    · rw [hl]; exact h B (List.mem_append_right _ (List.mem_append_right _ hB)) cs tg hc x hx
theorem bname_out (w0 : World) (i : Int) (hi : i < 0 ∨ i > 100000) (p q r : V) (σ : H) : DC Tryz.prog w0 68 [I i, p, q, r] σ (Same (S []) σ) := by
  refine k68.go rfl (fun hok hsz => ?_)
  by_cases h0 : i < 0
  · ((try refine W.a ?_); simp only [go_sem, seval, reduceCtorEq, c68, h0])
    refine W.yes rfl ?_
    ((try refine W.a ?_); simp only [go_sem, seval, reduceCtorEq])
    (refine W.fs (hok) (by simp only [r68, go_sem, seval, reduceCtorEq]; rfl) ?_; simp only [resV]; try exact V.wk.rfl _)
  · have h1 : i > 100000 := by omega
    ((try refine W.a ?_); simp only [go_sem, seval, reduceCtorEq, c68, h0, h1])
    refine W.yes rfl ?_
    ((try refine W.a ?_); simp only [go_sem, seval, reduceCtorEq])
    (refine W.fs (hok) (by simp only [r68, go_sem, seval, reduceCtorEq]; rfl) ?_; simp only [resV]; try exact V.wk.rfl _)
theorem names_at {w0 : World} (hG : Glob w0) (s : Sg) (vars : List Str) (hT : (takenT s vars).length ≤ 900000) (n : Nat) (hn : n ≤ 100000) (N : Nat) (hN : N ≤ 100001) (σ L : H) :
    DC Tryz.prog w0 68 [I (n : Int), .ptr (σ.length + 2) 0, .ptr (σ.length + 3) 0, .ptr (σ.length + 4) 0] (σ ++ (nmB s vars σ.length N (cntOf s vars N) ++ L))
      (Same (S (nameM s vars n)) (σ ++ (nmB s vars σ.length (max N (n + 1)) (cntOf s vars (max N (n + 1))) ++ L))) := by
  refine k68.go rfl (fun hok hsz => ?_)
  have h0 : ¬ ((n : Int) < 0) := by omega
  have h1 : ¬ ((n : Int) > 100000) := by omega
  have hnum := numAt_le s vars n
  ((try refine W.a ?_); simp only [go_sem, seval, reduceCtorEq, c68, nmB, h0, h1])
  refine W.no rfl ?_
  ((try refine W.a ?_); simp only [go_sem, seval, reduceCtorEq])
  refine W.loopP (α := Nat × Nat) (fun x => N ≤ x.1 ∧ x.1 ≤ max N (n + 1) ∧ Tried s vars x.1 x.2 ∧ (n < x.1 → x.2 = cntOf s vars x.1)) (fun x => ⟨((((base.put (some 0) (I (n : Int))).put (some 1) (.ptr (σ.length + 2) 0)).put (some 2) (.ptr (σ.length + 3) 0)).put (some 3) (.ptr (σ.length + 4) 0)), σ ++ (nmB s vars σ.length x.1 x.2 ++ L)⟩) (fun x => if x.1 ≤ n then numAt s vars n + 1 - x.2 else 0) (N, cntOf s vars N) ⟨Nat.le_refl _, by simp only; omega, tried_cnt s vars N, fun _ => rfl⟩ ?_ (fun x hx => ?_)
  · (refine Lew.env ?_; exact lee_here)
  · obtain ⟨N', c⟩ := x
    obtain ⟨hx1, hx2, hx3, hx4⟩ := hx
    simp only at hx1 hx2 hx3 hx4
    have hlen := nmsOf_len s vars N'
    by_cases hle : N' ≤ n
    · have hc := tried_le hx3 hle
      have h2 : ((N' : Nat) : Int) ≤ (n : Int) := by omega
      have hw : IntKind.i64.wrap ((c : Int) + 1) = ((c + 1 : Nat) : Int) := by rw [wrap_in] <;> omega
      have hit : Lib.itoa ((c + 1 : Nat) : Int) = Lib.decDigits (c + 1) := by rw [itoa_nat (by omega), Int.toNat_natCast]
      have hl : 1 + (Lib.decDigits (c + 1)).length ≤ 9223372036854775807 := by have := dec_len (u := c + 1) (by omega); omega
      have hb1 : (N' + 1) * 16 ≤ 140737488355328 := by omega
      have hb2 : N' + 1 ≤ 140737488355328 := by omega
      ((try refine W.a ?_); simp only [go_sem, seval, reduceCtorEq, nmB, hlen, strsR, h2])
      refine W.yes rfl ?_
      ((try refine W.a ?_); simp only [go_sem, seval, reduceCtorEq, hw])
      (refine W.c1 (strconv_ItoaS hG ((c + 1 : Nat) : Int) (by omega) (by omega) _) ?_; simp only [go_sem, seval, reduceCtorEq, hit, hl])
      (refine W.c1 (names_takenL w0 s vars (120 :: Lib.decDigits (c + 1)) σ _) ?_; simp only [go_sem, seval, reduceCtorEq])
      cases ht : takenX s vars (120 :: Lib.decDigits (c + 1))
      · have hfr := tried_free hx3 (show tkX s vars (c + 1) = false from ht)
        have hE : List.map (fun s => [C.str s]) (nmsOf s vars (N' + 1)) = List.map (fun s => [C.str s]) (nmsOf s vars N') ++ [[C.str (120 :: Lib.decDigits (c + 1))]] := by
          rw [nmsOf_succ]
          simp [nameM, hfr.1, nmX]
        ((try refine W.a ?_); simp only [go_sem, seval, reduceCtorEq])
        refine W.yes rfl ?_
        ((try refine W.a ?_); simp only [go_sem, seval, reduceCtorEq, hb1, hb2, hlen])
        refine .inv ⟨(N' + 1, c + 1), ⟨by simp only; omega, by simp only; omega, hfr.2.1, fun _ => hfr.2.2.symm⟩, ?_, ?_⟩
        · show (if N' + 1 ≤ n then _ else _) < (if N' ≤ n then _ else _)
          rw [if_pos hle]
          split <;> omega
        · simp only [nmB, strsR, hE]
          (refine Lew.env ?_; exact lee_here)
      · ((try refine W.a ?_); simp only [go_sem, seval, reduceCtorEq])
        refine W.no rfl ?_
        ((try refine W.a ?_); simp only [go_sem, seval, reduceCtorEq])
        refine .inv ⟨(N', c + 1), ⟨hx1, hx2, tried_taken hx3 ht, fun h => by simp only at h; omega⟩, ?_, ?_⟩
        · show (if N' ≤ n then _ else _) < (if N' ≤ n then _ else _)
          rw [if_pos hle, if_pos hle]
          omega
        · simp only [nmB, strsR]
          (refine Lew.env ?_; exact lee_here)
    · have h2 : ¬ ((N' : Nat) : Int) ≤ (n : Int) := by omega
      have hmx : max N (n + 1) = N' := by omega
      have hgx := nmsOf_get s vars (N := N') (i := n) (by omega)
      have h3 : (0 : Int) ≤ (n : Int) := by omega
      have h4 : (n : Int) < ((N' : Nat) : Int) := by omega
      ((try refine W.a ?_); simp only [go_sem, seval, reduceCtorEq, nmB, hlen, strsR, h2])
      refine W.no rfl ?_
      ((try refine W.a ?_); simp only [go_sem, seval, reduceCtorEq, hlen, h3, h4, hgx])
      rw [hmx, ← hx4 (by omega)]
      (refine W.fg (nm_ok hok N' c) (d := S (nameM s vars n)) (by simp only [r68, go_sem, seval, reduceCtorEq]; rfl) (by simp only [resV, go_sem, seval, reduceCtorEq]; exact wk_here) ?_ (hn := by simp [nm_len]; omega))
      exact ⟨rfl, rfl⟩
end
section
attribute [local go_sem] Typ.v Typ.cs_eq Pre.v Pre.cs_eq Pre.app tk_mk tname_mk tn_mk tl_mk

section
variable {w0 : World} {s : Sg} {vars : List Str} {F : V}
end
end
section
attribute [local go_sem] Typ.v Typ.cs_eq tk_mk tname_mk tn_mk tl_mk tysC rz_len rz_g0 rz_g rz_s0 rz_s rz_sb

def varB (n : Int) : Blk := .cells [I n]
attribute [local go_sem] varB
end
section

section
variable {τ : Nat → H}
end
attribute [local go_sem] Typ.v Typ.cs_eq tk_mk tname_mk tn_mk tl_mk tysC
end
section
attribute [local go_sem] Typ.v Typ.cs_eq Pre.v Pre.cs_eq Pre.app tk_mk tname_mk tn_mk tl_mk
section
variable {w0 : World} {s : Sg} {vars : List Str} {F : V}
end
end
end Go.Proofs.YtpcmcfajfnpjeaaGreatDoor
namespace Go.Lamb
end Go.Lamb
namespace Go.Proofs.YtpcmcfajfnpjeaaGreatDoor
open Go.RowKit Go.Lamb
attribute [local go_sem] advO_skip advO_reg advO_seq advO_block advO_exit advO_endb advO_opsNil advO_ops advG_yes advG_no advG_none advS_some advS_none advO_cond advO_loop advO_dreg advO_ret advO_bad advO_inv advO_nil advO_zero wantedV Lamb.step ev_t ev_k put_some put_none argEnv popTo cellsAt V.cellsV V.rows V.sub V.toC toCs fillV bytesC byteRows appV rowsV boundV boundL binV binInt binStr eqC eqL V.isNil leaves V.leaf Ins.quiet Ins.pure List.getD_cons_zero List.getD_cons_succ List.getD_nil List.all_cons List.all_nil List.length_cons List.length_nil List.take_succ_cons List.take_zero List.drop_succ_cons List.drop_zero List.cons_append List.nil_append List.append_nil List.append_assoc List.map_cons List.map_nil List.getElem?_cons_zero List.getElem?_cons_succ List.length_append List.length_set hget0 hget hset0 hset hsets hgs0 hgs hss0 hss List.set_cons_zero List.set_cons_succ List.forall_mem_cons List.not_mem_nil false_implies implies_true Option.map_some Bool.and_true Bool.true_and Bool.not_not Bool.not_true Bool.not_false Bool.and_self Bool.or_true Bool.true_or Bool.or_false Bool.false_or Bool.and_false Bool.false_and Bool.false_eq_true beq_self_eq_true and_self and_true true_and if_true if_false Nat.zero_add Nat.add_zero Nat.le_refl Int.toNat_natCast decide_true decide_false beq_t beq_f List.length_map List.getElem?_map I S B opsC toksC OpT.v OpT.cs OpT.zero Tok.v Tok.cs Pre.v Pre.cs_eq k_mk name_mk n_mk l_mk pos_mk Pre.app applyL natCast0 natCast1 natCast2 AOp.o AOp.m AOp.f AOp.l AOp.d AOp.n AOp.x AOp.s AOp.k AOp.y AOp.z EOp.q low_c low_void low_any low_csl low_nilf low_ptr low_osl low_agg low_tup low_fn resEval advPO_nil advPO_loud advPO_quiet pL_yes pL_no pLS_some pLS_none pQ_yes pQ_no pQS_some pQS_loud eq_self Nat.sub_zero
attribute [local go_sem] Typ.v Typ.cs_eq Pre.v Pre.cs_eq Pre.app tk_mk tname_mk tn_mk tl_mk
section
variable {w0 : World} {s : Sg} {vars : List Str} {F : V}
end
end Go.Proofs.YtpcmcfajfnpjeaaGreatDoor
namespace Go.Proofs.YtpcmcfajfnpjeaaGreatDoor
open Go.RowKit Go.Lamb
def c13 : AC := .seq (.reg [.o 3 (.box (.t 0)), .o 4 (.box (.t 1)), .o 6 (.mov (.k (.c (.bool false))))]) (.seq (.seq (.reg [.f 11 1 3, .l 12 11, .o 13 (.lenr (.t 12)), .o 14 (.bin .gtr (.t 13) (.k (.c (.int .i64 60)))), .m 15 14, .z 16 (.fadd 2 (.t 3)) 15, .z 17 (.load1 (.t 16)) 15, .z 18 (.lenr (.t 17)) 15, .z 19 (.bin .gtr (.t 18) (.k (.c (.int .i64 120)))) 15, .o 20 (.pick (.t 15) (.k (.c (.bool true))) (.t 19)), .m 21 20, .z 22 (.mov (.t 2)) 21, .z 23 (.lenr (.t 22)) 21, .z 24 (.bin .gtr (.t 23) (.k (.c (.int .i64 20)))) 21, .o 25 (.pick (.t 21) (.k (.c (.bool true))) (.t 24))]) (.cond (.t 25) (.seq (.reg [.o 6 (.mov (.k (.c (.bool true))))]) (.ret)) (.skip))) (.seq (.seq (.reg [.o 7 (.mov (.k (.c (.int .i64 0))))]) (.block 0 (.loop (.seq (.seq (.reg [.m 26 7, .f 27 1 3, .l 28 27, .o 29 (.lenr (.t 28)), .o 30 (.bin .lss (.t 26) (.t 29))]) (.cond (.t 30) (.skip) (.exit 0))) (.seq (.block 1 (.seq (.reg [.f 33 1 3, .l 34 33, .m 35 7, .o 36 (.iadd 5 (.t 34) (.t 35)), .f 37 0 36, .l 38 37, .o 39 (.lens (.t 38)), .o 40 (.bin .gtr (.t 39) (.k (.c (.int .i64 60))))]) (.cond (.t 40) (.seq (.reg [.o 6 (.mov (.k (.c (.bool true))))]) (.ret)) (.skip)))) (.reg [.m 31 7, .o 32 (.bin .add (.t 31) (.k (.c (.int .i64 1)))), .m 7 32])))))) (.seq (.seq (.reg [.o 8 (.mov (.k (.c (.int .i64 0))))]) (.block 2 (.loop (.seq (.seq (.reg [.m 41 8, .f 42 2 3, .l 43 42, .o 44 (.lenr (.t 43)), .o 45 (.bin .lss (.t 41) (.t 44))]) (.cond (.t 45) (.skip) (.exit 2))) (.seq (.block 3 (.seq (.reg [.f 48 2 3, .l 49 48, .m 50 8, .o 51 (.iadd 3 (.t 49) (.t 50)), .f 52 0 51, .l 53 52, .o 54 (.lens (.t 53)), .o 55 (.bin .gtr (.t 54) (.k (.c (.int .i64 60))))]) (.cond (.t 55) (.seq (.reg [.o 6 (.mov (.k (.c (.bool true))))]) (.ret)) (.skip)))) (.reg [.m 46 8, .o 47 (.bin .add (.t 46) (.k (.c (.int .i64 1)))), .m 8 47])))))) (.seq (.seq (.reg [.o 9 (.mov (.k (.c (.int .i64 0))))]) (.block 4 (.loop (.seq (.seq (.reg [.m 56 9, .m 57 2, .o 58 (.lenr (.t 57)), .o 59 (.bin .lss (.t 56) (.t 58))]) (.cond (.t 59) (.skip) (.exit 4))) (.seq (.block 5 (.seq (.reg [.m 62 2, .m 63 9, .o 64 (.iadd 1 (.t 62) (.t 63)), .l 65 64, .o 66 (.lens (.t 65)), .o 67 (.bin .gtr (.t 66) (.k (.c (.int .i64 60))))]) (.cond (.t 67) (.seq (.reg [.o 6 (.mov (.k (.c (.bool true))))]) (.ret)) (.skip)))) (.reg [.m 60 9, .o 61 (.bin .add (.t 60) (.k (.c (.int .i64 1)))), .m 9 61])))))) (.seq (.reg [.d 68 4 4, .k 69 53 [(.t 68), (.k (.c (.int .i64 1099511627776)))], .m 10 69]) (.seq (.reg [.d 70 4 4, .k 71 52 [(.t 70), (.k (.c (.int .i64 60)))], .m 72 71, .z 73 (.mov (.t 10)) 72, .z 74 (.un .not (.t 73)) 72, .o 75 (.pick (.t 72) (.k (.c (.bool true))) (.t 74)), .m 6 75]) (.ret)))))))
def r13 : List ResV := [.tmp 6]
theorem k13 : CodeIs Tryz.prog 13 3 Tryz.f13 c13 r13 := .auto Tryz.func13
def c3 : AC := .seq (.reg [.o 3 (.box (.t 0)), .o 4 (.box (.t 1)), .o 6 (.mov (.k (.c (.bool false))))]) (.seq (.reg [.k 13 12 [], .m 7 13]) (.seq (.seq (.reg [.m 14 7, .o 15 (.un .not (.t 14))]) (.cond (.t 15) (.seq (.reg [.o 6 (.mov (.k (.c (.bool false))))]) (.ret)) (.skip))) (.seq (.reg [.d 16 3 3, .d 17 4 4, .m 18 2, .k 19 13 [(.t 16), (.t 17), (.t 18)], .m 8 19]) (.seq (.seq (.reg [.m 20 8]) (.cond (.t 20) (.seq (.reg [.m 21 7, .m 6 21]) (.ret)) (.skip))) (.seq (.reg [.d 22 3 3, .d 23 4 4, .m 24 2, .k 25 14 [(.t 22), (.t 23), (.t 24)], .o 9 (.box (.k (.agg [.c (.int .i64 0), .c (.str []), .c (.int .i64 0), .csl [], .c (.int .i64 0)]))), .s 5 9 25]) (.seq (.reg [.o 26 (.build [.c (.int .i64 0), .c (.str []), .c (.int .i64 0), .csl [], .c (.int .i64 0)] []), .o 10 (.box (.k (.agg [.c (.int .i64 0), .c (.str []), .c (.int .i64 0), .csl [], .c (.int .i64 0)]))), .s 5 10 26]) (.seq (.reg [.d 27 4 4, .k 28 15 [(.t 27)], .m 11 28]) (.seq (.seq (.reg [.m 29 11]) (.cond (.t 29) (.reg [.d 30 3 3, .d 31 4 4, .m 32 2, .k 33 16 [(.t 30), (.t 31), (.t 32), (.k (.c (.int .i64 0)))], .s 5 10 33]) (.skip))) (.seq (.reg [.d 34 5 9, .d 35 5 10, .k 36 17 [(.t 34), (.t 35)], .m 12 36]) (.seq (.dreg [.m 37 7, .m 38 37, .y 39 (.mov (.t 12)) 38, .o 40 (.pick (.t 38) (.t 39) (.k (.c (.bool false)))), .m 41 40, .y 42 (.loadn 3 (.t 3)) 41, .y 43 (.loadn 4 (.t 4)) 41, .y 44 (.mov (.t 2)) 41, .y 45 (.call (.k (.fn 18 [])) [(.t 42), (.t 43), (.t 44)]) 41, .y 46 (.loadn 3 (.t 3)) 41, .y 47 (.loadn 4 (.t 4)) 41, .y 48 (.mov (.t 2)) 41, .y 49 (.call (.k (.fn 19 [])) [(.t 46), (.t 47), (.t 48)]) 41, .y 50 (.bin .eql (.t 45) (.t 49)) 41, .o 51 (.pick (.t 41) (.t 50) (.k (.c (.bool false)))), .m 6 51] [.q (.m 37 7), .q (.m 38 37), .q (.y 39 (.mov (.t 12)) 38), .q (.o 40 (.pick (.t 38) (.t 39) (.k (.c (.bool false))))), .q (.m 41 40), .q (.y 42 (.loadn 3 (.t 3)) 41), .q (.y 43 (.loadn 4 (.t 4)) 41), .q (.y 44 (.mov (.t 2)) 41), ⟨.y 45 (.call (.k (.fn 18 [])) [(.t 42), (.t 43), (.t 44)]) 41, true, 0⟩, .q (.y 46 (.loadn 3 (.t 3)) 41), .q (.y 47 (.loadn 4 (.t 4)) 41), .q (.y 48 (.mov (.t 2)) 41), ⟨.y 49 (.call (.k (.fn 19 [])) [(.t 46), (.t 47), (.t 48)]) 41, true, 1⟩, ⟨.y 50 (.bin .eql (.t 45) (.t 49)) 41, false, 2⟩, ⟨.o 51 (.pick (.t 41) (.t 50) (.k (.c (.bool false)))), false, 2⟩, ⟨.m 6 51, false, 2⟩]) (.ret)))))))))))
def r3 : List ResV := [.tmp 6]
theorem k3 : CodeIs Tryz.prog 3 3 Tryz.f3 c3 r3 := .auto Tryz.func3
def c4 : AC := .seq (.reg [.o 3 (.box (.t 0)), .o 6 (.mov (.k (.c (.bool false))))]) (.seq (.reg [.k 13 12 [], .m 7 13]) (.seq (.seq (.reg [.m 14 7, .o 15 (.un .not (.t 14))]) (.cond (.t 15) (.seq (.reg [.o 6 (.mov (.k (.c (.bool false))))]) (.ret)) (.skip))) (.seq (.reg [.d 16 3 3, .o 17 (.build [.c (.int .i64 0), .c (.str []), .c (.int .i64 0), .csl []] []), .m 18 1, .k 19 13 [(.t 16), (.t 17), (.t 18)], .m 8 19]) (.seq (.seq (.reg [.m 20 8]) (.cond (.t 20) (.seq (.reg [.m 21 7, .m 6 21]) (.ret)) (.skip))) (.seq (.reg [.d 22 3 3, .m 23 1, .k 24 20 [(.t 22), (.t 23)], .m 9 24]) (.seq (.seq (.reg [.m 25 9, .o 26 (.eqn false 2 (.t 25))]) (.cond (.t 26) (.seq (.reg [.o 6 (.mov (.k (.c (.bool false))))]) (.ret)) (.skip))) (.seq (.reg [.m 27 9, .m 28 2, .o 29 (.call (.t 27) [(.t 28)]), .m 10 29]) (.seq (.seq (.reg [.m 30 2, .o 31 (.bin .lss (.t 30) (.k (.c (.int .i64 0)))), .m 32 31, .z 33 (.mov (.t 2)) 32, .z 34 (.bin .gtr (.t 33) (.k (.c (.int .i64 100000)))) 32, .o 35 (.pick (.t 32) (.k (.c (.bool true))) (.t 34))]) (.cond (.t 35) (.seq (.reg [.m 36 7, .m 37 36, .y 38 (.mov (.t 10)) 37, .y 39 (.bin .eql (.t 38) (.k (.c (.str [])))) 37, .o 40 (.pick (.t 37) (.t 39) (.k (.c (.bool false)))), .m 6 40]) (.ret)) (.skip))) (.seq (.seq (.reg [.m 41 2, .o 42 (.bin .gtr (.t 41) (.k (.c (.int .i64 60))))]) (.cond (.t 42) (.seq (.reg [.m 43 7, .m 44 43, .y 45 (.mov (.t 10)) 44, .y 46 (.lens (.t 45)) 44, .y 47 (.bin .gtr (.t 46) (.k (.c (.int .i64 1)))) 44, .o 48 (.pick (.t 44) (.t 47) (.k (.c (.bool false)))), .m 6 48]) (.ret)) (.skip))) (.seq (.reg [.d 50 3 3, .m 51 10, .k 52 21 [(.t 50), (.t 51)], .m 49 52, .x 53 49 0, .x 54 49 1, .o 11 (.box (.k (.agg [.c (.int .i64 0), .c (.str []), .c (.int .i64 0), .csl []]))), .s 4 11 53, .m 12 54]) (.seq (.reg [.m 55 7, .m 56 55, .y 57 (.mov (.t 10)) 56, .y 58 (.loadn 3 (.t 3)) 56, .y 59 (.mov (.t 1)) 56, .y 60 (.mov (.t 2)) 56, .y 61 (.call (.k (.fn 22 [])) [(.t 58), (.t 59), (.t 60)]) 56, .y 62 (.bin .eql (.t 57) (.t 61)) 56, .o 63 (.pick (.t 56) (.t 62) (.k (.c (.bool false)))), .m 64 63, .y 65 (.mov (.t 12)) 64, .y 66 (.un .not (.t 65)) 64, .o 67 (.pick (.t 64) (.t 66) (.k (.c (.bool false)))), .m 68 67, .y 69 (.mov (.t 9)) 68, .y 70 (.mov (.t 2)) 68, .y 71 (.call (.t 69) [(.t 70)]) 68, .y 72 (.mov (.t 10)) 68, .y 73 (.bin .eql (.t 71) (.t 72)) 68, .o 74 (.pick (.t 68) (.t 73) (.k (.c (.bool false)))), .m 6 74]) (.ret))))))))))))
def r4 : List ResV := [.tmp 6]
theorem k4 : CodeIs Tryz.prog 4 3 Tryz.f4 c4 r4 := .auto Tryz.func4
end Go.Proofs.YtpcmcfajfnpjeaaGreatDoor
namespace Go.Proofs.YtpcmcfajfnpjeaaGreatDoor
open Go.RowKit Go.Lamb
end Go.Proofs.YtpcmcfajfnpjeaaGreatDoor
namespace Go.Proofs.YtpcmcfajfnpjeaaGreatDoor
open Go.RowKit Go.Lamb
attribute [local go_sem] advO_skip advO_reg advO_seq advO_block advO_exit advO_endb advO_opsNil advO_ops advG_yes advG_no advG_none advS_some advS_none advO_cond advO_loop advO_dreg advO_ret advO_bad advO_inv advO_nil advO_zero wantedV Lamb.step ev_t ev_k put_some put_none argEnv popTo cellsAt V.cellsV V.rows V.sub V.toC toCs fillV bytesC byteRows appV rowsV boundV boundL binV binInt binStr eqC eqL V.isNil leaves V.leaf Ins.quiet Ins.pure List.getD_cons_zero List.getD_cons_succ List.getD_nil List.all_cons List.all_nil List.length_cons List.length_nil List.take_succ_cons List.take_zero List.drop_succ_cons List.drop_zero List.cons_append List.nil_append List.append_nil List.append_assoc List.map_cons List.map_nil List.getElem?_cons_zero List.getElem?_cons_succ List.length_append List.length_set hget0 hget hset0 hset hsets hgs0 hgs hss0 hss List.set_cons_zero List.set_cons_succ List.forall_mem_cons List.not_mem_nil false_implies implies_true Option.map_some Bool.and_true Bool.true_and Bool.not_not Bool.not_true Bool.not_false Bool.and_self Bool.or_true Bool.true_or Bool.or_false Bool.false_or Bool.and_false Bool.false_and Bool.false_eq_true beq_self_eq_true and_self and_true true_and if_true if_false Nat.zero_add Nat.add_zero Nat.le_refl Int.toNat_natCast decide_true decide_false beq_t beq_f List.length_map List.getElem?_map I S B opsC toksC OpT.v OpT.cs OpT.zero Tok.v Tok.cs Pre.v Pre.cs_eq k_mk name_mk n_mk l_mk pos_mk Pre.app applyL natCast0 natCast1 natCast2 AOp.o AOp.m AOp.f AOp.l AOp.d AOp.n AOp.x AOp.s AOp.k AOp.y AOp.z EOp.q low_c low_void low_any low_csl low_nilf low_ptr low_osl low_agg low_tup low_fn resEval advPO_nil advPO_loud advPO_quiet pL_yes pL_no pLS_some pLS_none pQ_yes pQ_no pQS_some pQS_loud eq_self Nat.sub_zero
section
attribute [local go_sem] Pre.v
end
section
attribute [local go_sem] Pre.v
end
end Go.Proofs.YtpcmcfajfnpjeaaGreatDoor
namespace Go.Lamb
open Go Go.RowKit
end Go.Lamb
namespace Go.Proofs.YtpcmcfajfnpjeaaGreatDoor
open Go.RowKit Go.Lamb
end Go.Proofs.YtpcmcfajfnpjeaaGreatDoor
namespace Go.Lamb
open Go Go.RowKit
def overM (s : Sg) (t : Typ) (vars : List Str) : Bool :=
  decide (60 < s.types.length) || (decide (120 < s.ops.length) || (decide (20 < vars.length) || (s.types.any (fun x => decide (60 < x.name.length)) || (s.ops.any (fun x => decide (60 < x.name.length)) || (vars.any (fun x => decide (60 < x.length)) || (decide (leftT t 60 < 0) || !nearM 1099511627776 t))))))
theorem overM_no {s : Sg} {t : Typ} {vars : List Str} (h : overM s t vars = false) : (takenT s vars).length ≤ 900000 ∧ (∀ x ∈ vars, x.length ≤ 100) ∧ nodesM t ≤ 60 ∧ nearM 1099511627776 t = true ∧ (∀ x ∈ s.types, x.name.length ≤ 60) ∧ (∀ x ∈ s.ops, x.name.length ≤ 60) ∧ vars.length ≤ 20 := by
  unfold overM at h
  simp only [Bool.or_eq_false_iff, decide_eq_false_iff_not, Bool.not_eq_false', List.any_eq_false, decide_eq_true_eq] at h
  obtain ⟨h1, h2, h3, h4, h5, h6, h7, h8⟩ := h
  refine ⟨?_, fun x hx => by have := h6 x hx; omega, ?_, h8, fun x hx => by have := h4 x hx; omega, fun x hx => by have := h5 x hx; omega, by omega⟩
  · unfold takenT
    simp only [List.length_append, List.length_map]
    omega
  · have := leftT_nodesM t 60 (by omega)
    omega
end Go.Lamb
namespace Go.Proofs.YtpcmcfajfnpjeaaGreatDoor
open Go.RowKit Go.Lamb
attribute [local go_sem] advO_skip advO_reg advO_seq advO_block advO_exit advO_endb advO_opsNil advO_ops advG_yes advG_no advG_none advS_some advS_none advO_cond advO_loop advO_dreg advO_ret advO_bad advO_inv advO_nil advO_zero wantedV Lamb.step ev_t ev_k put_some put_none argEnv popTo cellsAt V.cellsV V.rows V.sub V.toC toCs fillV bytesC byteRows appV rowsV boundV boundL binV binInt binStr eqC eqL V.isNil leaves V.leaf Ins.quiet Ins.pure List.getD_cons_zero List.getD_cons_succ List.getD_nil List.all_cons List.all_nil List.length_cons List.length_nil List.take_succ_cons List.take_zero List.drop_succ_cons List.drop_zero List.cons_append List.nil_append List.append_nil List.append_assoc List.map_cons List.map_nil List.getElem?_cons_zero List.getElem?_cons_succ List.length_append List.length_set hget0 hget hset0 hset hsets hgs0 hgs hss0 hss List.set_cons_zero List.set_cons_succ List.forall_mem_cons List.not_mem_nil false_implies implies_true Option.map_some Bool.and_true Bool.true_and Bool.not_not Bool.not_true Bool.not_false Bool.and_self Bool.or_true Bool.true_or Bool.or_false Bool.false_or Bool.and_false Bool.false_and Bool.false_eq_true beq_self_eq_true and_self and_true true_and if_true if_false Nat.zero_add Nat.add_zero Nat.le_refl Int.toNat_natCast decide_true decide_false beq_t beq_f List.length_map List.getElem?_map I S B opsC toksC OpT.v OpT.cs OpT.zero Tok.v Tok.cs Pre.v Pre.cs_eq k_mk name_mk n_mk l_mk pos_mk Pre.app applyL natCast0 natCast1 natCast2 AOp.o AOp.m AOp.f AOp.l AOp.d AOp.n AOp.x AOp.s AOp.k AOp.y AOp.z EOp.q low_c low_void low_any low_csl low_nilf low_ptr low_osl low_agg low_tup low_fn resEval advPO_nil advPO_loud advPO_quiet pL_yes pL_no pLS_some pLS_none pQ_yes pQ_no pQS_some pQS_loud eq_self Nat.sub_zero
section
section
attribute [local go_sem] Sg.v Typ.v Typ.cs_eq Pre.v Pre.cs_eq Pre.app tk_mk tname_mk tn_mk tl_mk
end
end
section
attribute [local go_sem] Sg.v Typ.v Typ.cs_eq tk_mk tname_mk tn_mk tl_mk kdsC nmsC opsC strsR NmT.cs OpT.cs
theorem over14_big (w0 : World) (s : Sg) (t : Typ) (vars : List Str) (h : 60 < s.types.length ∨ 120 < s.ops.length ∨ 20 < vars.length) (σ : H) : DC Tryz.prog w0 13 [s.v, t.v, .c (.sl (strsR vars))] σ (Same (B true) σ) := by
  refine k13.go rfl (fun hok hsz => ?_)
  by_cases h1 : 60 < s.types.length
  · have h1' : (s.types.length : Int) > 60 := by omega
    ((try refine W.a ?_); simp only [go_sem, seval, reduceCtorEq, c13, h1'])
    refine W.yes rfl ?_
    ((try refine W.a ?_); simp only [go_sem, seval, reduceCtorEq])
    (refine W.fs (hok) (by simp only [r13, go_sem, seval, reduceCtorEq]; rfl) ?_; simp only [resV]; try exact V.wk.rfl _)
  have h1' : ¬ (s.types.length : Int) > 60 := by omega
  by_cases h2 : 120 < s.ops.length
  · have h2' : (s.ops.length : Int) > 120 := by omega
    ((try refine W.a ?_); simp only [go_sem, seval, reduceCtorEq, c13, h1', h2'])
    refine W.yes rfl ?_
    ((try refine W.a ?_); simp only [go_sem, seval, reduceCtorEq])
    (refine W.fs (hok) (by simp only [r13, go_sem, seval, reduceCtorEq]; rfl) ?_; simp only [resV]; try exact V.wk.rfl _)
  have h2' : ¬ (s.ops.length : Int) > 120 := by omega
  have h3' : (vars.length : Int) > 20 := by omega
  ((try refine W.a ?_); simp only [go_sem, seval, reduceCtorEq, c13, h1', h2', h3'])
  refine W.yes rfl ?_
  ((try refine W.a ?_); simp only [go_sem, seval, reduceCtorEq])
  (refine W.fs (hok) (by simp only [r13, go_sem, seval, reduceCtorEq]; rfl) ?_; simp only [resV]; try exact V.wk.rfl _)
theorem law14_over (w0 : World) (s : Sg) (t : Typ) (vars : List Str) (σ : H) : DC Tryz.prog w0 13 [s.v, t.v, .c (.sl (strsR vars))] σ (Same (B (overM s t vars)) σ) := by
  by_cases hbig : 60 < s.types.length ∨ 120 < s.ops.length ∨ 20 < vars.length
  · have e : overM s t vars = true := by
      unfold overM
      rcases hbig with h | h | h <;> simp [h]
    rw [e]
    exact over14_big w0 s t vars hbig σ
  have g1 : ¬ (s.types.length : Int) > 60 := by omega
  have g2 : ¬ (s.ops.length : Int) > 120 := by omega
  have g3 : ¬ (vars.length : Int) > 20 := by omega
  have hO : overM s t vars = (s.types.any (fun x => decide (60 < x.name.length)) || (s.ops.any (fun x => decide (60 < x.name.length)) || (vars.any (fun x => decide (60 < x.length)) || (decide (leftT t 60 < 0) || !nearM 1099511627776 t)))) := by
    unfold overM
    rw [decide_eq_false (by omega), decide_eq_false (by omega), decide_eq_false (by omega)]
    rfl
  rw [hO]
  clear hO
  refine k13.go rfl (fun hok hsz => ?_)
  have hTa : ∀ b, (true || b) = true := fun b => rfl
  have hN := fun σ => ref07_Near w0 1099511627776 (by decide) (by decide) t σ
  have hL := fun σ => ref07_Large w0 t 60 (by decide) (by decide) σ
  ((try refine W.a ?_); simp only [go_sem, seval, reduceCtorEq, c13, g1, g2, g3])
  refine W.no rfl ?_
  ((try refine W.a ?_); simp only [go_sem, seval, reduceCtorEq])
  refine W.loopP (fun i => i ≤ s.types.length ∧ UpTo (fun x => decide (60 < x.name.length)) s.types i) (fun i => ⟨((((base.put (some 2) (.c (.sl (strsR vars)))).put (some 3) (.ptr σ.length 0)).put (some 4) (.ptr (σ.length + 1) 0)).put (some 7) (I (i : Nat))), σ ++ [.cells s.v.cellsV, .cells t.v.cellsV]⟩) (fun i => s.types.length - i) 0 ⟨Nat.zero_le _, upTo_zero⟩ ?_ (fun i hi => ?_)
  · (refine Lew.env ?_; exact lee_here)
  obtain ⟨hi, hinv⟩ := hi
  by_cases hlt : i < s.types.length
  · have h1 : ((i : Int) < (s.types.length : Int)) := by omega
    have hx : s.types[i]? = some s.types[i] := List.getElem?_eq_getElem hlt
    have hw : IntKind.i64.wrap ((i : Int) + 1) = ((i + 1 : Nat) : Int) := by rw [wrap_in] <;> omega
    ((try refine W.a ?_); simp only [go_sem, seval, reduceCtorEq, h1])
    refine W.yes rfl ?_
    ((try refine W.a ?_); simp only [go_sem, seval, reduceCtorEq, h1, nat0, hx])
    refine W.test rfl (fun h => ?_) (fun h => ?_)
    · have hb : decide (60 < s.types[i].name.length) = true := by simp only [decide_eq_true_eq] at h ⊢; omega
      rw [show s.types.any (fun x => decide (60 < x.name.length)) = true from any_at hlt hb, hTa]
      ((try refine W.a ?_); simp only [go_sem, seval, reduceCtorEq])
      (refine W.fs (hok) (by simp only [r13, go_sem, seval, reduceCtorEq]; rfl) ?_; simp only [resV]; try exact V.wk.rfl _)
    · have hb : decide (60 < s.types[i].name.length) = false := by simp only [decide_eq_false_iff_not] at h ⊢; omega
      ((try refine W.a ?_); simp only [go_sem, seval, reduceCtorEq, hw])
      refine .inv ⟨i + 1, ⟨hlt, upTo_next hinv hlt hb⟩, by omega, ?_⟩
      (refine Lew.env ?_; exact lee_here)
  have h1 : ¬ ((i : Int) < (s.types.length : Int)) := by omega
  rw [show s.types.any (fun x => decide (60 < x.name.length)) = false from any_no (fun j hj => hinv j hj (by omega)), Bool.false_or]
  clear hinv hi hlt
  ((try refine W.a ?_); simp only [go_sem, seval, reduceCtorEq, h1])
  refine W.no rfl ?_
  ((try refine W.a ?_); simp only [go_sem, seval, reduceCtorEq])
  clear h1
  refine W.loopP (fun i => i ≤ s.ops.length ∧ UpTo (fun x => decide (60 < x.name.length)) s.ops i) (fun i => ⟨((((base.put (some 2) (.c (.sl (strsR vars)))).put (some 3) (.ptr σ.length 0)).put (some 4) (.ptr (σ.length + 1) 0)).put (some 8) (I (i : Nat))), σ ++ [.cells s.v.cellsV, .cells t.v.cellsV]⟩) (fun i => s.ops.length - i) 0 ⟨Nat.zero_le _, upTo_zero⟩ ?_ (fun i hi => ?_)
  · (refine Lew.env ?_; exact lee_here)
  obtain ⟨hi, hinv⟩ := hi
  by_cases hlt : i < s.ops.length
  · have h1 : ((i : Int) < (s.ops.length : Int)) := by omega
    have hx : s.ops[i]? = some s.ops[i] := List.getElem?_eq_getElem hlt
    have hw : IntKind.i64.wrap ((i : Int) + 1) = ((i + 1 : Nat) : Int) := by rw [wrap_in] <;> omega
    ((try refine W.a ?_); simp only [go_sem, seval, reduceCtorEq, h1])
    refine W.yes rfl ?_
    ((try refine W.a ?_); simp only [go_sem, seval, reduceCtorEq, h1, nat0, hx])
    refine W.test rfl (fun h => ?_) (fun h => ?_)
    · have hb : decide (60 < s.ops[i].name.length) = true := by simp only [decide_eq_true_eq] at h ⊢; omega
      rw [show s.ops.any (fun x => decide (60 < x.name.length)) = true from any_at hlt hb, hTa]
      ((try refine W.a ?_); simp only [go_sem, seval, reduceCtorEq])
      (refine W.fs (hok) (by simp only [r13, go_sem, seval, reduceCtorEq]; rfl) ?_; simp only [resV]; try exact V.wk.rfl _)
    · have hb : decide (60 < s.ops[i].name.length) = false := by simp only [decide_eq_false_iff_not] at h ⊢; omega
      ((try refine W.a ?_); simp only [go_sem, seval, reduceCtorEq, hw])
      refine .inv ⟨i + 1, ⟨hlt, upTo_next hinv hlt hb⟩, by omega, ?_⟩
      (refine Lew.env ?_; exact lee_here)
  have h1 : ¬ ((i : Int) < (s.ops.length : Int)) := by omega
  rw [show s.ops.any (fun x => decide (60 < x.name.length)) = false from any_no (fun j hj => hinv j hj (by omega)), Bool.false_or]
  clear hinv hi hlt
  ((try refine W.a ?_); simp only [go_sem, seval, reduceCtorEq, h1])
  refine W.no rfl ?_
  ((try refine W.a ?_); simp only [go_sem, seval, reduceCtorEq])
  clear h1
  refine W.loopP (fun i => i ≤ vars.length ∧ UpTo (fun x => decide (60 < x.length)) vars i) (fun i => ⟨((((base.put (some 2) (.c (.sl (strsR vars)))).put (some 3) (.ptr σ.length 0)).put (some 4) (.ptr (σ.length + 1) 0)).put (some 9) (I (i : Nat))), σ ++ [.cells s.v.cellsV, .cells t.v.cellsV]⟩) (fun i => vars.length - i) 0 ⟨Nat.zero_le _, upTo_zero⟩ ?_ (fun i hi => ?_)
  · (refine Lew.env ?_; exact lee_here)
  obtain ⟨hi, hinv⟩ := hi
  by_cases hlt : i < vars.length
  · have h1 : ((i : Int) < (vars.length : Int)) := by omega
    have hx : vars[i]? = some vars[i] := List.getElem?_eq_getElem hlt
    have hw : IntKind.i64.wrap ((i : Int) + 1) = ((i + 1 : Nat) : Int) := by rw [wrap_in] <;> omega
    ((try refine W.a ?_); simp only [go_sem, seval, reduceCtorEq, h1])
    refine W.yes rfl ?_
    ((try refine W.a ?_); simp only [go_sem, seval, reduceCtorEq, h1, nat0, hx])
    refine W.test rfl (fun h => ?_) (fun h => ?_)
    · have hb : decide (60 < vars[i].length) = true := by simp only [decide_eq_true_eq] at h ⊢; omega
      rw [show vars.any (fun x => decide (60 < x.length)) = true from any_at hlt hb, hTa]
      ((try refine W.a ?_); simp only [go_sem, seval, reduceCtorEq])
      (refine W.fs (hok) (by simp only [r13, go_sem, seval, reduceCtorEq]; rfl) ?_; simp only [resV]; try exact V.wk.rfl _)
    · have hb : decide (60 < vars[i].length) = false := by simp only [decide_eq_false_iff_not] at h ⊢; omega
      ((try refine W.a ?_); simp only [go_sem, seval, reduceCtorEq, hw])
      refine .inv ⟨i + 1, ⟨hlt, upTo_next hinv hlt hb⟩, by omega, ?_⟩
      (refine Lew.env ?_; exact lee_here)
  have h1 : ¬ ((i : Int) < (vars.length : Int)) := by omega
  rw [show vars.any (fun x => decide (60 < x.length)) = false from any_no (fun j hj => hinv j hj (by omega)), Bool.false_or]
  clear hinv hi hlt
  ((try refine W.a ?_); simp only [go_sem, seval, reduceCtorEq, h1])
  refine W.no rfl ?_
  ((try refine W.a ?_); simp only [go_sem, seval, reduceCtorEq])
  clear h1
  (refine W.c1 (hN _) ?_; simp only [go_sem, seval, reduceCtorEq])
  ((try refine W.a ?_); simp only [go_sem, seval, reduceCtorEq])
  (refine W.c1 (hL _) ?_; simp only [go_sem, seval, reduceCtorEq])
  generalize decide (leftT t 60 < 0) = bl at *
  generalize nearM 1099511627776 t = bn at *
  cases bl
  · ((try refine W.a ?_); simp only [go_sem, seval, reduceCtorEq])
    (refine W.fs (hok) (by simp only [r13, go_sem, seval, reduceCtorEq]; rfl) ?_; simp only [resV]; try exact V.wk.rfl _)
  · ((try refine W.a ?_); simp only [go_sem, seval, reduceCtorEq])
    (refine W.fs (hok) (by simp only [r13, go_sem, seval, reduceCtorEq]; rfl) ?_; simp only [resV]; try exact V.wk.rfl _)
end
section
attribute [local go_sem] Sg.v Typ.v Typ.cs_eq Pre.v Pre.cs_eq Pre.app tk_mk tname_mk tn_mk tl_mk kdsC nmsC opsC
end
section
theorem names_use {w0 : World} (hG : Glob w0) (s : Sg) (vars : List Str) (hT : (takenT s vars).length ≤ 900000) (σ : H) :
    ∃ (Y : Nat → H) (f : FuncId) (caps : List V), (∀ N, (Y N).length = 7) ∧ (∀ N L, (Y N ++ L)[0]? = some (.cells s.v.cellsV)) ∧
      DC Tryz.prog w0 20 [s.v, .c (.sl (strsR vars))] (σ ++ [.cells s.v.cellsV]) (Same (.fn f caps) (σ ++ Y 0)) ∧
      (∀ n : Nat, n ≤ 100000 → ∀ N, N ≤ 100001 → ∀ L, DC Tryz.prog w0 f (I (n : Int) :: caps) (σ ++ (Y N ++ L)) (Same (S (nameM s vars n)) (σ ++ (Y (max N (n + 1)) ++ L)))) ∧
      (∀ i : Int, i < 0 ∨ i > 100000 → ∀ σ', DC Tryz.prog w0 f (I i :: caps) σ' (Same (S []) σ')) := by
  have e1 : (σ ++ [Blk.cells s.v.cellsV]).length = σ.length + 1 := by simp
  refine ⟨fun N => .cells s.v.cellsV :: nmB s vars (σ.length + 1) N (cntOf s vars N), 68, [.ptr (σ.length + 1 + 2) 0, .ptr (σ.length + 1 + 3) 0, .ptr (σ.length + 1 + 4) 0], fun N => by simp [nm_len], fun N L => rfl, ?_, fun n hn N hN L => ?_, fun i hi σ' => bname_out w0 i hi _ _ _ _⟩
  · have := pretty_Names w0 s vars (σ ++ [.cells s.v.cellsV])
    rw [e1] at this
    simpa only [List.append_assoc, List.cons_append, List.nil_append, cntOf, if_pos] using this
  · have := names_at hG s vars hT n hn N hN (σ ++ [.cells s.v.cellsV]) L
    rw [e1] at this
    simpa only [List.append_assoc, List.cons_append, List.nil_append] using this
theorem name_free (s : Sg) (vars : List Str) (n : Nat) : (findN s.types (nameM s vars n)).isSome = false := by
  have h := (numAt_at s vars n).1
  unfold nameM
  unfold tkX takenX at h
  simp only [Bool.or_eq_false_iff] at h
  exact h.1.1
theorem name_long (s : Sg) (vars : List Str) (n : Nat) : 1 < (nameM s vars n).length := by
  unfold nameM nmX
  rw [List.length_cons, Lib.decDigits_length]
  have := Lib.nDigits_pos (numAt s vars n + 1)
  omega
attribute [local go_sem] Sg.v Typ.v Typ.cs_eq tk_mk tname_mk tn_mk tl_mk kdsC nmsC opsC
theorem law14_PrettyNames {w0 : World} (hG : Glob w0) (hwk : ∀ σ, DC Tryz.prog w0 12 [] σ (Same (B true) σ)) (s : Sg) (vars : List Str) (i : Int) (σ : H) : DC Tryz.prog w0 4 [s.v, .c (.sl (strsR vars)), I i] σ (Same (B true) σ) := by
  refine k4.go rfl (fun hok hsz => ?_)
  have ho := fun σ => law14_over w0 s .none vars σ
  cases hv : overM s .none vars
  · obtain ⟨g1, g2, g3, g4, _⟩ := overM_no hv
    obtain ⟨Y, f, caps, hY, hY0, hNm, hAt, hOut⟩ := names_use hG s vars g1 σ
    have y0 : ∀ N, (Y N)[0]? = some (.cells s.v.cellsV) := fun N => by have := hY0 N []; rwa [List.append_nil] at this
    have y7 : ∀ N L, (Y N ++ L)[7]? = L[0]? := fun N L => by rw [List.getElem?_append_right (by rw [hY]; exact Nat.le_refl _), hY]
    have s7 : ∀ N x L, (Y N ++ L).set 7 x = Y N ++ L.set 0 x := fun N x L => by rw [List.set_append_right _ _ (by rw [hY]; exact Nat.le_refl _), hY]
    have hA0 : ∀ n : Nat, n ≤ 100000 → DC Tryz.prog w0 f (I (n : Int) :: caps) (σ ++ Y 0) (Same (S (nameM s vars n)) (σ ++ Y (n + 1))) := fun n hn => by
      have := hAt n hn 0 (by decide) []
      rw [List.append_nil, List.append_nil] at this
      rwa [Nat.max_eq_right (Nat.zero_le _)] at this
    rw [hv] at ho
    ((try refine W.a ?_); simp only [go_sem, seval, reduceCtorEq, c4])
    (refine W.c1 (hwk _) ?_; simp only [go_sem, seval, reduceCtorEq])
    ((try refine W.a ?_); simp only [go_sem, seval, reduceCtorEq])
    refine W.no rfl ?_
    ((try refine W.a ?_); simp only [go_sem, seval, reduceCtorEq])
    (refine W.c1w (ho _) ?_; simp only [go_sem, seval, reduceCtorEq])
    ((try refine W.a ?_); simp only [go_sem, seval, reduceCtorEq])
    refine W.no rfl ?_
    ((try refine W.a ?_); simp only [go_sem, seval, reduceCtorEq])
    (refine W.c1 (hNm) ?_; simp only [go_sem, seval, reduceCtorEq])
    ((try refine W.a ?_); simp only [go_sem, seval, reduceCtorEq])
    refine W.no rfl ?_
    ((try refine W.a ?_); simp only [go_sem, seval, reduceCtorEq])
    by_cases hi : i < 0 ∨ i > 100000
    · have hO := hOut i hi
      (refine W.c1 (hO _) ?_; simp only [go_sem, seval, reduceCtorEq])
      by_cases hi0 : i < 0
      · ((try refine W.a ?_); simp only [go_sem, seval, reduceCtorEq, hi0])
        refine W.yes rfl ?_
        ((try refine W.a ?_); simp only [go_sem, seval, reduceCtorEq])
        (refine W.fs (hok) (by simp only [r4, go_sem, seval, reduceCtorEq]; rfl) ?_; simp only [resV]; try exact V.wk.rfl _)
      · have hi1 : i > 100000 := by omega
        ((try refine W.a ?_); simp only [go_sem, seval, reduceCtorEq, hi0, hi1])
        refine W.yes rfl ?_
        ((try refine W.a ?_); simp only [go_sem, seval, reduceCtorEq])
        (refine W.fs (hok) (by simp only [r4, go_sem, seval, reduceCtorEq]; rfl) ?_; simp only [resV]; try exact V.wk.rfl _)
    obtain ⟨n, rfl⟩ : ∃ n : Nat, i = (n : Int) := ⟨i.toNat, by omega⟩
    have hn : n ≤ 100000 := by omega
    have hc := hA0 n hn
    have q0 : ¬ ((n : Int) < 0) := by omega
    have q1 : ¬ ((n : Int) > 100000) := by omega
    by_cases hbig : (n : Int) > 60
    · have hlong : ((nameM s vars n).length : Int) > 1 := by have := name_long s vars n; omega
      (refine W.c1 (hc) ?_; simp only [go_sem, seval, reduceCtorEq])
      ((try refine W.a ?_); simp only [go_sem, seval, reduceCtorEq, q0, q1])
      refine W.no rfl ?_
      ((try refine W.a ?_); simp only [go_sem, seval, reduceCtorEq, hbig])
      refine W.yes rfl ?_
      ((try refine W.a ?_); simp only [go_sem, seval, reduceCtorEq, hlong])
      (refine W.fs (hok) (by simp only [r4, go_sem, seval, reduceCtorEq]; rfl) ?_; simp only [resV]; try exact V.wk.rfl _)
    · have hfind := fun σ => sig_Find w0 s (nameM s vars n) σ
      have hfree := name_free s vars n
      have hle := numAt_le s vars n
      have hfar : n + (takenT s vars).length ≤ 900000 + 60 := by omega
      have hName := fun σ => ref14_Name w0 s vars n (numAt s vars n) (by omega) (numAt_at s vars _) (by omega) σ
      have hc2 := fun L => hAt n hn (n + 1) (by omega) L
      simp only [Nat.max_self] at hc2
      unfold nameM at *
      generalize nmX (numAt s vars n + 1) = x at *
      unfold findV at hfind
      rw [hfree] at hfind
      generalize ((findN s.types x).getD .none).ty = u at *
      (refine W.c1 (hc) ?_; simp only [go_sem, seval, reduceCtorEq])
      ((try refine W.a ?_); simp only [go_sem, seval, reduceCtorEq, q0, q1])
      refine W.no rfl ?_
      ((try refine W.a ?_); simp only [go_sem, seval, reduceCtorEq, hbig])
      refine W.no rfl ?_
      ((try refine W.a ?_); simp only [go_sem, seval, reduceCtorEq, hY0, y0])
      (refine W.c1 (hfind _) ?_; simp only [go_sem, seval, reduceCtorEq])
      ((try refine W.a ?_); simp only [go_sem, seval, reduceCtorEq, hY, hY0, y0, y7, s7])
      (refine W.c1 (hName _) ?_; simp only [go_sem, seval, reduceCtorEq])
      ((try refine W.a ?_); simp only [go_sem, seval, reduceCtorEq, hY, hY0, y0, y7, s7])
      (refine W.c1 (hc2 _) ?_; simp only [go_sem, seval, reduceCtorEq])
      ((try refine W.a ?_); simp only [go_sem, seval, reduceCtorEq, hY, hY0, y0, y7, s7])
      (refine W.fs (hok) (by simp only [r4, go_sem, seval, reduceCtorEq]; rfl) ?_; simp only [resV]; try exact V.wk.rfl _)
  · rw [hv] at ho
    ((try refine W.a ?_); simp only [go_sem, seval, reduceCtorEq, c4])
    (refine W.c1 (hwk _) ?_; simp only [go_sem, seval, reduceCtorEq])
    ((try refine W.a ?_); simp only [go_sem, seval, reduceCtorEq])
    refine W.no rfl ?_
    ((try refine W.a ?_); simp only [go_sem, seval, reduceCtorEq])
    (refine W.c1w (ho _) ?_; simp only [go_sem, seval, reduceCtorEq])
    ((try refine W.a ?_); simp only [go_sem, seval, reduceCtorEq])
    refine W.yes rfl ?_
    ((try refine W.a ?_); simp only [go_sem, seval, reduceCtorEq])
    (refine W.fs (hok) (by simp only [r4, go_sem, seval, reduceCtorEq]; rfl) ?_; simp only [resV]; try exact V.wk.rfl _)
end
end Go.Proofs.YtpcmcfajfnpjeaaGreatDoor
namespace Go.Proofs.YtpcmcfajfnpjeaaGreatDoor
open Go.RowKit Go.Lamb
theorem works14 {w0 : World} (hG : Glob w0) (σ : H) : DC Tryz.prog w0 12 [] σ (Same (B true) σ) :=
  runX_true (X := X14) (G := Glob) (fun _ _ h hb => h.ext hb) (fun _ h => X14_ok h) run14 hG σ
theorem law14_PrettyNamesW {w0 : World} (hG : Glob w0) (s : Sg) (vars : List Str) (i : Int) (σ : H) : DC Tryz.prog w0 4 [s.v, .c (.sl (strsR vars)), I i] σ (Same (B true) σ) := law14_PrettyNames hG (works14 hG) s vars i σ
end Go.Proofs.YtpcmcfajfnpjeaaGreatDoor
namespace Go.Lamb
open Go Go.RowKit
theorem goes_no {P : Program} (h : P.funcs.any Func.goes = false) (f : FuncId) : P.goes f = false := by
  unfold Program.goes
  rw [h, Bool.and_false, Bool.or_false, List.any_eq_false]
  intro g _ hg
  cases hf : P.funcs[g]? with
  | none => rw [hf] at hg; cases hg
  | some fn =>
    rw [hf] at hg
    have hg : fn.goes = true := by simpa using hg
    obtain ⟨hlt, e⟩ := Array.getElem?_eq_some_iff.1 hf
    rw [Array.any_eq_false] at h
    have := h g hlt
    rw [e, hg] at this
    exact absurd rfl this
theorem goesBy_no {P : Program} (h : P.funcs.any Func.goes = false) {c : OpenClaim} (hs : c.start = .entering) : false = c.goesBy P := by
  unfold OpenClaim.goesBy Program.goesAt Program.goesFrom
  rw [hs]
  cases P.funcNamed c.func with
  | none => rfl
  | some f => simp [goes_no h f]
end Go.Lamb
namespace Go.Proofs.YtpcmcfajfnpjeaaGreatDoor
open Go.RowKit Go.Lamb
theorem nogo : Tryz.pinned.checked.prog.funcs.any Func.goes = false := by kernel_rfl
end Go.Proofs.YtpcmcfajfnpjeaaGreatDoor

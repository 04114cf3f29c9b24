/-
  Walks: the document's Read of types; which types are the same, and how large they are.
  Walks: when two sentences are the same.
  The code of some functions, without addresses.
  Walks: the document's operators: the first ones; what is wrong with one more.
  Walks: which kind, which constant; whether a type fits.
  Walks: whether a type fits; which names have a meaning of their own.
  Walks: sentences are added to a signature.
  Walks: a name of a sentence is added; a sentence is added.
  Walks: the document's answer: a name of a sentence is added.
  Walks: the document's answer: a sentence is added; when two signatures are the same.
  The code of some functions, without addresses.
  Walks: rows of constants, one behind the other.
  Walks: the first signature.
  Walks: the document's first signature; a signature is the same as itself.
  Walks: numbers as texts; texts joined; a text in brackets.
-/
import Derived.Test.YtohcnohllbjlcaaGreatDoorQJ33
import Derived.Test.YtohcnohllbjlcaaGreatDoorChecked
import Derived.Test.YtohcnohllbjlcaaGreatDoorQJ13
import Derived.Test.YtohcnohllbjlcaaGreatDoorQRefH
import Derived.Test.YtohcnohllbjlcaaGreatDoorQRefI
import Derived.Test.YtohcnohllbjlcaaGreatDoorQTyA2
import Derived.Test.YtohcnohllbjlcaaGreatDoorQLexG
import Derived.Lib.ItoaLen
import Derived.Lib.Join
set_option linter.unusedSimpArgs false
set_option linter.unusedVariables false
set_option maxHeartbeats 8000000
set_option maxRecDepth 20000
namespace Go.Proofs.YtohcnohllbjlcaaGreatDoor
open Go.RowKit Go.Lamb
attribute [local go_sem] advO_skip advO_reg advO_seq advO_block advO_exit advO_endb advO_opsNil advO_ops advG_yes advG_no advG_none advS_some advS_none advO_cond advO_loop advO_dreg advO_ret advO_bad advO_inv advO_nil advO_zero wantedV Lamb.step ev_t ev_k put_some put_none argEnv popTo cellsAt V.cellsV V.rows V.toC toCs fillV bytesC byteRows appV rowsV boundV boundL binV binInt binStr eqC eqL V.isNil leaves V.leaf Ins.quiet Ins.pure List.getD_cons_zero List.getD_cons_succ List.getD_nil List.all_cons List.all_nil List.length_cons List.length_nil List.take_succ_cons List.take_zero List.drop_succ_cons List.drop_zero List.cons_append List.nil_append List.append_nil List.append_assoc List.map_cons List.map_nil List.getElem?_cons_zero List.getElem?_cons_succ List.length_append List.length_set hget0 hget hset0 hset hsets hgs0 hgs hss0 hss List.set_cons_zero List.set_cons_succ List.forall_mem_cons List.not_mem_nil false_implies implies_true Option.map_some Bool.and_true Bool.true_and Bool.not_not Bool.not_true Bool.not_false Bool.and_self Bool.or_true Bool.true_or Bool.or_false Bool.false_or Bool.and_false Bool.false_and Bool.false_eq_true beq_self_eq_true and_self and_true true_and if_true if_false Nat.zero_add Nat.add_zero Nat.le_refl Int.toNat_natCast decide_true decide_false beq_t beq_f List.length_map List.getElem?_map I S B opsC toksC OpT.v OpT.cs OpT.zero Tok.v Tok.cs Pre.v Pre.cs_eq k_mk name_mk n_mk l_mk pos_mk Pre.app applyL natCast0 natCast1 natCast2 AOp.o AOp.m AOp.f AOp.l AOp.d AOp.n AOp.x AOp.s AOp.k AOp.y AOp.z EOp.q low_c low_void low_any low_csl low_nilf low_ptr low_osl low_agg low_tup low_fn resEval advPO_nil advPO_loud advPO_quiet pL_yes pL_no pLS_some pLS_none pQ_yes pQ_no pQS_some pQS_loud eq_self Nat.sub_zero
attribute [local go_sem] tqX tyY rs_len rs_g0 rs_g rs_s0 rs_s rs_sv Typ.v Typ.cs_eq tk_mk tname_mk tn_mk tl_mk tysC

theorem typ_len {p : Typ} {args : List V} (h : ∀ y ∈ args, V.Sz y) (hx : p.v ∈ args) : p.l.length ≤ 9223372036854775807 := by
  have := h _ hx
  rw [Typ.v, sz_agg] at this
  exact sz_rows (this (.c (.sl (p.l.map Typ.cs))) (by simp))
theorem ref05_Same (w0 : World) (p : Typ) : ∀ (q : Typ) (σ : H), DC Tryz.prog w0 21 [p.v, q.v] σ (Same (B (sameTy p q)) σ) := by
  refine Typ.ind (P := fun p => ∀ (q : Typ) (σ : H), DC Tryz.prog w0 21 [p.v, q.v] σ (Same (B (sameTy p q)) σ)) (fun p ih q σ => ?_) p
  refine k21.go rfl (fun hok hsz => ?_)
  have hlen := typ_len hsz (List.mem_cons_self ..)
  have hlq : ((p.l.length : Int) == (q.l.length : Int)) = (p.l.length == q.l.length) := by rw [Bool.eq_iff_iff]; simp; omega
  have hnl : p.l.length ≠ q.l.length → zipAll sameTy p.l q.l = false := zipAll_len
  (((try refine W.a ?_); (try simp only [bne, go_sem, seval, reduceCtorEq, c21, hlq, *])); (repeat' (first | (refine W.yes rfl ?_; (refine W.a ?_; simp only [bne, go_sem, seval, reduceCtorEq, c21, hlq, *])) | (refine W.no rfl ?_; (refine W.a ?_; simp only [bne, go_sem, seval, reduceCtorEq, c21, hlq, *])) | (refine W.testn rfl (fun hT => ?_) (fun hT => ?_) <;> (refine W.a ?_; simp only [bne, go_sem, seval, reduceCtorEq, c21, hlq, *])) | (refine W.test rfl (fun hT => ?_) (fun hT => ?_) <;> (refine W.a ?_; simp only [bne, go_sem, seval, reduceCtorEq, c21, hlq, *])) | (refine advG_ifn _ _ _ _ (fun hT => ?_) (fun hT => ?_) <;> simp only [bne, go_sem, seval, reduceCtorEq, c21, hlq, *]) | (refine advG_if _ _ _ _ (fun hT => ?_) (fun hT => ?_) <;> simp only [bne, go_sem, seval, reduceCtorEq, c21, hlq, *]))))
  all_goals (try (refine W.fs (hok) (by simp only [r21, go_sem, seval, reduceCtorEq]; rfl) ?_; simp only [resV]; (first | exact V.wk.rfl _ | (refine wk_bool ?_; clear hsz hok; rw [sameTy_eq] <;> ((try simp only [beq_iff_eq, beq_eq_false_iff_ne, ne_eq, decide_eq_true_eq, decide_eq_false_iff_not] at *); first | (exfalso; omega) | (simp [hnl, *]; done) | (simp [hnl, *]; omega) | (simp [hnl, *]))))))
  simp only [beq_iff_eq, beq_eq_false_iff_ne, Bool.not_eq_true', Bool.not_eq_false'] at *
  have hl : p.l.length = q.l.length := by assumption
  have hs0 : sameTy p q = zipAll sameTy p.l q.l := by rw [sameTy_eq]; simp [*]
  refine W.loopP (fun i => i ≤ p.l.length ∧ ∀ j (hj : j < p.l.length) (hj' : j < q.l.length), j < i → sameTy p.l[j] q.l[j] = true) (fun i => ⟨((((base.put (some 2) (.ptr σ.length 0)).put (some 3) (.ptr (σ.length + 1) 0)).put (some 4) (B false)).put (some 5) (I (i : Nat))), σ ++ [.cells p.v.cellsV, .cells q.v.cellsV]⟩) (fun i => p.l.length - i) 0 ⟨Nat.zero_le _, fun _ _ _ h => absurd h (by omega)⟩ ?_ (fun i hi => ?_)
  · (refine Lew.env ?_; exact lee_here)
  · obtain ⟨hi, hinv⟩ := hi
    by_cases hlt : i < p.l.length
    · have h1 : ((i : Int) < (p.l.length : Int)) := by omega
      have h2 : ((i : Int) < (q.l.length : Int)) := by omega
      have hltr : i < q.l.length := by omega
      have hx : p.l[i]? = some p.l[i] := List.getElem?_eq_getElem hlt
      have hy : q.l[i]? = some q.l[i] := List.getElem?_eq_getElem hltr
      have hw : IntKind.i64.wrap ((i : Int) + 1) = ((i + 1 : Nat) : Int) := wrap_next hlt hlen
      ((try refine W.a ?_); simp only [go_sem, seval, reduceCtorEq, h1])
      refine W.yes rfl ?_
      ((try refine W.a ?_); simp only [go_sem, seval, reduceCtorEq])
      apply W.dregE (List.cons_ne_nil _ _)
      case hc =>
        (apply CanonE.advPO; simp only [go_sem, seval, reduceCtorEq, h1, h2, nat0, hx, hy])
        (apply CanonE.call (ih p.l[i] (List.getElem_mem hlt) q.l[i] _); (case hg => rfl); (case hf => rfl); (case ha => first | rfl | simp))
        (apply CanonE.advPO; simp only [go_sem, seval, reduceCtorEq])
        exact CanonE.nil
      ((try refine W.a ?_); simp only [go_sem, seval, reduceCtorEq])
      refine W.testn rfl (fun h => ?_) (fun h => ?_)
      · ((try refine W.a ?_); simp only [go_sem, seval, reduceCtorEq, hw])
        refine .inv ⟨i + 1, ⟨hlt, fun j hj hj' hji => ?_⟩, by omega, ?_⟩
        · rcases Nat.lt_succ_iff_lt_or_eq.1 hji with h' | h'
          · exact hinv j hj hj' h'
          · subst h'; exact h
        · (refine Lew.env ?_; exact lee_here)
      · ((try refine W.a ?_); simp only [go_sem, seval, reduceCtorEq])
        (refine W.fs (hok) (by simp only [r21, go_sem, seval, reduceCtorEq]; rfl) ?_; simp only [resV]; try exact V.wk.rfl _)
        rw [hs0, zipAll_no hlt hltr h]
        exact .rfl _
    · have h1 : ¬ ((i : Int) < (p.l.length : Int)) := by omega
      ((try refine W.a ?_); simp only [go_sem, seval, reduceCtorEq, h1])
      refine W.no rfl ?_
      ((try refine W.a ?_); simp only [go_sem, seval, reduceCtorEq])
      (refine W.fs (hok) (by simp only [r21, go_sem, seval, reduceCtorEq]; rfl) ?_; simp only [resV]; try exact V.wk.rfl _)
      rw [hs0, zipAll_yes hl (fun j hj hj' => hinv j hj hj' (by omega))]
      exact .rfl _
theorem ref05_left (w0 : World) (p : Typ) : ∀ (n : Int), 0 ≤ n → n ≤ 1000000 → ∀ (σ : H), DC Tryz.prog w0 63 [p.v, I n] σ (Same (I (leftT p n)) σ) := by
  refine Typ.ind (P := fun p => ∀ (n : Int), 0 ≤ n → n ≤ 1000000 → ∀ (σ : H), DC Tryz.prog w0 63 [p.v, I n] σ (Same (I (leftT p n)) σ)) (fun p ih n hn hn' σ => ?_) p
  refine k63.go rfl (fun hok hsz => ?_)
  have hlen := typ_len hsz (List.mem_cons_self ..)
  have hw0 : IntKind.i64.wrap (n - 1) = n - 1 := by rw [wrap_in] <;> omega
  ((try refine W.a ?_); simp only [go_sem, seval, reduceCtorEq, c63, hw0])
  refine W.loopP (α := Nat × Int) (fun x => x.1 ≤ p.l.length ∧ -1 ≤ x.2 ∧ x.2 ≤ 1000000 ∧ leftTs (p.l.drop x.1) x.2 = leftT p n) (fun x => ⟨((((base.put (some 2) (.ptr σ.length 0)).put (some 4) (I 0)).put (some 5) (I x.2)).put (some 6) (I (x.1 : Nat))), σ ++ [.cells p.v.cellsV]⟩) (fun x => p.l.length - x.1) (0, n - 1) ⟨Nat.zero_le _, by simp only; omega, by simp only; omega, by rw [leftT_eq]; rfl⟩ ?_ (fun x hi => ?_)
  · (refine Lew.env ?_; exact lee_here)
  · obtain ⟨i, m⟩ := x
    obtain ⟨hi, hm, hm', hinv⟩ := hi
    simp only at hi hm hm' hinv
    by_cases hlt : i < p.l.length
    · have h1 : ((i : Int) < (p.l.length : Int)) := by omega
      have hx : p.l[i]? = some p.l[i] := List.getElem?_eq_getElem hlt
      have hw : IntKind.i64.wrap ((i : Int) + 1) = ((i + 1 : Nat) : Int) := wrap_next hlt hlen
      by_cases h0 : 0 ≤ m
      · have h0' : m ≥ 0 := h0
        ((try refine W.a ?_); simp only [go_sem, seval, reduceCtorEq, h1, h0'])
        refine W.yes rfl ?_
        ((try refine W.a ?_); simp only [go_sem, seval, reduceCtorEq, h1, nat0, hx])
        (refine W.c1 (ih p.l[i] (List.getElem_mem hlt) m h0 hm' _) ?_; simp only [go_sem, seval, reduceCtorEq, hw])
        have := leftT_le p.l[i] m h0
        refine .inv ⟨(i + 1, leftT p.l[i] m), ⟨hlt, this.1, by simp only; omega, by rw [← hinv, leftTs_step hlt h0]⟩, by simp only; omega, ?_⟩
        (refine Lew.env ?_; exact lee_here)
      · have h0' : ¬ m ≥ 0 := h0
        ((try refine W.a ?_); simp only [go_sem, seval, reduceCtorEq, h1, h0'])
        refine W.no rfl ?_
        ((try refine W.a ?_); simp only [go_sem, seval, reduceCtorEq])
        (refine W.fs (hok) (by simp only [r63, go_sem, seval, reduceCtorEq]; rfl) ?_; simp only [resV]; try exact V.wk.rfl _)
        rw [← hinv, leftTs_neg h0]
        exact .rfl _
    · have h1 : ¬ ((i : Int) < (p.l.length : Int)) := by omega
      ((try refine W.a ?_); simp only [go_sem, seval, reduceCtorEq, h1])
      refine W.no rfl ?_
      ((try refine W.a ?_); simp only [go_sem, seval, reduceCtorEq])
      (refine W.fs (hok) (by simp only [r63, go_sem, seval, reduceCtorEq]; rfl) ?_; simp only [resV]; try exact V.wk.rfl _)
      rw [← hinv, leftTs_end (by omega)]
      exact .rfl _
theorem ref05_Large (w0 : World) (p : Typ) (n : Int) (hn : 0 ≤ n) (hn' : n ≤ 1000000) (σ : H) : DC Tryz.prog w0 29 [p.v, I n] σ (Same (B (decide (leftT p n < 0))) σ) := by
  refine k29.go rfl (fun hok hsz => ?_)
  ((try refine W.a ?_); simp only [go_sem, seval, reduceCtorEq, c29])
  (refine W.c1 (ref05_left w0 p n hn hn' _) ?_; simp only [go_sem, seval, reduceCtorEq])
  (refine W.fs (hok) (by simp only [r29, go_sem, seval, reduceCtorEq]; rfl) ?_; simp only [resV]; try exact V.wk.rfl _)
end Go.Proofs.YtohcnohllbjlcaaGreatDoor
namespace Go.Proofs.YtohcnohllbjlcaaGreatDoor
open Go.RowKit Go.Lamb

end Go.Proofs.YtohcnohllbjlcaaGreatDoor
namespace Go.Proofs.YtohcnohllbjlcaaGreatDoor
open Go.RowKit Go.Lamb
/-- lambentref01.IsName -/
def c95 : AC :=
  .seq (.reg [.o 2 (.mov (.k (.c (.bool false))))])
  (.seq (.seq (.reg [.m 5 0, .o 6 (.lens (.t 5)), .o 7 (.bin .lss (.t 6) (.k (.c (.int .i64 1)))), .m 8 7, .z 9 (.mov (.t 0)) 8, .z 10 (.lens (.t 9)) 8, .z 11 (.bin .gtr (.t 10) (.k (.c (.int .i64 32)))) 8, .o 12 (.pick (.t 8) (.k (.c (.bool true))) (.t 11)), .m 13 12, .z 14 (.mov (.t 0)) 13, .z 15 (.index (.t 14) (.k (.c (.int .i64 0)))) 13, .z 16 (.call (.k (.fn 135 [])) [(.t 15)]) 13, .z 17 (.un .not (.t 16)) 13, .o 18 (.pick (.t 13) (.k (.c (.bool true))) (.t 17))])
  (.cond (.t 18)
  (.seq (.reg [.o 2 (.mov (.k (.c (.bool false))))])
  (.ret))
  (.skip)))
  (.seq (.seq (.reg [.o 3 (.mov (.k (.c (.int .i64 0))))])
  (.block 0 (.loop (.seq (.seq (.reg [.m 19 3, .m 20 0, .o 21 (.lens (.t 20)), .o 22 (.bin .lss (.t 19) (.t 21))])
  (.cond (.t 22)
  (.skip)
  (.exit 0)))
  (.seq (.block 1 (.seq (.reg [.m 25 0, .m 26 3, .o 27 (.index (.t 25) (.t 26)), .k 28 136 [(.t 27)], .m 4 28])
  (.seq (.reg [.m 29 4, .o 30 (.un .not (.t 29))])
  (.cond (.t 30)
  (.seq (.reg [.o 2 (.mov (.k (.c (.bool false))))])
  (.ret))
  (.skip)))))
  (.reg [.m 23 3, .o 24 (.bin .add (.t 23) (.k (.c (.int .i64 1)))), .m 3 24]))))))
  (.seq (.reg [.o 2 (.mov (.k (.c (.bool true))))])
  (.ret))))
def r95 : List ResV := [.tmp 2]
theorem k95 : CodeIs Tryz.prog 95 1 Tryz.f95 c95 r95 := ⟨by kernel_rfl, Tryz.func95, rfl, by kernel_rfl, by kernel_rfl, by decide, enters_fn Tryz.func95 (by kernel_rfl) rfl⟩
/-- lambentref01.IsSym -/
def c96 : AC :=
  .seq (.reg [.o 2 (.mov (.k (.c (.bool false))))])
  (.seq (.seq (.reg [.m 5 0, .o 6 (.bin .eql (.t 5) (.k (.c (.str [44])))), .m 7 6, .z 8 (.mov (.t 0)) 7, .z 9 (.bin .eql (.t 8) (.k (.c (.str [59])))) 7, .o 10 (.pick (.t 7) (.k (.c (.bool true))) (.t 9)), .m 11 10, .z 12 (.mov (.t 0)) 11, .z 13 (.bin .eql (.t 12) (.k (.c (.str [33])))) 11, .o 14 (.pick (.t 11) (.k (.c (.bool true))) (.t 13))])
  (.cond (.t 14)
  (.seq (.reg [.o 2 (.mov (.k (.c (.bool true))))])
  (.ret))
  (.skip)))
  (.seq (.seq (.reg [.o 3 (.mov (.k (.c (.int .i64 0))))])
  (.block 0 (.loop (.seq (.seq (.reg [.m 15 3, .m 16 0, .o 17 (.lens (.t 16)), .o 18 (.bin .lss (.t 15) (.t 17))])
  (.cond (.t 18)
  (.skip)
  (.exit 0)))
  (.seq (.block 1 (.seq (.reg [.m 21 0, .m 22 3, .o 23 (.index (.t 21) (.t 22)), .k 24 137 [(.t 23)], .m 4 24])
  (.seq (.reg [.m 25 4, .o 26 (.un .not (.t 25))])
  (.cond (.t 26)
  (.seq (.reg [.o 2 (.mov (.k (.c (.bool false))))])
  (.ret))
  (.skip)))))
  (.reg [.m 19 3, .o 20 (.bin .add (.t 19) (.k (.c (.int .i64 1)))), .m 3 20]))))))
  (.seq (.reg [.m 27 0, .o 28 (.lens (.t 27)), .o 29 (.bin .geq (.t 28) (.k (.c (.int .i64 1)))), .m 30 29, .y 31 (.mov (.t 0)) 30, .y 32 (.lens (.t 31)) 30, .y 33 (.bin .leq (.t 32) (.k (.c (.int .i64 32)))) 30, .o 34 (.pick (.t 30) (.t 33) (.k (.c (.bool false)))), .m 2 34])
  (.ret))))
def r96 : List ResV := [.tmp 2]
theorem k96 : CodeIs Tryz.prog 96 1 Tryz.f96 c96 r96 := ⟨by kernel_rfl, Tryz.func96, rfl, by kernel_rfl, by kernel_rfl, by decide, enters_fn Tryz.func96 (by kernel_rfl) rfl⟩
end Go.Proofs.YtohcnohllbjlcaaGreatDoor
namespace Go.Proofs.YtohcnohllbjlcaaGreatDoor
open Go.RowKit Go.Lamb
attribute [local go_sem] advO_skip advO_reg advO_seq advO_block advO_exit advO_endb advO_opsNil advO_ops advG_yes advG_no advG_none advS_some advS_none advO_cond advO_loop advO_dreg advO_ret advO_bad advO_inv advO_nil advO_zero wantedV Lamb.step ev_t ev_k put_some put_none argEnv popTo cellsAt V.cellsV V.rows V.toC toCs fillV bytesC byteRows appV rowsV boundV boundL binV binInt binStr eqC eqL V.isNil leaves V.leaf Ins.quiet Ins.pure List.getD_cons_zero List.getD_cons_succ List.getD_nil List.all_cons List.all_nil List.length_cons List.length_nil List.take_succ_cons List.take_zero List.drop_succ_cons List.drop_zero List.cons_append List.nil_append List.append_nil List.append_assoc List.map_cons List.map_nil List.getElem?_cons_zero List.getElem?_cons_succ List.length_append List.length_set hget0 hget hset0 hset hsets hgs0 hgs hss0 hss List.set_cons_zero List.set_cons_succ List.forall_mem_cons List.not_mem_nil false_implies implies_true Option.map_some Bool.and_true Bool.true_and Bool.not_not Bool.not_true Bool.not_false Bool.and_self Bool.or_true Bool.true_or Bool.or_false Bool.false_or Bool.and_false Bool.false_and Bool.false_eq_true beq_self_eq_true and_self and_true true_and if_true if_false Nat.zero_add Nat.add_zero Nat.le_refl Int.toNat_natCast decide_true decide_false beq_t beq_f List.length_map List.getElem?_map I S B opsC toksC OpT.v OpT.cs OpT.zero Tok.v Tok.cs Pre.v Pre.cs_eq k_mk name_mk n_mk l_mk pos_mk Pre.app applyL natCast0 natCast1 natCast2 AOp.o AOp.m AOp.f AOp.l AOp.d AOp.n AOp.x AOp.s AOp.k AOp.y AOp.z EOp.q low_c low_void low_any low_csl low_nilf low_ptr low_osl low_agg low_tup low_fn resEval advPO_nil advPO_loud advPO_quiet pL_yes pL_no pLS_some pLS_none pQ_yes pQ_no pQS_some pQS_loud eq_self Nat.sub_zero
section

theorem DC.of_byte {w0 : World} {f : FuncId} {c : UInt8} {b : Bool} {σ : H} (hen : Enters Tryz.prog f) (h : ∀ w, Calls Tryz.prog f #[.int .u8 c.toNat] w (Ret (.bool b) w)) : DC Tryz.prog w0 f [.c (.int .u8 c.toNat)] σ (Same (B b) σ) := by
  refine DC.of_calls hen fun κ w vs hrep hfit => ?_
  obtain ⟨v, ys, rfl, hv, hfit⟩ := hfit.cons_inv
  have := hfit.nil_inv
  subst this
  cases hv with
  | c hv =>
    cases hv with
    | int _ =>
      refine ⟨.bool b, .c (.bool b), (h w).mono ?_⟩
      rintro e w' ⟨rfl, rfl⟩
      exact ⟨rfl, Below.refl _ _⟩
theorem ref01_signD (w0 : World) (c : UInt8) (σ : H) : DC Tryz.prog w0 137 [.c (.int .u8 c.toNat)] σ (Same (B (signB c)) σ) :=
  DC.of_byte (enters_fn Tryz.func137 (by kernel_rfl) rfl) fun w => ref_sign c w
theorem fits_no {s : List UInt8} (h : 32 < s.length) : fitsB s = false := by simp [fitsB]; omega
theorem ref01_IsNameD (w0 : World) (s : List UInt8) (σ : H) : DC Tryz.prog w0 95 [S s] σ (Same (B (isNameB s)) σ) := by
  by_cases hs : s.length ≤ 1000000
  · exact DC.of_text (enters_fn Tryz.func95 (by kernel_rfl) rfl) fun w _ => ref_IsName s w (by omega)
  · refine k95.go rfl (fun hok hsz => ?_)
    have h1 : ¬ ((s.length : Int) < 1) := by omega
    have h2 : ((s.length : Int) > 32) := by omega
    ((try refine W.a ?_); simp only [go_sem, seval, reduceCtorEq, c95, h1, h2])
    refine W.yes rfl ?_
    ((try refine W.a ?_); simp only [go_sem, seval, reduceCtorEq])
    (refine W.fs (hok) (by simp only [r95, go_sem, seval, reduceCtorEq]; rfl) ?_; simp only [resV]; try exact V.wk.rfl _)
    rw [isNameB, fits_no (by omega)]; exact .rfl _
theorem ref01_IsSymD (w0 : World) (s : List UInt8) (σ : H) : DC Tryz.prog w0 96 [S s] σ (Same (B (isSymB s)) σ) := by
  by_cases hs : s.length ≤ 1000000
  · exact DC.of_text (enters_fn Tryz.func96 (by kernel_rfl) rfl) fun w _ => ref_IsSym s w (by omega)
  · refine k96.go rfl (fun hok hsz => ?_)
    have hlen : s.length ≤ 9223372036854775807 := by have := sz_text hsz (List.mem_cons_self ..); unfold maxLen at this; exact this
    have hne : ∀ c : UInt8, (s == [c]) = false := fun c => by
      rw [beq_eq_false_iff_ne]; intro e; rw [e] at hs; simp at hs
    have hF : isSymB s = false := by rw [isSymB, fits_no (by omega)]; rfl
    ((try refine W.a ?_); simp only [go_sem, seval, reduceCtorEq, c96, hne])
    refine W.no rfl ?_
    ((try refine W.a ?_); simp only [go_sem, seval, reduceCtorEq])
    refine W.loopP (fun i => i ≤ s.length) (fun i => ⟨((base.put (some 0) (S s)).put (some 3) (I (i : Nat))), σ⟩) (fun i => s.length - i) 0 (Nat.zero_le _) ?_ (fun i hi => ?_)
    · (refine Lew.env ?_; exact lee_here)
    · by_cases hlt : i < s.length
      · have h1 : ((i : Int) < (s.length : Int)) := by omega
        have hx : s[i]? = some s[i] := List.getElem?_eq_getElem hlt
        have hw := wrap_next hlt hlen
        ((try refine W.a ?_); simp only [go_sem, seval, reduceCtorEq, h1])
        refine W.yes rfl ?_
        ((try refine W.a ?_); simp only [go_sem, seval, reduceCtorEq, h1, nat0, hx])
        (refine W.c1 (ref01_signD w0 s[i] _) ?_; simp only [go_sem, seval, reduceCtorEq])
        refine W.testn rfl (fun h => ?_) (fun h => ?_)
        · ((try refine W.a ?_); simp only [go_sem, seval, reduceCtorEq, hw])
          refine .inv ⟨i + 1, hlt, by omega, ?_⟩
          (refine Lew.env ?_; exact lee_here)
        · ((try refine W.a ?_); simp only [go_sem, seval, reduceCtorEq])
          (refine W.fs (hok) (by simp only [r96, go_sem, seval, reduceCtorEq]; rfl) ?_; simp only [resV]; try exact V.wk.rfl _)
          rw [hF]; exact .rfl _
      · have h1 : ¬ ((i : Int) < (s.length : Int)) := by omega
        have h2 : ((s.length : Int) ≥ 1) := by omega
        have h3 : ¬ ((s.length : Int) ≤ 32) := by omega
        ((try refine W.a ?_); simp only [go_sem, seval, reduceCtorEq, h1])
        refine W.no rfl ?_
        ((try refine W.a ?_); simp only [go_sem, seval, reduceCtorEq, h2, h3])
        (refine W.fs (hok) (by simp only [r96, go_sem, seval, reduceCtorEq]; rfl) ?_; simp only [resV]; try exact V.wk.rfl _)
        rw [hF]; exact .rfl _

theorem ref02_one (w0 : World) (name : Str) (prec fix : Int) (σ : H) : DC Tryz.prog w0 132 [S name, I prec, I fix] σ (Same (OpT.v ⟨name, prec, fix⟩) σ) := by
  refine k132.go rfl (fun hok hsz => ?_)
  ((try refine W.a ?_); simp only [go_sem, seval, reduceCtorEq, c132])
  (refine W.fs (hok) (by simp only [r132, go_sem, seval, reduceCtorEq]; rfl) ?_; simp only [resV]; try exact V.wk.rfl _)
theorem ref02_Default (w0 : World) (σ : H) : DC Tryz.prog w0 86 [] σ (Same (.osl σ.length (ops0.map OpT.cs)) (σ ++ [.spare 35 3 ops0.length])) := by
  refine k86.goN rfl (fun hok hsz => ?_)
  ((try refine W.a ?_); simp only [go_sem, seval, reduceCtorEq, c86])
  refine W.own 2 35 3 rfl ?_
  (refine W.c1 (ref02_one w0 _ _ _ _) ?_; simp only [go_sem, seval, reduceCtorEq])
  (refine W.c1 (ref02_one w0 _ _ _ _) ?_; simp only [go_sem, seval, reduceCtorEq])
  (refine W.c1 (ref02_one w0 _ _ _ _) ?_; simp only [go_sem, seval, reduceCtorEq])
  (refine W.c1 (ref02_one w0 _ _ _ _) ?_; simp only [go_sem, seval, reduceCtorEq])
  (refine W.c1 (ref02_one w0 _ _ _ _) ?_; simp only [go_sem, seval, reduceCtorEq])
  (refine W.c1 (ref02_one w0 _ _ _ _) ?_; simp only [go_sem, seval, reduceCtorEq])
  (refine W.c1 (ref02_one w0 _ _ _ _) ?_; simp only [go_sem, seval, reduceCtorEq])
  (refine W.c1 (ref02_one w0 _ _ _ _) ?_; simp only [go_sem, seval, reduceCtorEq])
  (refine W.c1 (ref02_one w0 _ _ _ _) ?_; simp only [go_sem, seval, reduceCtorEq])
  (refine W.c1 (ref02_one w0 _ _ _ _) ?_; simp only [go_sem, seval, reduceCtorEq])
  (refine W.c1 (ref02_one w0 _ _ _ _) ?_; simp only [go_sem, seval, reduceCtorEq])
  (refine W.c1 (ref02_one w0 _ _ _ _) ?_; simp only [go_sem, seval, reduceCtorEq])
  (refine W.c1 (ref02_one w0 _ _ _ _) ?_; simp only [go_sem, seval, reduceCtorEq])
  (refine W.c1 (ref02_one w0 _ _ _ _) ?_; simp only [go_sem, seval, reduceCtorEq])
  (refine W.c1 (ref02_one w0 _ _ _ _) ?_; simp only [go_sem, seval, reduceCtorEq])
  refine W.ret ⟨_, _, rfl, .rfl _, ?_⟩
  exact ⟨rfl, rfl⟩
theorem reserved_first {s : Str} (h : reservedL s = true) : ((s == [33]) = true) ∨ ((s == [33]) = false ∧ (s == [45, 62]) = true) ∨ ((s == [33]) = false ∧ (s == [45, 62]) = false ∧ (s == [107, 105, 110, 100]) = true) ∨ ((s == [33]) = false ∧ (s == [45, 62]) = false ∧ (s == [107, 105, 110, 100]) = false ∧ (s == [116, 121, 112, 101]) = true) ∨ ((s == [33]) = false ∧ (s == [45, 62]) = false ∧ (s == [107, 105, 110, 100]) = false ∧ (s == [116, 121, 112, 101]) = false ∧ (s == [105, 110, 102, 105, 120]) = true) ∨ ((s == [33]) = false ∧ (s == [45, 62]) = false ∧ (s == [107, 105, 110, 100]) = false ∧ (s == [116, 121, 112, 101]) = false ∧ (s == [105, 110, 102, 105, 120]) = false ∧ (s == [105, 110, 102, 105, 120, 108]) = true) ∨ ((s == [33]) = false ∧ (s == [45, 62]) = false ∧ (s == [107, 105, 110, 100]) = false ∧ (s == [116, 121, 112, 101]) = false ∧ (s == [105, 110, 102, 105, 120]) = false ∧ (s == [105, 110, 102, 105, 120, 108]) = false ∧ (s == [105, 110, 102, 105, 120, 114]) = true) := by
  unfold reservedL at h
  simp only [Bool.or_eq_true] at h
  cases e1 : (s == [33])
  case true => simp
  cases e2 : (s == [45, 62])
  case true => simp
  cases e3 : (s == [107, 105, 110, 100])
  case true => simp
  cases e4 : (s == [116, 121, 112, 101])
  case true => simp
  cases e5 : (s == [105, 110, 102, 105, 120])
  case true => simp
  cases e6 : (s == [105, 110, 102, 105, 120, 108])
  case true => simp
  cases e7 : (s == [105, 110, 102, 105, 120, 114])
  case true => simp
  simp [e1, e2, e3, e4, e5, e6, e7] at h
theorem reserved_not {s : Str} (h : reservedL s = false) : (s == [33]) = false ∧ (s == [45, 62]) = false ∧ (s == [107, 105, 110, 100]) = false ∧ (s == [116, 121, 112, 101]) = false ∧ (s == [105, 110, 102, 105, 120]) = false ∧ (s == [105, 110, 102, 105, 120, 108]) = false ∧ (s == [105, 110, 102, 105, 120, 114]) = false := by
  simpa [reservedL, and_assoc] using h
theorem ref02_Declare (w0 : World) (l : List OpT) (name : Str) (prec fix : Int) (hf : fix = 0 ∨ fix = 1 ∨ fix = 2) (σ : H) : DC Tryz.prog w0 97 [.c (opsC l), OpT.v ⟨name, prec, fix⟩] σ (Same (I (wrongL l ⟨name, prec, fix⟩)) σ) := by
  refine k97.go rfl (fun hok hsz => ?_)
  have hw : wrongL l ⟨name, prec, fix⟩ = if (isNameB name = false ∧ isSymB name = false) ∨ reservedL name = true then 20 else if prec < 1 ∨ 200 < prec then 21 else if (findL l name).isSome = true then 22 else if 64 ≤ l.length then 23 else 0 := by
    unfold wrongL
    rw [if_neg (by simp only; omega)]
  rw [hw]
  rcases hf with rfl | rfl | rfl
  all_goals
    ((try refine W.a ?_); simp only [go_sem, seval, reduceCtorEq, c97])
    refine W.no rfl ?_
    ((try refine W.a ?_); simp only [go_sem, seval, reduceCtorEq])
    cases hR : reservedL name
    · obtain ⟨e1, e2, e3, e4, e5, e6, e7⟩ := reserved_not hR
      cases hN : isNameB name <;> cases hS : isSymB name
      all_goals
        (refine W.c1 (ref01_IsNameD w0 name _) ?_; simp only [go_sem, seval, reduceCtorEq])
        (refine W.c1 (ref01_IsSymD w0 name _) ?_; simp only [go_sem, seval, reduceCtorEq, hN, hS, e1, e2, e3, e4, e5, e6, e7])
        first
          | (refine W.yes rfl ?_
             ((try refine W.a ?_); simp only [go_sem, seval, reduceCtorEq])
             (refine W.fs (hok) (by simp only [r97, go_sem, seval, reduceCtorEq]; rfl) ?_; simp only [resV]; try exact V.wk.rfl _))
          | (refine W.no rfl ?_
             simp only [and_false, false_and, or_false, Bool.true_eq_false, Bool.false_eq_true, if_false, reduceCtorEq]
             by_cases p1 : prec < 1
             · rw [if_pos (.inl p1)]
               ((try refine W.a ?_); simp only [go_sem, seval, reduceCtorEq, p1])
               refine W.yes rfl ?_
               ((try refine W.a ?_); simp only [go_sem, seval, reduceCtorEq])
               (refine W.fs (hok) (by simp only [r97, go_sem, seval, reduceCtorEq]; rfl) ?_; simp only [resV]; try exact V.wk.rfl _)
             · by_cases p2 : 200 < prec
               · rw [if_pos (.inr p2)]
                 have p2' : prec > 200 := p2
                 ((try refine W.a ?_); simp only [go_sem, seval, reduceCtorEq, p1, p2'])
                 refine W.yes rfl ?_
                 ((try refine W.a ?_); simp only [go_sem, seval, reduceCtorEq])
                 (refine W.fs (hok) (by simp only [r97, go_sem, seval, reduceCtorEq]; rfl) ?_; simp only [resV]; try exact V.wk.rfl _)
               · rw [if_neg (by omega)]
                 have p2' : ¬ prec > 200 := p2
                 ((try refine W.a ?_); simp only [go_sem, seval, reduceCtorEq, p1, p2'])
                 refine W.no rfl ?_
                 ((try refine W.a ?_); simp only [go_sem, seval, reduceCtorEq])
                 cases hF : (findL l name).isSome
                 · by_cases hL : 64 ≤ l.length
                   · have hL' : (l.length : Int) ≥ 64 := by omega
                     (refine W.c1 (ref02_Find w0 l name _) ?_; simp only [go_sem, seval, reduceCtorEq, foundV, hF])
                     refine W.no rfl ?_
                     ((try refine W.a ?_); simp only [go_sem, seval, reduceCtorEq, hL'])
                     refine W.yes rfl ?_
                     ((try refine W.a ?_); simp only [go_sem, seval, reduceCtorEq])
                     rw [if_pos hL]
                     (refine W.fs (hok) (by simp only [r97, go_sem, seval, reduceCtorEq, hF]; rfl) ?_ (hl := by (first | exact .c _ | (simp only [go_sem, seval, reduceCtorEq, hF]; done))); simp only [resV, hF]; try exact V.wk.rfl _)
                   · have hL' : ¬ (l.length : Int) ≥ 64 := by omega
                     (refine W.c1 (ref02_Find w0 l name _) ?_; simp only [go_sem, seval, reduceCtorEq, foundV, hF])
                     refine W.no rfl ?_
                     ((try refine W.a ?_); simp only [go_sem, seval, reduceCtorEq, hL'])
                     refine W.no rfl ?_
                     ((try refine W.a ?_); simp only [go_sem, seval, reduceCtorEq])
                     rw [if_neg hL]
                     (refine W.fs (hok) (by simp only [r97, go_sem, seval, reduceCtorEq, hF]; rfl) ?_ (hl := by (first | exact .c _ | (simp only [go_sem, seval, reduceCtorEq, hF]; done))); simp only [resV, hF]; try exact V.wk.rfl _)
                 · (refine W.c1 (ref02_Find w0 l name _) ?_; simp only [go_sem, seval, reduceCtorEq, foundV, hF])
                   refine W.yes rfl ?_
                   ((try refine W.a ?_); simp only [go_sem, seval, reduceCtorEq])
                   (refine W.fs (hok) (by simp only [r97, go_sem, seval, reduceCtorEq, hF]; rfl) ?_ (hl := by (first | exact .c _ | (simp only [go_sem, seval, reduceCtorEq, hF]; done))); simp only [resV, hF]; try exact V.wk.rfl _))
    · cases hN : isNameB name <;> cases hS : isSymB name
      all_goals
        rcases reserved_first hR with e1 | ⟨e1, e2⟩ | ⟨e1, e2, e3⟩ | ⟨e1, e2, e3, e4⟩ | ⟨e1, e2, e3, e4, e5⟩ | ⟨e1, e2, e3, e4, e5, e6⟩ | ⟨e1, e2, e3, e4, e5, e6, e7⟩
        · (refine W.c1 (ref01_IsNameD w0 _ _) ?_; simp only [go_sem, seval, reduceCtorEq])
          (refine W.c1 (ref01_IsSymD w0 _ _) ?_; simp only [go_sem, seval, reduceCtorEq, hN, hS, e1])
          refine W.yes rfl ?_
          ((try refine W.a ?_); simp only [go_sem, seval, reduceCtorEq])
          (refine W.fs (hok) (by simp only [r97, go_sem, seval, reduceCtorEq, or_true]; rfl) ?_ (hl := by (first | exact .c _ | (simp only [go_sem, seval, reduceCtorEq, or_true]; done))); simp only [resV, or_true]; try exact V.wk.rfl _)
        · (refine W.c1 (ref01_IsNameD w0 _ _) ?_; simp only [go_sem, seval, reduceCtorEq])
          (refine W.c1 (ref01_IsSymD w0 _ _) ?_; simp only [go_sem, seval, reduceCtorEq, hN, hS, e1, e2])
          refine W.yes rfl ?_
          ((try refine W.a ?_); simp only [go_sem, seval, reduceCtorEq])
          (refine W.fs (hok) (by simp only [r97, go_sem, seval, reduceCtorEq, or_true]; rfl) ?_ (hl := by (first | exact .c _ | (simp only [go_sem, seval, reduceCtorEq, or_true]; done))); simp only [resV, or_true]; try exact V.wk.rfl _)
        · (refine W.c1 (ref01_IsNameD w0 _ _) ?_; simp only [go_sem, seval, reduceCtorEq])
          (refine W.c1 (ref01_IsSymD w0 _ _) ?_; simp only [go_sem, seval, reduceCtorEq, hN, hS, e1, e2, e3])
          refine W.yes rfl ?_
          ((try refine W.a ?_); simp only [go_sem, seval, reduceCtorEq])
          (refine W.fs (hok) (by simp only [r97, go_sem, seval, reduceCtorEq, or_true]; rfl) ?_ (hl := by (first | exact .c _ | (simp only [go_sem, seval, reduceCtorEq, or_true]; done))); simp only [resV, or_true]; try exact V.wk.rfl _)
        · (refine W.c1 (ref01_IsNameD w0 _ _) ?_; simp only [go_sem, seval, reduceCtorEq])
          (refine W.c1 (ref01_IsSymD w0 _ _) ?_; simp only [go_sem, seval, reduceCtorEq, hN, hS, e1, e2, e3, e4])
          refine W.yes rfl ?_
          ((try refine W.a ?_); simp only [go_sem, seval, reduceCtorEq])
          (refine W.fs (hok) (by simp only [r97, go_sem, seval, reduceCtorEq, or_true]; rfl) ?_ (hl := by (first | exact .c _ | (simp only [go_sem, seval, reduceCtorEq, or_true]; done))); simp only [resV, or_true]; try exact V.wk.rfl _)
        · (refine W.c1 (ref01_IsNameD w0 _ _) ?_; simp only [go_sem, seval, reduceCtorEq])
          (refine W.c1 (ref01_IsSymD w0 _ _) ?_; simp only [go_sem, seval, reduceCtorEq, hN, hS, e1, e2, e3, e4, e5])
          refine W.yes rfl ?_
          ((try refine W.a ?_); simp only [go_sem, seval, reduceCtorEq])
          (refine W.fs (hok) (by simp only [r97, go_sem, seval, reduceCtorEq, or_true]; rfl) ?_ (hl := by (first | exact .c _ | (simp only [go_sem, seval, reduceCtorEq, or_true]; done))); simp only [resV, or_true]; try exact V.wk.rfl _)
        · (refine W.c1 (ref01_IsNameD w0 _ _) ?_; simp only [go_sem, seval, reduceCtorEq])
          (refine W.c1 (ref01_IsSymD w0 _ _) ?_; simp only [go_sem, seval, reduceCtorEq, hN, hS, e1, e2, e3, e4, e5, e6])
          refine W.yes rfl ?_
          ((try refine W.a ?_); simp only [go_sem, seval, reduceCtorEq])
          (refine W.fs (hok) (by simp only [r97, go_sem, seval, reduceCtorEq, or_true]; rfl) ?_ (hl := by (first | exact .c _ | (simp only [go_sem, seval, reduceCtorEq, or_true]; done))); simp only [resV, or_true]; try exact V.wk.rfl _)
        · (refine W.c1 (ref01_IsNameD w0 _ _) ?_; simp only [go_sem, seval, reduceCtorEq])
          (refine W.c1 (ref01_IsSymD w0 _ _) ?_; simp only [go_sem, seval, reduceCtorEq, hN, hS, e1, e2, e3, e4, e5, e6, e7])
          refine W.yes rfl ?_
          ((try refine W.a ?_); simp only [go_sem, seval, reduceCtorEq])
          (refine W.fs (hok) (by simp only [r97, go_sem, seval, reduceCtorEq, or_true]; rfl) ?_ (hl := by (first | exact .c _ | (simp only [go_sem, seval, reduceCtorEq, or_true]; done))); simp only [resV, or_true]; try exact V.wk.rfl _)
end
section
attribute [local go_sem] Typ.v Typ.cs_eq tk_mk tname_mk tn_mk tl_mk tysC KdT.v KdT.cs NmT.v NmT.cs kdsC nmsC Sg.v

def kindV (o : Option KdT) : V := .tup [I (o.getD .none).n, B o.isSome]
def findV (o : Option NmT) : V := .tup [(o.getD .none).ty.v, B o.isSome]
theorem sig_Kind1 (w0 : World) (x : KdT) (name : Str) (σ : H) (b : Nat) (hb : σ[b]? = some (.cells [S name])) : DC Tryz.prog w0 51 [x.v, .ptr b 0] σ (Same (B (x.name == name)) σ) := by
  refine k51.go rfl (fun hok hsz => ?_)
  ((try refine W.a ?_); simp only [go_sem, seval, reduceCtorEq, c51, hG hb])
  (refine W.fs (hok) (by simp only [r51, go_sem, seval, reduceCtorEq]; rfl) ?_; simp only [resV]; try exact V.wk.rfl _)
theorem sig_Find1 (w0 : World) (x : NmT) (name : Str) (σ : H) (b : Nat) (hb : σ[b]? = some (.cells [S name])) : DC Tryz.prog w0 53 [x.v, .ptr b 0] σ (Same (B (x.name == name)) σ) := by
  refine k53.go rfl (fun hok hsz => ?_)
  ((try refine W.a ?_); simp only [go_sem, seval, reduceCtorEq, c53, hG hb])
  (refine W.fs (hok) (by simp only [r53, go_sem, seval, reduceCtorEq]; rfl) ?_; simp only [resV]; try exact V.wk.rfl _)
theorem sig_firstK (w0 : World) (l : List KdT) (f : FuncId) (caps : List V) (p : KdT → Bool) (σ : H) (hcaps : ∀ k, V.low (σ.length + k) (.fn f caps)) (hp : ∀ x L, DC Tryz.prog w0 f (KdT.v x :: caps) (σ ++ L) (Same (B (p x)) (σ ++ L))) :
    DC Tryz.prog w0 50 [.c (kdsC l), .fn f caps] σ (Same (.tup [((l.find? p).getD .none).v, B (l.find? p).isSome]) σ) := by
  generalize hF : V.fn f caps = F at hcaps
  refine k50.go rfl (fun hok hsz => ?_)
  have hlen : l.length ≤ 9223372036854775807 := sz_rows (f := KdT.cs) (hsz _ (List.mem_cons_self ..))
  ((try refine W.a ?_); simp only [go_sem, seval, reduceCtorEq, c50])
  refine W.loopP (fun i => i ≤ l.length ∧ UpTo p l i) (fun i => ⟨((((((base.put (some 1) (F)).put (some 4) (.ptr σ.length 0)).put (some 5) (B false)).put (some 9) (.c (kdsC l))).put (some 10) (I l.length)).put (some 11) (I (i : Nat))), σ ++ [.cells [S [], I 0]]⟩) (fun i => l.length - i) 0 ⟨Nat.zero_le _, upTo_zero⟩ ?_ (fun i hi => ?_)
  · (refine Lew.env ?_; exact lee_here)
  · obtain ⟨hi, hinv⟩ := hi
    by_cases hlt : i < l.length
    · have h1 : ((i : Int) < (l.length : Int)) := by omega
      have hx : l[i]? = some l[i] := List.getElem?_eq_getElem hlt
      have hw : IntKind.i64.wrap ((i : Int) + 1) = ((i + 1 : Nat) : Int) := wrap_next hlt hlen
      ((try refine W.a ?_); simp only [go_sem, seval, reduceCtorEq, h1])
      refine W.yes rfl ?_
      ((try refine W.a ?_); simp only [go_sem, seval, reduceCtorEq, h1, nat0, hx])
      refine W.c1 (hp l[i] _) ?_ (hf := hF.symm)
      simp only [go_sem, seval, reduceCtorEq]
      refine W.test rfl (fun h => ?_) (fun h => ?_)
      · ((try refine W.a ?_); simp only [go_sem, seval, reduceCtorEq])
        rw [find_at hinv hlt h]
        (refine W.fg (hok) (d := .tup [l[i].v, B true]) (by simp only [r50, go_sem, seval, reduceCtorEq]; rfl) (by simp only [resV, go_sem, seval, reduceCtorEq]; exact wk_here) ?_)
        exact ⟨rfl, rfl⟩
      · ((try refine W.a ?_); simp only [go_sem, seval, reduceCtorEq, hw])
        refine .inv ⟨i + 1, ⟨hlt, upTo_next hinv hlt h⟩, by omega, ?_⟩
        (refine Lew.cutL (hok) ?_ (by simp) (by simp) ?_ ?_ ?_; exact lee_here; ((try simp only [okB, wkB, go_sem, seval, reduceCtorEq, hcaps]) <;> omega); (simp only [List.length_cons, List.length_nil, Nat.reduceAdd, List.take_succ_cons, List.take_zero, wkB, and_true]; (repeat' (refine And.intro ?_ ?_)) <;> (first | exact Blk.wk.rfl _ | exact Blk.wk.gone _ | (refine Blk.wk_cells ?_ rfl; (exact wk_here)))); (repeat' (first | exact LowE.base _ | (refine LowE.put ?_ (by first | exact .c _ | ((try simp only [okB, wkB, go_sem, seval, reduceCtorEq, hcaps]) <;> omega))))))
    · have h1 : ¬ ((i : Int) < (l.length : Int)) := by omega
      ((try refine W.a ?_); simp only [go_sem, seval, reduceCtorEq, h1])
      refine W.no rfl ?_
      ((try refine W.a ?_); simp only [go_sem, seval, reduceCtorEq])
      rw [find_no hinv (by omega)]
      (refine W.fg (hok) (d := .tup [KdT.none.v, B false]) (by simp only [r50, go_sem, seval, reduceCtorEq, KdT.none]; rfl) (by simp only [resV, go_sem, seval, reduceCtorEq, KdT.none]; exact wk_here) ?_ (hl := by (first | exact .c _ | (simp only [go_sem, seval, reduceCtorEq, KdT.none]; done))))
      exact ⟨rfl, rfl⟩
theorem sig_firstN (w0 : World) (l : List NmT) (f : FuncId) (caps : List V) (p : NmT → Bool) (σ : H) (hcaps : ∀ k, V.low (σ.length + k) (.fn f caps)) (hp : ∀ x L, DC Tryz.prog w0 f (NmT.v x :: caps) (σ ++ L) (Same (B (p x)) (σ ++ L))) :
    DC Tryz.prog w0 52 [.c (nmsC l), .fn f caps] σ (Same (.tup [((l.find? p).getD .none).v, B (l.find? p).isSome]) σ) := by
  generalize hF : V.fn f caps = F at hcaps
  refine k52.go rfl (fun hok hsz => ?_)
  have hlen : l.length ≤ 9223372036854775807 := sz_rows (f := NmT.cs) (hsz _ (List.mem_cons_self ..))
  ((try refine W.a ?_); simp only [go_sem, seval, reduceCtorEq, c52])
  refine W.loopP (fun i => i ≤ l.length ∧ UpTo p l i) (fun i => ⟨((((((base.put (some 1) (F)).put (some 4) (.ptr σ.length 0)).put (some 5) (B false)).put (some 9) (.c (nmsC l))).put (some 10) (I l.length)).put (some 11) (I (i : Nat))), σ ++ [.cells [S [], I 0, S [], I 0, .csl []]]⟩) (fun i => l.length - i) 0 ⟨Nat.zero_le _, upTo_zero⟩ ?_ (fun i hi => ?_)
  · (refine Lew.env ?_; exact lee_here)
  · obtain ⟨hi, hinv⟩ := hi
    by_cases hlt : i < l.length
    · have h1 : ((i : Int) < (l.length : Int)) := by omega
      have hx : l[i]? = some l[i] := List.getElem?_eq_getElem hlt
      have hw : IntKind.i64.wrap ((i : Int) + 1) = ((i + 1 : Nat) : Int) := wrap_next hlt hlen
      ((try refine W.a ?_); simp only [go_sem, seval, reduceCtorEq, h1])
      refine W.yes rfl ?_
      ((try refine W.a ?_); simp only [go_sem, seval, reduceCtorEq, h1, nat0, hx])
      refine W.c1 (hp l[i] _) ?_ (hf := hF.symm)
      simp only [go_sem, seval, reduceCtorEq]
      refine W.test rfl (fun h => ?_) (fun h => ?_)
      · ((try refine W.a ?_); simp only [go_sem, seval, reduceCtorEq])
        rw [find_at hinv hlt h]
        (refine W.fg (hok) (d := .tup [l[i].v, B true]) (by simp only [r52, go_sem, seval, reduceCtorEq]; rfl) (by simp only [resV, go_sem, seval, reduceCtorEq]; exact wk_here) ?_)
        exact ⟨rfl, rfl⟩
      · ((try refine W.a ?_); simp only [go_sem, seval, reduceCtorEq, hw])
        refine .inv ⟨i + 1, ⟨hlt, upTo_next hinv hlt h⟩, by omega, ?_⟩
        (refine Lew.cutL (hok) ?_ (by simp) (by simp) ?_ ?_ ?_; exact lee_here; ((try simp only [okB, wkB, go_sem, seval, reduceCtorEq, hcaps]) <;> omega); (simp only [List.length_cons, List.length_nil, Nat.reduceAdd, List.take_succ_cons, List.take_zero, wkB, and_true]; (repeat' (refine And.intro ?_ ?_)) <;> (first | exact Blk.wk.rfl _ | exact Blk.wk.gone _ | (refine Blk.wk_cells ?_ rfl; (exact wk_here)))); (repeat' (first | exact LowE.base _ | (refine LowE.put ?_ (by first | exact .c _ | ((try simp only [okB, wkB, go_sem, seval, reduceCtorEq, hcaps]) <;> omega))))))
    · have h1 : ¬ ((i : Int) < (l.length : Int)) := by omega
      ((try refine W.a ?_); simp only [go_sem, seval, reduceCtorEq, h1])
      refine W.no rfl ?_
      ((try refine W.a ?_); simp only [go_sem, seval, reduceCtorEq])
      rw [find_no hinv (by omega)]
      (refine W.fg (hok) (d := .tup [NmT.none.v, B false]) (by simp only [r52, go_sem, seval, reduceCtorEq, NmT.none, Typ.none]; rfl) (by simp only [resV, go_sem, seval, reduceCtorEq, NmT.none, Typ.none]; exact wk_here) ?_ (hl := by (first | exact .c _ | (simp only [go_sem, seval, reduceCtorEq, NmT.none, Typ.none]; done))))
      exact ⟨rfl, rfl⟩
theorem low_cap (n b f : Nat) (h : b < n) (k : Nat) : V.low (n + k) (.fn f [.ptr b 0]) := (low_fn _ _ _).2 (fun x hx => by simp only [List.mem_singleton] at hx; subst hx; exact .ptr (by omega))
theorem sig_Kind (w0 : World) (s : Sg) (name : Str) (σ : H) : DC Tryz.prog w0 17 [s.v, S name] σ (Same (kindV (kindL s.kinds name)) σ) := by
  refine k17.go rfl (fun hok hsz => ?_)
  have hc := fun M => sig_firstK w0 s.kinds 51 [.ptr (σ.length + 1) 0] (·.name == name) (σ ++ [.cells s.v.cellsV, .cells [S name]] ++ M) (low_cap _ _ _ (by simp)) (fun x L => sig_Kind1 w0 x name _ _ (by rw [List.append_assoc, List.append_assoc, hget]; rfl))
  have hc0 := hc []
  rw [List.append_nil] at hc0
  unfold kindL kindV
  generalize s.kinds.find? (·.name == name) = r at hc0
  ((try refine W.a ?_); simp only [go_sem, seval, reduceCtorEq, c17])
  (refine W.c1 (hc0) ?_; simp only [go_sem, seval, reduceCtorEq])
  (refine W.fg (hok) (d := .tup [I (r.getD .none).n, B r.isSome]) (by simp only [r17, go_sem, seval, reduceCtorEq]; rfl) (by simp only [resV, go_sem, seval, reduceCtorEq]; exact wk_here) ?_)
  exact ⟨rfl, rfl⟩
theorem sig_Find (w0 : World) (s : Sg) (name : Str) (σ : H) : DC Tryz.prog w0 19 [s.v, S name] σ (Same (findV (findN s.types name)) σ) := by
  refine k19.go rfl (fun hok hsz => ?_)
  have hc0 := sig_firstN w0 s.types 53 [.ptr (σ.length + 1) 0] (·.name == name) (σ ++ [.cells s.v.cellsV, .cells [S name], .cells [I 0, S [], I 0, .csl []]]) (low_cap _ _ _ (by simp)) (fun x L => sig_Find1 w0 x name _ _ (by rw [List.append_assoc, hget]; rfl))
  unfold findN findV
  generalize s.types.find? (·.name == name) = r at hc0
  ((try refine W.a ?_); simp only [go_sem, seval, reduceCtorEq, c19])
  (refine W.c1 (hc0) ?_; simp only [go_sem, seval, reduceCtorEq])
  (refine W.fg (hok) (d := .tup [(r.getD .none).ty.v, B r.isSome]) (by simp only [r19, go_sem, seval, reduceCtorEq]; rfl) (by simp only [resV, go_sem, seval, reduceCtorEq]; exact wk_here) ?_)
  exact ⟨rfl, rfl⟩
theorem ref11_Kind (w0 : World) (s : Sg) (name : Str) (σ : H) : DC Tryz.prog w0 18 [s.v, S name] σ (Same (kindV (kindL s.kinds name)) σ) := by
  refine k18.go rfl (fun hok hsz => ?_)
  have hlen : s.kinds.length ≤ 9223372036854775807 := by
    have h := hsz _ (List.mem_cons_self ..)
    rw [Sg.v, sz_agg] at h
    exact sz_rows (f := KdT.cs) (h _ (List.mem_cons_self ..))
  unfold kindL kindV
  ((try refine W.a ?_); simp only [go_sem, seval, reduceCtorEq, c18])
  refine W.loopP (fun i => i ≤ s.kinds.length ∧ UpTo (·.name == name) s.kinds i) (fun i => ⟨(((((base.put (some 1) (S name)).put (some 2) (.ptr σ.length 0)).put (some 4) (I 0)).put (some 5) (B false)).put (some 6) (I (i : Nat))), σ ++ [.cells s.v.cellsV]⟩) (fun i => s.kinds.length - i) 0 ⟨Nat.zero_le _, upTo_zero⟩ ?_ (fun i hi => ?_)
  · (refine Lew.env ?_; exact lee_here)
  · obtain ⟨hi, hinv⟩ := hi
    by_cases hlt : i < s.kinds.length
    · have h1 : ((i : Int) < (s.kinds.length : Int)) := by omega
      have hx : s.kinds[i]? = some s.kinds[i] := List.getElem?_eq_getElem hlt
      have hw : IntKind.i64.wrap ((i : Int) + 1) = ((i + 1 : Nat) : Int) := wrap_next hlt hlen
      ((try refine W.a ?_); simp only [go_sem, seval, reduceCtorEq, h1])
      refine W.yes rfl ?_
      ((try refine W.a ?_); simp only [go_sem, seval, reduceCtorEq, h1, nat0, hx])
      refine W.test rfl (fun h => ?_) (fun h => ?_)
      · ((try refine W.a ?_); simp only [go_sem, seval, reduceCtorEq, h1, nat0, hx])
        rw [find_at hinv hlt h]
        (refine W.fg (hok) (d := .tup [I s.kinds[i].n, B true]) (by simp only [r18, go_sem, seval, reduceCtorEq]; rfl) (by simp only [resV, go_sem, seval, reduceCtorEq]; exact wk_here) ?_)
        exact ⟨rfl, rfl⟩
      · ((try refine W.a ?_); simp only [go_sem, seval, reduceCtorEq, hw])
        refine .inv ⟨i + 1, ⟨hlt, upTo_next hinv hlt h⟩, by omega, ?_⟩
        (refine Lew.env ?_; exact lee_here)
    · have h1 : ¬ ((i : Int) < (s.kinds.length : Int)) := by omega
      ((try refine W.a ?_); simp only [go_sem, seval, reduceCtorEq, h1])
      refine W.no rfl ?_
      ((try refine W.a ?_); simp only [go_sem, seval, reduceCtorEq])
      rw [find_no hinv (by omega)]
      (refine W.fg (hok) (d := .tup [I 0, B false]) (by simp only [r18, go_sem, seval, reduceCtorEq]; rfl) (by simp only [resV, go_sem, seval, reduceCtorEq]; exact wk_here) ?_)
      exact ⟨rfl, rfl⟩
theorem ref11_Find (w0 : World) (s : Sg) (name : Str) (σ : H) : DC Tryz.prog w0 20 [s.v, S name] σ (Same (findV (findN s.types name)) σ) := by
  refine k20.go rfl (fun hok hsz => ?_)
  have hlen : s.types.length ≤ 9223372036854775807 := by
    have h := hsz _ (List.mem_cons_self ..)
    rw [Sg.v, sz_agg] at h
    exact sz_rows (f := NmT.cs) (h _ (List.mem_cons_of_mem _ (List.mem_cons_self ..)))
  unfold findN findV
  ((try refine W.a ?_); simp only [go_sem, seval, reduceCtorEq, c20])
  refine W.loopP (fun i => i ≤ s.types.length ∧ UpTo (·.name == name) s.types i) (fun i => ⟨(((((base.put (some 1) (S name)).put (some 2) (.ptr σ.length 0)).put (some 4) (.ptr (σ.length + 1) 0)).put (some 5) (B false)).put (some 6) (I (i : Nat))), σ ++ [.cells s.v.cellsV, .cells [I 0, S [], I 0, .csl []]]⟩) (fun i => s.types.length - i) 0 ⟨Nat.zero_le _, upTo_zero⟩ ?_ (fun i hi => ?_)
  · (refine Lew.env ?_; exact lee_here)
  · obtain ⟨hi, hinv⟩ := hi
    by_cases hlt : i < s.types.length
    · have h1 : ((i : Int) < (s.types.length : Int)) := by omega
      have hx : s.types[i]? = some s.types[i] := List.getElem?_eq_getElem hlt
      have hw : IntKind.i64.wrap ((i : Int) + 1) = ((i + 1 : Nat) : Int) := wrap_next hlt hlen
      ((try refine W.a ?_); simp only [go_sem, seval, reduceCtorEq, h1])
      refine W.yes rfl ?_
      ((try refine W.a ?_); simp only [go_sem, seval, reduceCtorEq, h1, nat0, hx])
      refine W.test rfl (fun h => ?_) (fun h => ?_)
      · ((try refine W.a ?_); simp only [go_sem, seval, reduceCtorEq, h1, nat0, hx])
        rw [find_at hinv hlt h]
        (refine W.fg (hok) (d := .tup [s.types[i].ty.v, B true]) (by simp only [r20, go_sem, seval, reduceCtorEq]; rfl) (by simp only [resV, go_sem, seval, reduceCtorEq]; exact wk_here) ?_)
        exact ⟨rfl, rfl⟩
      · ((try refine W.a ?_); simp only [go_sem, seval, reduceCtorEq, hw])
        refine .inv ⟨i + 1, ⟨hlt, upTo_next hinv hlt h⟩, by omega, ?_⟩
        (refine Lew.env ?_; exact lee_here)
    · have h1 : ¬ ((i : Int) < (s.types.length : Int)) := by omega
      ((try refine W.a ?_); simp only [go_sem, seval, reduceCtorEq, h1])
      refine W.no rfl ?_
      ((try refine W.a ?_); simp only [go_sem, seval, reduceCtorEq])
      rw [find_no hinv (by omega)]
      (refine W.fg (hok) (d := .tup [Typ.none.v, B false]) (by simp only [r20, go_sem, seval, reduceCtorEq, Typ.none, NmT.none]; rfl) (by simp only [resV, go_sem, seval, reduceCtorEq, Typ.none, NmT.none]; exact wk_here) ?_ (hl := by (first | exact .c _ | (simp only [go_sem, seval, reduceCtorEq, Typ.none, NmT.none]; done))))
      exact ⟨rfl, rfl⟩
end
section
attribute [local go_sem] Typ.v Typ.cs_eq tk_mk tname_mk tn_mk tl_mk tysC KdT.v KdT.cs NmT.v NmT.cs kdsC nmsC Sg.v

theorem sig_known1 (w0 : World) (s : Sg) (q : Typ) (b : Bool) (σ : H) (a : Nat) (ha : σ[a]? = some (.cells s.v.cellsV)) (hq : ∀ τ, DC Tryz.prog w0 47 [s.v, q.v] τ (Same (B b) τ)) : DC Tryz.prog w0 98 [q.v, .ptr a 0] σ (Same (B (!b)) σ) := by
  refine k98.go rfl (fun hok hsz => ?_)
  have ha' : ∀ L, (σ ++ L)[a]? = some (.cells [.c (.sl (s.kinds.map KdT.cs)), .c (.sl (s.types.map NmT.cs)), .c (opsC s.ops)]) := fun L => hG ha L
  ((try refine W.a ?_); simp only [go_sem, seval, reduceCtorEq, c98, ha'])
  (refine W.c1 (hq _) ?_; simp only [go_sem, seval, reduceCtorEq])
  (refine W.fs (hok) (by simp only [r98, go_sem, seval, reduceCtorEq]; rfl) ?_; simp only [resV]; try exact V.wk.rfl _)
theorem kind_yes {l : List KdT} {p : Typ} {x : KdT} (h : kindL l p.name = some x) (hk : (p.k == 0) = true) : kindHere l p = (x.n == (p.l.length : Int)) := by
  unfold kindHere
  rw [h, hk]; rfl
theorem kind_no {l : List KdT} {p : Typ} (h : kindL l p.name = none) (hk : (p.k == 0) = true) : kindHere l p = false := by
  unfold kindHere
  rw [h, hk]; rfl
theorem kind_other {l : List KdT} {p : Typ} (hk : (p.k == 0) = false) : kindHere l p = true := by
  unfold kindHere
  rw [hk]; rfl
theorem sig_known (w0 : World) (s : Sg) (p : Typ) : ∀ (σ : H), DC Tryz.prog w0 47 [s.v, p.v] σ (Same (B (knownT s.kinds p)) σ) := by
  induction p using Typ.ind with
  | h p ih =>
  intro σ
  refine k47.go rfl (fun hok hsz => ?_)
  have hC := ContainsFunc_ty w0 p.l 98 [.ptr σ.length 0] (fun q => !knownT s.kinds q) (σ ++ [.cells s.v.cellsV, .cells p.v.cellsV]) (fun q hq => sig_known1 w0 s q _ _ _ (by rw [hget0]; rfl) (fun τ => ih q hq τ))
  have hany := any_all p.l (knownT s.kinds)
  have hK := fun σ => sig_Kind w0 s p.name σ
  rw [knownT_eq]
  unfold kindV at hK
  cases hk0 : (p.k == 0)
  · rw [kind_other hk0, Bool.true_and]
    generalize kindL s.kinds p.name = r at hK
    ((try refine W.a ?_); simp only [go_sem, seval, reduceCtorEq, c47, hk0])
    (refine W.c1 (hK _) ?_; simp only [go_sem, seval, reduceCtorEq, hk0])
    refine W.no rfl ?_
    ((try refine W.a ?_); simp only [go_sem, seval, reduceCtorEq])
    (refine W.c1 (hC) ?_; simp only [go_sem, seval, reduceCtorEq, hany])
    (refine W.fs (hok) (by simp only [r47, go_sem, seval, reduceCtorEq]; rfl) ?_; simp only [resV]; try exact V.wk.rfl _)
  · cases hr : kindL s.kinds p.name with
    | none =>
      rw [kind_no hr hk0, Bool.false_and]
      rw [hr] at hK
      ((try refine W.a ?_); simp only [go_sem, seval, reduceCtorEq, c47, hk0, Option.getD_none, Option.isSome_none])
      (refine W.c1 (hK _) ?_; simp only [go_sem, seval, reduceCtorEq, hk0, Option.getD_none, Option.isSome_none])
      refine W.yes rfl ?_
      ((try refine W.a ?_); simp only [go_sem, seval, reduceCtorEq])
      (refine W.fs (hok) (by simp only [r47, go_sem, seval, reduceCtorEq]; rfl) ?_; simp only [resV]; try exact V.wk.rfl _)
    | some x =>
      rw [kind_yes hr hk0]
      rw [hr] at hK
      cases hn : (x.n == (p.l.length : Int))
      · rw [Bool.false_and]
        have hn' : (x.n != (p.l.length : Int)) = true := by rw [bne, hn]; rfl
        ((try refine W.a ?_); simp only [go_sem, seval, reduceCtorEq, c47, hk0, Option.getD_some, Option.isSome_some])
        (refine W.c1 (hK _) ?_; simp only [go_sem, seval, reduceCtorEq, hk0, Option.getD_some, Option.isSome_some, hn'])
        refine W.yes rfl ?_
        ((try refine W.a ?_); simp only [go_sem, seval, reduceCtorEq])
        (refine W.fs (hok) (by simp only [r47, go_sem, seval, reduceCtorEq]; rfl) ?_; simp only [resV]; try exact V.wk.rfl _)
      · rw [Bool.true_and]
        have hn' : (x.n != (p.l.length : Int)) = false := by rw [bne, hn]; rfl
        ((try refine W.a ?_); simp only [go_sem, seval, reduceCtorEq, c47, hk0, Option.getD_some, Option.isSome_some])
        (refine W.c1 (hK _) ?_; simp only [go_sem, seval, reduceCtorEq, hk0, Option.getD_some, Option.isSome_some, hn'])
        refine W.no rfl ?_
        ((try refine W.a ?_); simp only [go_sem, seval, reduceCtorEq])
        (refine W.c1 (hC) ?_; simp only [go_sem, seval, reduceCtorEq, hany])
        (refine W.fs (hok) (by simp only [r47, go_sem, seval, reduceCtorEq]; rfl) ?_; simp only [resV]; try exact V.wk.rfl _)
theorem sig_Fits (w0 : World) (s : Sg) (p : Typ) (σ : H) : DC Tryz.prog w0 15 [s.v, p.v] σ (Same (B (fitsT s.kinds p)) σ) := by
  refine k15.go rfl (fun hok hsz => ?_)
  unfold fitsT
  cases hv : validT p
  · ((try refine W.a ?_); simp only [go_sem, seval, reduceCtorEq, c15])
    (refine W.c1 (ty_Valid w0 p _) ?_; simp only [go_sem, seval, reduceCtorEq, hv])
    (refine W.fs (hok) (by simp only [r15, go_sem, seval, reduceCtorEq]; rfl) ?_; simp only [resV]; try exact V.wk.rfl _)
  · ((try refine W.a ?_); simp only [go_sem, seval, reduceCtorEq, c15])
    (refine W.c1 (ty_Valid w0 p _) ?_; simp only [go_sem, seval, reduceCtorEq, hv])
    (refine W.c1 (sig_known w0 s p _) ?_; simp only [go_sem, seval, reduceCtorEq])
    (refine W.fs (hok) (by simp only [r15, go_sem, seval, reduceCtorEq]; rfl) ?_; simp only [resV]; try exact V.wk.rfl _)
theorem ref11_known (w0 : World) (s : Sg) (p : Typ) : ∀ (σ : H), DC Tryz.prog w0 49 [s.v, p.v] σ (Same (B (knownT s.kinds p)) σ) := by
  induction p using Typ.ind with
  | h p ih =>
  intro σ
  refine k49.go rfl (fun hok hsz => ?_)
  have hlen := typ_len hsz (List.mem_cons_of_mem _ (List.mem_cons_self ..))
  have hK := fun σ => ref11_Kind w0 s p.name σ
  rw [knownT_eq]
  unfold kindV at hK
  have two : kindHere s.kinds p = false ∨ kindHere s.kinds p = true := by cases kindHere s.kinds p <;> simp
  rcases two with hb | hb
  · have hk0 : (p.k == 0) = true := by
      cases h : (p.k == 0)
      · rw [kind_other h] at hb; cases hb
      · rfl
    rw [hb, Bool.false_and]
    cases hr : kindL s.kinds p.name with
    | none =>
      rw [hr] at hK
      ((try refine W.a ?_); simp only [go_sem, seval, reduceCtorEq, c49, hk0])
      refine W.yes rfl ?_
      ((try refine W.a ?_); simp only [go_sem, seval, reduceCtorEq, Option.getD_none, Option.isSome_none])
      (refine W.c1 (hK _) ?_; simp only [go_sem, seval, reduceCtorEq, Option.getD_none, Option.isSome_none])
      refine W.yes rfl ?_
      ((try refine W.a ?_); simp only [go_sem, seval, reduceCtorEq])
      (refine W.fs (hok) (by simp only [r49, go_sem, seval, reduceCtorEq]; rfl) ?_; simp only [resV]; try exact V.wk.rfl _)
    | some x =>
      rw [kind_yes hr hk0] at hb
      have hn' : (x.n != (p.l.length : Int)) = true := by rw [bne, hb]; rfl
      rw [hr] at hK
      ((try refine W.a ?_); simp only [go_sem, seval, reduceCtorEq, c49, hk0])
      refine W.yes rfl ?_
      ((try refine W.a ?_); simp only [go_sem, seval, reduceCtorEq, Option.getD_some, Option.isSome_some])
      (refine W.c1 (hK _) ?_; simp only [go_sem, seval, reduceCtorEq, Option.getD_some, Option.isSome_some, hn'])
      refine W.yes rfl ?_
      ((try refine W.a ?_); simp only [go_sem, seval, reduceCtorEq])
      (refine W.fs (hok) (by simp only [r49, go_sem, seval, reduceCtorEq]; rfl) ?_; simp only [resV]; try exact V.wk.rfl _)
  · rw [hb, Bool.true_and]
    have fin : ∀ (ρ : Env), True := fun _ => trivial
    cases hk0 : (p.k == 0)
    case' false =>
      ((try refine W.a ?_); simp only [go_sem, seval, reduceCtorEq, c49, hk0])
      refine W.no rfl ?_
      ((try refine W.a ?_); simp only [go_sem, seval, reduceCtorEq])
    case' true =>
      obtain ⟨x, hr⟩ : ∃ x, kindL s.kinds p.name = some x := by
        cases hr : kindL s.kinds p.name with
        | none => rw [kind_no hr hk0] at hb; cases hb
        | some x => exact ⟨x, rfl⟩
      rw [kind_yes hr hk0] at hb
      have hn' : (x.n != (p.l.length : Int)) = false := by rw [bne, hb]; rfl
      rw [hr] at hK
      ((try refine W.a ?_); simp only [go_sem, seval, reduceCtorEq, c49, hk0])
      refine W.yes rfl ?_
      ((try refine W.a ?_); simp only [go_sem, seval, reduceCtorEq, Option.getD_some, Option.isSome_some])
      (refine W.c1 (hK _) ?_; simp only [go_sem, seval, reduceCtorEq, Option.getD_some, Option.isSome_some, hn'])
      refine W.no rfl ?_
      ((try refine W.a ?_); simp only [go_sem, seval, reduceCtorEq])
    all_goals
      refine W.loopP (fun i => i ≤ p.l.length ∧ UpTo (fun q => !knownT s.kinds q) p.l i) (fun i => ⟨((((base.put (some 2) (.ptr σ.length 0)).put (some 3) (.ptr (σ.length + 1) 0)).put (some 4) (B false)).put (some 7) (I (i : Nat))), σ ++ [.cells s.v.cellsV, .cells p.v.cellsV]⟩) (fun i => p.l.length - i) 0 ⟨Nat.zero_le _, upTo_zero⟩ ?_ (fun i hi => ?_)
      · (refine Lew.env ?_; exact lee_here)
      · obtain ⟨hi, hinv⟩ := hi
        by_cases hlt : i < p.l.length
        · have h1 : ((i : Int) < (p.l.length : Int)) := by omega
          have hx : p.l[i]? = some p.l[i] := List.getElem?_eq_getElem hlt
          have hw : IntKind.i64.wrap ((i : Int) + 1) = ((i + 1 : Nat) : Int) := wrap_next hlt hlen
          ((try refine W.a ?_); simp only [go_sem, seval, reduceCtorEq, h1])
          refine W.yes rfl ?_
          ((try refine W.a ?_); simp only [go_sem, seval, reduceCtorEq])
          apply W.dregE (List.cons_ne_nil _ _)
          case hc =>
            (apply CanonE.advPO; simp only [go_sem, seval, reduceCtorEq, h1, nat0, hx])
            (apply CanonE.call (ih p.l[i] (List.getElem_mem hlt) _); (case hg => rfl); (case hf => rfl); (case ha => first | rfl | simp))
            (apply CanonE.advPO; simp only [go_sem, seval, reduceCtorEq])
            exact CanonE.nil
          ((try refine W.a ?_); simp only [go_sem, seval, reduceCtorEq])
          refine W.testn rfl (fun h => ?_) (fun h => ?_)
          · ((try refine W.a ?_); simp only [go_sem, seval, reduceCtorEq, hw])
            refine .inv ⟨i + 1, ⟨hlt, upTo_next hinv hlt (by simp only [h]; rfl)⟩, by omega, ?_⟩
            (refine Lew.env ?_; exact lee_here)
          · ((try refine W.a ?_); simp only [go_sem, seval, reduceCtorEq])
            have : p.l.all (knownT s.kinds) = false := List.all_eq_false.2 ⟨_, List.getElem_mem hlt, by rw [h]; decide⟩
            rw [this]
            (refine W.fs (hok) (by simp only [r49, go_sem, seval, reduceCtorEq]; rfl) ?_; simp only [resV]; try exact V.wk.rfl _)
        · have h1 : ¬ ((i : Int) < (p.l.length : Int)) := by omega
          ((try refine W.a ?_); simp only [go_sem, seval, reduceCtorEq, h1])
          refine W.no rfl ?_
          ((try refine W.a ?_); simp only [go_sem, seval, reduceCtorEq])
          have : p.l.all (knownT s.kinds) = true := List.all_eq_true.2 fun x hx => by
            obtain ⟨j, hj, rfl⟩ := List.getElem_of_mem hx
            have := hinv j hj (by omega)
            simpa using this
          rw [this]
          (refine W.fs (hok) (by simp only [r49, go_sem, seval, reduceCtorEq]; rfl) ?_; simp only [resV]; try exact V.wk.rfl _)
theorem ref05_Valid (w0 : World) (p : Typ) : ∀ (σ : H), DC Tryz.prog w0 48 [p.v] σ (Same (B (validT p)) σ) := by
  induction p using Typ.ind with
  | h p ih =>
  intro σ
  refine k48.go rfl (fun hok hsz => ?_)
  have hlen := typ_len hsz (List.mem_cons_self ..)
  have l0 := len_ne (n := p.l.length) 0
  have l2 := len_ne (n := p.l.length) 2
  simp only [natCast0, natCast2] at l0 l2
  (((try refine W.a ?_); (try simp only [bne, go_sem, seval, reduceCtorEq, c48, l0, l2, *])); (repeat' (first | (refine W.yes rfl ?_; (refine W.a ?_; simp only [bne, go_sem, seval, reduceCtorEq, c48, l0, l2, *])) | (refine W.no rfl ?_; (refine W.a ?_; simp only [bne, go_sem, seval, reduceCtorEq, c48, l0, l2, *])) | (refine W.c1 (ref01_IsNameD w0 p.name _) ?_; simp only [bne, go_sem, seval, reduceCtorEq, c48, l0, l2, *]) | (refine W.testn rfl (fun hT => ?_) (fun hT => ?_) <;> (refine W.a ?_; simp only [bne, go_sem, seval, reduceCtorEq, c48, l0, l2, *])) | (refine W.test rfl (fun hT => ?_) (fun hT => ?_) <;> (refine W.a ?_; simp only [bne, go_sem, seval, reduceCtorEq, c48, l0, l2, *])) | (refine advG_ifn _ _ _ _ (fun hT => ?_) (fun hT => ?_) <;> simp only [bne, go_sem, seval, reduceCtorEq, c48, l0, l2, *]) | (refine advG_if _ _ _ _ (fun hT => ?_) (fun hT => ?_) <;> simp only [bne, go_sem, seval, reduceCtorEq, c48, l0, l2, *]))))
  all_goals
    refine W.loopP (α := Nat × Bool) (fun x => x.1 ≤ p.l.length ∧ x.2 = (nodeT p && (p.l.take x.1).all validT)) (fun x => ⟨((((base.put (some 1) (.ptr σ.length 0)).put (some 2) (B false)).put (some 3) (B x.2)).put (some 5) (I (x.1 : Nat))), σ ++ [.cells p.v.cellsV]⟩) (fun x => p.l.length - x.1) (0, nodeT p) ⟨Nat.zero_le _, by simp⟩ ?_ (fun x hx => ?_)
    · (refine Lew.env ?_; (repeat' (first | exact LeE.base _ | (refine LeE.put ?_ (by first | exact V.wk.rfl _ | (refine wk_bool ?_; clear hsz hok ih; (try simp only [beq_iff_eq, beq_eq_false_iff_ne, ne_eq, decide_eq_true_eq, decide_eq_false_iff_not] at *); unfold nodeT; first | (simp [*]; done) | (simp [*]; omega) | (simp [*])))))))
    · obtain ⟨i, ok⟩ := x
      obtain ⟨hi, hinv⟩ := hx
      simp only at hi hinv
      by_cases hlt : i < p.l.length
      · have h1 : ((i : Int) < (p.l.length : Int)) := by omega
        cases ok
        · ((try refine W.a ?_); simp only [go_sem, seval, reduceCtorEq, h1])
          refine W.no rfl ?_
          ((try refine W.a ?_); simp only [go_sem, seval, reduceCtorEq])
          have : validT p = false := by
            rw [validT_eq]
            cases hn : nodeT p
            · rfl
            · rw [hn, Bool.true_and] at hinv
              rw [Bool.true_and]
              obtain ⟨x, hx, hx2⟩ := List.all_eq_false.1 hinv.symm
              exact List.all_eq_false.2 ⟨x, List.mem_of_mem_take hx, hx2⟩
          rw [this]
          (refine W.fs (hok) (by simp only [r48, go_sem, seval, reduceCtorEq]; rfl) ?_; simp only [resV]; try exact V.wk.rfl _)
        · have hx : p.l[i]? = some p.l[i] := List.getElem?_eq_getElem hlt
          have hw : IntKind.i64.wrap ((i : Int) + 1) = ((i + 1 : Nat) : Int) := wrap_next hlt hlen
          ((try refine W.a ?_); simp only [go_sem, seval, reduceCtorEq, h1])
          refine W.yes rfl ?_
          ((try refine W.a ?_); simp only [go_sem, seval, reduceCtorEq, h1, nat0, hx])
          (refine W.c1 (ih p.l[i] (List.getElem_mem hlt) _) ?_; simp only [go_sem, seval, reduceCtorEq, hw])
          refine .inv ⟨(i + 1, validT p.l[i]), ⟨hlt, ?_⟩, by simp only; omega, ?_⟩
          · simp only
            rw [List.take_succ_eq_append_getElem hlt, List.all_append, ← Bool.and_assoc, ← hinv]
            simp
          · (refine Lew.env ?_; exact lee_here)
      · have h1 : ¬ ((i : Int) < (p.l.length : Int)) := by omega
        have htk : p.l.take i = p.l := List.take_of_length_le (by omega)
        ((try refine W.a ?_); simp only [go_sem, seval, reduceCtorEq, h1])
        refine W.no rfl ?_
        ((try refine W.a ?_); simp only [go_sem, seval, reduceCtorEq])
        rw [htk, ← validT_eq] at hinv
        rw [← hinv]
        (refine W.fs (hok) (by simp only [r48, go_sem, seval, reduceCtorEq]; rfl) ?_; simp only [resV]; try exact V.wk.rfl _)
theorem ref11_Fits (w0 : World) (s : Sg) (p : Typ) (σ : H) : DC Tryz.prog w0 16 [s.v, p.v] σ (Same (B (fitsT s.kinds p)) σ) := by
  refine k16.go rfl (fun hok hsz => ?_)
  unfold fitsT
  cases hv : validT p
  · ((try refine W.a ?_); simp only [go_sem, seval, reduceCtorEq, c16])
    (refine W.c1 (ref05_Valid w0 p _) ?_; simp only [go_sem, seval, reduceCtorEq, hv])
    (refine W.fs (hok) (by simp only [r16, go_sem, seval, reduceCtorEq]; rfl) ?_; simp only [resV]; try exact V.wk.rfl _)
  · ((try refine W.a ?_); simp only [go_sem, seval, reduceCtorEq, c16])
    (refine W.c1 (ref05_Valid w0 p _) ?_; simp only [go_sem, seval, reduceCtorEq, hv])
    (refine W.c1 (ref11_known w0 s p _) ?_; simp only [go_sem, seval, reduceCtorEq])
    (refine W.fs (hok) (by simp only [r16, go_sem, seval, reduceCtorEq]; rfl) ?_; simp only [resV]; try exact V.wk.rfl _)
def logicalB (name : Str) : Bool := logicals.any (name == ·)
theorem sig_Logical (w0 : World) (name : Str) (σ : H) : DC Tryz.prog w0 22 [S name] σ (Same (B (logicalB name)) σ) := by
  refine k22.go rfl (fun hok hsz => ?_)
  (((try refine W.a ?_); (try simp only [bne, go_sem, seval, reduceCtorEq, c22, *])); (repeat' (first | (refine W.yes rfl ?_; (refine W.a ?_; simp only [bne, go_sem, seval, reduceCtorEq, c22, *])) | (refine W.no rfl ?_; (refine W.a ?_; simp only [bne, go_sem, seval, reduceCtorEq, c22, *])) | (refine W.testn rfl (fun hT => ?_) (fun hT => ?_) <;> (refine W.a ?_; simp only [bne, go_sem, seval, reduceCtorEq, c22, *])) | (refine W.test rfl (fun hT => ?_) (fun hT => ?_) <;> (refine W.a ?_; simp only [bne, go_sem, seval, reduceCtorEq, c22, *])) | (refine advG_ifn _ _ _ _ (fun hT => ?_) (fun hT => ?_) <;> simp only [bne, go_sem, seval, reduceCtorEq, c22, *]) | (refine advG_if _ _ _ _ (fun hT => ?_) (fun hT => ?_) <;> simp only [bne, go_sem, seval, reduceCtorEq, c22, *]))))
  all_goals (refine W.fs (hok) (by simp only [r22, go_sem, seval, reduceCtorEq]; rfl) ?_; simp only [resV]; (first | exact V.wk.rfl _ | (refine wk_bool ?_; clear hsz hok; rw [logicalB] <;> ((try simp only [beq_iff_eq, beq_eq_false_iff_ne, ne_eq, decide_eq_true_eq, decide_eq_false_iff_not] at *); first | (exfalso; omega) | (simp [logicals, *]; done) | (simp [logicals, *]; omega) | (simp [logicals, *])))))
end
section
attribute [local go_sem] Typ.v Typ.cs_eq tk_mk tname_mk tn_mk tl_mk tysC KdT.v KdT.cs NmT.v NmT.cs kdsC nmsC Sg.v Sent.v

theorem clone_opA (w0 : World) (l : List OpT) (hn : l.length ≤ 1000000) (σ : H) : DC Tryz.prog w0 89 [.c (opsC l)] σ (Same (.osl σ.length (l.map OpT.cs)) (σ ++ [.spare 35 3 l.length])) := by
  refine k89.goN rfl (fun hok hsz => ?_)
  have hb1 : l.length * 32 ≤ 140737488355328 := by omega
  have hb2 : l.length ≤ 140737488355328 := by omega
  have hb3 : ∀ r ∈ l.map OpT.cs, r.length = 3 := fun r hr => by obtain ⟨o, _, rfl⟩ := List.mem_map.1 hr; rfl
  ((try refine W.a ?_); simp only [go_sem, seval, reduceCtorEq, c89])
  refine W.opsFork rfl rfl rfl (fun b hb => ?_)
  cases b
  · ((try refine W.a ?_); simp only [go_sem, seval, reduceCtorEq])
    refine W.no rfl ?_
    ((try refine W.a ?_); simp only [go_sem, seval, reduceCtorEq, hb1, hb2, eq_true hb3, true_or])
    refine W.ret ⟨_, _, rfl, .rfl _, ?_⟩
    refine ⟨rfl, ?_⟩
    simp only [List.length_map]
  · have hl : l = [] := by simpa using hb rfl
    subst hl
    ((try refine W.a ?_); simp only [go_sem, seval, reduceCtorEq])
    refine W.yes rfl ?_
    ((try refine W.a ?_); simp only [go_sem, seval, reduceCtorEq])
    refine W.own 2 35 3 rfl ?_
    exact W.ret ⟨_, _, rfl, .rfl _, rfl, rfl⟩
theorem clone_kd (w0 : World) (l : List KdT) (hn : l.length ≤ 1000000) (σ : H) : DC Tryz.prog w0 87 [.c (kdsC l)] σ (Same (.osl σ.length (l.map KdT.cs)) (σ ++ [.spare 81 2 l.length])) := by
  refine k87.goN rfl (fun hok hsz => ?_)
  have hb1 : l.length * 24 ≤ 140737488355328 := by omega
  have hb2 : l.length ≤ 140737488355328 := by omega
  have hb3 : ∀ r ∈ l.map KdT.cs, r.length = 2 := fun r hr => by obtain ⟨o, _, rfl⟩ := List.mem_map.1 hr; rfl
  ((try refine W.a ?_); simp only [go_sem, seval, reduceCtorEq, c87])
  refine W.opsFork rfl rfl rfl (fun b hb => ?_)
  cases b
  · ((try refine W.a ?_); simp only [go_sem, seval, reduceCtorEq])
    refine W.no rfl ?_
    ((try refine W.a ?_); simp only [go_sem, seval, reduceCtorEq, hb1, hb2, eq_true hb3, true_or])
    refine W.ret ⟨_, _, rfl, .rfl _, ?_⟩
    refine ⟨rfl, ?_⟩
    simp only [List.length_map]
  · have hl : l = [] := by simpa using hb rfl
    subst hl
    ((try refine W.a ?_); simp only [go_sem, seval, reduceCtorEq])
    refine W.yes rfl ?_
    ((try refine W.a ?_); simp only [go_sem, seval, reduceCtorEq])
    refine W.own 2 81 2 rfl ?_
    exact W.ret ⟨_, _, rfl, .rfl _, rfl, rfl⟩
theorem nm_rows {l : List NmT} : ∀ r ∈ l.map NmT.cs, r.length = 5 := fun r hr => by obtain ⟨o, _, rfl⟩ := List.mem_map.1 hr; rfl
theorem kd_rows {l : List KdT} : ∀ r ∈ l.map KdT.cs, r.length = 2 := fun r hr => by obtain ⟨o, _, rfl⟩ := List.mem_map.1 hr; rfl
theorem clone_nm (w0 : World) (l : List NmT) (hn : l.length ≤ 1000000) (σ : H) : DC Tryz.prog w0 88 [.c (nmsC l)] σ (Same (.osl σ.length (l.map NmT.cs)) (σ ++ [.spare 79 5 l.length])) := by
  refine k88.goN rfl (fun hok hsz => ?_)
  have hb1 : l.length * 72 ≤ 140737488355328 := by omega
  have hb2 : l.length ≤ 140737488355328 := by omega
  have hb3 := nm_rows (l := l)
  ((try refine W.a ?_); simp only [go_sem, seval, reduceCtorEq, c88])
  refine W.opsFork rfl rfl rfl (fun b hb => ?_)
  cases b
  · ((try refine W.a ?_); simp only [go_sem, seval, reduceCtorEq])
    refine W.no rfl ?_
    ((try refine W.a ?_); simp only [go_sem, seval, reduceCtorEq, hb1, hb2, eq_true hb3, true_or])
    refine W.ret ⟨_, _, rfl, .rfl _, ?_⟩
    refine ⟨rfl, ?_⟩
    simp only [List.length_map]
  · have hl : l = [] := by simpa using hb rfl
    subst hl
    ((try refine W.a ?_); simp only [go_sem, seval, reduceCtorEq])
    refine W.yes rfl ?_
    ((try refine W.a ?_); simp only [go_sem, seval, reduceCtorEq])
    refine W.own 2 79 5 rfl ?_
    exact W.ret ⟨_, _, rfl, .rfl _, rfl, rfl⟩
theorem clip_kd (w0 : World) (l : List KdT) (σ : H) : DC Tryz.prog w0 91 [.c (kdsC l)] σ (Same (.csl (l.map KdT.cs)) σ) := by
  refine k91.go rfl (fun hok hsz => ?_)
  have hb3 := kd_rows (l := l)
  have hle : (l.length : Int) ≤ (l.length : Int) := Int.le_refl _
  have htk : (l.map KdT.cs).take l.length = l.map KdT.cs := List.take_of_length_le (by simp)
  ((try refine W.a ?_); simp only [go_sem, seval, reduceCtorEq, c91, eq_true hb3, nat0, hle, htk])
  (refine W.fs (hok) (by simp only [r91, go_sem, seval, reduceCtorEq]; rfl) ?_; simp only [resV]; try exact V.wk.rfl _)
theorem clip_nm (w0 : World) (l : List NmT) (σ : H) : DC Tryz.prog w0 93 [.c (nmsC l)] σ (Same (.csl (l.map NmT.cs)) σ) := by
  refine k93.go rfl (fun hok hsz => ?_)
  have hb3 := nm_rows (l := l)
  have hle : (l.length : Int) ≤ (l.length : Int) := Int.le_refl _
  have htk : (l.map NmT.cs).take l.length = l.map NmT.cs := List.take_of_length_le (by simp)
  ((try refine W.a ?_); simp only [go_sem, seval, reduceCtorEq, c93, eq_true hb3, nat0, hle, htk])
  (refine W.fs (hok) (by simp only [r93, go_sem, seval, reduceCtorEq]; rfl) ?_; simp only [resV]; try exact V.wk.rfl _)
theorem ops_DeclareA (w0 : World) (l : List OpT) (o : OpT) (hn : l.length ≤ 99999) (σ : H) : DC Tryz.prog w0 94 [.c (opsC l), o.v] σ (Same (.tup [.c (opsC (if wrongL l o = 0 then l ++ [o] else l)), I (wrongL l o)]) σ) := by
  refine k94.go rfl (fun hok hsz => ?_)
  ((try refine W.a ?_); simp only [go_sem, seval, reduceCtorEq, c94])
  (refine W.c1 (ops_wrong w0 l o _) ?_; simp only [go_sem, seval, reduceCtorEq])
  by_cases hw : wrongL l o = 0
  · have hb : (wrongL l o != 0) = false := by simpa using hw
    have hb1 : (l.length + 1) * 32 ≤ 140737488355328 := by omega
    have hb2 : l.length + 1 ≤ 140737488355328 := by omega
    rw [if_pos hw]
    ((try refine W.a ?_); simp only [go_sem, seval, reduceCtorEq, hb])
    refine W.no rfl ?_
    ((try refine W.a ?_); simp only [go_sem, seval, reduceCtorEq])
    apply W.dregE (List.cons_ne_nil _ _)
    case hc =>
      (apply CanonE.advPO; simp only [go_sem, seval, reduceCtorEq])
      (apply CanonE.call (clone_opA w0 l (by omega) _); (case hg => rfl); (case hf => rfl); (case ha => first | rfl | simp))
      (apply CanonE.advPO; simp only [go_sem, seval, reduceCtorEq, hb1, hb2])
      exact CanonE.nil
    ((try refine W.a ?_); simp only [go_sem, seval, reduceCtorEq])
    rw [hw]
    (refine W.fs (hok) (by simp only [r94, go_sem, seval, reduceCtorEq]; rfl) ?_; simp only [resV]; try exact V.wk.rfl _)
    simp only [List.map_append, List.map_cons, List.map_nil, OpT.cs]
    (all_goals exact wk_here)
  · have hb : (wrongL l o != 0) = true := by simpa using hw
    rw [if_neg hw]
    ((try refine W.a ?_); simp only [go_sem, seval, reduceCtorEq, hb])
    refine W.yes rfl ?_
    ((try refine W.a ?_); simp only [go_sem, seval, reduceCtorEq])
    (refine W.c1 (clone_opA w0 l (by omega) _) ?_; simp only [go_sem, seval, reduceCtorEq])
    (refine W.fs (hok) (by simp only [r94, go_sem, seval, reduceCtorEq]; rfl) ?_; simp only [resV]; try exact V.wk.rfl _)
    (all_goals exact wk_here)
structure SgLe (s : Sg) (n : Nat) : Prop where
  k : s.kinds.length ≤ n
  t : s.types.length ≤ n
  o : s.ops.length ≤ n
theorem sig_copied (w0 : World) (s : Sg) (hs : SgLe s 90000) (σ : H) : DC Tryz.prog w0 43 [s.v] σ (Same s.v σ) := by
  refine k43.go rfl (fun hok hsz => ?_)
  obtain ⟨h1, h2, h3⟩ := hs
  ((try refine W.a ?_); simp only [go_sem, seval, reduceCtorEq, c43])
  apply W.dregE (List.cons_ne_nil _ _)
  case hc =>
    (apply CanonE.advPO; simp only [go_sem, seval, reduceCtorEq])
    (apply CanonE.call (clone_kd w0 s.kinds (by omega) _); (case hg => rfl); (case hf => rfl); (case ha => first | rfl | simp))
    (apply CanonE.advPO; simp only [go_sem, seval, reduceCtorEq])
    (apply CanonE.call (clone_nm w0 s.types (by omega) _); (case hg => rfl); (case hf => rfl); (case ha => first | rfl | simp))
    (apply CanonE.advPO; simp only [go_sem, seval, reduceCtorEq])
    (apply CanonE.call (clone_opA w0 s.ops (by omega) _); (case hg => rfl); (case hf => rfl); (case ha => first | rfl | simp))
    (apply CanonE.advPO; simp only [go_sem, seval, reduceCtorEq])
    exact CanonE.nil
  ((try refine W.a ?_); simp only [go_sem, seval, reduceCtorEq])
  (refine W.fg (hok) (d := s.v) (by simp only [r43, go_sem, seval, reduceCtorEq]; rfl) (by simp only [resV, go_sem, seval, reduceCtorEq]; exact wk_here) ?_)
  exact ⟨rfl, rfl⟩
theorem sig_may (w0 : World) (ok there : Bool) (n : Nat) (σ : H) : DC Tryz.prog w0 90 [B ok, B there, I n] σ (Same (I (mayE ok there n)) σ) := by
  refine k90.go rfl (fun hok hsz => ?_)
  unfold mayE
  cases ok
  · ((try refine W.a ?_); simp only [go_sem, seval, reduceCtorEq, c90])
    refine W.yes rfl ?_
    ((try refine W.a ?_); simp only [go_sem, seval, reduceCtorEq])
    (refine W.fs (hok) (by simp only [r90, go_sem, seval, reduceCtorEq]; rfl) ?_; simp only [resV]; try exact V.wk.rfl _)
  · ((try refine W.a ?_); simp only [go_sem, seval, reduceCtorEq, c90])
    refine W.no rfl ?_
    ((try refine W.a ?_); simp only [go_sem, seval, reduceCtorEq])
    cases there
    · refine W.no rfl ?_
      ((try refine W.a ?_); simp only [go_sem, seval, reduceCtorEq])
      by_cases h : 1024 ≤ n
      · have h' : (n : Int) ≥ 1024 := by omega
        ((try refine W.a ?_); simp only [go_sem, seval, reduceCtorEq, h'])
        refine W.yes rfl ?_
        ((try refine W.a ?_); simp only [go_sem, seval, reduceCtorEq])
        rw [if_pos h]
        (refine W.fs (hok) (by simp only [r90, go_sem, seval, reduceCtorEq]; rfl) ?_; simp only [resV]; try exact V.wk.rfl _)
      · have h' : ¬ (n : Int) ≥ 1024 := by omega
        ((try refine W.a ?_); simp only [go_sem, seval, reduceCtorEq, h'])
        refine W.no rfl ?_
        ((try refine W.a ?_); simp only [go_sem, seval, reduceCtorEq])
        rw [if_neg h]
        (refine W.fs (hok) (by simp only [r90, go_sem, seval, reduceCtorEq]; rfl) ?_; simp only [resV]; try exact V.wk.rfl _)
    · refine W.yes rfl ?_
      ((try refine W.a ?_); simp only [go_sem, seval, reduceCtorEq])
      (refine W.fs (hok) (by simp only [r90, go_sem, seval, reduceCtorEq]; rfl) ?_; simp only [resV]; try exact V.wk.rfl _)
end
section
attribute [local go_sem] Typ.v Typ.cs_eq tk_mk tname_mk tn_mk tl_mk tysC KdT.v KdT.cs NmT.v NmT.cs kdsC nmsC Sg.v Sent.v strsC

theorem add_kind {s : Sg} {x : Sent} {name : Str} (h : x.k = 0) : addN s x name = (⟨s.kinds ++ [⟨name, x.n⟩], s.types, s.ops⟩, mayE (isNameB name && decide (x.n ≥ 0)) (kindL s.kinds name).isSome s.kinds.length) := by
  unfold addN; rw [if_pos h]
theorem add_type {s : Sg} {x : Sent} {name : Str} (h : x.k = 1) : addN s x name = (⟨s.kinds, s.types ++ [⟨name, x.ty⟩], s.ops⟩, mayE (isNameB name || isSymB name) (findN s.types name).isSome s.types.length) := by
  unfold addN; rw [if_neg (by omega), if_pos h]
theorem add_op {s : Sg} {x : Sent} {name : Str} (h : x.k = 2) : addN s x name = (⟨s.kinds, s.types, if wrongL s.ops (opN x name) = 0 then s.ops ++ [opN x name] else s.ops⟩, wrongL s.ops (opN x name)) := by
  unfold addN; rw [if_neg (by omega), if_neg (by omega), if_pos h]
theorem add_other {s : Sg} {x : Sent} {name : Str} (h0 : x.k ≠ 0) (h1 : x.k ≠ 1) (h2 : x.k ≠ 2) : addN s x name = (s, 0) := by
  unfold addN; rw [if_neg h0, if_neg h1, if_neg h2]
theorem sig_add (w0 : World) (s : Sg) (hs : SgLe s 90000) (x : Sent) (name : Str) (σ : H) : DC Tryz.prog w0 44 [s.v, x.v, S name] σ (Same (.tup [(addN s x name).1.v, I (addN s x name).2]) σ) := by
  refine k44.go rfl (fun hok hsz => ?_)
  obtain ⟨hs1, hs2, hs3⟩ := hs
  by_cases h0 : x.k = 0
  · have k0 : (x.k == 0) = true := by simpa using h0
    have hb1 : (s.kinds.length + 1) * 24 ≤ 140737488355328 := by omega
    have hb2 : s.kinds.length + 1 ≤ 140737488355328 := by omega
    have hb3 := kd_rows (l := s.kinds)
    have hK := fun σ => sig_Kind w0 s name σ
    rw [add_kind h0]
    unfold kindV at hK
    generalize kindL s.kinds name = r at hK ⊢
    ((try refine W.a ?_); simp only [go_sem, seval, reduceCtorEq, c44, k0])
    refine W.yes rfl ?_
    ((try refine W.a ?_); simp only [go_sem, seval, reduceCtorEq])
    (refine W.c1 (hK _) ?_; simp only [go_sem, seval, reduceCtorEq])
    cases hN : isNameB name
    · apply W.dregE (List.cons_ne_nil _ _)
      case hc =>
        (apply CanonE.advPO; simp only [go_sem, seval, reduceCtorEq])
        (apply CanonE.call (lex_IsNameD w0 name _); (case hg => rfl); (case hf => rfl); (case ha => first | rfl | simp))
        (apply CanonE.advPO; simp only [go_sem, seval, reduceCtorEq, hN])
        (apply CanonE.call (sig_may w0 false r.isSome s.kinds.length _); (case hg => rfl); (case hf => rfl); (case ha => first | rfl | simp))
        (apply CanonE.advPO; simp only [go_sem, seval, reduceCtorEq])
        exact CanonE.nil
      ((try refine W.a ?_); simp only [go_sem, seval, reduceCtorEq])
      apply W.dregE (List.cons_ne_nil _ _)
      case hc =>
        (apply CanonE.advPO; simp only [go_sem, seval, reduceCtorEq])
        (apply CanonE.call (clip_kd w0 s.kinds _); (case hg => rfl); (case hf => rfl); (case ha => first | rfl | simp))
        (apply CanonE.advPO; simp only [go_sem, seval, reduceCtorEq, hb1, hb2, eq_true hb3, ne_eq, not_false_eq_true, or_true])
        exact CanonE.nil
      ((try refine W.a ?_); simp only [go_sem, seval, reduceCtorEq])
      (refine W.fg (hok) (d := .tup [Sg.v ⟨s.kinds ++ [⟨name, x.n⟩], s.types, s.ops⟩, I (mayE false r.isSome s.kinds.length)]) (by simp only [r44, go_sem, seval, reduceCtorEq, List.map_append]; rfl) (by simp only [resV, go_sem, seval, reduceCtorEq, List.map_append]; exact wk_here) ?_ (hl := by (first | exact .c _ | (simp only [go_sem, seval, reduceCtorEq, List.map_append]; done))))
      exact ⟨rfl, rfl⟩
    · apply W.dregE (List.cons_ne_nil _ _)
      case hc =>
        (apply CanonE.advPO; simp only [go_sem, seval, reduceCtorEq])
        (apply CanonE.call (lex_IsNameD w0 name _); (case hg => rfl); (case hf => rfl); (case ha => first | rfl | simp))
        (apply CanonE.advPO; simp only [go_sem, seval, reduceCtorEq, hN])
        (apply CanonE.call (sig_may w0 (decide (x.n ≥ 0)) r.isSome s.kinds.length _); (case hg => rfl); (case hf => rfl); (case ha => first | rfl | simp))
        (apply CanonE.advPO; simp only [go_sem, seval, reduceCtorEq])
        exact CanonE.nil
      ((try refine W.a ?_); simp only [go_sem, seval, reduceCtorEq])
      apply W.dregE (List.cons_ne_nil _ _)
      case hc =>
        (apply CanonE.advPO; simp only [go_sem, seval, reduceCtorEq])
        (apply CanonE.call (clip_kd w0 s.kinds _); (case hg => rfl); (case hf => rfl); (case ha => first | rfl | simp))
        (apply CanonE.advPO; simp only [go_sem, seval, reduceCtorEq, hb1, hb2, eq_true hb3, ne_eq, not_false_eq_true, or_true])
        exact CanonE.nil
      ((try refine W.a ?_); simp only [go_sem, seval, reduceCtorEq])
      (refine W.fg (hok) (d := .tup [Sg.v ⟨s.kinds ++ [⟨name, x.n⟩], s.types, s.ops⟩, I (mayE (decide (x.n ≥ 0)) r.isSome s.kinds.length)]) (by simp only [r44, go_sem, seval, reduceCtorEq, List.map_append]; rfl) (by simp only [resV, go_sem, seval, reduceCtorEq, List.map_append]; exact wk_here) ?_ (hl := by (first | exact .c _ | (simp only [go_sem, seval, reduceCtorEq, List.map_append]; done))))
      exact ⟨rfl, rfl⟩
  have n0 : (x.k == 0) = false := by simpa using h0
  by_cases h1 : x.k = 1
  · have k1 : (x.k == 1) = true := by simpa using h1
    have hb1 : (s.types.length + 1) * 72 ≤ 140737488355328 := by omega
    have hb2 : s.types.length + 1 ≤ 140737488355328 := by omega
    have hb3 := nm_rows (l := s.types)
    have hF := fun σ => sig_Find w0 s name σ
    rw [add_type h1]
    unfold findV at hF
    generalize findN s.types name = r at hF ⊢
    ((try refine W.a ?_); simp only [go_sem, seval, reduceCtorEq, c44, n0])
    refine W.no rfl ?_
    ((try refine W.a ?_); simp only [go_sem, seval, reduceCtorEq, k1])
    refine W.yes rfl ?_
    ((try refine W.a ?_); simp only [go_sem, seval, reduceCtorEq])
    (refine W.c1 (hF _) ?_; simp only [go_sem, seval, reduceCtorEq])
    cases hN : isNameB name
    · apply W.dregE (List.cons_ne_nil _ _)
      case hc =>
        (apply CanonE.advPO; simp only [go_sem, seval, reduceCtorEq])
        (apply CanonE.call (lex_IsNameD w0 name _); (case hg => rfl); (case hf => rfl); (case ha => first | rfl | simp))
        (apply CanonE.advPO; simp only [go_sem, seval, reduceCtorEq, hN])
        (apply CanonE.call (lex_IsSymD w0 name _); (case hg => rfl); (case hf => rfl); (case ha => first | rfl | simp))
        (apply CanonE.advPO; simp only [go_sem, seval, reduceCtorEq])
        (apply CanonE.call (sig_may w0 (isSymB name) r.isSome s.types.length _); (case hg => rfl); (case hf => rfl); (case ha => first | rfl | simp))
        (apply CanonE.advPO; simp only [go_sem, seval, reduceCtorEq])
        exact CanonE.nil
      ((try refine W.a ?_); simp only [go_sem, seval, reduceCtorEq])
      apply W.dregE (List.cons_ne_nil _ _)
      case hc =>
        (apply CanonE.advPO; simp only [go_sem, seval, reduceCtorEq])
        (apply CanonE.call (clip_nm w0 s.types _); (case hg => rfl); (case hf => rfl); (case ha => first | rfl | simp))
        (apply CanonE.advPO; simp only [go_sem, seval, reduceCtorEq, hb1, hb2, eq_true hb3, ne_eq, not_false_eq_true, or_true])
        exact CanonE.nil
      ((try refine W.a ?_); simp only [go_sem, seval, reduceCtorEq])
      (refine W.fg (hok) (d := .tup [Sg.v ⟨s.kinds, s.types ++ [⟨name, x.ty⟩], s.ops⟩, I (mayE (isSymB name) r.isSome s.types.length)]) (by simp only [r44, go_sem, seval, reduceCtorEq, List.map_append]; rfl) (by simp only [resV, go_sem, seval, reduceCtorEq, List.map_append]; exact wk_here) ?_ (hl := by (first | exact .c _ | (simp only [go_sem, seval, reduceCtorEq, List.map_append]; done))))
      exact ⟨rfl, rfl⟩
    · apply W.dregE (List.cons_ne_nil _ _)
      case hc =>
        (apply CanonE.advPO; simp only [go_sem, seval, reduceCtorEq])
        (apply CanonE.call (lex_IsNameD w0 name _); (case hg => rfl); (case hf => rfl); (case ha => first | rfl | simp))
        (apply CanonE.advPO; simp only [go_sem, seval, reduceCtorEq, hN])
        (apply CanonE.call (sig_may w0 true r.isSome s.types.length _); (case hg => rfl); (case hf => rfl); (case ha => first | rfl | simp))
        (apply CanonE.advPO; simp only [go_sem, seval, reduceCtorEq])
        exact CanonE.nil
      ((try refine W.a ?_); simp only [go_sem, seval, reduceCtorEq])
      apply W.dregE (List.cons_ne_nil _ _)
      case hc =>
        (apply CanonE.advPO; simp only [go_sem, seval, reduceCtorEq])
        (apply CanonE.call (clip_nm w0 s.types _); (case hg => rfl); (case hf => rfl); (case ha => first | rfl | simp))
        (apply CanonE.advPO; simp only [go_sem, seval, reduceCtorEq, hb1, hb2, eq_true hb3, ne_eq, not_false_eq_true, or_true])
        exact CanonE.nil
      ((try refine W.a ?_); simp only [go_sem, seval, reduceCtorEq])
      (refine W.fg (hok) (d := .tup [Sg.v ⟨s.kinds, s.types ++ [⟨name, x.ty⟩], s.ops⟩, I (mayE true r.isSome s.types.length)]) (by simp only [r44, go_sem, seval, reduceCtorEq, List.map_append]; rfl) (by simp only [resV, go_sem, seval, reduceCtorEq, List.map_append]; exact wk_here) ?_ (hl := by (first | exact .c _ | (simp only [go_sem, seval, reduceCtorEq, List.map_append]; done))))
      exact ⟨rfl, rfl⟩
  have n1 : (x.k == 1) = false := by simpa using h1
  by_cases h2 : x.k = 2
  · have k2 : (x.k == 2) = true := by simpa using h2
    rw [add_op h2]
    have hD := fun σ => ops_DeclareA w0 s.ops (opN x name) (by omega) σ
    generalize wrongL s.ops (opN x name) = e at hD ⊢
    ((try refine W.a ?_); simp only [go_sem, seval, reduceCtorEq, c44, n0])
    refine W.no rfl ?_
    ((try refine W.a ?_); simp only [go_sem, seval, reduceCtorEq, n1])
    refine W.no rfl ?_
    ((try refine W.a ?_); simp only [go_sem, seval, reduceCtorEq, k2])
    refine W.yes rfl ?_
    ((try refine W.a ?_); simp only [go_sem, seval, reduceCtorEq])
    unfold opN at hD ⊢
    by_cases he : e = 0
    · rw [if_pos he] at hD ⊢
      (refine W.c1 (hD _) ?_; simp only [go_sem, seval, reduceCtorEq])
      (refine W.fg (hok) (d := .tup [Sg.v ⟨s.kinds, s.types, s.ops ++ [⟨name, x.op.prec, x.op.fix⟩]⟩, I e]) (by simp only [r44, go_sem, seval, reduceCtorEq, List.map_append]; rfl) (by simp only [resV, go_sem, seval, reduceCtorEq, List.map_append]; exact wk_here) ?_ (hl := by (first | exact .c _ | (simp only [go_sem, seval, reduceCtorEq, List.map_append]; done))))
      exact ⟨rfl, rfl⟩
    · rw [if_neg he] at hD ⊢
      (refine W.c1 (hD _) ?_; simp only [go_sem, seval, reduceCtorEq])
      (refine W.fg (hok) (d := .tup [Sg.v s, I e]) (by simp only [r44, go_sem, seval, reduceCtorEq]; rfl) (by simp only [resV, go_sem, seval, reduceCtorEq]; exact wk_here) ?_)
      exact ⟨rfl, rfl⟩
  · have n2 : (x.k == 2) = false := by simpa using h2
    rw [add_other h0 h1 h2]
    ((try refine W.a ?_); simp only [go_sem, seval, reduceCtorEq, c44, n0])
    refine W.no rfl ?_
    ((try refine W.a ?_); simp only [go_sem, seval, reduceCtorEq, n1])
    refine W.no rfl ?_
    ((try refine W.a ?_); simp only [go_sem, seval, reduceCtorEq, n2])
    refine W.no rfl ?_
    ((try refine W.a ?_); simp only [go_sem, seval, reduceCtorEq])
    (refine W.fg (hok) (d := .tup [s.v, I 0]) (by simp only [r44, go_sem, seval, reduceCtorEq]; rfl) (by simp only [resV, go_sem, seval, reduceCtorEq]; exact wk_here) ?_)
    exact ⟨rfl, rfl⟩
theorem sig_Add (w0 : World) (s : Sg) (hs : SgLe s 1000) (x : Sent) (hx : x.names.length ≤ 1000) (σ : H) : DC Tryz.prog w0 12 [s.v, x.v] σ (Same (.tup [(addS s x).1.v, I (addS s x).2]) σ) := by
  refine k12.go rfl (fun hok hsz => ?_)
  have hs' : SgLe s 90000 := ⟨by have := hs.k; omega, by have := hs.t; omega, by have := hs.o; omega⟩
  have hcp := fun σ => sig_copied w0 s hs' σ
  unfold addS
  by_cases hr : x.k < 0 ∨ 3 < x.k
  · rw [if_pos hr]
    rcases hr with hr | hr
    · ((try refine W.a ?_); simp only [go_sem, seval, reduceCtorEq, c12, hr])
      refine W.yes rfl ?_
      ((try refine W.a ?_); simp only [go_sem, seval, reduceCtorEq])
      (refine W.c1 (hcp _) ?_; simp only [go_sem, seval, reduceCtorEq])
      (refine W.fg (hok) (d := .tup [s.v, I 1]) (by simp only [r12, go_sem, seval, reduceCtorEq]; rfl) (by simp only [resV, go_sem, seval, reduceCtorEq]; exact wk_here) ?_)
      exact ⟨rfl, rfl⟩
    · have h1 : ¬ x.k < 0 := by omega
      have h2 : x.k > 3 := hr
      ((try refine W.a ?_); simp only [go_sem, seval, reduceCtorEq, c12, h1, h2])
      refine W.yes rfl ?_
      ((try refine W.a ?_); simp only [go_sem, seval, reduceCtorEq])
      (refine W.c1 (hcp _) ?_; simp only [go_sem, seval, reduceCtorEq])
      (refine W.fg (hok) (d := .tup [s.v, I 1]) (by simp only [r12, go_sem, seval, reduceCtorEq]; rfl) (by simp only [resV, go_sem, seval, reduceCtorEq]; exact wk_here) ?_)
      exact ⟨rfl, rfl⟩
  rw [if_neg hr]
  have h1 : ¬ x.k < 0 := by omega
  have h2 : ¬ x.k > 3 := by omega
  have tail : ∀ (ρ : Env), ¬ (x.k = 1 ∧ fitsT s.kinds x.ty = false) → True := fun _ _ => trivial
  by_cases hf : x.k = 1 ∧ fitsT s.kinds x.ty = false
  · rw [if_pos hf]
    have k1 : (x.k == 1) = true := by simpa using hf.1
    have hfit := hf.2
    ((try refine W.a ?_); simp only [go_sem, seval, reduceCtorEq, c12, h1, h2])
    refine W.no rfl ?_
    ((try refine W.a ?_); simp only [go_sem, seval, reduceCtorEq, k1])
    (refine W.c1 (sig_Fits w0 s x.ty _) ?_; simp only [go_sem, seval, reduceCtorEq, hfit])
    refine W.yes rfl ?_
    ((try refine W.a ?_); simp only [go_sem, seval, reduceCtorEq])
    (refine W.c1 (hcp _) ?_; simp only [go_sem, seval, reduceCtorEq])
    (refine W.fg (hok) (d := .tup [s.v, I 111]) (by simp only [r12, go_sem, seval, reduceCtorEq]; rfl) (by simp only [resV, go_sem, seval, reduceCtorEq]; exact wk_here) ?_)
    exact ⟨rfl, rfl⟩
  rw [if_neg hf]
  generalize hR : outS s (addsL x s x.names) = R
  cases k1 : (x.k == 1)
  case' false =>
    ((try refine W.a ?_); simp only [go_sem, seval, reduceCtorEq, c12, h1, h2])
    refine W.no rfl ?_
    ((try refine W.a ?_); simp only [go_sem, seval, reduceCtorEq, k1])
    refine W.no rfl ?_
    ((try refine W.a ?_); simp only [go_sem, seval, reduceCtorEq])
    (refine W.c1 (hcp _) ?_; simp only [go_sem, seval, reduceCtorEq])
  case' true =>
    have hfit : fitsT s.kinds x.ty = true := by
      cases h : fitsT s.kinds x.ty
      · exact absurd ⟨by simpa using k1, h⟩ hf
      · rfl
    ((try refine W.a ?_); simp only [go_sem, seval, reduceCtorEq, c12, h1, h2])
    refine W.no rfl ?_
    ((try refine W.a ?_); simp only [go_sem, seval, reduceCtorEq, k1])
    (refine W.c1 (sig_Fits w0 s x.ty _) ?_; simp only [go_sem, seval, reduceCtorEq, hfit])
    refine W.no rfl ?_
    ((try refine W.a ?_); simp only [go_sem, seval, reduceCtorEq])
    (refine W.c1 (hcp _) ?_; simp only [go_sem, seval, reduceCtorEq])
  all_goals
    refine W.loopP (α := Nat × Sg) (fun y => y.1 ≤ x.names.length ∧ addsL x s (x.names.take y.1) = .ok y.2) (fun y => ⟨((((((((base.put (some 2) (.ptr σ.length 0)).put (some 3) (.ptr (σ.length + 1) 0)).put (some 4) (.ptr (σ.length + 2) 0)).put (some 5) (I 0)).put (some 6) (.ptr (σ.length + 3) 0)).put (some 38) (.c (strsC x.names))).put (some 39) (I x.names.length)).put (some 40) (I (y.1 : Nat))), σ ++ [.cells s.v.cellsV, .cells x.v.cellsV, .cells [.csl [], .csl [], .csl []], .cells y.2.v.cellsV]⟩) (fun y => x.names.length - y.1) (0, s) ⟨Nat.zero_le _, rfl⟩ ?_ (fun y hy => ?_)
    · simp only [go_sem, seval, reduceCtorEq]
      (refine Lew.env ?_; exact lee_here)
    · obtain ⟨i, t⟩ := y
      obtain ⟨hi, hinv⟩ := hy
      simp only at hi hinv
      by_cases hlt : i < x.names.length
      · have q1 : ((i : Int) < (x.names.length : Int)) := by omega
        have hxx : x.names[i]? = some x.names[i] := List.getElem?_eq_getElem hlt
        have hw : IntKind.i64.wrap ((i : Int) + 1) = ((i + 1 : Nat) : Int) := wrap_next hlt (by omega)
        have hlen := adds_len x _ s t hinv
        rw [List.length_take] at hlen
        have hadd := fun σ => sig_add w0 t ⟨by have := hs.k; omega, by have := hs.t; omega, by have := hs.o; omega⟩ x x.names[i] σ
        by_cases he : (addN t x x.names[i]).2 = 0
        · have hgo := adds_go x s hlt hinv he
          rw [he] at hadd
          generalize (addN t x x.names[i]).1 = u at hgo hadd
          generalize x.names[i] = nm at *
          ((try refine W.a ?_); simp only [go_sem, seval, reduceCtorEq, q1])
          refine W.yes rfl ?_
          ((try refine W.a ?_); simp only [go_sem, seval, reduceCtorEq, q1, nat0, hxx])
          (refine W.c1 (hadd _) ?_; simp only [go_sem, seval, reduceCtorEq])
          refine W.no rfl ?_
          ((try refine W.a ?_); simp only [go_sem, seval, reduceCtorEq, hw])
          refine .inv ⟨(i + 1, u), ⟨hlt, hgo⟩, by simp only; omega, ?_⟩
          simp only [go_sem, seval, reduceCtorEq]
          (refine Lew.cutL (hok) ?_ (by simp) (by simp) ?_ ?_ ?_; exact lee_here; ((try simp only [okB, wkB, go_sem, seval, reduceCtorEq]) <;> omega); (simp only [List.length_cons, List.length_nil, Nat.reduceAdd, List.take_succ_cons, List.take_zero, wkB, and_true]; (repeat' (refine And.intro ?_ ?_)) <;> (first | exact Blk.wk.rfl _ | exact Blk.wk.gone _ | (refine Blk.wk_cells ?_ rfl; (exact wk_here)))); (repeat' (first | exact LowE.base _ | (refine LowE.put ?_ (by first | exact .c _ | ((try simp only [okB, wkB, go_sem, seval, reduceCtorEq]) <;> omega))))))
        · have hst := adds_stop x s hlt hinv he
          have hRv : R = (s, (addN t x x.names[i]).2) := by rw [← hR, hst]; rfl
          rw [hRv]
          clear hRv hR
          have hb : ((addN t x x.names[i]).2 != 0) = true := by simpa using he
          generalize addN t x x.names[i] = u at hst hadd hb ⊢
          generalize x.names[i] = nm at *
          ((try refine W.a ?_); simp only [go_sem, seval, reduceCtorEq, q1])
          refine W.yes rfl ?_
          ((try refine W.a ?_); simp only [go_sem, seval, reduceCtorEq, q1, nat0, hxx])
          (refine W.c1 (hadd _) ?_; simp only [go_sem, seval, reduceCtorEq, hb])
          refine W.yes rfl ?_
          ((try refine W.a ?_); simp only [go_sem, seval, reduceCtorEq])
          (refine W.c1 (hcp _) ?_; simp only [go_sem, seval, reduceCtorEq])
          (refine W.fg (hok) (d := .tup [s.v, I u.2]) (by simp only [r12, go_sem, seval, reduceCtorEq]; rfl) (by simp only [resV, go_sem, seval, reduceCtorEq]; exact wk_here) ?_)
          exact ⟨rfl, rfl⟩
      · have q1 : ¬ ((i : Int) < (x.names.length : Int)) := by omega
        have htk : x.names.take i = x.names := List.take_of_length_le (by omega)
        rw [htk] at hinv
        have hRv : R = (t, 0) := by rw [← hR, hinv]; rfl
        rw [hRv]
        clear hRv hR
        ((try refine W.a ?_); simp only [go_sem, seval, reduceCtorEq, q1])
        refine W.no rfl ?_
        ((try refine W.a ?_); simp only [go_sem, seval, reduceCtorEq])
        (refine W.fg (hok) (d := .tup [t.v, I 0]) (by simp only [r12, go_sem, seval, reduceCtorEq]; rfl) (by simp only [resV, go_sem, seval, reduceCtorEq]; exact wk_here) ?_)
        exact ⟨rfl, rfl⟩
end
section
attribute [local go_sem] Typ.v Typ.cs_eq tk_mk tname_mk tn_mk tl_mk tysC KdT.v KdT.cs NmT.v NmT.cs kdsC nmsC Sg.v Sent.v strsC

theorem ref02_DeclareA (w0 : World) (l : List OpT) (o : OpT) (σ : H) : DC Tryz.prog w0 97 [.c (opsC l), o.v] σ (Same (I (wrongL l o)) σ) := by
  obtain ⟨name, prec, fix⟩ := o
  by_cases hf : fix = 0 ∨ fix = 1 ∨ fix = 2
  · exact ref02_Declare w0 l name prec fix hf σ
  · have hw : wrongL l ⟨name, prec, fix⟩ = 1 := by
      unfold wrongL
      rw [if_pos (by simp only; omega)]
    have h0 : (fix != 0) = true := by simp; omega
    have h1 : (fix != 1) = true := by simp; omega
    have h2 : (fix != 2) = true := by simp; omega
    refine k97.go rfl (fun hok hsz => ?_)
    rw [hw]
    ((try refine W.a ?_); simp only [go_sem, seval, reduceCtorEq, c97, h0, h1, h2])
    refine W.yes rfl ?_
    ((try refine W.a ?_); simp only [go_sem, seval, reduceCtorEq])
    (refine W.fs (hok) (by simp only [r97, go_sem, seval, reduceCtorEq]; rfl) ?_; simp only [resV]; try exact V.wk.rfl _)
def outB (b : Nat) (s : Sg) : Blk := .cells [.osl (b + 1) (s.kinds.map KdT.cs), .osl (b + 2) (s.types.map NmT.cs), .osl (b + 3) (s.ops.map OpT.cs)]
abbrev sgs (σ : H) (b : Nat) (s : Sg) : H := rfour σ b (outB b s) (.spare 81 2 s.kinds.length) (.spare 79 5 s.types.length) (.spare 35 3 s.ops.length)
theorem sgs_ok {σ : H} {b : Nat} (D : b + 3 < σ.length) {X Y Z U : Blk} (h : H.ok (rfour σ b X Y Z U)) (s : Sg) : H.ok (sgs σ b s) :=
  rf_ok D h (fun cs tg hc x hx => by
    unfold outB at hc
    injection hc with hc _
    subst hc
    simp only [List.mem_cons, List.not_mem_nil, or_false] at hx
    rcases hx with rfl | rfl | rfl
    · exact .osl (by omega)
    · exact .osl (by omega)
    · exact .osl (by omega)) (fun cs tg hc => by cases hc) (fun cs tg hc => by cases hc) (fun cs tg hc => by cases hc)
attribute [local go_sem] outB rf_len rf_g0 rf_g rf_t0 rf_t
theorem ref11_name (w0 : World) (s : Sg) (hs : SgLe s 90000) (x : Sent) (name : Str) (σ : H) (b : Nat) (D : b + 3 < σ.length) : DC Tryz.prog w0 45 [.ptr b 0, x.v, S name] (sgs σ b s) (Same (I (addN s x name).2) (sgs σ b (if (addN s x name).2 = 0 then (addN s x name).1 else s))) := by
  refine k45.go rfl (fun hok hsz => ?_)
  obtain ⟨hs1, hs2, hs3⟩ := hs
  have hD := rfA D
  by_cases h0 : x.k = 0
  · have k0 : (x.k == 0) = true := by simpa using h0
    have hb1 : (s.kinds.length + 1) * 24 ≤ 140737488355328 := by omega
    have hb2 : s.kinds.length + 1 ≤ 140737488355328 := by omega
    have hK := fun σ => ref11_Kind w0 s name σ
    rw [add_kind h0]
    unfold kindV at hK
    unfold mayE
    generalize kindL s.kinds name = r at hK ⊢
    ((try refine W.a ?_); simp only [go_sem, seval, reduceCtorEq, c45, hD])
    (refine W.c1 (ref01_IsNameD w0 name _) ?_; simp only [go_sem, seval, reduceCtorEq])
    (refine W.c1 (ref01_IsSymD w0 name _) ?_; simp only [go_sem, seval, reduceCtorEq, k0, hD])
    refine W.yes rfl ?_
    ((try refine W.a ?_); simp only [go_sem, seval, reduceCtorEq, hD])
    (refine W.c1w (hK _) ?_; simp only [go_sem, seval, reduceCtorEq, hD])
    cases hN : isNameB name
    · ((try refine W.a ?_); simp only [go_sem, seval, reduceCtorEq, hD])
      refine W.yes rfl ?_
      ((try refine W.a ?_); simp only [go_sem, seval, reduceCtorEq, hD])
      (refine W.fg (hok) (d := I 113) (by simp only [r45, go_sem, seval, reduceCtorEq]; rfl) (by simp only [resV, go_sem, seval, reduceCtorEq]; exact wk_here) ?_)
      exact ⟨rfl, rfl⟩
    · by_cases hx : x.n < 0
      · have hx' : ¬ x.n ≥ 0 := by omega
        rw [decide_eq_false hx']
        ((try refine W.a ?_); simp only [go_sem, seval, reduceCtorEq, hD, hx])
        refine W.yes rfl ?_
        ((try refine W.a ?_); simp only [go_sem, seval, reduceCtorEq, hD])
        (refine W.fg (hok) (d := I 113) (by simp only [r45, go_sem, seval, reduceCtorEq]; rfl) (by simp only [resV, go_sem, seval, reduceCtorEq]; exact wk_here) ?_)
        exact ⟨rfl, rfl⟩
      · have hx' : x.n ≥ 0 := by omega
        rw [decide_eq_true hx']
        ((try refine W.a ?_); simp only [go_sem, seval, reduceCtorEq, hD, hx])
        refine W.no rfl ?_
        ((try refine W.a ?_); simp only [go_sem, seval, reduceCtorEq, hD])
        cases hr : r.isSome
        · refine W.no rfl ?_
          ((try refine W.a ?_); simp only [go_sem, seval, reduceCtorEq, hD])
          by_cases hm : 1024 ≤ s.kinds.length
          · have hm' : (s.kinds.length : Int) ≥ 1024 := by omega
            ((try refine W.a ?_); simp only [go_sem, seval, reduceCtorEq, hD, hm'])
            refine W.yes rfl ?_
            ((try refine W.a ?_); simp only [go_sem, seval, reduceCtorEq, hD])
            rw [if_pos hm]
            (refine W.fg (hok) (d := I 112) (by simp only [r45, go_sem, seval, reduceCtorEq]; rfl) (by simp only [resV, go_sem, seval, reduceCtorEq]; exact wk_here) ?_)
            exact ⟨rfl, rfl⟩
          · have hm' : ¬ (s.kinds.length : Int) ≥ 1024 := by omega
            ((try refine W.a ?_); simp only [go_sem, seval, reduceCtorEq, hD, hm'])
            refine W.no rfl ?_
            ((try refine W.a ?_); simp only [go_sem, seval, reduceCtorEq, hD])
            rw [if_neg hm]
            apply W.dregE (List.cons_ne_nil _ _)
            case hc =>
              (apply CanonE.advPO; simp only [go_sem, seval, reduceCtorEq, hD, hb1, hb2])
              exact CanonE.nil
            ((try refine W.a ?_); simp only [go_sem, seval, reduceCtorEq, hD])
            have hok2 := sgs_ok D hok ⟨s.kinds ++ [⟨name, x.n⟩], s.types, s.ops⟩
            unfold sgs at hok2
            simp only [outB, List.map_append, List.map_cons, List.map_nil, List.length_append, List.length_cons, List.length_nil, Nat.zero_add, KdT.cs, NmT.cs] at hok2
            (refine W.fg (hok2) (d := I 0) (by simp only [r45, go_sem, seval, reduceCtorEq]; rfl) (by simp only [resV, go_sem, seval, reduceCtorEq]; exact wk_here) ?_)
            refine ⟨rfl, ?_⟩
            simp only [sgs, outB, List.map_append, List.map_cons, List.map_nil, List.length_append, List.length_cons, List.length_nil, Nat.zero_add, KdT.cs, NmT.cs]
        · refine W.yes rfl ?_
          ((try refine W.a ?_); simp only [go_sem, seval, reduceCtorEq, hD])
          (refine W.fg (hok) (d := I 110) (by simp only [r45, go_sem, seval, reduceCtorEq]; rfl) (by simp only [resV, go_sem, seval, reduceCtorEq]; exact wk_here) ?_)
          exact ⟨rfl, rfl⟩
  have n0 : (x.k == 0) = false := by simpa using h0
  by_cases h1 : x.k = 1
  · have k1 : (x.k == 1) = true := by simpa using h1
    have hb1 : (s.types.length + 1) * 72 ≤ 140737488355328 := by omega
    have hb2 : s.types.length + 1 ≤ 140737488355328 := by omega
    have hF := fun σ => ref11_Find w0 s name σ
    rw [add_type h1]
    unfold findV at hF
    unfold mayE
    generalize findN s.types name = r at hF ⊢
    ((try refine W.a ?_); simp only [go_sem, seval, reduceCtorEq, c45, hD])
    (refine W.c1 (ref01_IsNameD w0 name _) ?_; simp only [go_sem, seval, reduceCtorEq])
    (refine W.c1 (ref01_IsSymD w0 name _) ?_; simp only [go_sem, seval, reduceCtorEq, n0, hD])
    refine W.no rfl ?_
    ((try refine W.a ?_); simp only [go_sem, seval, reduceCtorEq, hD, k1])
    refine W.yes rfl ?_
    ((try refine W.a ?_); simp only [go_sem, seval, reduceCtorEq, hD])
    (refine W.c1w (hF _) ?_; simp only [go_sem, seval, reduceCtorEq, hD])
    cases hN : isNameB name <;> cases hS : isSymB name
    · ((try refine W.a ?_); simp only [go_sem, seval, reduceCtorEq, hD])
      refine W.yes rfl ?_
      ((try refine W.a ?_); simp only [go_sem, seval, reduceCtorEq, hD])
      (refine W.fg (hok) (d := I 113) (by simp only [r45, go_sem, seval, reduceCtorEq]; rfl) (by simp only [resV, go_sem, seval, reduceCtorEq]; exact wk_here) ?_)
      exact ⟨rfl, rfl⟩
    all_goals
      ((try refine W.a ?_); simp only [go_sem, seval, reduceCtorEq, hD])
      refine W.no rfl ?_
      ((try refine W.a ?_); simp only [go_sem, seval, reduceCtorEq, hD])
      cases hr : r.isSome
      · refine W.no rfl ?_
        ((try refine W.a ?_); simp only [go_sem, seval, reduceCtorEq, hD])
        by_cases hm : 1024 ≤ s.types.length
        · have hm' : (s.types.length : Int) ≥ 1024 := by omega
          ((try refine W.a ?_); simp only [go_sem, seval, reduceCtorEq, hD, hm'])
          refine W.yes rfl ?_
          ((try refine W.a ?_); simp only [go_sem, seval, reduceCtorEq, hD])
          rw [if_pos hm]
          (refine W.fg (hok) (d := I 112) (by simp only [r45, go_sem, seval, reduceCtorEq]; rfl) (by simp only [resV, go_sem, seval, reduceCtorEq]; exact wk_here) ?_)
          exact ⟨rfl, rfl⟩
        · have hm' : ¬ (s.types.length : Int) ≥ 1024 := by omega
          ((try refine W.a ?_); simp only [go_sem, seval, reduceCtorEq, hD, hm'])
          refine W.no rfl ?_
          ((try refine W.a ?_); simp only [go_sem, seval, reduceCtorEq, hD])
          rw [if_neg hm]
          apply W.dregE (List.cons_ne_nil _ _)
          case hc =>
            (apply CanonE.advPO; simp only [go_sem, seval, reduceCtorEq, hD, hb1, hb2])
            exact CanonE.nil
          ((try refine W.a ?_); simp only [go_sem, seval, reduceCtorEq, hD])
          have hok2 := sgs_ok D hok ⟨s.kinds, s.types ++ [⟨name, x.ty⟩], s.ops⟩
          unfold sgs at hok2
          simp only [outB, List.map_append, List.map_cons, List.map_nil, List.length_append, List.length_cons, List.length_nil, Nat.zero_add, KdT.cs, NmT.cs] at hok2
          (refine W.fg (hok2) (d := I 0) (by simp only [r45, go_sem, seval, reduceCtorEq]; rfl) (by simp only [resV, go_sem, seval, reduceCtorEq]; exact wk_here) ?_)
          refine ⟨rfl, ?_⟩
          simp only [sgs, outB, List.map_append, List.map_cons, List.map_nil, List.length_append, List.length_cons, List.length_nil, Nat.zero_add, KdT.cs, NmT.cs]
      · refine W.yes rfl ?_
        ((try refine W.a ?_); simp only [go_sem, seval, reduceCtorEq, hD])
        (refine W.fg (hok) (d := I 110) (by simp only [r45, go_sem, seval, reduceCtorEq]; rfl) (by simp only [resV, go_sem, seval, reduceCtorEq]; exact wk_here) ?_)
        exact ⟨rfl, rfl⟩
  have n1 : (x.k == 1) = false := by simpa using h1
  by_cases h2 : x.k = 2
  · have k2 : (x.k == 2) = true := by simpa using h2
    have hb1 : (s.ops.length + 1) * 32 ≤ 140737488355328 := by omega
    have hb2 : s.ops.length + 1 ≤ 140737488355328 := by omega
    rw [add_op h2]
    have hDe := fun σ => ref02_DeclareA w0 s.ops (opN x name) σ
    generalize wrongL s.ops (opN x name) = e at hDe ⊢
    unfold opN at hDe ⊢
    ((try refine W.a ?_); simp only [go_sem, seval, reduceCtorEq, c45, hD])
    (refine W.c1 (ref01_IsNameD w0 name _) ?_; simp only [go_sem, seval, reduceCtorEq])
    (refine W.c1 (ref01_IsSymD w0 name _) ?_; simp only [go_sem, seval, reduceCtorEq, n0, hD])
    refine W.no rfl ?_
    ((try refine W.a ?_); simp only [go_sem, seval, reduceCtorEq, hD, n1])
    refine W.no rfl ?_
    ((try refine W.a ?_); simp only [go_sem, seval, reduceCtorEq, hD, k2])
    refine W.yes rfl ?_
    ((try refine W.a ?_); simp only [go_sem, seval, reduceCtorEq, hD])
    apply W.dregE (List.cons_ne_nil _ _)
    case hc =>
      (apply CanonE.advPO; simp only [go_sem, seval, reduceCtorEq, hD])
      (apply CanonE.callw (hDe _); (case hg => rfl); (case hf => rfl); (case ha => rfl); (case hw => ((exact wk_here))))
      (apply CanonE.advPO; simp only [go_sem, seval, reduceCtorEq, hD])
      exact CanonE.nil
    by_cases he : e = 0
    · have hb : (e != 0) = false := by simpa using he
      rw [if_pos he, if_pos he]
      ((try refine W.a ?_); simp only [go_sem, seval, reduceCtorEq, hD, hb])
      refine W.no rfl ?_
      ((try refine W.a ?_); simp only [go_sem, seval, reduceCtorEq, hD])
      apply W.dregE (List.cons_ne_nil _ _)
      case hc =>
        (apply CanonE.advPO; simp only [go_sem, seval, reduceCtorEq, hD, hb1, hb2])
        exact CanonE.nil
      ((try refine W.a ?_); simp only [go_sem, seval, reduceCtorEq, hD])
      have hok2 := sgs_ok D hok ⟨s.kinds, s.types, s.ops ++ [⟨name, x.op.prec, x.op.fix⟩]⟩
      unfold sgs at hok2
      simp only [outB, List.map_append, List.map_cons, List.map_nil, List.length_append, List.length_cons, List.length_nil, Nat.zero_add, KdT.cs, NmT.cs, OpT.cs] at hok2
      rw [he]
      (refine W.fg (hok2) (d := I 0) (by simp only [r45, go_sem, seval, reduceCtorEq]; rfl) (by simp only [resV, go_sem, seval, reduceCtorEq]; exact wk_here) ?_)
      refine ⟨rfl, ?_⟩
      simp only [sgs, outB, List.map_append, List.map_cons, List.map_nil, List.length_append, List.length_cons, List.length_nil, Nat.zero_add, KdT.cs, NmT.cs, OpT.cs]
    · have hb : (e != 0) = true := by simpa using he
      rw [if_neg he]
      ((try refine W.a ?_); simp only [go_sem, seval, reduceCtorEq, hD, hb])
      refine W.yes rfl ?_
      ((try refine W.a ?_); simp only [go_sem, seval, reduceCtorEq, hD])
      (refine W.fg (hok) (d := I e) (by simp only [r45, go_sem, seval, reduceCtorEq]; rfl) (by simp only [resV, go_sem, seval, reduceCtorEq]; exact wk_here) ?_)
      exact ⟨rfl, rfl⟩
  · have n2 : (x.k == 2) = false := by simpa using h2
    rw [add_other h0 h1 h2]
    ((try refine W.a ?_); simp only [go_sem, seval, reduceCtorEq, c45, hD])
    (refine W.c1 (ref01_IsNameD w0 name _) ?_; simp only [go_sem, seval, reduceCtorEq])
    (refine W.c1 (ref01_IsSymD w0 name _) ?_; simp only [go_sem, seval, reduceCtorEq, n0, hD])
    refine W.no rfl ?_
    ((try refine W.a ?_); simp only [go_sem, seval, reduceCtorEq, hD, n1])
    refine W.no rfl ?_
    ((try refine W.a ?_); simp only [go_sem, seval, reduceCtorEq, hD, n2])
    refine W.no rfl ?_
    ((try refine W.a ?_); simp only [go_sem, seval, reduceCtorEq, hD])
    (refine W.fg (hok) (d := I 0) (by simp only [r45, go_sem, seval, reduceCtorEq]; rfl) (by simp only [resV, go_sem, seval, reduceCtorEq]; exact wk_here) ?_)
    exact ⟨rfl, rfl⟩
end
end Go.Proofs.YtohcnohllbjlcaaGreatDoor
namespace Go.Lamb
open Go Go.RowKit
theorem adds_other {x : Sent} (h0 : x.k ≠ 0) (h1 : x.k ≠ 1) (h2 : x.k ≠ 2) : ∀ (l : List Str) (s : Sg), addsL x s l = .ok s
  | [], s => rfl
  | n :: l, s => by
    have e : addN s x n = (s, 0) := by unfold addN; rw [if_neg h0, if_neg h1, if_neg h2]
    rw [addsL, e, if_pos rfl]
    exact adds_other h0 h1 h2 l s
end Go.Lamb
namespace Go.Proofs.YtohcnohllbjlcaaGreatDoor
open Go.RowKit Go.Lamb
attribute [local go_sem] advO_skip advO_reg advO_seq advO_block advO_exit advO_endb advO_opsNil advO_ops advG_yes advG_no advG_none advS_some advS_none advO_cond advO_loop advO_dreg advO_ret advO_bad advO_inv advO_nil advO_zero wantedV Lamb.step ev_t ev_k put_some put_none argEnv popTo cellsAt V.cellsV V.rows V.toC toCs fillV bytesC byteRows appV rowsV boundV boundL binV binInt binStr eqC eqL V.isNil leaves V.leaf Ins.quiet Ins.pure List.getD_cons_zero List.getD_cons_succ List.getD_nil List.all_cons List.all_nil List.length_cons List.length_nil List.take_succ_cons List.take_zero List.drop_succ_cons List.drop_zero List.cons_append List.nil_append List.append_nil List.append_assoc List.map_cons List.map_nil List.getElem?_cons_zero List.getElem?_cons_succ List.length_append List.length_set hget0 hget hset0 hset hsets hgs0 hgs hss0 hss List.set_cons_zero List.set_cons_succ List.forall_mem_cons List.not_mem_nil false_implies implies_true Option.map_some Bool.and_true Bool.true_and Bool.not_not Bool.not_true Bool.not_false Bool.and_self Bool.or_true Bool.true_or Bool.or_false Bool.false_or Bool.and_false Bool.false_and Bool.false_eq_true beq_self_eq_true and_self and_true true_and if_true if_false Nat.zero_add Nat.add_zero Nat.le_refl Int.toNat_natCast decide_true decide_false beq_t beq_f List.length_map List.getElem?_map I S B opsC toksC OpT.v OpT.cs OpT.zero Tok.v Tok.cs Pre.v Pre.cs_eq k_mk name_mk n_mk l_mk pos_mk Pre.app applyL natCast0 natCast1 natCast2 AOp.o AOp.m AOp.f AOp.l AOp.d AOp.n AOp.x AOp.s AOp.k AOp.y AOp.z EOp.q low_c low_void low_any low_csl low_nilf low_ptr low_osl low_agg low_tup low_fn resEval advPO_nil advPO_loud advPO_quiet pL_yes pL_no pLS_some pLS_none pQ_yes pQ_no pQS_some pQS_loud eq_self Nat.sub_zero
attribute [local go_sem] Typ.v Typ.cs_eq tk_mk tname_mk tn_mk tl_mk tysC KdT.v KdT.cs NmT.v NmT.cs kdsC nmsC Sg.v Sent.v strsC

theorem op_rows {l : List OpT} : ∀ r ∈ l.map OpT.cs, r.length = 3 := fun r hr => by obtain ⟨o, _, rfl⟩ := List.mem_map.1 hr; rfl
def outC (σ : H) (t : Sg) : List Blk := [.cells [.osl (σ.length + 4) (t.kinds.map KdT.cs), .osl (σ.length + 5) (t.types.map NmT.cs), .osl (σ.length + 6) (t.ops.map OpT.cs)], .spare 81 2 t.kinds.length, .spare 79 5 t.types.length, .spare 35 3 t.ops.length]
theorem sgs_new (σ : H) (A B C X : Blk) (t : Sg) : sgs (σ ++ [A, B, C, X, X, X, X]) (σ.length + 3) t = σ ++ (A :: B :: C :: outC σ t) := by
  unfold sgs
  rw [rf_new]
  rfl
theorem ref11_Add (w0 : World) (s : Sg) (hs : SgLe s 1000) (x : Sent) (hx : x.names.length ≤ 1000) (σ : H) : DC Tryz.prog w0 13 [s.v, x.v] σ (Same (.tup [(addS s x).1.v, I (addS s x).2]) σ) := by
  refine k13.go rfl (fun hok hsz => ?_)
  obtain ⟨hs1, hs2, hs3⟩ := hs
  unfold addS
  by_cases hr : x.k < 0 ∨ 3 < x.k
  · rw [if_pos hr]
    rcases hr with hr | hr
    · ((try refine W.a ?_); simp only [go_sem, seval, reduceCtorEq, c13, hr])
      refine W.yes rfl ?_
      ((try refine W.a ?_); simp only [go_sem, seval, reduceCtorEq])
      (refine W.fg (hok) (d := .tup [s.v, I 1]) (by simp only [r13, go_sem, seval, reduceCtorEq]; rfl) (by simp only [resV, go_sem, seval, reduceCtorEq]; exact wk_here) ?_)
      exact ⟨rfl, rfl⟩
    · have h1 : ¬ x.k < 0 := by omega
      have h2 : x.k > 3 := hr
      ((try refine W.a ?_); simp only [go_sem, seval, reduceCtorEq, c13, h1, h2])
      refine W.yes rfl ?_
      ((try refine W.a ?_); simp only [go_sem, seval, reduceCtorEq])
      (refine W.fg (hok) (d := .tup [s.v, I 1]) (by simp only [r13, go_sem, seval, reduceCtorEq]; rfl) (by simp only [resV, go_sem, seval, reduceCtorEq]; exact wk_here) ?_)
      exact ⟨rfl, rfl⟩
  rw [if_neg hr]
  have h1 : ¬ x.k < 0 := by omega
  have h2 : ¬ x.k > 3 := by omega
  by_cases hf : x.k = 1 ∧ fitsT s.kinds x.ty = false
  · rw [if_pos hf]
    have k1 : (x.k == 1) = true := by simpa using hf.1
    have hfit := hf.2
    ((try refine W.a ?_); simp only [go_sem, seval, reduceCtorEq, c13, h1, h2])
    refine W.no rfl ?_
    ((try refine W.a ?_); simp only [go_sem, seval, reduceCtorEq, k1])
    refine W.yes rfl ?_
    ((try refine W.a ?_); simp only [go_sem, seval, reduceCtorEq])
    (refine W.c1 (ref11_Fits w0 s x.ty _) ?_; simp only [go_sem, seval, reduceCtorEq, hfit])
    refine W.yes rfl ?_
    ((try refine W.a ?_); simp only [go_sem, seval, reduceCtorEq])
    (refine W.fg (hok) (d := .tup [s.v, I 111]) (by simp only [r13, go_sem, seval, reduceCtorEq]; rfl) (by simp only [resV, go_sem, seval, reduceCtorEq]; exact wk_here) ?_)
    exact ⟨rfl, rfl⟩
  rw [if_neg hf]
  generalize hR : outS s (addsL x s x.names) = R
  have hka := kd_rows (l := s.kinds)
  have hkb : s.kinds.length * 24 ≤ 140737488355328 := by omega
  have hkc : s.kinds.length ≤ 140737488355328 := by omega
  have hta := nm_rows (l := s.types)
  have htb : s.types.length * 72 ≤ 140737488355328 := by omega
  have htc : s.types.length ≤ 140737488355328 := by omega
  have hoa := op_rows (l := s.ops)
  have hob : s.ops.length * 32 ≤ 140737488355328 := by omega
  have hoc : s.ops.length ≤ 140737488355328 := by omega
  cases k1 : (x.k == 1)
  case' false =>
    ((try refine W.a ?_); simp only [go_sem, seval, reduceCtorEq, c13, h1, h2])
    refine W.no rfl ?_
    ((try refine W.a ?_); simp only [go_sem, seval, reduceCtorEq, k1])
    refine W.no rfl ?_
    ((try refine W.a ?_); simp only [go_sem, seval, reduceCtorEq])
  case' true =>
    have hfit : fitsT s.kinds x.ty = true := by
      cases h : fitsT s.kinds x.ty
      · exact absurd ⟨by simpa using k1, h⟩ hf
      · rfl
    ((try refine W.a ?_); simp only [go_sem, seval, reduceCtorEq, c13, h1, h2])
    refine W.no rfl ?_
    ((try refine W.a ?_); simp only [go_sem, seval, reduceCtorEq, k1])
    refine W.yes rfl ?_
    ((try refine W.a ?_); simp only [go_sem, seval, reduceCtorEq])
    (refine W.c1 (ref11_Fits w0 s x.ty _) ?_; simp only [go_sem, seval, reduceCtorEq, hfit])
    refine W.no rfl ?_
    ((try refine W.a ?_); simp only [go_sem, seval, reduceCtorEq])
  all_goals
    apply W.dregE (List.cons_ne_nil _ _)
    case hc =>
      (apply CanonE.advPO; simp only [go_sem, seval, reduceCtorEq, eq_true hka, hkb, hkc, true_or])
      exact CanonE.nil
    ((try refine W.a ?_); simp only [go_sem, seval, reduceCtorEq])
    apply W.dregE (List.cons_ne_nil _ _)
    case hc =>
      (apply CanonE.advPO; simp only [go_sem, seval, reduceCtorEq, eq_true hta, htb, htc, true_or])
      exact CanonE.nil
    ((try refine W.a ?_); simp only [go_sem, seval, reduceCtorEq])
    apply W.dregE (List.cons_ne_nil _ _)
    case hc =>
      (apply CanonE.advPO; simp only [go_sem, seval, reduceCtorEq, eq_true hoa, hob, hoc, true_or])
      exact CanonE.nil
    ((try refine W.a ?_); simp only [go_sem, seval, reduceCtorEq])
    refine W.loopP (α := Nat × Sg) (fun y => y.1 ≤ x.names.length ∧ addsL x s (x.names.take y.1) = .ok y.2) (fun y => ⟨((((((base.put (some 2) (.ptr σ.length 0)).put (some 3) (.ptr (σ.length + 1) 0)).put (some 4) (.ptr (σ.length + 2) 0)).put (some 5) (I 0)).put (some 7) (.ptr (σ.length + 3) 0)).put (some 8) (I (y.1 : Nat))), σ ++ (.cells s.v.cellsV :: .cells x.v.cellsV :: .cells [.csl [], .csl [], .csl []] :: outC σ y.2)⟩) (fun y => x.names.length - y.1) (0, s) ⟨Nat.zero_le _, rfl⟩ ?_ (fun y hy => ?_)
    · simp only [go_sem, seval, reduceCtorEq, outC]
      (refine Lew.env ?_; exact lee_here)
    · obtain ⟨i, t⟩ := y
      obtain ⟨hi, hinv⟩ := hy
      simp only at hi hinv
      by_cases hk3 : x.k = 3
      · have k3 : (x.k != 3) = false := by simpa using hk3
        have hall := adds_other (x := x) (by omega) (by omega) (by omega) x.names s
        have hall2 := adds_other (x := x) (by omega) (by omega) (by omega) (x.names.take i) s
        rw [hall2] at hinv
        injection hinv with hinv
        subst hinv
        have hRv : R = (s, 0) := by rw [← hR, hall]; rfl
        rw [hRv]
        by_cases hlt : i < x.names.length
        · have q1 : ((i : Int) < (x.names.length : Int)) := by omega
          ((try refine W.a ?_); simp only [go_sem, seval, reduceCtorEq, q1, k3, outC])
          refine W.no rfl ?_
          ((try refine W.a ?_); simp only [go_sem, seval, reduceCtorEq])
          (refine W.fg (hok) (d := .tup [s.v, I 0]) (by simp only [r13, go_sem, seval, reduceCtorEq]; rfl) (by simp only [resV, go_sem, seval, reduceCtorEq]; exact wk_here) ?_)
          exact ⟨rfl, rfl⟩
        · have q1 : ¬ ((i : Int) < (x.names.length : Int)) := by omega
          ((try refine W.a ?_); simp only [go_sem, seval, reduceCtorEq, q1, k3, outC])
          refine W.no rfl ?_
          ((try refine W.a ?_); simp only [go_sem, seval, reduceCtorEq])
          (refine W.fg (hok) (d := .tup [s.v, I 0]) (by simp only [r13, go_sem, seval, reduceCtorEq]; rfl) (by simp only [resV, go_sem, seval, reduceCtorEq]; exact wk_here) ?_)
          exact ⟨rfl, rfl⟩
      have k3 : (x.k != 3) = true := by simpa using hk3
      by_cases hlt : i < x.names.length
      · have q1 : ((i : Int) < (x.names.length : Int)) := by omega
        have hxx : x.names[i]? = some x.names[i] := List.getElem?_eq_getElem hlt
        have hw : IntKind.i64.wrap ((i : Int) + 1) = ((i + 1 : Nat) : Int) := wrap_next hlt (by omega)
        have hlen := adds_len x _ s t hinv
        rw [List.length_take] at hlen
        have hadd : ∀ A B C, DC Tryz.prog w0 45 [.ptr (σ.length + 3) 0, x.v, S x.names[i]] (σ ++ (A :: B :: C :: outC σ t)) (Same (I (addN t x x.names[i]).2) (σ ++ (A :: B :: C :: outC σ (if (addN t x x.names[i]).2 = 0 then (addN t x x.names[i]).1 else t)))) := fun A B C => by
          rw [← sgs_new σ A B C A t, ← sgs_new σ A B C A]
          exact ref11_name w0 t ⟨by omega, by omega, by omega⟩ x x.names[i] _ _ (by simp)
        by_cases he : (addN t x x.names[i]).2 = 0
        · have hgo := adds_go x s hlt hinv he
          rw [if_pos he, he] at hadd
          generalize (addN t x x.names[i]).1 = u at hgo hadd
          generalize x.names[i] = nm at *
          unfold outC at hadd
          ((try refine W.a ?_); simp only [go_sem, seval, reduceCtorEq, q1, k3, outC])
          refine W.yes rfl ?_
          ((try refine W.a ?_); simp only [go_sem, seval, reduceCtorEq])
          apply W.dregE (List.cons_ne_nil _ _)
          case hc =>
            (apply CanonE.advPO; simp only [go_sem, seval, reduceCtorEq, q1, nat0, hxx])
            (apply CanonE.call (hadd _ _ _); (case hg => rfl); (case hf => rfl); (case ha => first | rfl | simp))
            (apply CanonE.advPO; simp only [go_sem, seval, reduceCtorEq])
            exact CanonE.nil
          ((try refine W.a ?_); simp only [go_sem, seval, reduceCtorEq])
          refine W.no rfl ?_
          ((try refine W.a ?_); simp only [go_sem, seval, reduceCtorEq, hw])
          refine .inv ⟨(i + 1, u), ⟨hlt, hgo⟩, by simp only; omega, ?_⟩
          simp only [go_sem, seval, reduceCtorEq, outC]
          (refine Lew.env ?_; exact lee_here)
        · have hst := adds_stop x s hlt hinv he
          have hRv : R = (s, (addN t x x.names[i]).2) := by rw [← hR, hst]; rfl
          rw [hRv]
          clear hRv hR
          have hb : ((addN t x x.names[i]).2 != 0) = true := by simpa using he
          rw [if_neg he] at hadd
          generalize (addN t x x.names[i]).2 = u at hst hadd hb ⊢
          generalize x.names[i] = nm at *
          unfold outC at hadd
          ((try refine W.a ?_); simp only [go_sem, seval, reduceCtorEq, q1, k3, outC])
          refine W.yes rfl ?_
          ((try refine W.a ?_); simp only [go_sem, seval, reduceCtorEq])
          apply W.dregE (List.cons_ne_nil _ _)
          case hc =>
            (apply CanonE.advPO; simp only [go_sem, seval, reduceCtorEq, q1, nat0, hxx])
            (apply CanonE.call (hadd _ _ _); (case hg => rfl); (case hf => rfl); (case ha => first | rfl | simp))
            (apply CanonE.advPO; simp only [go_sem, seval, reduceCtorEq])
            exact CanonE.nil
          ((try refine W.a ?_); simp only [go_sem, seval, reduceCtorEq, hb])
          refine W.yes rfl ?_
          ((try refine W.a ?_); simp only [go_sem, seval, reduceCtorEq])
          (refine W.fg (hok) (d := .tup [s.v, I u]) (by simp only [r13, go_sem, seval, reduceCtorEq]; rfl) (by simp only [resV, go_sem, seval, reduceCtorEq]; exact wk_here) ?_)
          exact ⟨rfl, rfl⟩
      · have q1 : ¬ ((i : Int) < (x.names.length : Int)) := by omega
        have htk : x.names.take i = x.names := List.take_of_length_le (by omega)
        rw [htk] at hinv
        have hRv : R = (t, 0) := by rw [← hR, hinv]; rfl
        rw [hRv]
        clear hRv hR
        ((try refine W.a ?_); simp only [go_sem, seval, reduceCtorEq, q1, outC])
        refine W.no rfl ?_
        ((try refine W.a ?_); simp only [go_sem, seval, reduceCtorEq])
        (refine W.fg (hok) (d := .tup [t.v, I 0]) (by simp only [r13, go_sem, seval, reduceCtorEq]; rfl) (by simp only [resV, go_sem, seval, reduceCtorEq]; exact wk_here) ?_)
        exact ⟨rfl, rfl⟩
end Go.Proofs.YtohcnohllbjlcaaGreatDoor
namespace Go.Proofs.YtohcnohllbjlcaaGreatDoor
open Go.RowKit Go.Lamb
/-- slices.Concat[[]api.Named,api.Named] -/
def c79 : AC :=
  .seq (.reg [.o 2 (.mov (.k (.csl [])))])
  (.seq (.reg [.o 3 (.mov (.k (.c (.int .i64 0))))])
  (.seq (.seq (.reg [.m 9 0, .o 10 (.lenr (.t 9)), .o 11 (.mov (.k (.c (.int .i64 0))))])
  (.block 0 (.loop (.seq (.reg [.o 12 (.bin .lss (.t 11) (.t 10))])
  (.seq (.cond (.t 12)
  (.skip)
  (.exit 0))
  (.seq (.block 1 (.seq (.reg [.o 13 (.iadd 1 (.t 9) (.t 11)), .l 14 13, .m 5 14])
  (.seq (.reg [.m 15 3, .m 16 5, .o 17 (.lenr (.t 16)), .o 18 (.bin .add (.t 15) (.t 17)), .m 3 18])
  (.seq (.reg [.m 19 3, .o 20 (.bin .lss (.t 19) (.k (.c (.int .i64 0))))])
  (.cond (.t 20)
  (.reg [.o 21 (.bad), ⟨none, .bad, none⟩])
  (.skip))))))
  (.reg [.o 22 (.bin .add (.t 11) (.k (.c (.int .i64 1)))), .m 11 22])))))))
  (.seq (.reg [.m 23 3, .k 24 129 [(.k (.csl [])), (.t 23)], .m 6 24])
  (.seq (.seq (.reg [.m 25 0, .o 26 (.lenr (.t 25)), .o 27 (.mov (.k (.c (.int .i64 0))))])
  (.block 2 (.loop (.seq (.reg [.o 28 (.bin .lss (.t 27) (.t 26))])
  (.seq (.cond (.t 28)
  (.skip)
  (.exit 2))
  (.seq (.block 3 (.seq (.reg [.o 29 (.iadd 1 (.t 25) (.t 27)), .l 30 29, .m 8 30])
  (.reg [.m 31 6, .m 32 8, .o 33 (.app 79 5 72 (.t 31) (.t 32)), .m 6 33])))
  (.reg [.o 34 (.bin .add (.t 27) (.k (.c (.int .i64 1)))), .m 27 34])))))))
  (.seq (.reg [.m 35 6, .m 2 35])
  (.ret))))))
def r79 : List ResV := [.tmp 2]
theorem k79 : CodeIs Tryz.prog 79 1 Tryz.f79 c79 r79 := ⟨by kernel_rfl, Tryz.func79, rfl, by kernel_rfl, by kernel_rfl, by decide, enters_fn Tryz.func79 (by kernel_rfl) rfl⟩
end Go.Proofs.YtohcnohllbjlcaaGreatDoor
namespace Go.Proofs.YtohcnohllbjlcaaGreatDoor
open Go.RowKit Go.Lamb
attribute [local go_sem] advO_skip advO_reg advO_seq advO_block advO_exit advO_endb advO_opsNil advO_ops advG_yes advG_no advG_none advS_some advS_none advO_cond advO_loop advO_dreg advO_ret advO_bad advO_inv advO_nil advO_zero wantedV Lamb.step ev_t ev_k put_some put_none argEnv popTo cellsAt V.cellsV V.rows V.toC toCs fillV bytesC byteRows appV rowsV boundV boundL binV binInt binStr eqC eqL V.isNil leaves V.leaf Ins.quiet Ins.pure List.getD_cons_zero List.getD_cons_succ List.getD_nil List.all_cons List.all_nil List.length_cons List.length_nil List.take_succ_cons List.take_zero List.drop_succ_cons List.drop_zero List.cons_append List.nil_append List.append_nil List.append_assoc List.map_cons List.map_nil List.getElem?_cons_zero List.getElem?_cons_succ List.length_append List.length_set hget0 hget hset0 hset hsets hgs0 hgs hss0 hss List.set_cons_zero List.set_cons_succ List.forall_mem_cons List.not_mem_nil false_implies implies_true Option.map_some Bool.and_true Bool.true_and Bool.not_not Bool.not_true Bool.not_false Bool.and_self Bool.or_true Bool.true_or Bool.or_false Bool.false_or Bool.and_false Bool.false_and Bool.false_eq_true beq_self_eq_true and_self and_true true_and if_true if_false Nat.zero_add Nat.add_zero Nat.le_refl Int.toNat_natCast decide_true decide_false beq_t beq_f List.length_map List.getElem?_map I S B opsC toksC OpT.v OpT.cs OpT.zero Tok.v Tok.cs Pre.v Pre.cs_eq k_mk name_mk n_mk l_mk pos_mk Pre.app applyL natCast0 natCast1 natCast2 AOp.o AOp.m AOp.f AOp.l AOp.d AOp.n AOp.x AOp.s AOp.k AOp.y AOp.z EOp.q low_c low_void low_any low_csl low_nilf low_ptr low_osl low_agg low_tup low_fn resEval advPO_nil advPO_loud advPO_quiet pL_yes pL_no pLS_some pLS_none pQ_yes pQ_no pQS_some pQS_loud eq_self Nat.sub_zero
section
attribute [local go_sem] Typ.v Typ.cs_eq tk_mk tname_mk tn_mk tl_mk tysC KdT.v KdT.cs NmT.v NmT.cs kdsC nmsC Sg.v Sent.v strsC

theorem nmInfo : (Tryz.prog.info? 79).map (fun i => (i.zero, i.size, i.bytes)) = some (some (.agg #[.string ⟨#[]⟩, .int .i64 0, .string ⟨#[]⟩, .int .i64 0, .slice none 0 0]), 5, 72) := by kernel_rfl
theorem made_rowN (w : World) (n : Nat) (hn : n ≤ 1000000) (zc : Array Value) (hz : zc.size = 5) :
    (w.alloc (.cells (Builtin.zeroCells zc n ++ Builtin.zeroCells zc (grownCap w n 0 79 - n)) 79)).drew.ownsRow w.heap.size 79 5 (.slice (some ⟨w.heap.size, 0, none⟩) 0 (grownCap w n 0 79)) 0 [] := by
  have hge := grownCap_ge w n 0 79
  refine ⟨by simp, .inr ⟨w.heap.size, _, _, rfl, Nat.le_refl _, heap_alloc_new w _, Nat.zero_le _, grownCap_le_maxLen w n 0 79 (by unfold maxLen; omega), ?_, by simp⟩⟩
  simp only [Array.size_append, size_zeroCells, hz]
  omega
set_option maxHeartbeats 4000000 in
set_option maxRecDepth 100000 in
theorem grow_nm (A : Option Addr) (n : Nat) (w : World) (hn : n ≤ 1000000) : Calls Tryz.prog 129 #[.slice A 0 0, .int .i64 n] w (fun e w' => ∃ v, e = .returned v ∧ Below w.heap.size w w' ∧ Roomy w w' 79 5 v) := by
  by_cases h0 : n = 0
  · subst h0
    cases A
    · go_enter Tryz.func129, Tryz.ntmps129
      go_wp2_with fail
      go_ret
      exact ⟨_, rfl, Below.refl _ _, .inl ⟨_, rfl⟩⟩
    · go_enter Tryz.func129, Tryz.ntmps129
      go_wp2_with fail
      go_ret
      exact ⟨_, rfl, Below.refl _ _, .inl ⟨_, rfl⟩⟩
  · obtain ⟨i0, hi0, hz0, hz1, hz2⟩ := info_parts nmInfo
    have h1 : ¬ ((n : Int) < 0) := by omega
    have h2 : (n : Int) > 0 := by omega
    have hw : IntKind.i64.wrap (n : Int) = n := by rw [wrap_in] <;> omega
    cases A
    case none =>
      have hr := Lib.run_append_grow_zeros (P := Tryz.prog) w 23 3 23 79 i0 _ .i64 .i64 Tryz.underlying23 Tryz.underlying3 hi0 hz0 none 0 0 [] (run_firstCells (by simp) (by simp)) n (by omega) (by rw [hz1]; decide) (by omega) (by omega) (by rw [hz2]; omega) (growslice_fits (by omega) (by rw [hz2]; omega))
      go_enter Tryz.func129, Tryz.ntmps129
      go_wp2_with (first
        | (at_builtin; refine Lib.wpList_append_run w rfl (.tmp 20) (.tmp 21) 23 3 rfl _ _ rfl rfl _ _ hr ?_))
      go_ret
      exact ⟨_, rfl, made_below w _, .inr (made_rowN w n hn _ rfl)⟩
    case some a =>
      have hr := Lib.run_append_grow_zeros (P := Tryz.prog) w 23 3 23 79 i0 _ .i64 .i64 Tryz.underlying23 Tryz.underlying3 hi0 hz0 (some a) 0 0 [] (run_firstCells (by simp) (by simp)) n (by omega) (by rw [hz1]; decide) (by omega) (by omega) (by rw [hz2]; omega) (growslice_fits (by omega) (by rw [hz2]; omega))
      go_enter Tryz.func129, Tryz.ntmps129
      go_wp2_with (first
        | (at_builtin; refine Lib.wpList_append_run w rfl (.tmp 20) (.tmp 21) 23 3 rfl _ _ rfl rfl _ _ hr ?_))
      go_ret
      exact ⟨_, rfl, made_below w _, .inr (made_rowN w n hn _ rfl)⟩
theorem slices_GrowN (w0 : World) (n : Nat) (hn : n ≤ 1000000) (σ : H) : DC Tryz.prog w0 129 [.csl [], I n] σ (Same (.osl σ.length []) (σ ++ [.spare 79 5 0])) := by
  refine DC.of_room (enters_fn Tryz.func129 (by kernel_rfl) rfl) fun κ w vs hrep hfit => ?_
  obtain ⟨v, ys, rfl, hv, hfit⟩ := hfit.cons_inv
  obtain ⟨u, zs, rfl, hu, hfit⟩ := hfit.cons_inv
  have := hfit.nil_inv
  subst this
  cases hv with
  | csl h1 =>
    rename_i A
    cases hu with
    | c hu =>
      cases hu with
      | int => exact grow_nm A n w hn
theorem slices_ConcatN (w0 : World) (ls : List (List NmT)) (hn : ls.flatten.length ≤ 100000) (hls : ls.length ≤ 100000) (σ : H) :
    DC Tryz.prog w0 79 [.csl (ls.map fun r => [nmsC r])] σ (Same (.c (nmsC ls.flatten)) σ) := by
  refine k79.go rfl (fun hok hsz => ?_)
  ((try refine W.a ?_); simp only [go_sem, seval, reduceCtorEq, c79])
  refine W.loopP (fun i => i ≤ ls.length) (fun i => ⟨(((((base.put (some 0) (.csl (ls.map fun r => [nmsC r]))).put (some 3) (I (ls.take i).flatten.length)).put (some 9) (.csl (ls.map fun r => [nmsC r]))).put (some 10) (I ls.length)).put (some 11) (I i)), σ⟩) (fun i => ls.length - i) 0 (Nat.zero_le _) ?_ (fun i hi => ?_)
  · (refine Lew.env ?_; exact lee_here)
  · by_cases hlt : i < ls.length
    · have h1 : ((i : Int) < (ls.length : Int)) := by omega
      have hx : ls[i]? = some ls[i] := List.getElem?_eq_getElem hlt
      have hft := flat_take hlt
      have hfl : (ls.take (i + 1)).flatten.length = (ls.take i).flatten.length + ls[i].length := by rw [hft, List.length_append]
      have hle := flat_le (ls := ls) (i + 1)
      have hw : IntKind.i64.wrap ((i : Int) + 1) = ((i + 1 : Nat) : Int) := by rw [wrap_in] <;> omega
      have hw2 : IntKind.i64.wrap (((ls.take i).flatten.length : Int) + (ls[i].length : Int)) = (((ls.take (i + 1)).flatten.length : Nat) : Int) := by rw [wrap_in] <;> omega
      have hneg : ¬ ((((ls.take (i + 1)).flatten.length : Nat) : Int) < 0) := by omega
      ((try refine W.a ?_); simp only [go_sem, seval, reduceCtorEq, h1])
      refine W.yes rfl ?_
      ((try refine W.a ?_); simp only [go_sem, seval, reduceCtorEq, h1, nat0, hx, hw2, hneg])
      refine W.no rfl ?_
      ((try refine W.a ?_); simp only [go_sem, seval, reduceCtorEq, hw])
      refine .inv ⟨i + 1, hlt, by omega, ?_⟩
      (refine Lew.env ?_; exact lee_here)
    · have h1 : ¬ ((i : Int) < (ls.length : Int)) := by omega
      have hi' : i = ls.length := by omega
      subst hi'
      ((try refine W.a ?_); simp only [go_sem, seval, reduceCtorEq, h1])
      refine W.no rfl ?_
      ((try refine W.a ?_); simp only [go_sem, seval, reduceCtorEq, List.take_length])
      (refine W.c1 (slices_GrowN w0 ls.flatten.length (by omega) _) ?_; simp only [go_sem, seval, reduceCtorEq])
      refine W.loopP (fun i => i ≤ ls.length) (fun i => ⟨((((base.put (some 6) (.osl σ.length ((ls.take i).flatten.map NmT.cs))).put (some 25) (.csl (ls.map fun r => [nmsC r]))).put (some 26) (I ls.length)).put (some 27) (I i)), σ ++ [.spare 79 5 (ls.take i).flatten.length]⟩) (fun i => ls.length - i) 0 (Nat.zero_le _) ?_ (fun i hi => ?_)
      · (refine Lew.env ?_; exact lee_here)
      · by_cases hlt : i < ls.length
        · have h1 : ((i : Int) < (ls.length : Int)) := by omega
          have hx : ls[i]? = some ls[i] := List.getElem?_eq_getElem hlt
          have hft := flat_take hlt
          have hfl : (ls.take (i + 1)).flatten.length = (ls.take i).flatten.length + ls[i].length := by rw [hft, List.length_append]
          have hle := flat_le (ls := ls) (i + 1)
          have hb1 : ((ls.take i).flatten.length + ls[i].length) * 72 ≤ 140737488355328 := by omega
          have hb2 : (ls.take i).flatten.length + ls[i].length ≤ 140737488355328 := by omega
          have hb3 : ∀ r ∈ ls[i].map NmT.cs, r.length = 5 := fun r hr => by obtain ⟨o, _, rfl⟩ := List.mem_map.1 hr; rfl
          have hta : (ls.take (i + 1)).flatten.map NmT.cs = (ls.take i).flatten.map NmT.cs ++ ls[i].map NmT.cs := by rw [hft, List.map_append]
          have hw : IntKind.i64.wrap ((i : Int) + 1) = ((i + 1 : Nat) : Int) := by rw [wrap_in] <;> omega
          ((try refine W.a ?_); simp only [go_sem, seval, reduceCtorEq, h1])
          refine W.yes rfl ?_
          ((try refine W.a ?_); simp only [go_sem, seval, reduceCtorEq, h1, nat0, hx, hb1, hb2, eq_self, hw, eq_true hb3])
          refine .inv ⟨i + 1, hlt, by omega, ?_⟩
          simp only [go_sem, seval, reduceCtorEq, hta, hfl]
          (refine Lew.env ?_; exact lee_here)
        · have h1 : ¬ ((i : Int) < (ls.length : Int)) := by omega
          have hi' : i = ls.length := by omega
          subst hi'
          ((try refine W.a ?_); simp only [go_sem, seval, reduceCtorEq, h1])
          refine W.no rfl ?_
          ((try refine W.a ?_); simp only [go_sem, seval, reduceCtorEq, List.take_length])
          (refine W.fs (hok) (by simp only [r79, go_sem, seval, reduceCtorEq]; rfl) ?_; simp only [resV]; try exact V.wk.rfl _)
          (all_goals exact wk_here)
theorem sig_con (w0 : World) (s : Str) (σ : H) : DC Tryz.prog w0 78 [S s] σ (Same (Typ.con s).v σ) := by
  refine k78.go rfl (fun hok hsz => ?_)
  ((try refine W.a ?_); simp only [go_sem, seval, reduceCtorEq, c78])
  (refine W.fg (hok) (d := (Typ.con s).v) (by simp only [r78, go_sem, seval, reduceCtorEq, Typ.con]; rfl) (by simp only [resV, go_sem, seval, reduceCtorEq, Typ.con]; exact wk_here) ?_ (hl := by (first | exact .c _ | (simp only [go_sem, seval, reduceCtorEq, Typ.con]; done))))
  exact ⟨rfl, rfl⟩
theorem ref11_con (w0 : World) (s : Str) (σ : H) : DC Tryz.prog w0 82 [S s] σ (Same (Typ.con s).v σ) := by
  refine k82.go rfl (fun hok hsz => ?_)
  ((try refine W.a ?_); simp only [go_sem, seval, reduceCtorEq, c82])
  (refine W.fg (hok) (d := (Typ.con s).v) (by simp only [r82, go_sem, seval, reduceCtorEq, Typ.con]; rfl) (by simp only [resV, go_sem, seval, reduceCtorEq, Typ.con]; exact wk_here) ?_ (hl := by (first | exact .c _ | (simp only [go_sem, seval, reduceCtorEq, Typ.con]; done))))
  exact ⟨rfl, rfl⟩
theorem ref11_v (w0 : World) (σ : H) : DC Tryz.prog w0 85 [] σ (Same (Typ.var 0).v σ) := by
  refine k85.go rfl (fun hok hsz => ?_)
  ((try refine W.a ?_); simp only [go_sem, seval, reduceCtorEq, c85])
  (refine W.fg (hok) (d := (Typ.var 0).v) (by simp only [r85, go_sem, seval, reduceCtorEq, Typ.var]; rfl) (by simp only [resV, go_sem, seval, reduceCtorEq, Typ.var]; exact wk_here) ?_ (hl := by (first | exact .c _ | (simp only [go_sem, seval, reduceCtorEq, Typ.var]; done))))
  exact ⟨rfl, rfl⟩
theorem ref11_to (w0 : World) (a b : Typ) (σ : H) : DC Tryz.prog w0 84 [a.v, b.v] σ (Same (Typ.arr a b).v σ) := by
  refine k84.go rfl (fun hok hsz => ?_)
  ((try refine W.a ?_); simp only [go_sem, seval, reduceCtorEq, c84])
  (refine W.fg (hok) (d := (Typ.arr a b).v) (by simp only [r84, go_sem, seval, reduceCtorEq, Typ.arr, List.map_cons, List.map_nil]; rfl) (by simp only [resV, go_sem, seval, reduceCtorEq, Typ.arr, List.map_cons, List.map_nil]; exact wk_here) ?_ (hl := by (first | exact .c _ | (simp only [go_sem, seval, reduceCtorEq, Typ.arr, List.map_cons, List.map_nil]; done))))
  exact ⟨rfl, rfl⟩
def rowN (t : Typ) (names : List Str) : List NmT := names.map fun n => ⟨n, t⟩
theorem row_step (t : Typ) {names : List Str} {i : Nat} (h : i < names.length) : (rowN t (names.take (i + 1))).map NmT.cs = (rowN t (names.take i)).map NmT.cs ++ [NmT.cs ⟨names[i], t⟩] := by
  unfold rowN
  rw [List.take_succ_eq_append_getElem h, List.map_append, List.map_append]; rfl
theorem sig_row (w0 : World) (t : Typ) (names : List Str) (hn : names.length ≤ 1000) (σ : H) : DC Tryz.prog w0 80 [t.v, .csl (strsR names)] σ (Same (.c (nmsC (rowN t names))) σ) := by
  refine k80.go rfl (fun hok hsz => ?_)
  have hlr : (strsR names).length = names.length := by simp [strsR]
  ((try refine W.a ?_); simp only [go_sem, seval, reduceCtorEq, c80])
  refine W.own 5 79 5 rfl ?_
  refine W.loopP (fun i => i ≤ names.length) (fun i => ⟨(((((base.put (some 2) (.ptr σ.length 0)).put (some 5) (.osl (σ.length + 1) ((rowN t (names.take i)).map NmT.cs))).put (some 8) (.csl (strsR names))).put (some 9) (I names.length)).put (some 10) (I i)), σ ++ [.cells t.v.cellsV, .spare 79 5 i]⟩) (fun i => names.length - i) 0 (Nat.zero_le _) ?_ (fun i hi => ?_)
  · simp only [go_sem, seval, reduceCtorEq, hlr]
    (refine Lew.env ?_; exact lee_here)
  · by_cases hlt : i < names.length
    · have h1 : ((i : Int) < (names.length : Int)) := by omega
      have hx : (strsR names)[i]? = some [C.str names[i]] := by simp [strsR, hlt]
      have hl : (rowN t (names.take i)).length = i := by simp [rowN, hi]
      have hb1 : (i + 1) * 72 ≤ 140737488355328 := by omega
      have hb2 : i + 1 ≤ 140737488355328 := by omega
      have hta := row_step t hlt
      have hw : IntKind.i64.wrap ((i : Int) + 1) = ((i + 1 : Nat) : Int) := by rw [wrap_in] <;> omega
      ((try refine W.a ?_); simp only [go_sem, seval, reduceCtorEq, h1])
      refine W.yes rfl ?_
      ((try refine W.a ?_); simp only [go_sem, seval, reduceCtorEq, h1, hlr, nat0, hx, hl, hb1, hb2, eq_self, hw])
      refine .inv ⟨i + 1, hlt, by omega, ?_⟩
      simp only [go_sem, seval, reduceCtorEq, hta]
      (refine Lew.env ?_; exact lee_here)
    · have h1 : ¬ ((i : Int) < (names.length : Int)) := by omega
      have htk : names.take i = names := List.take_of_length_le (by omega)
      ((try refine W.a ?_); simp only [go_sem, seval, reduceCtorEq, h1])
      refine W.no rfl ?_
      rw [htk]
      ((try refine W.a ?_); simp only [go_sem, seval, reduceCtorEq])
      (refine W.fs (hok) (by simp only [r80, go_sem, seval, reduceCtorEq]; rfl) ?_; simp only [resV]; try exact V.wk.rfl _)
      (all_goals exact wk_here)
theorem ref11_all (w0 : World) (l : List NmT) (v : Nat) (t : Typ) (names : List Str) (hn : names.length ≤ 1000) (hl : l.length ≤ 1000) (σ : H) (hv : σ[v]? = some (.spare 79 5 l.length)) :
    DC Tryz.prog w0 83 [.osl v (l.map NmT.cs), .csl (strsR names), t.v] σ (Same (.osl v ((l ++ rowN t names).map NmT.cs)) (rz σ v (.spare 79 5 (l ++ rowN t names).length))) := by
  have D : v < σ.length := (List.getElem?_eq_some_iff.1 hv).1
  rw [← rz_here hv]
  refine k83.go rfl (fun hok hsz => ?_)
  have hlr : (strsR names).length = names.length := by simp [strsR]
  have hokX : ∀ k, H.ok (rz σ v (.spare 79 5 k)) := fun k => rz_ok D hok (fun cs tg hc => by cases hc)
  have hzz : ∀ X Y, rz (rz σ v X) v Y = rz σ v Y := fun X Y => by unfold rz; rw [List.set_set]
  rw [hzz]
  have hD := rzA D
  ((try refine W.a ?_); simp only [go_sem, seval, reduceCtorEq, c83, hD, rz_len])
  refine W.loopP (fun i => i ≤ names.length) (fun i => ⟨((((base.put (some 0) (.osl v (l.map NmT.cs ++ (rowN t (names.take i)).map NmT.cs))).put (some 1) (.csl (strsR names))).put (some 5) (.ptr σ.length 0)).put (some 7) (I i)), rz σ v (.spare 79 5 (l.length + i)) ++ [.cells t.v.cellsV]⟩) (fun i => names.length - i) 0 (Nat.zero_le _) ?_ (fun i hi => ?_)
  · simp only [go_sem, seval, reduceCtorEq, List.take_zero, rowN]
    (refine Lew.env ?_; exact lee_here)
  · by_cases hlt : i < names.length
    · have h1 : ((i : Int) < (names.length : Int)) := by omega
      have hx : (strsR names)[i]? = some [C.str names[i]] := by simp [strsR, hlt]
      have hll : (rowN t (names.take i)).length = i := by simp [rowN, hi]
      have hb1 : (l.length + i + 1) * 72 ≤ 140737488355328 := by omega
      have hb2 : l.length + i + 1 ≤ 140737488355328 := by omega
      have hta := row_step t hlt
      have hw : IntKind.i64.wrap ((i : Int) + 1) = ((i + 1 : Nat) : Int) := by rw [wrap_in] <;> omega
      ((try refine W.a ?_); simp only [go_sem, seval, reduceCtorEq, h1, hlr])
      refine W.yes rfl ?_
      ((try refine W.a ?_); simp only [go_sem, seval, reduceCtorEq])
      apply W.dregE (List.cons_ne_nil _ _)
      case hc =>
        (apply CanonE.advPO; simp only [go_sem, seval, reduceCtorEq, h1, hlr, nat0, hx, hll, hb1, hb2, hD, rz_len, rz_g0])
        exact CanonE.nil
      ((try refine W.a ?_); simp only [go_sem, seval, reduceCtorEq, hw])
      refine .inv ⟨i + 1, hlt, by omega, ?_⟩
      simp only [go_sem, seval, reduceCtorEq, hta, Nat.add_assoc]
      (refine Lew.env ?_; exact lee_here)
    · have h1 : ¬ ((i : Int) < (names.length : Int)) := by omega
      have htk : names.take i = names := List.take_of_length_le (by omega)
      have hi' : i = names.length := by omega
      have hlen2 : (rowN t names).length = i := by simp [rowN, hi']
      ((try refine W.a ?_); simp only [go_sem, seval, reduceCtorEq, h1, hlr])
      refine W.no rfl ?_
      rw [htk]
      ((try refine W.a ?_); simp only [go_sem, seval, reduceCtorEq])
      rw [hlen2]
      (refine W.fg (hokX (l.length + i)) (d := .osl v ((l ++ rowN t names).map NmT.cs)) (by simp only [r83, go_sem, seval, reduceCtorEq, List.map_append, rz_len, D]; rfl) (by simp only [resV, go_sem, seval, reduceCtorEq, List.map_append, rz_len, D]; exact wk_here) ?_ (hl := by (first | exact .c _ | (simp only [go_sem, seval, reduceCtorEq, List.map_append, rz_len, D]; done))))
      refine ⟨?_, rfl⟩
      simp only [List.map_append]
end
section
attribute [local go_sem] Typ.v Typ.cs_eq tk_mk tname_mk tn_mk tl_mk tysC KdT.v KdT.cs NmT.v NmT.cs kdsC nmsC Sg.v Sent.v strsC

def tO : Typ := .con [111]
def tN : Typ := .con [105, 110, 116]
def tA : Typ := .var 0
def nm1 : List Str := [[58, 45], [44], [59], [61, 62]]
def nm2 : List Str := [[61]]
def nm3 : List Str := [[105, 115], [60], [61, 60], [62], [62, 61]]
def nm4 : List Str := [[43], [45], [42], [100, 105, 118], [109, 111, 100]]
def nm5 : List Str := [[126]]
def nm6 : List Str := [[116, 114, 117, 101], [102, 97, 105, 108], [33]]
def nm7 : List Str := [[112, 105], [115, 105, 103, 109, 97]]
def startL : List (List NmT) := [rowN (.arr tO (.arr tO tO)) nm1, rowN (.arr tA (.arr tA tO)) nm2, rowN (.arr tN (.arr tN tO)) nm3, rowN (.arr tN (.arr tN tN)) nm4, rowN (.arr tN tN) nm5, rowN tO nm6, rowN (.arr (.arr tA tO) tO) nm7]
def start0 : Sg := ⟨[⟨[111], 0⟩, ⟨[105, 110, 116], 0⟩], startL.flatten, firstRows.flatten⟩
theorem arrow2 (w0 : World) (t a b : Typ) (σ : H) : DC Tryz.prog w0 32 [t.v, .c (.sl [[.int .i64 a.k, .str a.name, .int .i64 a.n, .sl (a.l.map Typ.cs)], [.int .i64 b.k, .str b.name, .int .i64 b.n, .sl (b.l.map Typ.cs)]])] σ (Same (Typ.arr a (.arr b t)).v σ) := by
  have := ty_Arrow w0 t [a, b] (by simp) σ
  simp only [tysC, List.map_cons, List.map_nil, Typ.cs_eq] at this
  exact this
theorem arrow1 (w0 : World) (t a : Typ) (σ : H) : DC Tryz.prog w0 32 [t.v, .c (.sl [[.int .i64 a.k, .str a.name, .int .i64 a.n, .sl (a.l.map Typ.cs)]])] σ (Same (Typ.arr a t).v σ) := by
  have := ty_Arrow w0 t [a] (by simp) σ
  simp only [tysC, List.map_cons, List.map_nil, Typ.cs_eq] at this
  exact this
theorem sig_Start (w0 : World) (σ : H) : DC Tryz.prog w0 41 [] σ (Same start0.v σ) := by
  refine k41.go rfl (fun hok hsz => ?_)
  have c1 : ∀ σ, DC Tryz.prog w0 78 [S [111]] σ (Same tO.v σ) := fun σ => sig_con w0 [111] σ
  have c2 : ∀ σ, DC Tryz.prog w0 78 [S [105, 110, 116]] σ (Same tN.v σ) := fun σ => sig_con w0 [105, 110, 116] σ
  have ha : tA.k = 1 ∧ tA.name = [] ∧ tA.n = 0 ∧ tA.l = [] := ⟨rfl, rfl, rfl, rfl⟩
  have r1 : ∀ t σ, DC Tryz.prog w0 80 [Typ.v t, .csl (strsR nm1)] σ (Same (.c (nmsC (rowN t nm1))) σ) := fun t σ => sig_row w0 t nm1 (by decide) σ
  have r2 : ∀ t σ, DC Tryz.prog w0 80 [Typ.v t, .csl (strsR nm2)] σ (Same (.c (nmsC (rowN t nm2))) σ) := fun t σ => sig_row w0 t nm2 (by decide) σ
  have r3 : ∀ t σ, DC Tryz.prog w0 80 [Typ.v t, .csl (strsR nm3)] σ (Same (.c (nmsC (rowN t nm3))) σ) := fun t σ => sig_row w0 t nm3 (by decide) σ
  have r4' : ∀ t σ, DC Tryz.prog w0 80 [Typ.v t, .csl (strsR nm4)] σ (Same (.c (nmsC (rowN t nm4))) σ) := fun t σ => sig_row w0 t nm4 (by decide) σ
  have r5' : ∀ t σ, DC Tryz.prog w0 80 [Typ.v t, .csl (strsR nm5)] σ (Same (.c (nmsC (rowN t nm5))) σ) := fun t σ => sig_row w0 t nm5 (by decide) σ
  have r6' : ∀ t σ, DC Tryz.prog w0 80 [Typ.v t, .csl (strsR nm6)] σ (Same (.c (nmsC (rowN t nm6))) σ) := fun t σ => sig_row w0 t nm6 (by decide) σ
  have r7' : ∀ t σ, DC Tryz.prog w0 80 [Typ.v t, .csl (strsR nm7)] σ (Same (.c (nmsC (rowN t nm7))) σ) := fun t σ => sig_row w0 t nm7 (by decide) σ
  have hcat : ∀ σ, DC Tryz.prog w0 79 [.csl [[nmsC (rowN (.arr tO (.arr tO tO)) nm1)], [nmsC (rowN (.arr tA (.arr tA tO)) nm2)], [nmsC (rowN (.arr tN (.arr tN tO)) nm3)], [nmsC (rowN (.arr tN (.arr tN tN)) nm4)], [nmsC (rowN (.arr tN tN) nm5)], [nmsC (rowN tO nm6)], [nmsC (rowN (.arr (.arr tA tO) tO) nm7)]]] σ (Same (.c (nmsC startL.flatten)) σ) := fun σ => slices_ConcatN w0 startL (by decide) (by decide) σ
  have a1 : ∀ σ, DC Tryz.prog w0 32 _ σ (Same (Typ.arr tO (.arr tO tO)).v σ) := arrow2 w0 tO tO tO
  have a2 : ∀ σ, DC Tryz.prog w0 32 _ σ (Same (Typ.arr tA (.arr tA tO)).v σ) := arrow2 w0 tO tA tA
  have a3 : ∀ σ, DC Tryz.prog w0 32 _ σ (Same (Typ.arr tN (.arr tN tO)).v σ) := arrow2 w0 tO tN tN
  have a4 : ∀ σ, DC Tryz.prog w0 32 _ σ (Same (Typ.arr tN (.arr tN tN)).v σ) := arrow2 w0 tN tN tN
  have a5 : ∀ σ, DC Tryz.prog w0 32 _ σ (Same (Typ.arr tN tN).v σ) := arrow1 w0 tN tN
  have a6 : ∀ σ, DC Tryz.prog w0 32 _ σ (Same (Typ.arr tA tO).v σ) := arrow1 w0 tO tA
  have a7 : ∀ σ, DC Tryz.prog w0 32 _ σ (Same (Typ.arr (.arr tA tO) tO).v σ) := arrow1 w0 tO (.arr tA tO)
  rw [ha.1, ha.2.1, ha.2.2.1, ha.2.2.2, List.map_nil] at a2 a6
  unfold start0
  generalize startL.flatten = st at hcat ⊢
  generalize Typ.arr (Typ.arr tA tO) tO = t7 at *
  generalize Typ.arr tA (.arr tA tO) = t2 at *
  generalize Typ.arr tA tO = t6 at *
  generalize Typ.arr tO (.arr tO tO) = t1 at *
  generalize Typ.arr tN (.arr tN tO) = t3 at *
  generalize Typ.arr tN (.arr tN tN) = t4 at *
  generalize Typ.arr tN tN = t5 at *
  generalize tO = o at *
  generalize tN = n at *
  ((try refine W.a ?_); simp only [go_sem, seval, reduceCtorEq, c41])
  (refine W.c1 (c1 _) ?_; simp only [go_sem, seval, reduceCtorEq])
  (refine W.c1 (c2 _) ?_; simp only [go_sem, seval, reduceCtorEq])
  apply W.dregE (List.cons_ne_nil _ _)
  case hc =>
    (apply CanonE.advPO; simp only [go_sem, seval, reduceCtorEq])
    (apply CanonE.callw (a1 _); (case hg => rfl); (case hf => rfl); (case ha => rfl); (case hw => ((exact wk_here))))
    (apply CanonE.advPO; simp only [go_sem, seval, reduceCtorEq])
    (apply CanonE.call (r1 t1 _); (case hg => rfl); (case hf => rfl); (case ha => first | rfl | simp))
    (apply CanonE.advPO; simp only [go_sem, seval, reduceCtorEq])
    (apply CanonE.callw (a2 _); (case hg => rfl); (case hf => rfl); (case ha => rfl); (case hw => ((exact wk_here))))
    (apply CanonE.advPO; simp only [go_sem, seval, reduceCtorEq])
    (apply CanonE.call (r2 t2 _); (case hg => rfl); (case hf => rfl); (case ha => first | rfl | simp))
    (apply CanonE.advPO; simp only [go_sem, seval, reduceCtorEq])
    (apply CanonE.callw (a3 _); (case hg => rfl); (case hf => rfl); (case ha => rfl); (case hw => ((exact wk_here))))
    (apply CanonE.advPO; simp only [go_sem, seval, reduceCtorEq])
    (apply CanonE.call (r3 t3 _); (case hg => rfl); (case hf => rfl); (case ha => first | rfl | simp))
    (apply CanonE.advPO; simp only [go_sem, seval, reduceCtorEq])
    (apply CanonE.callw (a4 _); (case hg => rfl); (case hf => rfl); (case ha => rfl); (case hw => ((exact wk_here))))
    (apply CanonE.advPO; simp only [go_sem, seval, reduceCtorEq])
    (apply CanonE.call (r4' t4 _); (case hg => rfl); (case hf => rfl); (case ha => first | rfl | simp))
    (apply CanonE.advPO; simp only [go_sem, seval, reduceCtorEq])
    (apply CanonE.callw (a5 _); (case hg => rfl); (case hf => rfl); (case ha => rfl); (case hw => ((exact wk_here))))
    (apply CanonE.advPO; simp only [go_sem, seval, reduceCtorEq])
    (apply CanonE.call (r5' t5 _); (case hg => rfl); (case hf => rfl); (case ha => first | rfl | simp))
    (apply CanonE.advPO; simp only [go_sem, seval, reduceCtorEq])
    (apply CanonE.call (r6' o _); (case hg => rfl); (case hf => rfl); (case ha => first | rfl | simp))
    (apply CanonE.advPO; simp only [go_sem, seval, reduceCtorEq])
    (apply CanonE.callw (a6 _); (case hg => rfl); (case hf => rfl); (case ha => rfl); (case hw => ((exact wk_here))))
    (apply CanonE.advPO; simp only [go_sem, seval, reduceCtorEq])
    (apply CanonE.callw (a7 _); (case hg => rfl); (case hf => rfl); (case ha => rfl); (case hw => ((exact wk_here))))
    (apply CanonE.advPO; simp only [go_sem, seval, reduceCtorEq])
    (apply CanonE.call (r7' t7 _); (case hg => rfl); (case hf => rfl); (case ha => first | rfl | simp))
    (apply CanonE.advPO; simp only [go_sem, seval, reduceCtorEq])
    (apply CanonE.call (hcat _); (case hg => rfl); (case hf => rfl); (case ha => first | rfl | simp))
    (apply CanonE.advPO; simp only [go_sem, seval, reduceCtorEq])
    exact CanonE.nil
  ((try refine W.a ?_); simp only [go_sem, seval, reduceCtorEq])
  (refine W.c1 (ops_Default w0 _) ?_; simp only [go_sem, seval, reduceCtorEq])
  (refine W.fg (hok) (d := Sg.v ⟨[⟨[111], 0⟩, ⟨[105, 110, 116], 0⟩], st, firstRows.flatten⟩) (by simp only [r41, go_sem, seval, reduceCtorEq]; rfl) (by simp only [resV, go_sem, seval, reduceCtorEq]; exact wk_here) ?_)
  exact ⟨rfl, rfl⟩
end
section
attribute [local go_sem] Typ.v Typ.cs_eq tk_mk tname_mk tn_mk tl_mk tysC KdT.v KdT.cs NmT.v NmT.cs kdsC nmsC Sg.v Sent.v strsC

theorem rz_new (σ : H) (A B C X Y : Blk) : rz (σ ++ [A, B, C, X]) (σ.length + 3) Y = σ ++ [A, B, C, Y] := by
  unfold rz
  rw [List.set_append_right _ _ (by omega)]
  simp [Nat.add_sub_cancel_left]
theorem ref11_allAt (w0 : World) (σ : H) (A B C : Blk) (l l' : List NmT) (t : Typ) (names : List Str) (hn : names.length ≤ 1000) (hl : l.length ≤ 1000) (h : l' = l ++ rowN t names) :
    DC Tryz.prog w0 83 [.osl (σ.length + 3) (l.map NmT.cs), .csl (strsR names), t.v] (σ ++ [A, B, C, .spare 79 5 l.length]) (Same (.osl (σ.length + 3) (l'.map NmT.cs)) (σ ++ [A, B, C, .spare 79 5 l'.length])) := by
  subst h
  have := ref11_all w0 l (σ.length + 3) t names hn hl (σ ++ [A, B, C, .spare 79 5 l.length]) (by simp)
  rwa [rz_new] at this
theorem ref11_Start (w0 : World) (σ : H) : DC Tryz.prog w0 42 [] σ (Same start0.v σ) := by
  refine k42.go rfl (fun hok hsz => ?_)
  have c1 : ∀ σ, DC Tryz.prog w0 82 [S [111]] σ (Same tO.v σ) := fun σ => ref11_con w0 [111] σ
  have c2 : ∀ σ, DC Tryz.prog w0 82 [S [105, 110, 116]] σ (Same tN.v σ) := fun σ => ref11_con w0 [105, 110, 116] σ
  have cv : ∀ σ, DC Tryz.prog w0 85 [] σ (Same tA.v σ) := fun σ => ref11_v w0 σ
  have to : ∀ a b σ, DC Tryz.prog w0 84 [Typ.v a, Typ.v b] σ (Same (Typ.arr a b).v σ) := fun a b σ => ref11_to w0 a b σ
  have hst : startL.flatten = rowN (.arr tO (.arr tO tO)) nm1 ++ (rowN (.arr tA (.arr tA tO)) nm2 ++ (rowN (.arr tN (.arr tN tO)) nm3 ++ (rowN (.arr tN (.arr tN tN)) nm4 ++ (rowN (.arr tN tN) nm5 ++ (rowN tO nm6 ++ rowN (.arr (.arr tA tO) tO) nm7))))) := rfl
  obtain ⟨l1, e1⟩ : ∃ l, l = ([] : List NmT) ++ rowN (.arr tO (.arr tO tO)) nm1 := ⟨_, rfl⟩
  obtain ⟨l2, e2⟩ : ∃ l, l = l1 ++ rowN (.arr tA (.arr tA tO)) nm2 := ⟨_, rfl⟩
  obtain ⟨l3, e3⟩ : ∃ l, l = l2 ++ rowN (.arr tN (.arr tN tO)) nm3 := ⟨_, rfl⟩
  obtain ⟨l4, e4⟩ : ∃ l, l = l3 ++ rowN (.arr tN (.arr tN tN)) nm4 := ⟨_, rfl⟩
  obtain ⟨l5, e5⟩ : ∃ l, l = l4 ++ rowN (.arr tN tN) nm5 := ⟨_, rfl⟩
  obtain ⟨l6, e6⟩ : ∃ l, l = l5 ++ rowN tO nm6 := ⟨_, rfl⟩
  obtain ⟨l7, e7⟩ : ∃ l, l = l6 ++ rowN (.arr (.arr tA tO) tO) nm7 := ⟨_, rfl⟩
  have hl1 : l1.length = 4 := by rw [e1]; rfl
  have hl2 : l2.length = 5 := by rw [e2, List.length_append, hl1]; rfl
  have hl3 : l3.length = 10 := by rw [e3, List.length_append, hl2]; rfl
  have hl4 : l4.length = 15 := by rw [e4, List.length_append, hl3]; rfl
  have hl5 : l5.length = 16 := by rw [e5, List.length_append, hl4]; rfl
  have hl6 : l6.length = 19 := by rw [e6, List.length_append, hl5]; rfl
  have h7 : startL.flatten = l7 := by rw [hst, e7, e6, e5, e4, e3, e2, e1]; simp only [List.append_assoc, List.nil_append]
  have n1 : nm1.length ≤ 1000 := by decide
  have n2 : nm2.length ≤ 1000 := by decide
  have n3 : nm3.length ≤ 1000 := by decide
  have n4 : nm4.length ≤ 1000 := by decide
  have n5 : nm5.length ≤ 1000 := by decide
  have n6 : nm6.length ≤ 1000 := by decide
  have n7 : nm7.length ≤ 1000 := by decide
  have x1 := fun A B C => ref11_allAt w0 σ A B C [] l1 _ nm1 n1 (by simp) e1
  have x2 := fun A B C => ref11_allAt w0 σ A B C l1 l2 _ nm2 n2 (by omega) e2
  have x3 := fun A B C => ref11_allAt w0 σ A B C l2 l3 _ nm3 n3 (by omega) e3
  have x4 := fun A B C => ref11_allAt w0 σ A B C l3 l4 _ nm4 n4 (by omega) e4
  have x5 := fun A B C => ref11_allAt w0 σ A B C l4 l5 _ nm5 n5 (by omega) e5
  have x6 := fun A B C => ref11_allAt w0 σ A B C l5 l6 _ nm6 n6 (by omega) e6
  have x7 := fun A B C => ref11_allAt w0 σ A B C l6 l7 _ nm7 n7 (by omega) e7
  unfold start0
  rw [h7]
  clear hst h7 e1 e2 e3 e4 e5 e6 e7 hl1 hl2 hl3 hl4 hl5 hl6
  generalize tO = o at *
  generalize tN = n at *
  generalize tA = a at *
  ((try refine W.a ?_); simp only [go_sem, seval, reduceCtorEq, c42])
  (refine W.c1 (c1 _) ?_; simp only [go_sem, seval, reduceCtorEq])
  (refine W.c1 (c2 _) ?_; simp only [go_sem, seval, reduceCtorEq])
  refine W.own 3 79 5 rfl ?_
  ((try refine W.a ?_); simp only [go_sem, seval, reduceCtorEq])
  apply W.dregE (List.cons_ne_nil _ _)
  case hc =>
    (apply CanonE.advPO; simp only [go_sem, seval, reduceCtorEq])
    (apply CanonE.call (to o o _); (case hg => rfl); (case hf => rfl); (case ha => first | rfl | simp))
    (apply CanonE.advPO; simp only [go_sem, seval, reduceCtorEq])
    (apply CanonE.call (to o (.arr o o) _); (case hg => rfl); (case hf => rfl); (case ha => first | rfl | simp))
    (apply CanonE.advPO; simp only [go_sem, seval, reduceCtorEq])
    (apply CanonE.call (x1 _ _ _); (case hg => rfl); (case hf => rfl); (case ha => first | rfl | simp))
    (apply CanonE.advPO; simp only [go_sem, seval, reduceCtorEq])
    exact CanonE.nil
  ((try refine W.a ?_); simp only [go_sem, seval, reduceCtorEq])
  apply W.dregE (List.cons_ne_nil _ _)
  case hc =>
    (apply CanonE.advPO; simp only [go_sem, seval, reduceCtorEq])
    (apply CanonE.call (cv _); (case hg => rfl); (case hf => rfl); (case ha => first | rfl | simp))
    (apply CanonE.advPO; simp only [go_sem, seval, reduceCtorEq])
    (apply CanonE.call (cv _); (case hg => rfl); (case hf => rfl); (case ha => first | rfl | simp))
    (apply CanonE.advPO; simp only [go_sem, seval, reduceCtorEq])
    (apply CanonE.call (to a o _); (case hg => rfl); (case hf => rfl); (case ha => first | rfl | simp))
    (apply CanonE.advPO; simp only [go_sem, seval, reduceCtorEq])
    (apply CanonE.call (to a (.arr a o) _); (case hg => rfl); (case hf => rfl); (case ha => first | rfl | simp))
    (apply CanonE.advPO; simp only [go_sem, seval, reduceCtorEq])
    (apply CanonE.call (x2 _ _ _); (case hg => rfl); (case hf => rfl); (case ha => first | rfl | simp))
    (apply CanonE.advPO; simp only [go_sem, seval, reduceCtorEq])
    exact CanonE.nil
  ((try refine W.a ?_); simp only [go_sem, seval, reduceCtorEq])
  apply W.dregE (List.cons_ne_nil _ _)
  case hc =>
    (apply CanonE.advPO; simp only [go_sem, seval, reduceCtorEq])
    (apply CanonE.call (to n o _); (case hg => rfl); (case hf => rfl); (case ha => first | rfl | simp))
    (apply CanonE.advPO; simp only [go_sem, seval, reduceCtorEq])
    (apply CanonE.call (to n (.arr n o) _); (case hg => rfl); (case hf => rfl); (case ha => first | rfl | simp))
    (apply CanonE.advPO; simp only [go_sem, seval, reduceCtorEq])
    (apply CanonE.call (x3 _ _ _); (case hg => rfl); (case hf => rfl); (case ha => first | rfl | simp))
    (apply CanonE.advPO; simp only [go_sem, seval, reduceCtorEq])
    exact CanonE.nil
  ((try refine W.a ?_); simp only [go_sem, seval, reduceCtorEq])
  apply W.dregE (List.cons_ne_nil _ _)
  case hc =>
    (apply CanonE.advPO; simp only [go_sem, seval, reduceCtorEq])
    (apply CanonE.call (to n n _); (case hg => rfl); (case hf => rfl); (case ha => first | rfl | simp))
    (apply CanonE.advPO; simp only [go_sem, seval, reduceCtorEq])
    (apply CanonE.call (to n (.arr n n) _); (case hg => rfl); (case hf => rfl); (case ha => first | rfl | simp))
    (apply CanonE.advPO; simp only [go_sem, seval, reduceCtorEq])
    (apply CanonE.call (x4 _ _ _); (case hg => rfl); (case hf => rfl); (case ha => first | rfl | simp))
    (apply CanonE.advPO; simp only [go_sem, seval, reduceCtorEq])
    exact CanonE.nil
  ((try refine W.a ?_); simp only [go_sem, seval, reduceCtorEq])
  (refine W.c1 (to n n _) ?_; simp only [go_sem, seval, reduceCtorEq])
  (refine W.c1 (x5 _ _ _) ?_; simp only [go_sem, seval, reduceCtorEq])
  (refine W.c1 (x6 _ _ _) ?_; simp only [go_sem, seval, reduceCtorEq])
  apply W.dregE (List.cons_ne_nil _ _)
  case hc =>
    (apply CanonE.advPO; simp only [go_sem, seval, reduceCtorEq])
    (apply CanonE.call (cv _); (case hg => rfl); (case hf => rfl); (case ha => first | rfl | simp))
    (apply CanonE.advPO; simp only [go_sem, seval, reduceCtorEq])
    (apply CanonE.call (to a o _); (case hg => rfl); (case hf => rfl); (case ha => first | rfl | simp))
    (apply CanonE.advPO; simp only [go_sem, seval, reduceCtorEq])
    (apply CanonE.call (to (.arr a o) o _); (case hg => rfl); (case hf => rfl); (case ha => first | rfl | simp))
    (apply CanonE.advPO; simp only [go_sem, seval, reduceCtorEq])
    (apply CanonE.call (x7 _ _ _); (case hg => rfl); (case hf => rfl); (case ha => first | rfl | simp))
    (apply CanonE.advPO; simp only [go_sem, seval, reduceCtorEq])
    exact CanonE.nil
  ((try refine W.a ?_); simp only [go_sem, seval, reduceCtorEq])
  (refine W.c1 (ref02_Default w0 _) ?_; simp only [go_sem, seval, reduceCtorEq])
  (refine W.fg (hok) (d := Sg.v ⟨[⟨[111], 0⟩, ⟨[105, 110, 116], 0⟩], l7, firstRows.flatten⟩) (by simp only [r42, go_sem, seval, reduceCtorEq, ops0]; rfl) (by simp only [resV, go_sem, seval, reduceCtorEq, ops0]; exact wk_here) ?_ (hl := by (first | exact .c _ | (simp only [go_sem, seval, reduceCtorEq, ops0]; done))))
  exact ⟨rfl, rfl⟩
theorem ref02_SameA (w0 : World) (l : List OpT) (σ : H) : DC Tryz.prog w0 46 [.c (opsC l), .c (opsC l)] σ (Same (B true) σ) := by
  refine k46.go rfl (fun hok hsz => ?_)
  have hlen : l.length ≤ 9223372036854775807 := sz_rows (hsz _ (List.mem_cons_self ..))
  have hll : ((l.length : Int) != (l.length : Int)) = false := by simp
  ((try refine W.a ?_); simp only [go_sem, seval, reduceCtorEq, c46, hll])
  refine W.no rfl ?_
  ((try refine W.a ?_); simp only [go_sem, seval, reduceCtorEq])
  refine W.loopP (fun i => i ≤ l.length) (fun i => ⟨(((base.put (some 0) (.c (opsC l))).put (some 1) (.c (opsC l))).put (some 5) (I (i : Nat))), σ⟩) (fun i => l.length - i) 0 (Nat.zero_le _) ?_ (fun i hi => ?_)
  · (refine Lew.env ?_; exact lee_here)
  · by_cases hlt : i < l.length
    · have h1 : ((i : Int) < (l.length : Int)) := by omega
      have hx : l[i]? = some l[i] := List.getElem?_eq_getElem hlt
      have hw : IntKind.i64.wrap ((i : Int) + 1) = ((i + 1 : Nat) : Int) := wrap_next hlt hlen
      ((try refine W.a ?_); simp only [go_sem, seval, reduceCtorEq, h1])
      refine W.yes rfl ?_
      ((try refine W.a ?_); simp only [go_sem, seval, reduceCtorEq])
      (apply W.dregE (List.cons_ne_nil _ _); case hc => ((apply CanonE.advPO; simp only [go_sem, seval, reduceCtorEq, h1, nat0, hx]); exact CanonE.nil))
      ((try refine W.a ?_); simp only [go_sem, seval, reduceCtorEq])
      refine W.no rfl ?_
      ((try refine W.a ?_); simp only [go_sem, seval, reduceCtorEq, hw])
      refine .inv ⟨i + 1, hlt, by omega, ?_⟩
      (refine Lew.env ?_; exact lee_here)
    · have h1 : ¬ ((i : Int) < (l.length : Int)) := by omega
      ((try refine W.a ?_); simp only [go_sem, seval, reduceCtorEq, h1])
      refine W.no rfl ?_
      ((try refine W.a ?_); simp only [go_sem, seval, reduceCtorEq])
      (refine W.fs (hok) (by simp only [r46, go_sem, seval, reduceCtorEq]; rfl) ?_; simp only [resV]; try exact V.wk.rfl _)
theorem ref11_Same (w0 : World) (s : Sg) (hs : SgLe s 90000) (σ : H) : DC Tryz.prog w0 14 [s.v, s.v] σ (Same (B true) σ) := by
  refine k14.go rfl (fun hok hsz => ?_)
  obtain ⟨hs1, hs2, hs3⟩ := hs
  have hk : ((s.kinds.length : Int) != (s.kinds.length : Int)) = false := by simp
  have ht : ((s.types.length : Int) != (s.types.length : Int)) = false := by simp
  ((try refine W.a ?_); simp only [go_sem, seval, reduceCtorEq, c14, hk, ht])
  refine W.no rfl ?_
  ((try refine W.a ?_); simp only [go_sem, seval, reduceCtorEq])
  refine W.loopP (fun i => i ≤ s.kinds.length) (fun i => ⟨((((base.put (some 2) (.ptr σ.length 0)).put (some 3) (.ptr (σ.length + 1) 0)).put (some 4) (B false)).put (some 5) (I (i : Nat))), σ ++ [.cells s.v.cellsV, .cells s.v.cellsV]⟩) (fun i => s.kinds.length - i) 0 (Nat.zero_le _) ?_ (fun i hi => ?_)
  · (refine Lew.env ?_; exact lee_here)
  · by_cases hlt : i < s.kinds.length
    · have h1 : ((i : Int) < (s.kinds.length : Int)) := by omega
      have hx : s.kinds[i]? = some s.kinds[i] := List.getElem?_eq_getElem hlt
      have hw : IntKind.i64.wrap ((i : Int) + 1) = ((i + 1 : Nat) : Int) := wrap_next hlt (by omega)
      ((try refine W.a ?_); simp only [go_sem, seval, reduceCtorEq, h1])
      refine W.yes rfl ?_
      ((try refine W.a ?_); simp only [go_sem, seval, reduceCtorEq])
      (apply W.dregE (List.cons_ne_nil _ _); case hc => ((apply CanonE.advPO; simp only [go_sem, seval, reduceCtorEq, h1, nat0, hx]); exact CanonE.nil))
      ((try refine W.a ?_); simp only [go_sem, seval, reduceCtorEq])
      refine W.no rfl ?_
      ((try refine W.a ?_); simp only [go_sem, seval, reduceCtorEq, hw])
      refine .inv ⟨i + 1, hlt, by omega, ?_⟩
      (refine Lew.env ?_; exact lee_here)
    · have h1 : ¬ ((i : Int) < (s.kinds.length : Int)) := by omega
      ((try refine W.a ?_); simp only [go_sem, seval, reduceCtorEq, h1])
      refine W.no rfl ?_
      ((try refine W.a ?_); simp only [go_sem, seval, reduceCtorEq])
      refine W.loopP (fun i => i ≤ s.types.length) (fun i => ⟨((((base.put (some 2) (.ptr σ.length 0)).put (some 3) (.ptr (σ.length + 1) 0)).put (some 4) (B false)).put (some 6) (I (i : Nat))), σ ++ [.cells s.v.cellsV, .cells s.v.cellsV]⟩) (fun i => s.types.length - i) 0 (Nat.zero_le _) ?_ (fun i hi => ?_)
      · (refine Lew.env ?_; exact lee_here)
      · by_cases hlt : i < s.types.length
        · have h1 : ((i : Int) < (s.types.length : Int)) := by omega
          have hx : s.types[i]? = some s.types[i] := List.getElem?_eq_getElem hlt
          have hw : IntKind.i64.wrap ((i : Int) + 1) = ((i + 1 : Nat) : Int) := wrap_next hlt (by omega)
          ((try refine W.a ?_); simp only [go_sem, seval, reduceCtorEq, h1])
          refine W.yes rfl ?_
          ((try refine W.a ?_); simp only [go_sem, seval, reduceCtorEq])
          apply W.dregE (List.cons_ne_nil _ _)
          case hc =>
            (apply CanonE.advPO; simp only [go_sem, seval, reduceCtorEq, h1, nat0, hx])
            (apply CanonE.call (ref05_Same w0 s.types[i].ty s.types[i].ty _); (case hg => rfl); (case hf => rfl); (case ha => first | rfl | simp))
            (apply CanonE.advPO; simp only [go_sem, seval, reduceCtorEq, sameTy_refl])
            exact CanonE.nil
          ((try refine W.a ?_); simp only [go_sem, seval, reduceCtorEq])
          (apply W.dregE (List.cons_ne_nil _ _); case hc => ((apply CanonE.advPO; simp only [go_sem, seval, reduceCtorEq, h1, nat0, hx]); exact CanonE.nil))
          ((try refine W.a ?_); simp only [go_sem, seval, reduceCtorEq])
          refine W.no rfl ?_
          ((try refine W.a ?_); simp only [go_sem, seval, reduceCtorEq, hw])
          refine .inv ⟨i + 1, hlt, by omega, ?_⟩
          (refine Lew.env ?_; exact lee_here)
        · have h1 : ¬ ((i : Int) < (s.types.length : Int)) := by omega
          ((try refine W.a ?_); simp only [go_sem, seval, reduceCtorEq, h1])
          refine W.no rfl ?_
          ((try refine W.a ?_); simp only [go_sem, seval, reduceCtorEq])
          (refine W.c1 (ref02_SameA w0 s.ops _) ?_; simp only [go_sem, seval, reduceCtorEq])
          (refine W.fs (hok) (by simp only [r14, go_sem, seval, reduceCtorEq]; rfl) ?_; simp only [resV]; try exact V.wk.rfl _)
end
section

theorem strings_JoinD {w0 : World} (l : List Str) (sep : Str) (hj : (Lib.join l sep).length ≤ 100000000) (hn : l.length ≤ 100000000) (σ : H) : DC Tryz.prog w0 77 [.c (.sl (strsR l)), S sep] σ (Same (S (Lib.join l sep)) σ) := by
  refine DC.of_calls (enters_fn Tryz.func77 (by kernel_rfl) rfl) fun κ w vs hrep hfit => ?_
  obtain ⟨v, ys, rfl, hv, hfit⟩ := hfit.cons_inv
  obtain ⟨u, zs, rfl, hu, hfit⟩ := hfit.cons_inv
  have := hfit.nil_inv
  subst this
  cases hu with
  | c hu =>
    cases hu with
    | str _ hls =>
      cases hv with
      | c hv =>
        generalize hr : strsR l = rows at hv
        cases hv with
        | sl rows s A cap xs h0 h1 h2 h3 h4 h5 =>
          subst hr
          have hlen : (strsR l).length = l.length := by simp [strsR]
          rw [hlen] at h1 h3 ⊢
          cases l with
          | nil =>
            refine ⟨_, .c (.str _ (by rw [Lib.join_nil]; decide)), (Tryz.strings_Join_none A cap (bs sep) w).mono ?_⟩
            rintro e w' ⟨rfl, rfl⟩
            exact ⟨rfl, Below.refl _ _⟩
          | cons a r =>
            obtain ⟨b, o, rfl, hm⟩ := h4 (by simp [strsR])
            have hs : s = 1 := by
              have := h0 [C.str a] (by simp [strsR])
              simpa using this.symm
            subst hs
            have hc : ∀ (j : Nat) x, ((a :: r).map bs)[j]? = some x → w.cell? ⟨b, o + j, none⟩ = some (.string x) := fun j x hx => by
              rw [List.getElem?_map] at hx
              have hj' : j < (a :: r).length := by
                rcases Nat.lt_or_ge j (a :: r).length with h | h
                · exact h
                · rw [List.getElem?_eq_none h] at hx; cases hx
              rw [List.getElem?_eq_getElem hj'] at hx
              injection hx with hx
              subst hx
              have hx1 : j < xs.length := by rw [h3]; omega
              have e1 : (strsR (a :: r))[j]'(by rw [hlen]; exact hj') = [C.str (a :: r)[j]] := by simp only [strsR, List.getElem_map]
              have h6 := h5 j (by rw [hlen]; exact hj') 0 (by rw [e1]; exact Nat.zero_lt_one)
              have h7 := hm j hx1
              rw [List.getElem?_eq_getElem hx1] at h7
              have h8 := hrep.mem _ _ _ h7
              rw [h8]
              have e2 : xs.getD (j * 1 + 0) undef = xs[j] := by simp [List.getD, hx1]
              rw [e2] at h6
              simp only [e1, List.getElem_cons_zero] at h6
              generalize xs[j] = y at h6
              cases h6
              rfl
            have hbk : b < w.heap.size := by
              have := hc 0 (bs a) rfl
              exact cell_lt this
            have hmap : ((a :: r).map bs).map (fun x => x.data.toList) = a :: r := by
              rw [List.map_map]
              have : (fun x : ByteArray => x.data.toList) ∘ bs = id := by funext x; rfl
              rw [this, List.map_id]
            have hJ := Tryz.strings_Join b o cap ((a :: r).map bs) (bs sep) w hc hbk (by simp only [List.length_map]; simp only [List.length_cons] at hn ⊢; omega) (by rw [List.length_map]; exact h1) (by rw [hmap]; show (Lib.join (a :: r) sep).length ≤ _; omega)
            rw [hmap, List.length_map] at hJ
            refine ⟨_, .c (.str _ (by unfold maxLen; omega)), hJ.mono ?_⟩
            rintro e w' ⟨rfl, hb⟩
            exact ⟨rfl, hb⟩
theorem ty_put (w0 : World) (s : Str) (b : Bool) (hs : s.length ≤ 100000000) (σ : H) : DC Tryz.prog w0 76 [S s, B b] σ (Same (S (putL s b)) σ) := by
  refine k76.go rfl (fun hok hsz => ?_)
  have h1 : 1 + s.length ≤ 9223372036854775807 := by omega
  have h2 : s.length + 1 + 1 ≤ 9223372036854775807 := by omega
  have h3 : s.length + 1 ≤ 9223372036854775806 := by omega
  have h4 : s.length ≤ 9223372036854775805 := by omega
  ((try refine W.a ?_); simp only [go_sem, seval, reduceCtorEq, c76])
  cases b
  · refine W.no rfl ?_
    ((try refine W.a ?_); simp only [go_sem, seval, reduceCtorEq])
    (refine W.fs (hok) (by simp only [r76, go_sem, seval, reduceCtorEq]; rfl) ?_; simp only [resV]; try exact V.wk.rfl _)
  · refine W.yes rfl ?_
    ((try refine W.a ?_); simp only [go_sem, seval, reduceCtorEq, h1, h2, h3, h4])
    (refine W.fs (hok) (by simp only [r76, go_sem, seval, reduceCtorEq]; rfl) ?_; simp only [resV]; try exact V.wk.rfl _)
end
end Go.Proofs.YtohcnohllbjlcaaGreatDoor

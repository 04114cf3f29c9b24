/-
  Walks: the source reader's small functions.
  Walks: names, and how many arrows there are.
  Walks: the reader's small functions, more of them.
  Walks: what an operator makes of two trees.
  Walks: an expression one deeper; brackets; an atom.
  Walks: brackets.
  Walks: an atom.
  Walks: atoms, applied.
  Walks: an expression.
  Walks: Read.
  Walks: sentences, each kind of them.
  Walks: sentences with types, operators, clauses.
  Walks: operators' sentences.
-/
import Derived.Test.YtplgnfciipceiaaGreatDoorQJ31
import Derived.Test.YtplgnfciipceiaaGreatDoorQJ13
import Derived.Test.YtplgnfciipceiaaGreatDoorQJ14
set_option linter.unusedSimpArgs false
set_option linter.unusedVariables false
set_option maxHeartbeats 8000000
set_option maxRecDepth 20000
namespace Go.Proofs.YtplgnfciipceiaaGreatDoor
open Go.RowKit Go.Lamb
attribute [local go_sem] advO_skip advO_reg advO_seq advO_block advO_exit advO_endb advO_opsNil advO_ops advG_yes advG_no advG_none advS_some advS_none advO_cond advO_loop advO_dreg advO_ret advO_bad advO_inv advO_nil advO_zero wantedV Lamb.step ev_t ev_k put_some put_none argEnv popTo cellsAt V.cellsV V.rows V.toC toCs fillV bytesC byteRows appV rowsV boundV boundL binV binInt binStr eqC eqL V.isNil leaves V.leaf Ins.quiet Ins.pure List.getD_cons_zero List.getD_cons_succ List.getD_nil List.all_cons List.all_nil List.length_cons List.length_nil List.take_succ_cons List.take_zero List.drop_succ_cons List.drop_zero List.cons_append List.nil_append List.append_nil List.append_assoc List.map_cons List.map_nil List.getElem?_cons_zero List.getElem?_cons_succ List.length_append List.length_set hget0 hget hset0 hset hsets hgs0 hgs hss0 hss List.set_cons_zero List.set_cons_succ List.forall_mem_cons List.not_mem_nil false_implies implies_true Option.map_some Bool.and_true Bool.true_and Bool.not_not Bool.not_true Bool.not_false Bool.and_self Bool.or_true Bool.true_or Bool.or_false Bool.false_or Bool.and_false Bool.false_and Bool.false_eq_true beq_self_eq_true and_self and_true true_and if_true if_false Nat.zero_add Nat.add_zero Nat.le_refl Int.toNat_natCast decide_true decide_false beq_t beq_f List.length_map List.getElem?_map I S B opsC toksC OpT.v OpT.cs OpT.zero Tok.v Tok.cs Pre.v Pre.cs_eq k_mk name_mk n_mk l_mk pos_mk Pre.app applyL natCast0 natCast1 natCast2 AOp.o AOp.m AOp.f AOp.l AOp.d AOp.n AOp.x AOp.s AOp.k AOp.y AOp.z EOp.q low_c low_void low_any low_csl low_nilf low_ptr low_osl low_agg low_tup low_fn resEval advPO_nil advPO_loud advPO_quiet pL_yes pL_no pLS_some pLS_none pQ_yes pQ_no pQS_some pQS_loud eq_self Nat.sub_zero
section

structure TEnd (t : List Tok) : Prop where
  ne : t ≠ []
  last : ∀ h : t.length - 1 < t.length, t[t.length - 1] = ⟨0, [], 0, lastPos t⟩
  le : t.length ≤ 100000
theorem TEnd.pos {t : List Tok} (h : TEnd t) : 0 < t.length := List.length_pos_iff.2 h.ne
theorem TEnd.tok {t : List Tok} (h : TEnd t) (i : Nat) : t[min i (t.length - 1)]? = some (tokL t i) := by
  have := h.pos
  rcases Nat.lt_or_ge i t.length with hi | hi
  · rw [Nat.min_eq_left (by omega), tokL_in hi, List.getElem?_eq_getElem hi]
  · rw [Nat.min_eq_right (by omega), tokL_out hi, List.getElem?_eq_getElem (by omega), h.last (by omega)]
def sdX (t : List Tok) (i : Int) (l : List OpT) (e p : Int) : Blk := .cells [.c (toksC t), I i, .c (opsC l), I e, I p]
abbrev srd (σ : H) (b : Nat) (t : List Tok) (i : Int) (l : List OpT) (e p : Int) : H := rz σ b (sdX t i l e p)
theorem srd_ok {σ : H} {b : Nat} (D : b < σ.length) {X : Blk} (h : H.ok (rz σ b X)) (t : List Tok) (i : Int) (l : List OpT) (e p : Int) : H.ok (srd σ b t i l e p) :=
  rz_ok D h (fun cs tg hc x hx => by
    unfold sdX at hc
    injection hc with hc _
    subst hc
    simp only [List.mem_cons, List.not_mem_nil, or_false] at hx
    rcases hx with rfl | rfl | rfl | rfl | rfl <;> exact .c _)
attribute [local go_sem] sdX rz_len rz_g0 rz_g rz_s0 rz_s rz_sb
theorem sr_tok (w0 : World) (t : List Tok) (hT : TEnd t) (i : Nat) (hi : i ≤ 1000000) (l : List OpT) (e p : Int) (σ : H) (b : Nat) (D : b < σ.length) :
    DC Tryz.prog w0 34 [.ptr b 0] (srd σ b t i l e p) (Same (tokL t i).v (srd σ b t i l e p)) := by
  refine k34.go rfl (fun hok hsz => ?_)
  have hp := hT.pos
  have hle := hT.le
  have hw2 : IntKind.i64.wrap ((t.length : Int) - 1) = ((t.length - 1 : Nat) : Int) := by rw [wrap_in] <;> omega
  have hmn : (if ((t.length - 1 : Nat) : Int) < (i : Int) then ((t.length - 1 : Nat) : Int) else (i : Int)) = ((min i (t.length - 1) : Nat) : Int) := by
    split <;> omega
  have hlt : ((min i (t.length - 1) : Nat) : Int) < (t.length : Int) := by omega
  have hx := hT.tok i
  ((try refine W.a ?_); simp only [go_sem, seval, reduceCtorEq, c34, rzA D])
  (apply W.dregE (List.cons_ne_nil _ _); case hc => ((apply CanonE.advPO; simp only [go_sem, seval, reduceCtorEq, rzA D, hw2, hmn, nat0, hlt, hx]); exact CanonE.nil))
  ((try refine W.a ?_); simp only [go_sem, seval, reduceCtorEq, rzA D])
  (refine W.fs (hok) (by simp only [r34, go_sem, seval, reduceCtorEq, rzA D]; rfl) ?_ (hl := by (first | exact .c _ | (simp only [go_sem, seval, reduceCtorEq, rzA D]; done))); simp only [resV, rzA D]; try exact V.wk.rfl _)
  (all_goals exact wk_here)
theorem sr_fail (w0 : World) (t : List Tok) (i : Int) (l : List OpT) (e p e' p' : Int) (σ : H) (b : Nat) (D : b < σ.length) :
    DC Tryz.prog w0 144 [.ptr b 0, I e', I p'] (srd σ b t i l e p) (Same (.tup []) (srd σ b t i l (if e = 0 then e' else e) (if e = 0 then p' else p))) := by
  refine k144.go rfl (fun hok hsz => ?_)
  by_cases he : e = 0
  · subst he
    ((try refine W.a ?_); simp only [go_sem, seval, reduceCtorEq, c144, rzA D])
    refine W.yes rfl ?_
    ((try refine W.a ?_); simp only [go_sem, seval, reduceCtorEq, rzA D])
    (refine W.done (Fin.sameW (srd_ok D hok t i l e' p') (by (first | rfl | exact List.length_set .. | simp)) (by simp only [r144, go_sem, seval, reduceCtorEq]; rfl) ?_ (by (first | exact .c _ | (simp only [go_sem, seval, reduceCtorEq]; done))) (by (first | rfl | exact (List.append_nil _).symm))); simp only [resV]; try exact V.wk.rfl _)
  · have he' : (e == 0) = false := by simpa using he
    ((try refine W.a ?_); simp only [go_sem, seval, reduceCtorEq, c144, rzA D, he'])
    refine W.no rfl ?_
    ((try refine W.a ?_); simp only [go_sem, seval, reduceCtorEq])
    rw [if_neg he, if_neg he]
    (refine W.done (Fin.sameW (hok) (by (first | rfl | exact List.length_set .. | simp)) (by simp only [r144, go_sem, seval, reduceCtorEq]; rfl) ?_ (by (first | exact .c _ | (simp only [go_sem, seval, reduceCtorEq]; done))) (by (first | rfl | exact (List.append_nil _).symm))); simp only [resV]; try exact V.wk.rfl _)
def isHere (k : Int) (s : Str) (x : Tok) : Bool := x.kind == k && x.text == s
theorem sr_is (w0 : World) (t : List Tok) (hT : TEnd t) (i : Nat) (hi : i ≤ 1000000) (l : List OpT) (e p : Int) (k : Int) (s : Str) (σ : H) (b : Nat) (D : b < σ.length) :
    DC Tryz.prog w0 143 [.ptr b 0, I k, S s] (srd σ b t i l e p) (Same (B (isHere k s (tokL t i))) (srd σ b t ((if isHere k s (tokL t i) = true then i + 1 else i : Nat) : Int) l e p)) := by
  refine k143.go rfl (fun hok hsz => ?_)
  have hw : IntKind.i64.wrap ((i : Int) + 1) = ((i + 1 : Nat) : Int) := by rw [wrap_in] <;> omega
  unfold isHere
  ((try refine W.a ?_); simp only [go_sem, seval, reduceCtorEq, c143, rzA D])
  cases h1 : ((tokL t i).kind == k) <;> cases h2 : ((tokL t i).text == s)
  all_goals
    (refine W.c1 (sr_tok w0 t hT i hi l e p _ b D) ?_; simp only [go_sem, seval, reduceCtorEq, rzA D, h1, h2])
    first
      | (refine W.yes rfl ?_
         ((try refine W.a ?_); simp only [go_sem, seval, reduceCtorEq, rzA D, hw])
         (refine W.fs (srd_ok D hok t ((i + 1 : Nat) : Int) l e p) (by simp only [r143, go_sem, seval, reduceCtorEq, rzA D]; rfl) ?_ (hl := by (first | exact .c _ | (simp only [go_sem, seval, reduceCtorEq, rzA D]; done))); simp only [resV, rzA D]; try exact V.wk.rfl _))
      | (refine W.no rfl ?_
         ((try refine W.a ?_); simp only [go_sem, seval, reduceCtorEq, rzA D])
         (refine W.fs (srd_ok D hok t (i : Int) l e p) (by simp only [r143, go_sem, seval, reduceCtorEq, rzA D]; rfl) ?_ (hl := by (first | exact .c _ | (simp only [go_sem, seval, reduceCtorEq, rzA D]; done))); simp only [resV, rzA D]; try exact V.wk.rfl _))
theorem sr_take (w0 : World) (t : List Tok) (hT : TEnd t) (i : Nat) (hi : i ≤ 1000000) (l : List OpT) (e p e' : Int) (ks : List Int) (σ : H) (b : Nat) (D : b < σ.length) :
    DC Tryz.prog w0 146 [.ptr b 0, I e', .c (.sl (ks.map fun k => [C.int .i64 k]))] (srd σ b t i l e p)
      (Same (tokL t i).v (srd σ b t ((i + 1 : Nat) : Int) l (if ks.contains (tokL t i).kind = true then e else if e = 0 then e' else e) (if ks.contains (tokL t i).kind = true then p else if e = 0 then (tokL t i).pos else p))) := by
  refine k146.go rfl (fun hok hsz => ?_)
  have hw : IntKind.i64.wrap ((i : Int) + 1) = ((i + 1 : Nat) : Int) := by rw [wrap_in] <;> omega
  ((try refine W.a ?_); simp only [go_sem, seval, reduceCtorEq, c146, rzA D])
  (refine W.c1 (DC.lift1 D (fun D' => sr_tok w0 t hT i hi l e p _ b D')) ?_; simp only [go_sem, seval, reduceCtorEq, rzA D])
  cases hc : ks.contains (tokL t i).kind
  · (refine W.c1 (kind_contains w0 ks (tokL t i).kind _) ?_; simp only [go_sem, seval, reduceCtorEq, hc, rzA D])
    refine W.yes rfl ?_
    ((try refine W.a ?_); simp only [go_sem, seval, reduceCtorEq, rzA D])
    (refine W.c1 (DC.lift1 D (fun D' => sr_fail w0 t i l e p e' (tokL t i).pos _ b D')) ?_; simp only [go_sem, seval, reduceCtorEq, rzA D, hw])
    try simp only [Bool.false_eq_true, if_false]
    (refine W.fg (srd_ok D hok t ((i + 1 : Nat) : Int) l (if e = 0 then e' else e) (if e = 0 then (tokL t i).pos else p)) (d := (tokL t i).v) (by simp only [r146, go_sem, seval, reduceCtorEq]; rfl) (by simp only [resV, go_sem, seval, reduceCtorEq]; exact wk_here) ?_)
    exact ⟨rfl, rfl⟩
  · (refine W.c1 (kind_contains w0 ks (tokL t i).kind _) ?_; simp only [go_sem, seval, reduceCtorEq, hc, rzA D])
    refine W.no rfl ?_
    ((try refine W.a ?_); simp only [go_sem, seval, reduceCtorEq, rzA D, hw])
    try simp only [if_true]
    (refine W.fg (srd_ok D hok t ((i + 1 : Nat) : Int) l e p) (d := (tokL t i).v) (by simp only [r146, go_sem, seval, reduceCtorEq]; rfl) (by simp only [resV, go_sem, seval, reduceCtorEq]; exact wk_here) ?_)
    exact ⟨rfl, rfl⟩
theorem source_texts (w0 : World) (l : List Tok) (hl : l.length ≤ 1000000) (σ : H) : DC Tryz.prog w0 141 [.c (toksC l)] σ (Same (.c (strsC (l.map (·.text)))) σ) := by
  refine k141.go rfl (fun hok hsz => ?_)
  ((try refine W.a ?_); simp only [go_sem, seval, reduceCtorEq, c141])
  refine W.own 3 9 1 rfl ?_
  refine W.loopP (fun i => i ≤ l.length) (fun i => ⟨(((((base.put (some 0) (.c (toksC l))).put (some 3) (.osl σ.length (((l.take i).map (·.text)).map fun s => [C.str s]))).put (some 6) (.c (toksC l))).put (some 7) (I l.length)).put (some 8) (I (i : Nat))), σ ++ [.spare 9 1 i]⟩) (fun i => l.length - i) 0 (Nat.zero_le _) ?_ (fun i hi => ?_)
  · (refine Lew.env ?_; exact lee_here)
  · by_cases hlt : i < l.length
    · have h1 : ((i : Int) < (l.length : Int)) := by omega
      have hx : l[i]? = some l[i] := List.getElem?_eq_getElem hlt
      have hll : (l.take i).length = i := by simp; omega
      have hmin : min i l.length = i := by omega
      have hb1 : (i + 1) * 16 ≤ 140737488355328 := by omega
      have hb2 : i + 1 ≤ 140737488355328 := by omega
      have hta : l.take (i + 1) = l.take i ++ [l[i]] := by rw [List.take_add_one, hx]; rfl
      have hw : IntKind.i64.wrap ((i : Int) + 1) = ((i + 1 : Nat) : Int) := by rw [wrap_in] <;> omega
      ((try refine W.a ?_); simp only [go_sem, seval, reduceCtorEq, h1])
      refine W.yes rfl ?_
      ((try refine W.a ?_); simp only [go_sem, seval, reduceCtorEq, h1, nat0, hx, hll, hb1, hb2, eq_self, hw])
      refine .inv ⟨i + 1, hlt, by omega, ?_⟩
      simp only [go_sem, seval, reduceCtorEq, hta, List.map_append]
      (refine Lew.cutL (hok) ?_ (by simp) (by simp) ?_ ?_ ?_; exact lee_here; ((try simp only [okB, wkB, go_sem, seval, reduceCtorEq]) <;> omega); (simp only [List.length_cons, List.length_nil, Nat.reduceAdd, List.take_succ_cons, List.take_zero, wkB, and_true]; (repeat' (refine And.intro ?_ ?_)) <;> (first | exact Blk.wk.rfl _ | exact Blk.wk.gone _ | (refine Blk.wk_cells ?_ rfl; (exact wk_here)))); (repeat' (first | exact LowE.base _ | (refine LowE.put ?_ (by first | exact .c _ | ((try simp only [okB, wkB, go_sem, seval, reduceCtorEq]) <;> omega))))))
    · have h1 : ¬ ((i : Int) < (l.length : Int)) := by omega
      have hi' : i = l.length := by omega
      subst hi'
      ((try refine W.a ?_); simp only [go_sem, seval, reduceCtorEq, h1])
      refine W.no rfl ?_
      ((try refine W.a ?_); simp only [go_sem, seval, reduceCtorEq, List.take_length])
      (refine W.fs (hok) (by simp only [r141, go_sem, seval, reduceCtorEq, strsC]; rfl) ?_ (hl := by (first | exact .c _ | (simp only [go_sem, seval, reduceCtorEq, strsC]; done))); simp only [resV, strsC]; try exact V.wk.rfl _)
      (all_goals exact wk_here)
end
section
attribute [local go_sem] sdX rz_len rz_g0 rz_g rz_s0 rz_s rz_sb

def kindsR (s : Bool) : List Int := if s then [1, 4] else [1]
theorem kinds_has (s : Bool) (x : Tok) : (kindsR s).contains x.kind = nameHere s x := by
  unfold kindsR nameHere
  cases s
  · simp only [List.contains_cons, List.contains_nil, Bool.or_false, Bool.false_and, Bool.false_eq_true, if_false]
  · simp only [if_true, List.contains_cons, List.contains_nil, Bool.or_false, Bool.true_and]
structure NameSt where
  acc : List Tok
  i : Nat
  e : Int
  p : Int
def RNames (t : List Tok) (l : List OpT) (σ : H) (b : Nat) (r : Except Bad (List Tok × Nat)) : V → H → Prop := fun d σ' => match r with
  | .ok (ns, j) => d = .c (toksC ns) ∧ σ' = srd σ b t (j : Nat) l 0 0
  | .error x => (x.e == 0) = false ∧ ∃ (ns : List Tok) (j : Nat), ns.length ≤ 1000000 ∧ j ≤ 1000000 ∧ d = .c (toksC ns) ∧ σ' = srd σ b t (j : Nat) l x.e x.pos
theorem sr_names (w0 : World) (t : List Tok) (hT : TEnd t) (s : Bool) (i : Nat) (hi : i ≤ t.length) (l : List OpT) (σ : H) (b : Nat) (D : b < σ.length) :
    DC Tryz.prog w0 142 [.ptr b 0, .c (.sl ((kindsR s).map fun k => [C.int .i64 k]))] (srd σ b t i l 0 0) (RNames t l σ b (namesS t s i [])) := by
  refine k142.go rfl (fun hok hsz => ?_)
  have hle := hT.le
  have hinv0 : ∀ (k : Nat) (acc : List Tok), k ≤ t.length → ((nameHere s (tokL t k) = true ∧ k < t.length ∧ namesS t s k acc = (if commaHere (tokL t (k + 1)) = true then namesS t s (k + 2) (acc ++ [tokL t k]) else .ok (acc ++ [tokL t k], k + 1))) ∨ (nameHere s (tokL t k) = false ∧ namesS t s k acc = .error ⟨100, (tokL t k).pos⟩)) := fun k acc _ => by
    rw [namesS_eq]
    cases hn : nameHere s (tokL t k)
    · right; exact ⟨rfl, by rw [if_neg (by decide)]⟩
    · left
      refine ⟨rfl, tokL_lt fun e => ?_, by rw [if_pos rfl]⟩
      rw [nameHere, e] at hn
      simp at hn
  generalize hr : namesS t s i [] = r
  ((try refine W.a ?_); simp only [go_sem, seval, reduceCtorEq, c142, rzA D])
  (refine W.c1 (sr_take w0 t hT i (by omega) l 0 0 100 (kindsR s) σ b D) ?_; simp only [go_sem, seval, reduceCtorEq, kinds_has, rzA D])
  let I0 : NameSt → Prop := fun x => x.acc ≠ [] ∧ x.acc.length ≤ x.i ∧ x.i ≤ t.length + 3 ∧ ((x.e = 0 ∧ x.p = 0 ∧ x.i ≤ t.length ∧ r = (if commaHere (tokL t x.i) = true then namesS t s (x.i + 1) x.acc else .ok (x.acc, x.i))) ∨ ((x.e == 0) = false ∧ r = .error ⟨x.e, x.p⟩))
  have hx0 : ∃ x0 : NameSt, I0 x0 ∧ x0.acc = [tokL t i] ∧ x0.i = i + 1 ∧ (if nameHere s (tokL t i) = true then (0 : Int) else if (0 : Int) = 0 then 100 else 0) = x0.e ∧ (if nameHere s (tokL t i) = true then (0 : Int) else if (0 : Int) = 0 then (tokL t i).pos else 0) = x0.p := by
    rcases hinv0 i [] hi with ⟨h1, h2, h3⟩ | ⟨h1, h2⟩
    · refine ⟨⟨[tokL t i], i + 1, 0, 0⟩, ⟨by simp, by simp, by show i + 1 ≤ t.length + 3; omega, .inl ⟨rfl, rfl, by show i + 1 ≤ t.length; omega, by rw [← hr, h3]; rfl⟩⟩, rfl, rfl, by rw [if_pos h1], by rw [if_pos h1]⟩
    · refine ⟨⟨[tokL t i], i + 1, 100, (tokL t i).pos⟩, ⟨by simp, by simp, by show i + 1 ≤ t.length + 3; omega, .inr ⟨rfl, by rw [← hr, h2]⟩⟩, rfl, rfl, by rw [h1]; rfl, by rw [h1]; rfl⟩
  obtain ⟨x0, hx, ha, hxi, he0, hp0⟩ := hx0
  simp only [if_true] at he0 hp0
  rw [he0, hp0]
  have hcs : [tokL t i].map Tok.cs = x0.acc.map Tok.cs := by rw [ha]
  have hxi' : ((i + 1 : Nat) : Int) = (x0.i : Int) := by rw [hxi]
  rw [hxi']
  refine W.loopP (α := NameSt × Bool) (fun x => I0 x.1) (fun x => ⟨(((base.put (some 0) (.ptr b 0)).put (some 1) (.c (.sl ((kindsR s).map fun k => [C.int .i64 k])))).put (some 5) ((if x.2 then .csl (x.1.acc.map Tok.cs) else .osl σ.length (x.1.acc.map Tok.cs)))), srd σ b t (x.1.i : Nat) l x.1.e x.1.p ++ (if x.2 then [] else [.spare 87 4 x.1.acc.length])⟩) (fun x => t.length + 4 - x.1.i) (x0, true) hx ?_ (fun x hx => ?_)
  · simp only [if_true, ← hcs, List.append_nil]
    simp only [go_sem, seval, reduceCtorEq]
    (refine Lew.env ?_; exact lee_here)
  · obtain ⟨⟨acc, j, e, p⟩, fl⟩ := x
    obtain ⟨hne, hal, hj, hst⟩ := hx
    simp only at hne hal hj hst
    have hb1 : (acc.length + 1) * 40 ≤ 140737488355328 := by omega
    have hb2 : acc.length + 1 ≤ 140737488355328 := by omega
    have hb3 : ∀ r ∈ acc.map Tok.cs, r.length = 4 := fun r hr => by obtain ⟨o, _, rfl⟩ := List.mem_map.1 hr; rfl
    have hcn : isHere 4 [44] (tokL t j) = commaHere (tokL t j) := rfl
    rcases hst with ⟨rfl, rfl, hjl, hr'⟩ | ⟨he, hr'⟩
    · cases hc : commaHere (tokL t j)
      · rw [hc, if_neg (by decide)] at hr'
        subst hr'
        cases fl
        all_goals
          ((try refine W.a ?_); simp only [go_sem, seval, reduceCtorEq, rzA D, if_true, if_false, Bool.false_eq_true])
          first
            | ((refine W.c1 (DC.lift1 D (fun D' => sr_is w0 t hT j (by omega) l 0 0 4 [44] _ b D')) ?_; simp only [go_sem, seval, reduceCtorEq, rzA D, hcn, hc]))
            | ((refine W.c1 (sr_is w0 t hT j (by omega) l 0 0 4 [44] σ b D) ?_; simp only [go_sem, seval, reduceCtorEq, rzA D, hcn, hc]))
          refine W.no rfl ?_
          ((try refine W.a ?_); simp only [go_sem, seval, reduceCtorEq, rzA D])
          (refine W.fg (srd_ok D hok t (j : Nat) l 0 0) (d := .c (toksC acc)) (by simp only [r142, go_sem, seval, reduceCtorEq]; rfl) (by simp only [resV, go_sem, seval, reduceCtorEq]; exact wk_here) ?_)
          exact ⟨rfl, rfl⟩
      · rw [hc, if_pos rfl] at hr'
        have hjt : j < t.length := tokL_lt fun e => by rw [commaHere, e] at hc; simp at hc
        have hI : I0 ⟨acc ++ [tokL t (j + 1)], j + 2, (if nameHere s (tokL t (j + 1)) = true then (0 : Int) else 100), (if nameHere s (tokL t (j + 1)) = true then (0 : Int) else (tokL t (j + 1)).pos)⟩ := by
          refine ⟨by simp, by simp; omega, by show j + 2 ≤ t.length + 3; omega, ?_⟩
          rcases hinv0 (j + 1) acc (by omega) with ⟨h1, h2, h3⟩ | ⟨h1, h2⟩
          · left
            simp only [h1, if_true]
            exact ⟨trivial, trivial, by omega, by rw [hr', h3]⟩
          · right
            simp only [h1, Bool.false_eq_true, if_false]
            exact ⟨rfl, by rw [hr', h2]⟩
        cases fl
        · ((try refine W.a ?_); simp only [go_sem, seval, reduceCtorEq, rzA D, if_true, if_false, Bool.false_eq_true])
          (refine W.c1 (DC.lift1 D (fun D' => sr_is w0 t hT j (by omega) l 0 0 4 [44] _ b D')) ?_; simp only [go_sem, seval, reduceCtorEq, rzA D, hcn, hc])
          refine W.yes rfl ?_
          ((try refine W.a ?_); simp only [go_sem, seval, reduceCtorEq, rzA D])
          (refine W.c1 (DC.lift1 D (fun D' => sr_take w0 t hT (j + 1) (by omega) l 0 0 100 (kindsR s) _ b D')) ?_; simp only [go_sem, seval, reduceCtorEq, kinds_has, rzA D, hb1, hb2, if_true])
          refine .inv ⟨(⟨acc ++ [tokL t (j + 1)], j + 2, _, _⟩, false), hI, by simp; omega, ?_⟩
          simp only [go_sem, seval, reduceCtorEq, List.map_append, List.length_append, if_true, if_false, Bool.false_eq_true]
          (refine Lew.env ?_; exact lee_here)
        · ((try refine W.a ?_); simp only [go_sem, seval, reduceCtorEq, rzA D, if_true, if_false, Bool.false_eq_true])
          (refine W.c1 (sr_is w0 t hT j (by omega) l 0 0 4 [44] σ b D) ?_; simp only [go_sem, seval, reduceCtorEq, rzA D, hcn, hc])
          refine W.yes rfl ?_
          ((try refine W.a ?_); simp only [go_sem, seval, reduceCtorEq, rzA D])
          (refine W.c1 (sr_take w0 t hT (j + 1) (by omega) l 0 0 100 (kindsR s) σ b D) ?_; simp only [go_sem, seval, reduceCtorEq, kinds_has, rzA D, hb1, hb2, if_true, eq_true hb3, ne_eq, List.cons_ne_nil, not_false_eq_true, or_true])
          --STOP
          refine .inv ⟨(⟨acc ++ [tokL t (j + 1)], j + 2, _, _⟩, false), hI, by simp; omega, ?_⟩
          simp only [go_sem, seval, reduceCtorEq, List.map_append, List.length_append, if_true, if_false, Bool.false_eq_true]
          (refine Lew.env ?_; exact lee_here)
    · subst hr'
      cases fl
      all_goals
        ((try refine W.a ?_); simp only [go_sem, seval, reduceCtorEq, rzA D, if_true, if_false, Bool.false_eq_true, he])
        refine W.no rfl ?_
        ((try refine W.a ?_); simp only [go_sem, seval, reduceCtorEq, rzA D])
        (refine W.fg (srd_ok D hok t (j : Nat) l e p) (d := .c (toksC acc)) (by simp only [r142, go_sem, seval, reduceCtorEq]; rfl) (by simp only [resV, go_sem, seval, reduceCtorEq]; exact wk_here) ?_)
        exact ⟨he, acc, j, by omega, by omega, rfl, rfl⟩
end
section

theorem read_operator (w0 : World) (l : List OpT) (t : List Tok) (i : Nat) (x : Tok) (σ : H) (b : Nat) (hb : σ[b]? = some (rdr l t i)) :
    DC Tryz.prog w0 172 [.ptr b 0, x.v] σ (Same (foundV (opOf l x)) σ) := by
  have hlt := (List.getElem?_eq_some_iff.1 hb).1
  have hg := fun L => hgetb (σ := σ) L hlt
  refine k172.go rfl (fun hok hsz => ?_)
  rw [rdr] at hb
  ((try refine W.a ?_); simp only [go_sem, seval, reduceCtorEq, c172, hg, hb])
  apply W.dregE (List.cons_ne_nil _ _)
  case hc =>
    (apply CanonE.advPO; simp only [go_sem, seval, reduceCtorEq, hg, hb])
    (apply CanonE.call (ops_Is w0 l x _); (case hg => rfl); (case hf => rfl); (case ha => first | rfl | simp))
    (apply CanonE.advPO; simp only [go_sem, seval, reduceCtorEq, foundV])
    exact CanonE.nil
  ((try refine W.a ?_); simp only [go_sem, seval, reduceCtorEq])
  (refine W.ret (Fin.same hok (by simp only [resEval, r172, go_sem, seval, reduceCtorEq]; rfl) ?_ (by first | exact .c _ | (simp only [go_sem, seval, reduceCtorEq, foundV, OpT.v]; done)) (by first | exact ⟨[], (List.append_nil _).symm⟩ | exact ⟨_, rfl⟩)); simp only [resV, foundV, OpT.v])
  rfl
theorem read_begins (w0 : World) (l : List OpT) (t : List Tok) (i : Nat) (σ : H) (b : Nat) (hb : σ[b]? = some (rdr l t i)) (hi : i ≤ 2000000) (ht : t.length ≤ 1000000) :
    DC Tryz.prog w0 204 [.ptr b 0] σ (Same (B (beginsL l (tokL t i))) σ) := by
  have hlt := (List.getElem?_eq_some_iff.1 hb).1
  have hg := fun L => hgetb (σ := σ) L hlt
  refine k204.go rfl (fun hok hsz => ?_)
  ((try refine W.a ?_); simp only [go_sem, seval, reduceCtorEq, c204])
  (refine W.c1 (read_tok w0 l t i 0 _ b hb (by omega) ht) ?_; simp only [go_sem, seval, reduceCtorEq])
  generalize tokL t i = x
  cases h1 : (x.kind == 1)
  · ((try refine W.a ?_); simp only [go_sem, seval, reduceCtorEq, h1])
    refine W.no rfl ?_
    cases h4 : (x.kind == 4)
    · have hk : ¬ (x.kind = 1 ∨ x.kind = 4) := by
        simp only [beq_eq_false_iff_ne] at h1 h4
        rintro (h | h)
        · exact h1 h
        · exact h4 h
      ((try refine W.a ?_); simp only [go_sem, seval, reduceCtorEq, h4])
      refine W.no rfl ?_
      cases h2 : (x.kind == 2)
      · ((try refine W.a ?_); simp only [go_sem, seval, reduceCtorEq, h2])
        refine W.no rfl ?_
        cases h3 : (x.kind == 3)
        · ((try refine W.a ?_); simp only [go_sem, seval, reduceCtorEq, h3])
          refine W.no rfl ?_
          cases h5 : (x.kind == 5)
          · ((try refine W.a ?_); simp only [go_sem, seval, reduceCtorEq, h5])
            refine W.no rfl ?_
            ((try refine W.a ?_); simp only [go_sem, seval, reduceCtorEq])
            (refine W.ret (Fin.same hok (by simp only [resEval, r204, go_sem, seval, reduceCtorEq]; rfl) ?_ (by first | exact .c _ | (simp only [go_sem, seval, reduceCtorEq]; done)) (by first | exact ⟨[], (List.append_nil _).symm⟩ | exact ⟨_, rfl⟩)); simp only [resV])
            rw [beginsL, if_neg hk]; simp_all
          · ((try refine W.a ?_); simp only [go_sem, seval, reduceCtorEq, h5])
            refine W.yes rfl ?_
            ((try refine W.a ?_); simp only [go_sem, seval, reduceCtorEq])
            (refine W.ret (Fin.same hok (by simp only [resEval, r204, go_sem, seval, reduceCtorEq]; rfl) ?_ (by first | exact .c _ | (simp only [go_sem, seval, reduceCtorEq]; done)) (by first | exact ⟨[], (List.append_nil _).symm⟩ | exact ⟨_, rfl⟩)); simp only [resV])
            rw [beginsL, if_neg hk]; simp_all
        · ((try refine W.a ?_); simp only [go_sem, seval, reduceCtorEq, h3])
          refine W.yes rfl ?_
          ((try refine W.a ?_); simp only [go_sem, seval, reduceCtorEq])
          refine W.yes rfl ?_
          ((try refine W.a ?_); simp only [go_sem, seval, reduceCtorEq])
          (refine W.ret (Fin.same hok (by simp only [resEval, r204, go_sem, seval, reduceCtorEq]; rfl) ?_ (by first | exact .c _ | (simp only [go_sem, seval, reduceCtorEq]; done)) (by first | exact ⟨[], (List.append_nil _).symm⟩ | exact ⟨_, rfl⟩)); simp only [resV])
          rw [beginsL, if_neg hk]; simp_all
      · ((try refine W.a ?_); simp only [go_sem, seval, reduceCtorEq, h2])
        refine W.yes rfl ?_
        ((try refine W.a ?_); simp only [go_sem, seval, reduceCtorEq])
        refine W.yes rfl ?_
        ((try refine W.a ?_); simp only [go_sem, seval, reduceCtorEq])
        (refine W.ret (Fin.same hok (by simp only [resEval, r204, go_sem, seval, reduceCtorEq]; rfl) ?_ (by first | exact .c _ | (simp only [go_sem, seval, reduceCtorEq]; done)) (by first | exact ⟨[], (List.append_nil _).symm⟩ | exact ⟨_, rfl⟩)); simp only [resV])
        rw [beginsL, if_neg hk]; simp_all
    · have hk : x.kind = 1 ∨ x.kind = 4 := .inr (by simpa using h4)
      ((try refine W.a ?_); simp only [go_sem, seval, reduceCtorEq, h4])
      refine W.yes rfl ?_
      ((try refine W.a ?_); simp only [go_sem, seval, reduceCtorEq])
      (refine W.c1 (read_operator w0 l t i x _ b ((hg _).trans hb)) ?_; simp only [go_sem, seval, reduceCtorEq, foundV])
      (refine W.ret (Fin.same hok (by simp only [resEval, r204, go_sem, seval, reduceCtorEq]; rfl) ?_ (by first | exact .c _ | (simp only [go_sem, seval, reduceCtorEq]; done)) (by first | exact ⟨[], (List.append_nil _).symm⟩ | exact ⟨_, rfl⟩)); simp only [resV])
      rw [beginsL, if_pos hk]; cases opOf l x <;> rfl
  · have hk : x.kind = 1 ∨ x.kind = 4 := .inl (by simpa using h1)
    ((try refine W.a ?_); simp only [go_sem, seval, reduceCtorEq, h1])
    refine W.yes rfl ?_
    ((try refine W.a ?_); simp only [go_sem, seval, reduceCtorEq])
    refine W.yes rfl ?_
    ((try refine W.a ?_); simp only [go_sem, seval, reduceCtorEq])
    (refine W.c1 (read_operator w0 l t i x _ b ((hg _).trans hb)) ?_; simp only [go_sem, seval, reduceCtorEq, foundV])
    (refine W.ret (Fin.same hok (by simp only [resEval, r204, go_sem, seval, reduceCtorEq]; rfl) ?_ (by first | exact .c _ | (simp only [go_sem, seval, reduceCtorEq]; done)) (by first | exact ⟨[], (List.append_nil _).symm⟩ | exact ⟨_, rfl⟩)); simp only [resV])
    rw [beginsL, if_pos hk]; cases opOf l x <;> rfl
theorem read_lambda (w0 : World) (l : List OpT) (t : List Tok) (i : Nat) (σ : H) (b : Nat) (hb : σ[b]? = some (rdr l t i)) (hi : i ≤ 2000000) (ht : t.length ≤ 1000000) :
    DC Tryz.prog w0 202 [.ptr b 0] σ (Same (B (lamAt t i)) σ) := by
  refine k202.go rfl (fun hok hsz => ?_)
  ((try refine W.a ?_); simp only [go_sem, seval, reduceCtorEq, c202])
  cases h1 : ((tokL t i).kind == 1) <;> cases h2 : ((tokL t i).kind == 2)
  · (refine W.c1 (read_tok w0 l t i 0 _ b hb (by omega) ht) ?_; simp only [go_sem, seval, reduceCtorEq, h1, h2])
    (refine W.ret (Fin.same hok (by simp only [resEval, r202, go_sem, seval, reduceCtorEq]; rfl) ?_ (by first | exact .c _ | (simp only [go_sem, seval, reduceCtorEq]; done)) (by first | exact ⟨[], (List.append_nil _).symm⟩ | exact ⟨_, rfl⟩)); simp only [resV])
    first | (simp_all [lamAt]; done) | (simp_all [lamAt]; rfl)
  all_goals
    (refine W.c1 (read_tok w0 l t i 0 _ b hb (by omega) ht) ?_; simp only [go_sem, seval, reduceCtorEq, h1, h2])
    (refine W.c1 (read_tok w0 l t i 1 _ b hb (by omega) ht) ?_; simp only [go_sem, seval, reduceCtorEq, h1, h2])
    (refine W.ret (Fin.same hok (by simp only [resEval, r202, go_sem, seval, reduceCtorEq]; rfl) ?_ (by first | exact .c _ | (simp only [go_sem, seval, reduceCtorEq]; done)) (by first | exact ⟨[], (List.append_nil _).symm⟩ | exact ⟨_, rfl⟩)); simp only [resV])
    first | (simp_all [lamAt]; done) | (simp_all [lamAt]; rfl)
theorem wrong_ok (w0 : World) (e p : Int) (σ : H) : DC Tryz.prog w0 132 [.agg [I e, I p]] σ (Same (B (e == 0)) σ) := by
  refine k132.go rfl (fun hok hsz => ?_)
  ((try refine W.a ?_); simp only [go_sem, seval, reduceCtorEq, c132])
  (refine W.ret (Fin.same hok (by simp only [resEval, r132, go_sem, seval, reduceCtorEq]; rfl) ?_ (by first | exact .c _ | (simp only [go_sem, seval, reduceCtorEq]; done)) (by first | exact ⟨[], (List.append_nil _).symm⟩ | exact ⟨_, rfl⟩)); simp only [resV])
end
section

def preN (p : Pre) : List V := [I p.k, S p.name, I p.n, .csl (p.l.map Pre.cs), I p.pos]
def applyAt (o : OpT) (pos : Int) (a b : Pre) : Nat → Pre
  | 0 => .mk 0 o.name 0 [] pos
  | 1 => Pre.app (.mk 0 o.name 0 [] pos) a pos
  | _ => applyL o pos a b
theorem applyAt_0 (o : OpT) (pos : Int) (a b : Pre) : applyAt o pos a b 0 = .mk 0 o.name 0 [] pos := rfl
theorem applyAt_1 (o : OpT) (pos : Int) (a b : Pre) : applyAt o pos a b 1 = Pre.app (.mk 0 o.name 0 [] pos) a pos := rfl
theorem applyAt_2 (o : OpT) (pos : Int) (a b : Pre) : applyAt o pos a b 2 = applyL o pos a b := rfl
theorem read_apply (w0 : World) (o : OpT) (pos : Int) (a b : Pre) (σ : H) : DC Tryz.prog w0 174 [o.v, I pos, a.v, b.v] σ (Same (applyL o pos a b).v σ) := by
  refine k174.go rfl (fun hok hsz => ?_)
  ((try refine W.a ?_); simp only [go_sem, seval, reduceCtorEq, c174])
  refine W.loopP (fun i => i ≤ 2)
    (fun i => ⟨((((((base.put (some 1) (I pos)).put (some 8) (.ptr (σ.length + 3) 0)).put (some 9) (.ptr (σ.length + 4) 0)).put (some 18) (.csl [a.cs, b.cs])).put (some 19) (I 2)).put (some 20) (I (i : Nat))), σ ++ [.cells o.v.cellsV, .cells a.v.cellsV, .cells b.v.cellsV, .cells [I 0, S [], I 0, .csl [], I 0], .cells (preN (applyAt o pos a b i))]⟩) (fun i => 2 - i) 0 (by omega) ?_ (fun i hi => ?_)
  · simp only [go_sem, seval, reduceCtorEq, preN, applyAt_0]
    (refine Lew.env ?_; exact lee_here)
  · have h3 : i = 0 ∨ i = 1 ∨ i = 2 := by omega
    rcases h3 with rfl | rfl | rfl
    · ((try refine W.a ?_); simp only [go_sem, seval, reduceCtorEq, preN, applyAt_0])
      refine W.yes (by rfl) ?_
      ((try refine W.a ?_); simp only [go_sem, seval, reduceCtorEq, show IntKind.i64.wrap 1 = 1 from rfl])
      refine .inv ⟨1, by omega, by omega, ?_⟩
      simp only [go_sem, seval, reduceCtorEq, preN, applyAt_1]
      (refine Lew.cutL (hok) ?_ (by simp) (by simp) ?_ ?_ ?_; exact lee_here; ((try simp only [okB, wkB, go_sem, seval, reduceCtorEq]) <;> omega); (simp only [List.length_cons, List.length_nil, Nat.reduceAdd, List.take_succ_cons, List.take_zero, wkB, and_true]; (repeat' (refine And.intro ?_ ?_)) <;> (first | exact Blk.wk.rfl _ | exact Blk.wk.gone _ | (refine Blk.wk_cells ?_ rfl; (exact wk_here)))); (repeat' (first | exact LowE.base _ | (refine LowE.put ?_ (by first | exact .c _ | ((try simp only [okB, wkB, go_sem, seval, reduceCtorEq]) <;> omega))))))
    · ((try refine W.a ?_); simp only [go_sem, seval, reduceCtorEq, preN, applyAt_1])
      refine W.yes (by rfl) ?_
      ((try refine W.a ?_); simp only [go_sem, seval, reduceCtorEq, show IntKind.i64.wrap 2 = 2 from rfl])
      refine .inv ⟨2, by omega, by omega, ?_⟩
      simp only [go_sem, seval, reduceCtorEq, preN, applyAt_2]
      (refine Lew.cutL (hok) ?_ (by simp) (by simp) ?_ ?_ ?_; exact lee_here; ((try simp only [okB, wkB, go_sem, seval, reduceCtorEq]) <;> omega); (simp only [List.length_cons, List.length_nil, Nat.reduceAdd, List.take_succ_cons, List.take_zero, wkB, and_true]; (repeat' (refine And.intro ?_ ?_)) <;> (first | exact Blk.wk.rfl _ | exact Blk.wk.gone _ | (refine Blk.wk_cells ?_ rfl; (exact wk_here)))); (repeat' (first | exact LowE.base _ | (refine LowE.put ?_ (by first | exact .c _ | ((try simp only [okB, wkB, go_sem, seval, reduceCtorEq]) <;> omega))))))
    · ((try refine W.a ?_); simp only [go_sem, seval, reduceCtorEq, preN, applyAt_2])
      refine W.no (by rfl) ?_
      ((try refine W.a ?_); simp only [go_sem, seval, reduceCtorEq])
      (refine W.fs (hok) (by simp only [r174, go_sem, seval, reduceCtorEq]; rfl) ?_; simp only [resV]; try exact V.wk.rfl _)
      (all_goals exact wk_here)
end
section

def wrongV (e p : Int) : V := .agg [I e, I p]
def byC (m : Made) : C := match m.by_ with
  | none => .nilp
  | some (o, _) => .ref o.cs 0
def madeV (m : Made) (k : Tok) : V := .agg [I m.p.k, S m.p.name, I m.p.n, .c (.sl (m.p.l.map Pre.cs)), I m.p.pos, .c (byC m), I k.kind, S k.text, I k.n, I k.pos]
def fitsK (m : Made) (k : Tok) : Prop := ∀ o p, m.by_ = some (o, p) → k.pos = p
def RAtom (l : List OpT) (t : List Tok) (σ : H) (b : Nat) (r : Except Bad (Pre × Nat)) : V → H → Prop := fun d σ' => match r with
  | .ok (p, j) => d = .tup [p.v, wrongV 0 0] ∧ σ' = σ.set b (rdr l t j)
  | .error x => (x.e == 0) = false ∧ ∃ (q : Pre) (j : Nat), d = .tup [q.v, wrongV x.e x.pos] ∧ σ' = σ.set b (rdr l t j)
def RExpr (l : List OpT) (t : List Tok) (σ : H) (b : Nat) (r : Except Bad (Made × Nat)) : V → H → Prop := fun d σ' => match r with
  | .ok (m, j) => ∃ k, fitsK m k ∧ d = .tup [madeV m k, wrongV 0 0] ∧ σ' = σ.set b (rdr l t j)
  | .error x => (x.e == 0) = false ∧ ∃ m k j, d = .tup [madeV m k, wrongV x.e x.pos] ∧ σ' = σ.set b (rdr l t j)
def ExprOK (w0 : World) (f : Nat) : Prop := ∀ (l : List OpT) (t : List Tok) (least : Int) (depth i : Nat) (r : Except Bad (Made × Nat)) (σ : H) (b : Nat), exprF f l t least depth i = some r → σ[b]? = some (rdr l t i) → i ≤ t.length → t.length ≤ 1000000 → depth ≤ 200 →
  DC Tryz.prog w0 131 [.ptr b 0, I least, I depth] σ (RExpr l t σ b r)
def AtomOK (w0 : World) (f : Nat) : Prop := ∀ (l : List OpT) (t : List Tok) (depth i : Nat) (r : Except Bad (Pre × Nat)) (σ : H) (b : Nat), atomF f l t depth i = some r → σ[b]? = some (rdr l t i) → i ≤ t.length → t.length ≤ 1000000 → depth ≤ 200 →
  DC Tryz.prog w0 203 [.ptr b 0, I depth] σ (RAtom l t σ b r)
theorem rdr_ok {σ : H} (h : H.ok σ) (b : Nat) (l : List OpT) (t : List Tok) (j : Nat) : H.ok (σ.set b (rdr l t j)) := H.ok_set h fun x hx => by
  simp only [List.mem_cons, List.not_mem_nil, or_false] at hx
  rcases hx with rfl | rfl | rfl <;> exact .c _
def innerF (f : Nat) (l : List OpT) (t : List Tok) (least : Int) (depth i : Nat) (pos : Int) : Option (Except Bad (Made × Nat)) := if 200 ≤ depth then some (.error ⟨31, pos⟩) else exprF f l t least (depth + 1) i
def Tok.zero : Tok := ⟨0, [], 0, 0⟩
theorem read_inner {w0 : World} {f : Nat} (hE : ExprOK w0 f) (l : List OpT) (t : List Tok) (least : Int) (depth i : Nat) (k : Tok) (r : Except Bad (Made × Nat)) (σ : H) (b : Nat) (h : innerF f l t least depth i k.pos = some r) (hb : σ[b]? = some (rdr l t i)) (hi : i ≤ t.length) (ht : t.length ≤ 1000000) (hd : depth ≤ 200) :
    DC Tryz.prog w0 173 [.ptr b 0, I least, I depth, k.v] σ (RExpr l t σ b r) := by
  have hlt := (List.getElem?_eq_some_iff.1 hb).1
  refine k173.go rfl (fun hok hsz => ?_)
  rw [innerF] at h
  split at h
  · rename_i hc
    injection h with h
    subst h
    have h1 : (depth : Int) ≥ 200 := by omega
    ((try refine W.a ?_); simp only [go_sem, seval, reduceCtorEq, c173, h1])
    refine W.yes rfl ?_
    ((try refine W.a ?_); simp only [go_sem, seval, reduceCtorEq])
    (apply W.dregE (List.cons_ne_nil _ _); case hc => ((apply CanonE.advPO; simp only [go_sem, seval, reduceCtorEq]); exact CanonE.nil))
    ((try refine W.a ?_); simp only [go_sem, seval, reduceCtorEq])
    (refine W.fg (hok) (d := .tup [madeV ⟨Pre.none, none⟩ Tok.zero, wrongV 31 k.pos]) (by simp only [r173, go_sem, seval, reduceCtorEq, madeV, wrongV, byC, Pre.none, Tok.zero, List.map_nil]; rfl) (by simp only [resV, go_sem, seval, reduceCtorEq, madeV, wrongV, byC, Pre.none, Tok.zero, List.map_nil]; exact wk_here) ?_ (hl := by (first | exact .c _ | (simp only [go_sem, seval, reduceCtorEq, madeV, wrongV, byC, Pre.none, Tok.zero, List.map_nil]; done))))
    exact ⟨rfl, ⟨Pre.none, none⟩, Tok.zero, i, rfl, (set_here hb).symm⟩
  · rename_i hc
    have h1 : ¬ (depth : Int) ≥ 200 := by omega
    have hw : IntKind.i64.wrap ((depth : Int) + 1) = ((depth + 1 : Nat) : Int) := wrap_next (n := 201) (by omega) (by omega)
    ((try refine W.a ?_); simp only [go_sem, seval, reduceCtorEq, c173, h1])
    refine W.no rfl ?_
    ((try refine W.a ?_); simp only [go_sem, seval, reduceCtorEq, hw])
    (refine W.call (hE l t least (depth + 1) i r _ b h (hG hb _) hi ht (by omega)) rfl rfl (by first | rfl | simp) ?_)
    intro v σ1 hR
    cases r with
    | ok x =>
      obtain ⟨k', hk, rfl, rfl⟩ := hR
      ((try refine W.a ?_); simp only [go_sem, seval, reduceCtorEq, hS hb, madeV, wrongV])
      (refine W.fg (rdr_ok hok b l t x.2) (d := .tup [madeV x.1 k', wrongV 0 0]) (by simp only [r173, go_sem, seval, reduceCtorEq, madeV, wrongV]; rfl) (by simp only [resV, go_sem, seval, reduceCtorEq, madeV, wrongV]; exact wk_here) ?_ (hl := by (first | exact .c _ | (simp only [go_sem, seval, reduceCtorEq, madeV, wrongV]; done))))
      exact ⟨k', hk, rfl, rfl⟩
    | error x =>
      obtain ⟨he, m, k', j, rfl, rfl⟩ := hR
      ((try refine W.a ?_); simp only [go_sem, seval, reduceCtorEq, hS hb, madeV, wrongV])
      (refine W.fg (rdr_ok hok b l t j) (d := .tup [madeV m k', wrongV x.e x.pos]) (by simp only [r173, go_sem, seval, reduceCtorEq, madeV, wrongV]; rfl) (by simp only [resV, go_sem, seval, reduceCtorEq, madeV, wrongV]; exact wk_here) ?_ (hl := by (first | exact .c _ | (simp only [go_sem, seval, reduceCtorEq, madeV, wrongV]; done))))
      exact ⟨he, m, k', j, rfl, rfl⟩
end
section

def bracketsF (f : Nat) (l : List OpT) (t : List Tok) (depth i : Nat) : Option (Except Bad (Pre × Nat)) :=
  if (opOf l (tokL t (i + 1))).isSome ∧ (tokL t (i + 2)).kind = 6 then some (.ok (.mk 0 (tokL t (i + 1)).text 0 [] (tokL t (i + 1)).pos, i + 3))
  else match innerF f l t 0 depth (i + 1) (tokL t i).pos with
    | none => none
    | some (.error b) => some (.error b)
    | some (.ok (m, j)) => if (tokL t j).kind = 6 then some (.ok (m.p, j + 1)) else some (.error ⟨30, (tokL t j).pos⟩)
theorem innerF_bound {f : Nat} {l : List OpT} {t : List Tok} {least : Int} {depth i : Nat} {pos : Int} {m : Made} {j : Nat} (h : innerF f l t least depth i pos = some (.ok (m, j))) : i < j ∧ j ≤ t.length := by
  rw [innerF] at h
  split at h
  · cases h
  · exact (fuel_bounds f).2.2.1 _ _ _ _ _ _ _ h
theorem read_brackets {w0 : World} {f : Nat} (hE : ExprOK w0 f) (l : List OpT) (t : List Tok) (depth i : Nat) (r : Except Bad (Pre × Nat)) (σ : H) (b : Nat) (h : bracketsF f l t depth i = some r) (hb : σ[b]? = some (rdr l t i)) (hi : i < t.length) (ht : t.length ≤ 1000000) (hd : depth ≤ 200) :
    DC Tryz.prog w0 239 [.ptr b 0, I depth] σ (RAtom l t σ b r) := by
  have hlt := (List.getElem?_eq_some_iff.1 hb).1
  refine k239.go rfl (fun hok hsz => ?_)
  have hbe : σ[b]? = some (.cells [.c (opsC l), .c (toksC t), I i]) := hb
  ((try refine W.a ?_); simp only [go_sem, seval, reduceCtorEq, c239])
  (refine W.c1 (read_tok w0 l t i 0 _ b (hG hb _) (by omega) ht) ?_; simp only [go_sem, seval, reduceCtorEq])
  (refine W.c1 (read_tok w0 l t i 1 _ b (hG hb _) (by omega) ht) ?_; simp only [go_sem, seval, reduceCtorEq])
  rw [bracketsF] at h
  by_cases hc : (opOf l (tokL t (i + 1))).isSome ∧ (tokL t (i + 2)).kind = 6
  · rw [if_pos hc] at h
    injection h with h
    subst h
    obtain ⟨hc1, hc2⟩ := hc
    have hw : IntKind.i64.wrap ((i : Int) + 3) = ((i + 3 : Nat) : Int) := by rw [wrap_in] <;> omega
    (refine W.c1 (read_operator w0 l t i (tokL t (i + 1)) _ b (hG hb _)) ?_; simp only [go_sem, seval, reduceCtorEq, foundV, hc1])
    (refine W.c1 (read_tok w0 l t i 2 _ b (hG hb _) (by omega) ht) ?_; simp only [go_sem, seval, reduceCtorEq, hc2])
    refine W.yes rfl ?_
    ((try refine W.a ?_); simp only [go_sem, seval, reduceCtorEq, hG hbe, hS hb, hw])
    (refine W.fg (rdr_ok hok b l t (i + 3)) (d := .tup [(Pre.mk 0 (tokL t (i + 1)).text 0 [] (tokL t (i + 1)).pos).v, wrongV 0 0]) (by simp only [r239, go_sem, seval, reduceCtorEq, wrongV]; rfl) (by simp only [resV, go_sem, seval, reduceCtorEq, wrongV]; exact wk_here) ?_ (hl := by (first | exact .c _ | (simp only [go_sem, seval, reduceCtorEq, wrongV]; done))))
    exact ⟨rfl, rfl⟩
  · rw [if_neg hc] at h
    have hw : IntKind.i64.wrap ((i : Int) + 1) = ((i + 1 : Nat) : Int) := by rw [wrap_in] <;> omega
    have two : (opOf l (tokL t (i + 1))).isSome = false ∨ ((opOf l (tokL t (i + 1))).isSome = true ∧ ((tokL t (i + 2)).kind == 6) = false) := by
      cases ho : (opOf l (tokL t (i + 1))).isSome
      · exact .inl rfl
      · refine .inr ⟨rfl, ?_⟩
        cases h6 : ((tokL t (i + 2)).kind == 6)
        · rfl
        · exact absurd ⟨ho, by simpa using h6⟩ hc
    rcases two with ho | ⟨ho, h6⟩
    all_goals first
      | ((refine W.c1 (read_operator w0 l t i (tokL t (i + 1)) _ b (hG hb _)) ?_; simp only [go_sem, seval, reduceCtorEq, foundV, ho])
         (refine W.c1 (read_tok w0 l t i 2 _ b (hG hb _) (by omega) ht) ?_; simp only [go_sem, seval, reduceCtorEq, h6])
         refine W.no rfl ?_)
      | ((refine W.c1 (read_operator w0 l t i (tokL t (i + 1)) _ b (hG hb _)) ?_; simp only [go_sem, seval, reduceCtorEq, foundV, ho])
         refine W.no rfl ?_)
    all_goals
      ((try refine W.a ?_); simp only [go_sem, seval, reduceCtorEq, hG hbe, hS hb, hw])
      cases hr : innerF f l t 0 depth (i + 1) (tokL t i).pos with
      | none => rw [hr] at h; cases h
      | some y =>
        rw [hr] at h
        (refine W.call (read_inner hE l t 0 depth (i + 1) (tokL t i) y _ b hr (hG' hb _ _) (by omega) ht hd) rfl rfl (by first | rfl | simp) ?_)
        intro v σ1 hR
        cases y with
        | error x =>
          injection h with h
          subst h
          obtain ⟨he, m, k', j, rfl, rfl⟩ := hR
          ((try refine W.a ?_); simp only [go_sem, seval, reduceCtorEq, hS' hb, madeV, wrongV])
          (refine W.c1 (wrong_ok w0 x.e x.pos _) ?_; simp only [go_sem, seval, reduceCtorEq, he])
          refine W.yes rfl ?_
          ((try refine W.a ?_); simp only [go_sem, seval, reduceCtorEq])
          (apply W.dregE (List.cons_ne_nil _ _); case hc => ((apply CanonE.advPO; simp only [go_sem, seval, reduceCtorEq]); exact CanonE.nil))
          ((try refine W.a ?_); simp only [go_sem, seval, reduceCtorEq])
          (refine W.fg (rdr_ok hok b l t j) (d := .tup [Pre.none.v, wrongV x.e x.pos]) (by simp only [r239, go_sem, seval, reduceCtorEq, wrongV, Pre.none]; rfl) (by simp only [resV, go_sem, seval, reduceCtorEq, wrongV, Pre.none]; exact wk_here) ?_ (hl := by (first | exact .c _ | (simp only [go_sem, seval, reduceCtorEq, wrongV, Pre.none]; done))))
          exact ⟨he, Pre.none, j, rfl, rfl⟩
        | ok y =>
          obtain ⟨m, j⟩ := y
          obtain ⟨k', hk, rfl, rfl⟩ := hR
          have hj := innerF_bound hr
          ((try refine W.a ?_); simp only [go_sem, seval, reduceCtorEq, hS' hb, madeV, wrongV])
          (refine W.c1 (wrong_ok w0 0 0 _) ?_; simp only [go_sem, seval, reduceCtorEq])
          refine W.no rfl ?_
          ((try refine W.a ?_); simp only [go_sem, seval, reduceCtorEq])
          (refine W.c1 (read_tok w0 l t j 0 _ b (hG' hb _ _) (by omega) ht) ?_; simp only [go_sem, seval, reduceCtorEq])
          simp only at h
          cases h6 : ((tokL t j).kind == 6)
          · have h6' : ¬ (tokL t j).kind = 6 := by simpa using h6
            have h6n : ((tokL t j).kind != 6) = true := by simpa using h6
            rw [if_neg h6'] at h
            injection h with h
            subst h
            ((try refine W.a ?_); simp only [go_sem, seval, reduceCtorEq, h6n])
            refine W.yes rfl ?_
            ((try refine W.a ?_); simp only [go_sem, seval, reduceCtorEq])
            (apply W.dregE (List.cons_ne_nil _ _); case hc => ((apply CanonE.advPO; simp only [go_sem, seval, reduceCtorEq]); exact CanonE.nil))
            ((try refine W.a ?_); simp only [go_sem, seval, reduceCtorEq])
            (refine W.fg (rdr_ok hok b l t j) (d := .tup [Pre.none.v, wrongV 30 (tokL t j).pos]) (by simp only [r239, go_sem, seval, reduceCtorEq, wrongV, Pre.none]; rfl) (by simp only [resV, go_sem, seval, reduceCtorEq, wrongV, Pre.none]; exact wk_here) ?_ (hl := by (first | exact .c _ | (simp only [go_sem, seval, reduceCtorEq, wrongV, Pre.none]; done))))
            exact ⟨rfl, Pre.none, j, rfl, rfl⟩
          · have h6' : (tokL t j).kind = 6 := by simpa using h6
            have h6n : ((tokL t j).kind != 6) = false := by rw [h6']; rfl
            rw [if_pos h6'] at h
            injection h with h
            subst h
            have hw2 : IntKind.i64.wrap ((j : Int) + 1) = ((j + 1 : Nat) : Int) := by rw [wrap_in] <;> omega
            ((try refine W.a ?_); simp only [go_sem, seval, reduceCtorEq, h6n])
            refine W.no rfl ?_
            ((try refine W.a ?_); simp only [go_sem, seval, reduceCtorEq, hG' hb, hS' hb, rdr, hw2])
            (refine W.fg (rdr_ok hok b l t (j + 1)) (d := .tup [m.p.v, wrongV 0 0]) (by simp only [r239, go_sem, seval, reduceCtorEq, wrongV]; rfl) (by simp only [resV, go_sem, seval, reduceCtorEq, wrongV]; exact wk_here) ?_ (hl := by (first | exact .c _ | (simp only [go_sem, seval, reduceCtorEq, wrongV]; done))))
            exact ⟨rfl, rfl⟩
end
section

theorem atomF_eq (f : Nat) (l : List OpT) (t : List Tok) (depth i : Nat) : atomF (f + 1) l t depth i =
    if beginsL l (tokL t i) = false then some (.error ⟨30, (tokL t i).pos⟩)
    else if (tokL t i).kind = 5 then bracketsF f l t depth i
    else if (tokL t i).kind = 3 then some (.ok (.mk 2 [] (tokL t i).n [] (tokL t i).pos, i + 1))
    else if (tokL t i).kind ≠ 4 ∧ (tokL t (i + 1)).kind = 8 then
      match innerF f l t 0 depth (i + 2) (tokL t i).pos with
      | none => none
      | some (.error b) => some (.error b)
      | some (.ok (m, j)) => some (.ok (.mk 4 (tokL t i).text 0 [m.p] (tokL t i).pos, j))
    else some (.ok (.mk (if (tokL t i).kind = 2 then 1 else 0) (tokL t i).text 0 [] (tokL t i).pos, i + 1)) := by
  rw [atomF, bracketsF]
  simp only [innerF]
  by_cases hd : 200 ≤ depth
  · simp only [if_pos hd]
  · simp only [if_neg hd]
    rfl
theorem read_atom {w0 : World} {f : Nat} (hE : ExprOK w0 f) : AtomOK w0 (f + 1) := by
  intro l t depth i r σ b h hb hi ht hd
  have hlt := (List.getElem?_eq_some_iff.1 hb).1
  have hbe : σ[b]? = some (.cells [.c (opsC l), .c (toksC t), I i]) := hb
  rw [atomF_eq] at h
  refine k203.go rfl (fun hok hsz => ?_)
  ((try refine W.a ?_); simp only [go_sem, seval, reduceCtorEq, c203])
  (refine W.c1 (read_tok w0 l t i 0 _ b (hG hb _) (by omega) ht) ?_; simp only [go_sem, seval, reduceCtorEq])
  have hw : IntKind.i64.wrap ((i : Int) + 1) = ((i + 1 : Nat) : Int) := by rw [wrap_in] <;> omega
  cases hB : beginsL l (tokL t i)
  · rw [if_pos hB] at h
    injection h with h
    subst h
    (refine W.c1 (read_begins w0 l t i _ b (hG hb _) (by omega) ht) ?_; simp only [go_sem, seval, reduceCtorEq, hB])
    refine W.yes rfl ?_
    ((try refine W.a ?_); simp only [go_sem, seval, reduceCtorEq])
    (apply W.dregE (List.cons_ne_nil _ _); case hc => ((apply CanonE.advPO; simp only [go_sem, seval, reduceCtorEq]); exact CanonE.nil))
    ((try refine W.a ?_); simp only [go_sem, seval, reduceCtorEq])
    (refine W.fg (hok) (d := .tup [Pre.none.v, wrongV 30 (tokL t i).pos]) (by simp only [r203, go_sem, seval, reduceCtorEq, wrongV, Pre.none]; rfl) (by simp only [resV, go_sem, seval, reduceCtorEq, wrongV, Pre.none]; exact wk_here) ?_ (hl := by (first | exact .c _ | (simp only [go_sem, seval, reduceCtorEq, wrongV, Pre.none]; done))))
    exact ⟨rfl, Pre.none, i, rfl, (set_here hb).symm⟩
  · rw [if_neg (by rw [hB]; decide)] at h
    have hil : i < t.length := begins_lt (l := l) (by rw [hB]; decide)
    (refine W.c1 (read_begins w0 l t i _ b (hG hb _) (by omega) ht) ?_; simp only [go_sem, seval, reduceCtorEq, hB])
    refine W.no rfl ?_
    cases h5 : ((tokL t i).kind == 5)
    · rw [if_neg (by simpa using h5)] at h
      ((try refine W.a ?_); simp only [go_sem, seval, reduceCtorEq, h5])
      refine W.no rfl ?_
      cases h3 : ((tokL t i).kind == 3)
      · rw [if_neg (by simpa using h3)] at h
        ((try refine W.a ?_); simp only [go_sem, seval, reduceCtorEq, h3])
        refine W.no rfl ?_
        by_cases hc : (tokL t i).kind ≠ 4 ∧ (tokL t (i + 1)).kind = 8
        · rw [if_pos hc] at h
          obtain ⟨hc4, hc8⟩ := hc
          have h4 : ((tokL t i).kind != 4) = true := by simpa using hc4
          have hw2 : IntKind.i64.wrap ((i : Int) + 2) = ((i + 2 : Nat) : Int) := by rw [wrap_in] <;> omega
          have hi1 := tokL_lt (t := t) (i := i + 1) (by rw [hc8]; decide)
          ((try refine W.a ?_); simp only [go_sem, seval, reduceCtorEq, h4])
          (refine W.c1 (read_tok w0 l t i 1 _ b (hG hb _) (by omega) ht) ?_; simp only [go_sem, seval, reduceCtorEq, hc8])
          refine W.yes rfl ?_
          ((try refine W.a ?_); simp only [go_sem, seval, reduceCtorEq, hG hbe, hS hb, hw2])
          cases hr : innerF f l t 0 depth (i + 2) (tokL t i).pos with
          | none => rw [hr] at h; cases h
          | some y =>
            rw [hr] at h
            (refine W.call (read_inner hE l t 0 depth (i + 2) (tokL t i) y _ b hr (hG' hb _ _) (by omega) ht hd) rfl rfl (by first | rfl | simp) ?_)
            intro v σ1 hR
            cases y with
            | error x =>
              injection h with h
              subst h
              obtain ⟨he, m, k', j, rfl, rfl⟩ := hR
              ((try refine W.a ?_); simp only [go_sem, seval, reduceCtorEq, hS' hb, madeV, wrongV])
              (apply W.dregE (List.cons_ne_nil _ _); case hc => ((apply CanonE.advPO; simp only [go_sem, seval, reduceCtorEq]); exact CanonE.nil))
              ((try refine W.a ?_); simp only [go_sem, seval, reduceCtorEq])
              (refine W.fg (rdr_ok hok b l t j) (d := .tup [(Pre.mk 4 (tokL t i).text 0 [m.p] (tokL t i).pos).v, wrongV x.e x.pos]) (by simp only [r203, go_sem, seval, reduceCtorEq, wrongV]; rfl) (by simp only [resV, go_sem, seval, reduceCtorEq, wrongV]; exact wk_here) ?_ (hl := by (first | exact .c _ | (simp only [go_sem, seval, reduceCtorEq, wrongV]; done))))
              exact ⟨he, _, j, rfl, rfl⟩
            | ok y =>
              obtain ⟨m, j⟩ := y
              injection h with h
              subst h
              obtain ⟨k', hk, rfl, rfl⟩ := hR
              ((try refine W.a ?_); simp only [go_sem, seval, reduceCtorEq, hS' hb, madeV, wrongV])
              (apply W.dregE (List.cons_ne_nil _ _); case hc => ((apply CanonE.advPO; simp only [go_sem, seval, reduceCtorEq]); exact CanonE.nil))
              ((try refine W.a ?_); simp only [go_sem, seval, reduceCtorEq])
              (refine W.fg (rdr_ok hok b l t j) (d := .tup [(Pre.mk 4 (tokL t i).text 0 [m.p] (tokL t i).pos).v, wrongV 0 0]) (by simp only [r203, go_sem, seval, reduceCtorEq, wrongV]; rfl) (by simp only [resV, go_sem, seval, reduceCtorEq, wrongV]; exact wk_here) ?_ (hl := by (first | exact .c _ | (simp only [go_sem, seval, reduceCtorEq, wrongV]; done))))
              exact ⟨rfl, rfl⟩
        · rw [if_neg hc] at h
          injection h with h
          subst h
          have two : ((tokL t i).kind != 4) = false ∨ (((tokL t i).kind != 4) = true ∧ ((tokL t (i + 1)).kind == 8) = false) := by
            cases ho : ((tokL t i).kind != 4)
            · exact .inl rfl
            · refine .inr ⟨rfl, ?_⟩
              cases h6 : ((tokL t (i + 1)).kind == 8)
              · rfl
              · exact absurd ⟨by simpa using ho, by simpa using h6⟩ hc
          rcases two with ho | ⟨ho, h6⟩
          all_goals first
            | (((try refine W.a ?_); simp only [go_sem, seval, reduceCtorEq, ho])
               (refine W.c1 (read_tok w0 l t i 1 _ b (hG hb _) (by omega) ht) ?_; simp only [go_sem, seval, reduceCtorEq, h6])
               refine W.no rfl ?_)
            | (((try refine W.a ?_); simp only [go_sem, seval, reduceCtorEq, ho])
               refine W.no rfl ?_)
          all_goals
            cases h2 : ((tokL t i).kind == 2)
            · have h2' : ¬ (tokL t i).kind = 2 := by simpa using h2
              ((try refine W.a ?_); simp only [go_sem, seval, reduceCtorEq, h2])
              refine W.no rfl ?_
              ((try refine W.a ?_); simp only [go_sem, seval, reduceCtorEq, hG hbe, hS hb, hw])
              (refine W.fg (rdr_ok hok b l t (i + 1)) (d := .tup [(Pre.mk 0 (tokL t i).text 0 [] (tokL t i).pos).v, wrongV 0 0]) (by simp only [r203, go_sem, seval, reduceCtorEq, wrongV]; rfl) (by simp only [resV, go_sem, seval, reduceCtorEq, wrongV]; exact wk_here) ?_ (hl := by (first | exact .c _ | (simp only [go_sem, seval, reduceCtorEq, wrongV]; done))))
              exact ⟨by rw [if_neg h2'], rfl⟩
            · have h2' : (tokL t i).kind = 2 := by simpa using h2
              ((try refine W.a ?_); simp only [go_sem, seval, reduceCtorEq, h2])
              refine W.yes rfl ?_
              ((try refine W.a ?_); simp only [go_sem, seval, reduceCtorEq, hG hbe, hS hb, hw])
              (refine W.fg (rdr_ok hok b l t (i + 1)) (d := .tup [(Pre.mk 1 (tokL t i).text 0 [] (tokL t i).pos).v, wrongV 0 0]) (by simp only [r203, go_sem, seval, reduceCtorEq, wrongV]; rfl) (by simp only [resV, go_sem, seval, reduceCtorEq, wrongV]; exact wk_here) ?_ (hl := by (first | exact .c _ | (simp only [go_sem, seval, reduceCtorEq, wrongV]; done))))
              exact ⟨by rw [if_pos h2'], rfl⟩
      · rw [if_pos (by simpa using h3)] at h
        injection h with h
        subst h
        ((try refine W.a ?_); simp only [go_sem, seval, reduceCtorEq, h3])
        refine W.yes rfl ?_
        ((try refine W.a ?_); simp only [go_sem, seval, reduceCtorEq, hG hbe, hS hb, hw])
        (refine W.fg (rdr_ok hok b l t (i + 1)) (d := .tup [(Pre.mk 2 [] (tokL t i).n [] (tokL t i).pos).v, wrongV 0 0]) (by simp only [r203, go_sem, seval, reduceCtorEq, wrongV]; rfl) (by simp only [resV, go_sem, seval, reduceCtorEq, wrongV]; exact wk_here) ?_ (hl := by (first | exact .c _ | (simp only [go_sem, seval, reduceCtorEq, wrongV]; done))))
        exact ⟨rfl, rfl⟩
    · rw [if_pos (by simpa using h5)] at h
      ((try refine W.a ?_); simp only [go_sem, seval, reduceCtorEq, h5])
      refine W.yes rfl ?_
      ((try refine W.a ?_); simp only [go_sem, seval, reduceCtorEq])
      (refine W.call (read_brackets hE l t depth i r _ b h (hG hb _) hil ht hd) rfl rfl (by first | rfl | simp) ?_)
      intro v σ1 hR
      cases r with
      | ok x =>
        obtain ⟨rfl, rfl⟩ := hR
        ((try refine W.a ?_); simp only [go_sem, seval, reduceCtorEq, hS hb, wrongV])
        (refine W.fg (rdr_ok hok b l t x.2) (d := .tup [x.1.v, wrongV 0 0]) (by simp only [r203, go_sem, seval, reduceCtorEq, wrongV]; rfl) (by simp only [resV, go_sem, seval, reduceCtorEq, wrongV]; exact wk_here) ?_ (hl := by (first | exact .c _ | (simp only [go_sem, seval, reduceCtorEq, wrongV]; done))))
        exact ⟨rfl, rfl⟩
      | error x =>
        obtain ⟨he, q, j, rfl, rfl⟩ := hR
        ((try refine W.a ?_); simp only [go_sem, seval, reduceCtorEq, hS hb, wrongV])
        (refine W.fg (rdr_ok hok b l t j) (d := .tup [q.v, wrongV x.e x.pos]) (by simp only [r203, go_sem, seval, reduceCtorEq, wrongV]; rfl) (by simp only [resV, go_sem, seval, reduceCtorEq, wrongV]; exact wk_here) ?_ (hl := by (first | exact .c _ | (simp only [go_sem, seval, reduceCtorEq, wrongV]; done))))
        exact ⟨he, q, j, rfl, rfl⟩
end
section

def operandF (f : Nat) (l : List OpT) (t : List Tok) (depth i : Nat) : Option (Except Bad (Pre × Nat)) := match atomF f l t depth i with
  | none => none
  | some (.error b) => some (.error b)
  | some (.ok (p, j)) => argsF f l t depth j p p.pos (lamAt t i)
theorem operandF_bound {f : Nat} {l : List OpT} {t : List Tok} {depth i : Nat} {p : Pre} {j : Nat} (h : operandF f l t depth i = some (.ok (p, j))) : i < j ∧ j ≤ t.length := by
  rw [operandF] at h
  cases ha : atomF f l t depth i with
  | none => rw [ha] at h; cases h
  | some x =>
    rw [ha] at h
    cases x with
    | error b => cases h
    | ok x =>
      have h1 := (fuel_bounds f).1 _ _ _ _ _ _ ha
      have h2 := (fuel_bounds f).2.1 _ _ _ _ _ _ _ _ _ h h1.2
      omega
structure ArgsSt where
  g : Nat
  p : Pre
  i : Nat
  last : Bool
  e : Int
  pos : Int
theorem read_operand {w0 : World} {f : Nat} (hA : ∀ g, g ≤ f → AtomOK w0 g) (l : List OpT) (t : List Tok) (depth i : Nat) (r : Except Bad (Pre × Nat)) (σ : H) (b : Nat) (h : operandF f l t depth i = some r) (hb : σ[b]? = some (rdr l t i)) (hi : i ≤ t.length) (ht : t.length ≤ 1000000) (hd : depth ≤ 200) :
    DC Tryz.prog w0 170 [.ptr b 0, I depth] σ (RAtom l t σ b r) := by
  have hlt := (List.getElem?_eq_some_iff.1 hb).1
  have hbe : σ[b]? = some (.cells [.c (opsC l), .c (toksC t), I i]) := hb
  rw [operandF] at h
  refine k170.go rfl (fun hok hsz => ?_)
  ((try refine W.a ?_); simp only [go_sem, seval, reduceCtorEq, c170])
  (refine W.c1 (read_lambda w0 l t i _ b (hG hb _) (by omega) ht) ?_; simp only [go_sem, seval, reduceCtorEq])
  cases ha : atomF f l t depth i with
  | none => rw [ha] at h; cases h
  | some ra =>
    rw [ha] at h
    (refine W.call (hA f (Nat.le_refl f) l t depth i ra _ b ha (hG hb _) hi ht hd) rfl rfl (by first | rfl | simp) ?_)
    intro v σ1 hR
    have hx : ∃ x : ArgsSt, (x.e = 0 ∧ x.pos = 0 ∧ argsF x.g l t depth x.i x.p x.p.pos x.last = some r ∧ x.i ≤ t.length ∧ x.g ≤ f ∨ (x.e == 0) = false ∧ r = .error ⟨x.e, x.pos⟩) ∧ x.last = lamAt t i ∧
        v = .tup [x.p.v, wrongV x.e x.pos] ∧ σ1 = (σ ++ [Blk.cells [I 0, S [], I 0, .csl [], I 0], Blk.cells [I 0, I 0]]).set b (rdr l t x.i) := by
      cases ra with
      | ok y =>
        obtain ⟨rfl, rfl⟩ := hR
        exact ⟨⟨f, y.1, y.2, lamAt t i, 0, 0⟩, .inl ⟨rfl, rfl, h, ((fuel_bounds f).1 _ _ _ _ _ _ ha).2, Nat.le_refl f⟩, rfl, rfl, rfl⟩
      | error y =>
        obtain ⟨he, q, j, rfl, rfl⟩ := hR
        injection h with h
        exact ⟨⟨0, q, j, lamAt t i, y.e, y.pos⟩, .inr ⟨he, h.symm⟩, rfl, rfl, rfl⟩
    obtain ⟨x0, hinv0, hl0, rfl, rfl⟩ := hx
    ((try refine W.a ?_); simp only [go_sem, seval, reduceCtorEq, hS hb, wrongV])
    rw [← hl0]
    refine W.loopP (fun x : ArgsSt => (x.e = 0 ∧ x.pos = 0 ∧ argsF x.g l t depth x.i x.p x0.p.pos x.last = some r ∧ x.i ≤ t.length ∧ x.g ≤ f ∨ (x.e == 0) = false ∧ r = .error ⟨x.e, x.pos⟩))
      (fun x => ⟨((((((((base.put (some 0) (.ptr b 0)).put (some 1) (I depth)).put (some 4) (.ptr σ.length 0)).put (some 5) (.ptr (σ.length + 1) 0)).put (some 6) (B x.last)).put (some 7) (.ptr (σ.length + 2) 0)).put (some 8) (.ptr (σ.length + 3) 0)).put (some 9) (I x0.p.pos)), σ.set b (rdr l t x.i) ++ [.cells [I 0, S [], I 0, .csl [], I 0], .cells [I 0, I 0], .cells x.p.v.cellsV, .cells [I x.e, I x.pos]]⟩)
      (fun x => if x.e = 0 then x.g + 1 else 0) x0 hinv0 ?_ (fun x hx => ?_)
    · (refine Lew.env ?_; exact lee_here)
    · obtain ⟨g, p, i', last, e, pos⟩ := x
      simp only at hx
      rcases hx with ⟨rfl, rfl, hx, hi', hg⟩ | ⟨he, rfl⟩
      · obtain ⟨g', rfl⟩ : ∃ g', g = g' + 1 := by
          cases g with
          | zero => simp [argsF] at hx
          | succ g' => exact ⟨g', rfl⟩
        rw [argsF] at hx
        ((try refine W.a ?_); simp only [go_sem, seval, reduceCtorEq])
        by_cases hc : last = true ∨ beginsL l (tokL t i') = false
        · rw [if_pos hc] at hx
          injection hx with hx
          subst hx
          have two : last = true ∨ (last = false ∧ beginsL l (tokL t i') = false) := by
            cases last
            · exact .inr ⟨rfl, by simpa using hc⟩
            · exact .inl rfl
          rcases two with rfl | ⟨rfl, hB⟩
          all_goals first
            | ((refine W.c1 (wrong_ok w0 0 0 _) ?_; simp only [go_sem, seval, reduceCtorEq])
               (refine W.c1 (read_begins w0 l t i' _ b (hG' hb _ _) (by omega) ht) ?_; simp only [go_sem, seval, reduceCtorEq, hB])
               refine W.no rfl ?_)
            | ((refine W.c1 (wrong_ok w0 0 0 _) ?_; simp only [go_sem, seval, reduceCtorEq])
               refine W.no rfl ?_)
          all_goals
            ((try refine W.a ?_); simp only [go_sem, seval, reduceCtorEq])
            (apply W.dregE (List.cons_ne_nil _ _); case hc => ((apply CanonE.advPO; simp only [go_sem, seval, reduceCtorEq]); exact CanonE.nil))
            ((try refine W.a ?_); simp only [go_sem, seval, reduceCtorEq])
            (refine W.fg (rdr_ok hok b l t i') (d := .tup [p.v, wrongV 0 0]) (by simp only [r170, go_sem, seval, reduceCtorEq, wrongV]; rfl) (by simp only [resV, go_sem, seval, reduceCtorEq, wrongV]; exact wk_here) ?_ (hl := by (first | exact .c _ | (simp only [go_sem, seval, reduceCtorEq, wrongV]; done))))
            exact ⟨rfl, rfl⟩
        · rw [if_neg hc] at hx
          have hl : last = false := by cases last; rfl; exact absurd (.inl rfl) hc
          have hB : beginsL l (tokL t i') = true := by
            cases h : beginsL l (tokL t i')
            · exact absurd (.inr h) hc
            · rfl
          subst hl
          have hil : i' < t.length := begins_lt (l := l) (by rw [hB]; decide)
          (refine W.c1 (wrong_ok w0 0 0 _) ?_; simp only [go_sem, seval, reduceCtorEq])
          (refine W.c1 (read_begins w0 l t i' _ b (hG' hb _ _) (by omega) ht) ?_; simp only [go_sem, seval, reduceCtorEq, hB])
          refine W.yes rfl ?_
          ((try refine W.a ?_); simp only [go_sem, seval, reduceCtorEq])
          (refine W.c1 (read_lambda w0 l t i' _ b (hG' hb _ _) (by omega) ht) ?_; simp only [go_sem, seval, reduceCtorEq])
          cases ha' : atomF g' l t depth i' with
          | none => rw [ha'] at hx; cases hx
          | some ra' =>
            rw [ha'] at hx
            (refine W.call (hA g' (by omega) l t depth i' ra' _ b ha' (hG' hb _ _) hi' ht hd) rfl rfl (by first | rfl | simp) ?_)
            intro v σ1 hR
            cases ra' with
            | ok y =>
              obtain ⟨q, j⟩ := y
              obtain ⟨rfl, rfl⟩ := hR
              ((try refine W.a ?_); simp only [go_sem, seval, reduceCtorEq, hS' hb, wrongV])
              refine .inv ⟨⟨g', Pre.app p q x0.p.pos, j, lamAt t i', 0, 0⟩, .inl ⟨rfl, rfl, hx, ((fuel_bounds g').1 _ _ _ _ _ _ ha').2, Nat.le_of_succ_le hg⟩, by simp, ?_⟩
              simp only [go_sem, seval, reduceCtorEq]
              (refine Lew.cutL (rdr_ok hok b l t j) ?_ (by simp) (by simp) ?_ ?_ ?_; exact lee_here; ((try simp only [okB, wkB, go_sem, seval, reduceCtorEq]) <;> omega); (simp only [List.length_cons, List.length_nil, Nat.reduceAdd, List.take_succ_cons, List.take_zero, wkB, and_true]; (repeat' (refine And.intro ?_ ?_)) <;> (first | exact Blk.wk.rfl _ | exact Blk.wk.gone _ | (refine Blk.wk_cells ?_ rfl; (exact wk_here)))); (repeat' (first | exact LowE.base _ | (refine LowE.put ?_ (by first | exact .c _ | ((try simp only [okB, wkB, go_sem, seval, reduceCtorEq]) <;> omega))))))
            | error y =>
              obtain ⟨he, q, j, rfl, rfl⟩ := hR
              injection hx with hx
              subst hx
              have he' : ¬ y.e = 0 := by simpa using he
              ((try refine W.a ?_); simp only [go_sem, seval, reduceCtorEq, hS' hb, wrongV])
              refine .inv ⟨⟨g', Pre.app p q x0.p.pos, j, lamAt t i', y.e, y.pos⟩, .inr ⟨he, rfl⟩, by simp [he'], ?_⟩
              simp only [go_sem, seval, reduceCtorEq]
              (refine Lew.cutL (rdr_ok hok b l t j) ?_ (by simp) (by simp) ?_ ?_ ?_; exact lee_here; ((try simp only [okB, wkB, go_sem, seval, reduceCtorEq]) <;> omega); (simp only [List.length_cons, List.length_nil, Nat.reduceAdd, List.take_succ_cons, List.take_zero, wkB, and_true]; (repeat' (refine And.intro ?_ ?_)) <;> (first | exact Blk.wk.rfl _ | exact Blk.wk.gone _ | (refine Blk.wk_cells ?_ rfl; (exact wk_here)))); (repeat' (first | exact LowE.base _ | (refine LowE.put ?_ (by first | exact .c _ | ((try simp only [okB, wkB, go_sem, seval, reduceCtorEq]) <;> omega))))))
      · ((try refine W.a ?_); simp only [go_sem, seval, reduceCtorEq])
        (refine W.c1 (wrong_ok w0 e pos _) ?_; simp only [go_sem, seval, reduceCtorEq, he])
        refine W.no rfl ?_
        ((try refine W.a ?_); simp only [go_sem, seval, reduceCtorEq])
        (apply W.dregE (List.cons_ne_nil _ _); case hc => ((apply CanonE.advPO; simp only [go_sem, seval, reduceCtorEq]); exact CanonE.nil))
        ((try refine W.a ?_); simp only [go_sem, seval, reduceCtorEq])
        (refine W.fg (rdr_ok hok b l t i') (d := .tup [p.v, wrongV e pos]) (by simp only [r170, go_sem, seval, reduceCtorEq, wrongV]; rfl) (by simp only [resV, go_sem, seval, reduceCtorEq, wrongV]; exact wk_here) ?_ (hl := by (first | exact .c _ | (simp only [go_sem, seval, reduceCtorEq, wrongV]; done))))
        exact ⟨he, p, i', rfl, rfl⟩
end
section

theorem exprF_eq (f : Nat) (l : List OpT) (t : List Tok) (least : Int) (depth i : Nat) : exprF (f + 1) l t least depth i = match operandF f l t depth i with
    | none => none
    | some (.error b) => some (.error b)
    | some (.ok (q, k)) => chainF f l t least depth k ⟨q, none⟩ := by
  rw [exprF, operandF]
  cases atomF f l t depth i with
  | none => rfl
  | some x =>
    cases x with
    | error b => rfl
    | ok x =>
      simp only
      cases argsF f l t depth x.2 x.1 x.1.pos (lamAt t i) with
      | none => rfl
      | some y =>
        cases y with
        | error b => rfl
        | ok y => rfl
theorem chainF_eq (f : Nat) (l : List OpT) (t : List Tok) (least : Int) (depth i : Nat) (m : Made) : chainF (f + 1) l t least depth i m = match opOf l (tokL t i) with
    | none => some (.ok (m, i))
    | some o => if o.prec < least then some (.ok (m, i))
      else if clashL o m = true then some (.error ⟨32, (tokL t i).pos⟩)
      else match innerF f l t (nextL o) depth (i + 1) (tokL t i).pos with
        | none => none
        | some (.error b) => some (.error b)
        | some (.ok (r, j)) => match r.by_ with
          | some (b, pos) => if besideL o b 2 = true then chainF f l t least depth j ⟨applyL o (tokL t i).pos m.p r.p, some (o, (tokL t i).pos)⟩ else some (.error ⟨32, pos⟩)
          | none => chainF f l t least depth j ⟨applyL o (tokL t i).pos m.p r.p, some (o, (tokL t i).pos)⟩ := by
  rw [chainF]
  cases opOf l (tokL t i) with
  | none => rfl
  | some o =>
    simp only [innerF]
    by_cases hd : 200 ≤ depth
    · simp only [if_pos hd]
    · simp only [if_neg hd]
      rfl
structure ChainSt where
  g : Nat
  m : Made
  k : Tok
  i : Nat
  e : Int
  pos : Int
theorem byC_none {m : Made} (h : m.by_ = none) : byC m = .nilp := by rw [byC, h]
theorem byC_some {m : Made} {o : OpT} {p : Int} (h : m.by_ = some (o, p)) : byC m = .ref [.str o.name, .int .i64 o.prec, .int .i64 o.fix] 0 := by rw [byC, h]; rfl
theorem clash_none {o : OpT} {m : Made} (h : m.by_ = none) : clashL o m = false := by rw [clashL, h]
theorem clash_some {o o' : OpT} {p : Int} {m : Made} (h : m.by_ = some (o', p)) : clashL o m = !besideL o o' 1 := by rw [clashL, h]
set_option maxHeartbeats 4000000 in
theorem read_expr {w0 : World} {f : Nat} (hA : ∀ g, g ≤ f → AtomOK w0 g) (hE : ∀ g, g ≤ f → ExprOK w0 g) : ExprOK w0 (f + 1) := by
  intro l t least depth i r σ b h hb hi ht hd
  have hlt := (List.getElem?_eq_some_iff.1 hb).1
  have hbe : σ[b]? = some (.cells [.c (opsC l), .c (toksC t), I i]) := hb
  rw [exprF_eq] at h
  refine k131.go rfl (fun hok hsz => ?_)
  ((try refine W.a ?_); simp only [go_sem, seval, reduceCtorEq, c131])
  cases ha : operandF f l t depth i with
  | none => rw [ha] at h; cases h
  | some ra =>
    rw [ha] at h
    (refine W.call (read_operand hA l t depth i ra _ b ha (hG hb _) hi ht hd) rfl rfl (by first | rfl | simp) ?_)
    intro v σ1 hR
    have hx : ∃ x : ChainSt, (x.e = 0 ∧ x.pos = 0 ∧ chainF x.g l t least depth x.i x.m = some r ∧ x.i ≤ t.length ∧ x.g ≤ f ∧ fitsK x.m x.k ∨ (x.e == 0) = false ∧ r = .error ⟨x.e, x.pos⟩) ∧ x.m.by_ = none ∧ x.k = Tok.zero ∧
        v = .tup [x.m.p.v, wrongV x.e x.pos] ∧ σ1 = (σ ++ [Blk.cells [I 0, S [], I 0, .csl [], I 0, .c .nilp, I 0, S [], I 0, I 0], Blk.cells [I 0, I 0]]).set b (rdr l t x.i) := by
      cases ra with
      | ok y =>
        obtain ⟨rfl, rfl⟩ := hR
        exact ⟨⟨f, ⟨y.1, none⟩, Tok.zero, y.2, 0, 0⟩, .inl ⟨rfl, rfl, h, (operandF_bound ha).2, Nat.le_refl f, fun o p h => by cases h⟩, rfl, rfl, rfl, rfl⟩
      | error y =>
        obtain ⟨he, q, j, rfl, rfl⟩ := hR
        injection h with h
        exact ⟨⟨0, ⟨q, none⟩, Tok.zero, j, y.e, y.pos⟩, .inr ⟨he, h.symm⟩, rfl, rfl, rfl, rfl⟩
    obtain ⟨x0, hinv0, hby0, hk0, rfl, rfl⟩ := hx
    ((try refine W.a ?_); simp only [go_sem, seval, reduceCtorEq, hS hb, wrongV])
    refine W.loopP (fun x : ChainSt => (x.e = 0 ∧ x.pos = 0 ∧ chainF x.g l t least depth x.i x.m = some r ∧ x.i ≤ t.length ∧ x.g ≤ f ∧ fitsK x.m x.k ∨ (x.e == 0) = false ∧ r = .error ⟨x.e, x.pos⟩))
      (fun x => ⟨(((((((base.put (some 0) (.ptr b 0)).put (some 1) (I least)).put (some 2) (I depth)).put (some 6) (.ptr σ.length 0)).put (some 7) (.ptr (σ.length + 1) 0)).put (some 9) (.ptr (σ.length + 3) 0)).put (some 10) (.ptr (σ.length + 4) 0)), σ.set b (rdr l t x.i) ++ [.cells [I 0, S [], I 0, .csl [], I 0, .c .nilp, I 0, S [], I 0, I 0], .cells [I 0, I 0], .cells x0.m.p.v.cellsV, .cells [I x.e, I x.pos], .cells (madeV x.m x.k).cellsV]⟩)
      (fun x => if x.e = 0 then x.g + 1 else 0) x0 hinv0 ?_ (fun x hx => ?_)
    · simp only [go_sem, seval, reduceCtorEq, madeV, byC_none hby0, hk0, Tok.zero]
      (refine Lew.env ?_; exact lee_here)
    · obtain ⟨g, m, k, i', e, pos⟩ := x
      simp only at hx
      rcases hx with ⟨rfl, rfl, hx, hi', hg, hfit⟩ | ⟨he, rfl⟩
      · obtain ⟨g', rfl⟩ : ∃ g', g = g' + 1 := by
          cases g with
          | zero => simp [chainF] at hx
          | succ g' => exact ⟨g', rfl⟩
        rw [chainF_eq] at hx
        ((try refine W.a ?_); simp only [go_sem, seval, reduceCtorEq, madeV])
        (refine W.c1 (wrong_ok w0 0 0 _) ?_; simp only [go_sem, seval, reduceCtorEq])
        refine W.yes rfl ?_
        ((try refine W.a ?_); simp only [go_sem, seval, reduceCtorEq])
        (refine W.c1 (read_tok w0 l t i' 0 _ b (hG' hb _ _) (by omega) ht) ?_; simp only [go_sem, seval, reduceCtorEq])
        cases ho : opOf l (tokL t i') with
        | none =>
          rw [ho] at hx
          injection hx with hx
          subst hx
          (refine W.c1 (read_operator w0 l t i' (tokL t i') _ b (hG' hb _ _)) ?_; simp only [go_sem, seval, reduceCtorEq, foundV, ho, Option.isSome_none, Option.getD_none])
          refine W.yes rfl ?_
          ((try refine W.a ?_); simp only [go_sem, seval, reduceCtorEq])
          (apply W.dregE (List.cons_ne_nil _ _); case hc => ((apply CanonE.advPO; simp only [go_sem, seval, reduceCtorEq]); exact CanonE.nil))
          ((try refine W.a ?_); simp only [go_sem, seval, reduceCtorEq])
          (refine W.fg (rdr_ok hok b l t i') (d := .tup [madeV m k, wrongV 0 0]) (by simp only [r131, go_sem, seval, reduceCtorEq, madeV, wrongV]; rfl) (by simp only [resV, go_sem, seval, reduceCtorEq, madeV, wrongV]; exact wk_here) ?_ (hl := by (first | exact .c _ | (simp only [go_sem, seval, reduceCtorEq, madeV, wrongV]; done))))
          exact ⟨k, hfit, rfl, rfl⟩
        | some o =>
          rw [ho] at hx
          simp only at hx
          by_cases hp : o.prec < least
          · rw [if_pos hp] at hx
            injection hx with hx
            subst hx
            (refine W.c1 (read_operator w0 l t i' (tokL t i') _ b (hG' hb _ _)) ?_; simp only [go_sem, seval, reduceCtorEq, foundV, ho, Option.isSome_some, Option.getD_some, hp])
            refine W.yes rfl ?_
            ((try refine W.a ?_); simp only [go_sem, seval, reduceCtorEq])
            (apply W.dregE (List.cons_ne_nil _ _); case hc => ((apply CanonE.advPO; simp only [go_sem, seval, reduceCtorEq]); exact CanonE.nil))
            ((try refine W.a ?_); simp only [go_sem, seval, reduceCtorEq])
            (refine W.fg (rdr_ok hok b l t i') (d := .tup [madeV m k, wrongV 0 0]) (by simp only [r131, go_sem, seval, reduceCtorEq, madeV, wrongV]; rfl) (by simp only [resV, go_sem, seval, reduceCtorEq, madeV, wrongV]; exact wk_here) ?_ (hl := by (first | exact .c _ | (simp only [go_sem, seval, reduceCtorEq, madeV, wrongV]; done))))
            exact ⟨k, hfit, rfl, rfl⟩
          · rw [if_neg hp] at hx
            (refine W.c1 (read_operator w0 l t i' (tokL t i') _ b (hG' hb _ _)) ?_; simp only [go_sem, seval, reduceCtorEq, foundV, ho, Option.isSome_some, Option.getD_some, hp])
            refine W.no rfl ?_
            ((try refine W.a ?_); simp only [go_sem, seval, reduceCtorEq])
            have hil : i' < t.length := opOf_lt ho
            have hw : IntKind.i64.wrap ((i' : Int) + 1) = ((i' + 1 : Nat) : Int) := by rw [wrap_in] <;> omega
            cases hcl : clashL o m
            · rw [if_neg (by rw [hcl]; decide)] at hx
              have two : byC m = .nilp ∨ ∃ o' p', m.by_ = some (o', p') ∧ besideL o o' 1 = true := by
                cases hby : m.by_ with
                | none => exact .inl (byC_none hby)
                | some y =>
                  obtain ⟨o', p'⟩ := y
                  rw [clash_some hby] at hcl
                  exact .inr ⟨o', p', rfl, by simpa using hcl⟩
              rcases two with hz | ⟨o', p', hby, hbes⟩
              all_goals first
                | (apply W.dreg
                   case hc => ((apply Canon.advCO; simp only [advCO_nil, advCO_cons, cG_yes, cG_no, cS_some, cS_loud, go_sem, seval, reduceCtorEq, byC_some hby]); (apply Canon.call (ops_Left w0 o o' _); (case hg => rfl); (case hf => rfl); (case ha => first | rfl | simp)); (apply Canon.advCO; simp only [advCO_nil, advCO_cons, cG_yes, cG_no, cS_some, cS_loud, go_sem, seval, reduceCtorEq, hbes]); exact Canon.nil))
                | (apply W.dreg
                   case hc => ((apply Canon.advCO; simp only [advCO_nil, advCO_cons, cG_yes, cG_no, cS_some, cS_loud, go_sem, seval, reduceCtorEq, hz]); exact Canon.nil))
              all_goals
                ((try refine W.a ?_); simp only [go_sem, seval, reduceCtorEq])
                refine W.no rfl ?_
                have hin := fun y σx (hb' : σx[b]? = some (rdr l t (i' + 1))) (hr : innerF g' l t (nextL o) depth (i' + 1) (tokL t i').pos = some y) => read_inner (hE g' (by omega)) l t (nextL o) depth (i' + 1) (tokL t i') y σx b hr hb' (by omega) ht hd
                have two : (nextL o = IntKind.i64.wrap (o.prec + 1) ∧ (o.fix == 2) = false) ∨ (nextL o = o.prec ∧ (o.fix == 2) = true) := by
                  rw [nextL]
                  cases h : (o.fix == 2)
                  · exact .inl ⟨if_neg (by simpa using h), rfl⟩
                  · exact .inr ⟨if_pos (by simpa using h), rfl⟩
                rcases two with ⟨hn, hfix⟩ | ⟨hn, hfix⟩
                all_goals first
                  | (((try refine W.a ?_); simp only [go_sem, seval, reduceCtorEq, hG' hb, hS' hb, rdr, hw, hfix])
                     refine W.no rfl ?_)
                  | (((try refine W.a ?_); simp only [go_sem, seval, reduceCtorEq, hG' hb, hS' hb, rdr, hw, hfix])
                     refine W.yes rfl ?_)
                all_goals
                  ((try refine W.a ?_); simp only [go_sem, seval, reduceCtorEq])
                  rw [hn] at hin
                  cases hr : innerF g' l t (nextL o) depth (i' + 1) (tokL t i').pos with
                  | none => rw [hr] at hx; cases hx
                  | some y =>
                    rw [hr] at hx
                    rw [hn] at hr
                    (refine W.call (hin y _ (hG' hb _ _) hr) rfl rfl (by first | rfl | simp) ?_)
                    intro v σ1 hR
                    cases y with
                    | error x =>
                      injection hx with hx
                      subst hx
                      obtain ⟨he, m', k', j, rfl, rfl⟩ := hR
                      have he' : ¬ x.e = 0 := by simpa using he
                      ((try refine W.a ?_); simp only [go_sem, seval, reduceCtorEq, hS' hb, madeV, wrongV])
                      apply W.dreg
                      case hc => ((apply Canon.advCO; simp only [advCO_nil, advCO_cons, cG_yes, cG_no, cS_some, cS_loud, go_sem, seval, reduceCtorEq]); (apply Canon.call (wrong_ok w0 x.e x.pos _); (case hg => rfl); (case hf => rfl); (case ha => first | rfl | simp)); (apply Canon.advCO; simp only [advCO_nil, advCO_cons, cG_yes, cG_no, cS_some, cS_loud, go_sem, seval, reduceCtorEq, he]); exact Canon.nil)
                      ((try refine W.a ?_); simp only [go_sem, seval, reduceCtorEq])
                      refine W.no rfl ?_
                      ((try refine W.a ?_); simp only [go_sem, seval, reduceCtorEq])
                      refine W.frz 12 (by rfl) (by simp only [go_sem, seval, reduceCtorEq]; rfl) (by rfl) ?_
                      ((try refine W.a ?_); simp only [go_sem, seval, reduceCtorEq])
                      apply W.dregE (List.cons_ne_nil _ _)
                      case hc =>
                        (apply CanonE.advPO; simp only [go_sem, seval, reduceCtorEq])
                        (apply CanonE.call (read_apply w0 o (tokL t i').pos m.p m'.p _); (case hg => rfl); (case hf => rfl); (case ha => first | rfl | simp))
                        (apply CanonE.advPO; simp only [go_sem, seval, reduceCtorEq])
                        exact CanonE.nil
                      ((try refine W.a ?_); simp only [go_sem, seval, reduceCtorEq])
                      refine .inv ⟨⟨0, ⟨applyL o (tokL t i').pos m.p m'.p, some (o, (tokL t i').pos)⟩, tokL t i', j, x.e, x.pos⟩, .inr ⟨he, rfl⟩, by simp [he'], ?_⟩
                      simp only [go_sem, seval, reduceCtorEq, madeV, byC]
                      (refine Lew.cutL (rdr_ok hok b l t j) ?_ (by simp) (by simp) ?_ ?_ ?_; exact lee_here; ((try simp only [okB, wkB, go_sem, seval, reduceCtorEq]) <;> omega); (simp only [List.length_cons, List.length_nil, Nat.reduceAdd, List.take_succ_cons, List.take_zero, wkB, and_true]; (repeat' (refine And.intro ?_ ?_)) <;> (first | exact Blk.wk.rfl _ | exact Blk.wk.gone _ | (refine Blk.wk_cells ?_ rfl; (exact wk_here)))); (repeat' (first | exact LowE.base _ | (refine LowE.put ?_ (by first | exact .c _ | ((try simp only [okB, wkB, go_sem, seval, reduceCtorEq]) <;> omega))))))
                    | ok y =>
                      obtain ⟨m', j⟩ := y
                      obtain ⟨k', hfit', rfl, rfl⟩ := hR
                      have hj := (innerF_bound hr).2
                      simp only at hx
                      ((try refine W.a ?_); simp only [go_sem, seval, reduceCtorEq, hS' hb, madeV, wrongV])
                      cases hby' : m'.by_ with
                      | none =>
                        rw [hby'] at hx
                        have hz' := byC_none hby'
                        apply W.dreg
                        case hc => ((apply Canon.advCO; simp only [advCO_nil, advCO_cons, cG_yes, cG_no, cS_some, cS_loud, go_sem, seval, reduceCtorEq]); (apply Canon.call (wrong_ok w0 0 0 _); (case hg => rfl); (case hf => rfl); (case ha => first | rfl | simp)); (apply Canon.advCO; simp only [advCO_nil, advCO_cons, cG_yes, cG_no, cS_some, cS_loud, go_sem, seval, reduceCtorEq, hz']); exact Canon.nil)
                        ((try refine W.a ?_); simp only [go_sem, seval, reduceCtorEq])
                        refine W.no rfl ?_
                        ((try refine W.a ?_); simp only [go_sem, seval, reduceCtorEq])
                        refine W.frz 12 (by rfl) (by simp only [go_sem, seval, reduceCtorEq]; rfl) (by rfl) ?_
                        ((try refine W.a ?_); simp only [go_sem, seval, reduceCtorEq])
                        apply W.dregE (List.cons_ne_nil _ _)
                        case hc =>
                          (apply CanonE.advPO; simp only [go_sem, seval, reduceCtorEq])
                          (apply CanonE.call (read_apply w0 o (tokL t i').pos m.p m'.p _); (case hg => rfl); (case hf => rfl); (case ha => first | rfl | simp))
                          (apply CanonE.advPO; simp only [go_sem, seval, reduceCtorEq])
                          exact CanonE.nil
                        ((try refine W.a ?_); simp only [go_sem, seval, reduceCtorEq])
                        refine .inv ⟨⟨g', ⟨applyL o (tokL t i').pos m.p m'.p, some (o, (tokL t i').pos)⟩, tokL t i', j, 0, 0⟩, .inl ⟨rfl, rfl, hx, hj, Nat.le_of_succ_le hg, fun o p h => by injection h with h; injection h⟩, by simp [], ?_⟩
                        simp only [go_sem, seval, reduceCtorEq, madeV, byC]
                        (refine Lew.cutL (rdr_ok hok b l t j) ?_ (by simp) (by simp) ?_ ?_ ?_; exact lee_here; ((try simp only [okB, wkB, go_sem, seval, reduceCtorEq]) <;> omega); (simp only [List.length_cons, List.length_nil, Nat.reduceAdd, List.take_succ_cons, List.take_zero, wkB, and_true]; (repeat' (refine And.intro ?_ ?_)) <;> (first | exact Blk.wk.rfl _ | exact Blk.wk.gone _ | (refine Blk.wk_cells ?_ rfl; (exact wk_here)))); (repeat' (first | exact LowE.base _ | (refine LowE.put ?_ (by first | exact .c _ | ((try simp only [okB, wkB, go_sem, seval, reduceCtorEq]) <;> omega))))))
                      | some y =>
                        obtain ⟨o2, p2⟩ := y
                        rw [hby'] at hx
                        simp only at hx
                        have hz' := byC_some hby'
                        cases hb2 : besideL o o2 2
                        · rw [if_neg (by rw [hb2]; decide)] at hx
                          injection hx with hx
                          subst hx
                          have hpk := hfit' _ _ hby'
                          apply W.dreg
                          case hc => ((apply Canon.advCO; simp only [advCO_nil, advCO_cons, cG_yes, cG_no, cS_some, cS_loud, go_sem, seval, reduceCtorEq]); (apply Canon.call (wrong_ok w0 0 0 _); (case hg => rfl); (case hf => rfl); (case ha => first | rfl | simp)); (apply Canon.advCO; simp only [advCO_nil, advCO_cons, cG_yes, cG_no, cS_some, cS_loud, go_sem, seval, reduceCtorEq, hz']); (apply Canon.call (ops_Right w0 o o2 _); (case hg => rfl); (case hf => rfl); (case ha => first | rfl | simp)); (apply Canon.advCO; simp only [advCO_nil, advCO_cons, cG_yes, cG_no, cS_some, cS_loud, go_sem, seval, reduceCtorEq, hb2]); exact Canon.nil)
                          ((try refine W.a ?_); simp only [go_sem, seval, reduceCtorEq])
                          refine W.yes rfl ?_
                          ((try refine W.a ?_); simp only [go_sem, seval, reduceCtorEq])
                          refine W.frz 12 (by rfl) (by simp only [go_sem, seval, reduceCtorEq]; rfl) (by rfl) ?_
                          ((try refine W.a ?_); simp only [go_sem, seval, reduceCtorEq])
                          apply W.dregE (List.cons_ne_nil _ _)
                          case hc =>
                            (apply CanonE.advPO; simp only [go_sem, seval, reduceCtorEq])
                            (apply CanonE.call (read_apply w0 o (tokL t i').pos m.p m'.p _); (case hg => rfl); (case hf => rfl); (case ha => first | rfl | simp))
                            (apply CanonE.advPO; simp only [go_sem, seval, reduceCtorEq])
                            exact CanonE.nil
                          ((try refine W.a ?_); simp only [go_sem, seval, reduceCtorEq])
                          refine .inv ⟨⟨0, ⟨applyL o (tokL t i').pos m.p m'.p, some (o, (tokL t i').pos)⟩, tokL t i', j, 32, p2⟩, .inr ⟨rfl, rfl⟩, by simp [], ?_⟩
                          simp only [go_sem, seval, reduceCtorEq, madeV, byC, hpk]
                          (refine Lew.cutL (rdr_ok hok b l t j) ?_ (by simp) (by simp) ?_ ?_ ?_; exact lee_here; ((try simp only [okB, wkB, go_sem, seval, reduceCtorEq]) <;> omega); (simp only [List.length_cons, List.length_nil, Nat.reduceAdd, List.take_succ_cons, List.take_zero, wkB, and_true]; (repeat' (refine And.intro ?_ ?_)) <;> (first | exact Blk.wk.rfl _ | exact Blk.wk.gone _ | (refine Blk.wk_cells ?_ rfl; (exact wk_here)))); (repeat' (first | exact LowE.base _ | (refine LowE.put ?_ (by first | exact .c _ | ((try simp only [okB, wkB, go_sem, seval, reduceCtorEq]) <;> omega))))))
                        · rw [if_pos hb2] at hx
                          apply W.dreg
                          case hc => ((apply Canon.advCO; simp only [advCO_nil, advCO_cons, cG_yes, cG_no, cS_some, cS_loud, go_sem, seval, reduceCtorEq]); (apply Canon.call (wrong_ok w0 0 0 _); (case hg => rfl); (case hf => rfl); (case ha => first | rfl | simp)); (apply Canon.advCO; simp only [advCO_nil, advCO_cons, cG_yes, cG_no, cS_some, cS_loud, go_sem, seval, reduceCtorEq, hz']); (apply Canon.call (ops_Right w0 o o2 _); (case hg => rfl); (case hf => rfl); (case ha => first | rfl | simp)); (apply Canon.advCO; simp only [advCO_nil, advCO_cons, cG_yes, cG_no, cS_some, cS_loud, go_sem, seval, reduceCtorEq, hb2]); exact Canon.nil)
                          ((try refine W.a ?_); simp only [go_sem, seval, reduceCtorEq])
                          refine W.no rfl ?_
                          ((try refine W.a ?_); simp only [go_sem, seval, reduceCtorEq])
                          refine W.frz 12 (by rfl) (by simp only [go_sem, seval, reduceCtorEq]; rfl) (by rfl) ?_
                          ((try refine W.a ?_); simp only [go_sem, seval, reduceCtorEq])
                          apply W.dregE (List.cons_ne_nil _ _)
                          case hc =>
                            (apply CanonE.advPO; simp only [go_sem, seval, reduceCtorEq])
                            (apply CanonE.call (read_apply w0 o (tokL t i').pos m.p m'.p _); (case hg => rfl); (case hf => rfl); (case ha => first | rfl | simp))
                            (apply CanonE.advPO; simp only [go_sem, seval, reduceCtorEq])
                            exact CanonE.nil
                          ((try refine W.a ?_); simp only [go_sem, seval, reduceCtorEq])
                          refine .inv ⟨⟨g', ⟨applyL o (tokL t i').pos m.p m'.p, some (o, (tokL t i').pos)⟩, tokL t i', j, 0, 0⟩, .inl ⟨rfl, rfl, hx, hj, Nat.le_of_succ_le hg, fun o p h => by injection h with h; injection h⟩, by simp [], ?_⟩
                          simp only [go_sem, seval, reduceCtorEq, madeV, byC]
                          (refine Lew.cutL (rdr_ok hok b l t j) ?_ (by simp) (by simp) ?_ ?_ ?_; exact lee_here; ((try simp only [okB, wkB, go_sem, seval, reduceCtorEq]) <;> omega); (simp only [List.length_cons, List.length_nil, Nat.reduceAdd, List.take_succ_cons, List.take_zero, wkB, and_true]; (repeat' (refine And.intro ?_ ?_)) <;> (first | exact Blk.wk.rfl _ | exact Blk.wk.gone _ | (refine Blk.wk_cells ?_ rfl; (exact wk_here)))); (repeat' (first | exact LowE.base _ | (refine LowE.put ?_ (by first | exact .c _ | ((try simp only [okB, wkB, go_sem, seval, reduceCtorEq]) <;> omega))))))
            · rw [if_pos hcl] at hx
              injection hx with hx
              subst hx
              cases hby : m.by_ with
              | none => rw [clash_none hby] at hcl; cases hcl
              | some y =>
                obtain ⟨o', p'⟩ := y
                rw [clash_some hby] at hcl
                have hbes : besideL o o' 1 = false := by simpa using hcl
                apply W.dreg
                case hc =>
                  (apply Canon.advCO; simp only [advCO_nil, advCO_cons, cG_yes, cG_no, cS_some, cS_loud, go_sem, seval, reduceCtorEq, byC_some hby])
                  (apply Canon.call (ops_Left w0 o o' _); (case hg => rfl); (case hf => rfl); (case ha => first | rfl | simp))
                  (apply Canon.advCO; simp only [advCO_nil, advCO_cons, cG_yes, cG_no, cS_some, cS_loud, go_sem, seval, reduceCtorEq, hbes])
                  exact Canon.nil
                ((try refine W.a ?_); simp only [go_sem, seval, reduceCtorEq])
                refine W.yes rfl ?_
                ((try refine W.a ?_); simp only [go_sem, seval, reduceCtorEq])
                (apply W.dregE (List.cons_ne_nil _ _); case hc => ((apply CanonE.advPO; simp only [go_sem, seval, reduceCtorEq]); exact CanonE.nil))
                ((try refine W.a ?_); simp only [go_sem, seval, reduceCtorEq])
                (refine W.fg (rdr_ok hok b l t i') (d := .tup [madeV ⟨Pre.none, none⟩ Tok.zero, wrongV 32 (tokL t i').pos]) (by simp only [r131, go_sem, seval, reduceCtorEq, madeV, wrongV, byC, Pre.none, Tok.zero]; rfl) (by simp only [resV, go_sem, seval, reduceCtorEq, madeV, wrongV, byC, Pre.none, Tok.zero]; exact wk_here) ?_ (hl := by (first | exact .c _ | (simp only [go_sem, seval, reduceCtorEq, madeV, wrongV, byC, Pre.none, Tok.zero]; done))))
                exact ⟨rfl, ⟨Pre.none, none⟩, Tok.zero, i', rfl, rfl⟩
      · ((try refine W.a ?_); simp only [go_sem, seval, reduceCtorEq, madeV])
        (refine W.c1 (wrong_ok w0 e pos _) ?_; simp only [go_sem, seval, reduceCtorEq, he])
        refine W.no rfl ?_
        ((try refine W.a ?_); simp only [go_sem, seval, reduceCtorEq])
        (apply W.dregE (List.cons_ne_nil _ _); case hc => ((apply CanonE.advPO; simp only [go_sem, seval, reduceCtorEq]); exact CanonE.nil))
        ((try refine W.a ?_); simp only [go_sem, seval, reduceCtorEq])
        (refine W.fg (rdr_ok hok b l t i') (d := .tup [madeV m k, wrongV e pos]) (by simp only [r131, go_sem, seval, reduceCtorEq, madeV, wrongV]; rfl) (by simp only [resV, go_sem, seval, reduceCtorEq, madeV, wrongV]; exact wk_here) ?_ (hl := by (first | exact .c _ | (simp only [go_sem, seval, reduceCtorEq, madeV, wrongV]; done))))
        exact ⟨he, m, k, i', rfl, rfl⟩
end
section

theorem read_all (w0 : World) : ∀ f, (∀ g, g ≤ f → AtomOK w0 g) ∧ (∀ g, g ≤ f → ExprOK w0 g)
  | 0 => ⟨fun g hg => by
      have : g = 0 := by omega
      subst this
      intro l t depth i r σ b h
      simp [atomF] at h, fun g hg => by
      have : g = 0 := by omega
      subst this
      intro l t least depth i r σ b h
      simp [exprF] at h⟩
  | f + 1 => by
    obtain ⟨h1, h2⟩ := read_all w0 f
    refine ⟨fun g hg => ?_, fun g hg => ?_⟩
    · rcases Nat.lt_or_ge f g with h | h
      · have : g = f + 1 := by omega
        subst this
        exact read_atom (h2 f (Nat.le_refl f))
      · exact h1 g h
    · rcases Nat.lt_or_ge f g with h | h
      · have : g = f + 1 := by omega
        subst this
        exact read_expr h1 h2
      · exact h2 g h
def readV (from_ : Nat) : Except Bad (Made × Nat) → V
  | .ok (m, j) => .tup [m.p.v, I j, I 0, I 0]
  | .error b => .tup [Pre.none.v, I from_, I b.e, I b.pos]
theorem read_Read (w0 : World) (l : List OpT) (t : List Tok) (i : Nat) (r : Except Bad (Made × Nat)) (σ : H) (h : Lamb.Expr l t 0 0 i r) (hi : i ≤ t.length) (ht : t.length ≤ 1000000) :
    DC Tryz.prog w0 81 [.c (opsC l), .c (toksC t), I i] σ (Same (readV i r) σ) := by
  obtain ⟨f, h⟩ := h
  refine k81.go rfl (fun hok hsz => ?_)
  ((try refine W.a ?_); simp only [go_sem, seval, reduceCtorEq, c81])
  (refine W.call ((read_all w0 f).2 f (Nat.le_refl f) l t 0 0 i r _ (σ.length + 1) h (hget σ _ 1) hi ht (by omega)) rfl rfl (by first | rfl | simp) ?_)
  intro v σ1 hR
  cases r with
  | ok x =>
    obtain ⟨m, j⟩ := x
    obtain ⟨k, hk, rfl, rfl⟩ := hR
    ((try refine W.a ?_); simp only [go_sem, seval, reduceCtorEq, madeV, wrongV])
    (refine W.c1 (wrong_ok w0 0 0 _) ?_; simp only [go_sem, seval, reduceCtorEq])
    refine W.no rfl ?_
    ((try refine W.a ?_); simp only [go_sem, seval, reduceCtorEq])
    (apply W.dregE (List.cons_ne_nil _ _); case hc => ((apply CanonE.advPO; simp only [go_sem, seval, reduceCtorEq, rdr]); exact CanonE.nil))
    ((try refine W.a ?_); simp only [go_sem, seval, reduceCtorEq])
    (refine W.fs (hok) (by simp only [r81, go_sem, seval, reduceCtorEq, readV]; rfl) ?_ (hl := by (first | exact .c _ | (simp only [go_sem, seval, reduceCtorEq, readV]; done))); simp only [resV, readV]; try exact V.wk.rfl _)
    (all_goals exact wk_here)
  | error x =>
    obtain ⟨he, m, k, j, rfl, rfl⟩ := hR
    ((try refine W.a ?_); simp only [go_sem, seval, reduceCtorEq, madeV, wrongV])
    (refine W.c1 (wrong_ok w0 x.e x.pos _) ?_; simp only [go_sem, seval, reduceCtorEq, he])
    refine W.yes rfl ?_
    ((try refine W.a ?_); simp only [go_sem, seval, reduceCtorEq])
    (apply W.dregE (List.cons_ne_nil _ _); case hc => ((apply CanonE.advPO; simp only [go_sem, seval, reduceCtorEq]); exact CanonE.nil))
    ((try refine W.a ?_); simp only [go_sem, seval, reduceCtorEq])
    (refine W.fs (hok) (by simp only [r81, go_sem, seval, reduceCtorEq, readV, Pre.none]; rfl) ?_ (hl := by (first | exact .c _ | (simp only [go_sem, seval, reduceCtorEq, readV, Pre.none]; done))); simp only [resV, readV, Pre.none]; try exact V.wk.rfl _)
    (all_goals exact wk_here)
end
section
attribute [local go_sem] strsC sdX rz_len rz_g0 rz_g rz_s0 rz_s rz_sb

def RSen (t : List Tok) (σ : H) (b : Nat) (r : SoR) : V → H → Prop := fun d σ' => match r with
  | .ok (s, j, l') => d = s.v ∧ σ' = srd σ b t (j : Nat) l' 0 0
  | .error x => (x.e == 0) = false ∧ ∃ (s : Sent) (j : Int) (l' : List OpT), d = s.v ∧ σ' = srd σ b t j l' x.e x.pos
def kindP (t : List Tok) (i : Nat) (l : List OpT) : SoR := match namesS t false i [] with
  | .error b => .error b
  | .ok (ns, j) => match kindS t j 0 with
    | .error b => .error b
    | .ok (n, k) => .ok (⟨0, ns.map (·.text), n, .none, .zero, .none, 0⟩, k, l)
def sent0 (k : Int) (names : List Str) (n : Int) : Sent := ⟨k, names, n, .none, .zero, .none, 0⟩
theorem sent0_v (k : Int) (names : List Str) (n : Int) : (sent0 k names n).v = .agg [I k, .c (strsC names), I n, I 0, S [], I 0, .c (.sl []), S [], I 0, I 0, I 0, S [], I 0, .c (.sl []), I 0, I 0] := rfl
theorem sr_names1 (w0 : World) (t : List Tok) (hT : TEnd t) (i : Nat) (hi : i ≤ t.length) (l : List OpT) (σ : H) (b : Nat) (D : b < σ.length) :
    DC Tryz.prog w0 142 [.ptr b 0, .csl [[.int .i64 1]]] (srd σ b t i l 0 0) (RNames t l σ b (namesS t false i [])) :=
  (sr_names w0 t hT false i hi l σ b D).weakA (wk_agg_cons (.rfl _) (wk_agg_cons (.csl _) wk_agg_nil))
theorem sr_names2 (w0 : World) (t : List Tok) (hT : TEnd t) (i : Nat) (hi : i ≤ t.length) (l : List OpT) (σ : H) (b : Nat) (D : b < σ.length) :
    DC Tryz.prog w0 142 [.ptr b 0, .csl [[.int .i64 1], [.int .i64 4]]] (srd σ b t i l 0 0) (RNames t l σ b (namesS t true i [])) :=
  (sr_names w0 t hT true i hi l σ b D).weakA (wk_agg_cons (.rfl _) (wk_agg_cons (.csl _) wk_agg_nil))
theorem namesS_len {t : List Tok} {s : Bool} {i : Nat} {acc ns : List Tok} {j : Nat} (h : namesS t s i acc = .ok (ns, j)) : ns.length + i ≤ acc.length + j := by
  have key : ∀ (n i : Nat) (acc : List Tok), t.length - i ≤ n → namesS t s i acc = .ok (ns, j) → ns.length + i ≤ acc.length + j := by
    intro n
    induction n using Nat.strongRecOn with
    | ind n ih =>
      intro i acc hn h
      rw [namesS_eq] at h
      split at h
      · rename_i h1
        have hi : i < t.length := tokL_lt fun e => by rw [nameHere, e] at h1; simp at h1
        split at h
        · have := ih (t.length - (i + 2)) (by omega) (i + 2) _ (Nat.le_refl _) h
          simp at this
          omega
        · injection h with h; injection h with h1 h2
          rw [← h1, ← h2]
          simp
          omega
      · cases h
  exact key _ i acc (Nat.le_refl _) h
theorem names_out {t : List Tok} {l : List OpT} {σ : H} {b : Nat} {s : Bool} {i : Nat} {d : V} {σ' : H} (hT : TEnd t) (hi : i ≤ t.length) (hR : RNames t l σ b (namesS t s i []) d σ') :
    ∃ (ns : List Tok) (j : Nat) (e p : Int), ns.length ≤ 1000000 ∧ j ≤ 1000000 ∧ d = .c (toksC ns) ∧ σ' = srd σ b t (j : Nat) l e p ∧ ((e = 0 ∧ p = 0 ∧ j ≤ t.length ∧ namesS t s i [] = .ok (ns, j)) ∨ ((e == 0) = false ∧ namesS t s i [] = .error ⟨e, p⟩)) := by
  have hle := hT.le
  cases hn : namesS t s i [] with
  | ok y =>
    obtain ⟨ns, j⟩ := y
    rw [hn] at hR
    obtain ⟨rfl, rfl⟩ := hR
    have hj := namesS_far _ _ _ _ _ (Nat.le_refl _) hn
    have hnl := namesS_len hn
    simp only [List.length_nil] at hnl
    exact ⟨ns, j, 0, 0, by omega, by omega, rfl, rfl, .inl ⟨rfl, rfl, hj.2, rfl⟩⟩
  | error y =>
    rw [hn] at hR
    obtain ⟨he, ns, j, hnl, hjl, rfl, rfl⟩ := hR
    exact ⟨ns, j, y.e, y.pos, hnl, hjl, rfl, rfl, .inr ⟨he, rfl⟩⟩
def zeroB : Blk := .cells [I 0, .csl [], I 0, I 0, S [], I 0, .csl [], S [], I 0, I 0, I 0, S [], I 0, .csl [], I 0, I 0]
attribute [local go_sem] zeroB
structure KindSt where
  n : Nat
  i : Nat
  e : Int
  p : Int
theorem sr_kind (w0 : World) (t : List Tok) (hT : TEnd t) (i : Nat) (hi : i ≤ t.length) (l : List OpT) (σ : H) (b : Nat) (D : b < σ.length) :
    DC Tryz.prog w0 84 [.ptr b 0] (srd σ b t i l 0 0) (RSen t σ b (kindP t i l)) := by
  refine k84.go rfl (fun hok hsz => ?_)
  have hle := hT.le
  generalize hr : kindP t i l = r
  unfold kindP at hr
  ((try refine W.a ?_); simp only [go_sem, seval, reduceCtorEq, c84, rzA D])
  (refine W.call (DC.lift1R D (fun D' => sr_names1 w0 t hT i hi l _ b D')) rfl rfl (by first | rfl | simp) ?_)
  intro d σ1 hR
  obtain ⟨ns, i0, ee, pp, hnl, hi0, rfl, rfl, hst0⟩ := names_out hT hi hR
  ((try refine W.a ?_); simp only [go_sem, seval, reduceCtorEq, rzA D])
  (refine W.c1 (source_texts w0 ns hnl _) ?_; simp only [go_sem, seval, reduceCtorEq, rzA D])
  refine W.loopP (fun x : KindSt => x.n ≤ x.i ∧ x.i ≤ 1000004 ∧ ((x.e = 0 ∧ x.p = 0 ∧ x.i ≤ t.length ∧ r = (match kindS t x.i x.n with
      | .error b => .error b
      | .ok (n, k) => .ok (⟨0, ns.map (·.text), n, .none, .zero, .none, 0⟩, k, l))) ∨ ((x.e == 0) = false ∧ r = .error ⟨x.e, x.p⟩)))
    (fun x => ⟨(((base.put (some 0) (.ptr b 0)).put (some 2) (.ptr σ.length 0)).put (some 3) (.ptr (σ.length + 1) 0)), srd σ b t (x.i : Nat) l x.e x.p ++ [zeroB, .cells [I 0, .c (strsC (ns.map (·.text))), I x.n, I 0, S [], I 0, .csl [], S [], I 0, I 0, I 0, S [], I 0, .csl [], I 0, I 0]]⟩) (fun x => 2000000 - x.i) ⟨0, i0, ee, pp⟩ ?_ ?_ (fun x hx => ?_)
  · refine ⟨Nat.zero_le _, by show i0 ≤ 1000004; omega, ?_⟩
    rcases hst0 with ⟨h1, h2, h3, h4⟩ | ⟨h1, h2⟩
    · left
      rw [h4] at hr
      exact ⟨h1, h2, h3, hr.symm⟩
    · right
      rw [h2] at hr
      exact ⟨h1, hr.symm⟩
  · (refine Lew.env ?_; exact lee_here)
  · obtain ⟨n, j, e, p⟩ := x
    obtain ⟨hnj, hj4, hst⟩ := hx
    simp only at hnj hj4 hst
    rcases hst with ⟨rfl, rfl, hjl, hr'⟩ | ⟨he, hr'⟩
    · have hwn : IntKind.i64.wrap ((n : Int) + 1) = ((n + 1 : Nat) : Int) := by rw [wrap_in] <;> omega
      have ht1 : isHere 1 [116, 121, 112, 101] (tokL t j) = typeHere (tokL t j) := rfl
      have ha1 : ∀ x, isHere 4 [45, 62] x = arrowHere x := fun _ => rfl
      rw [kindS_eq] at hr'
      ((try refine W.a ?_); simp only [go_sem, seval, reduceCtorEq, rzA D])
      refine W.yes rfl ?_
      ((try refine W.a ?_); simp only [go_sem, seval, reduceCtorEq, rzA D])
      (refine W.c1 (DC.lift1 D (fun D' => sr_tok w0 t hT j (by omega) l 0 0 _ b D')) ?_; simp only [go_sem, seval, reduceCtorEq, rzA D])
      cases hty : typeHere (tokL t j)
      · rw [hty, if_neg (by decide)] at hr'
        have harr : arrowHere (tokL t j) = true → j < t.length := fun h => tokL_lt fun e => by rw [arrowHere, e] at h; simp at h
        (refine W.c1 (DC.lift1 D (fun D' => sr_is w0 t hT j (by omega) l 0 0 1 [116, 121, 112, 101] _ b D')) ?_; simp only [go_sem, seval, reduceCtorEq, rzA D, ht1, hty])
        refine W.yes rfl ?_
        ((try refine W.a ?_); simp only [go_sem, seval, reduceCtorEq, rzA D])
        (refine W.c1 (DC.lift1 D (fun D' => sr_fail w0 t j l 0 0 100 (tokL t j).pos _ b D')) ?_; simp only [go_sem, seval, reduceCtorEq, rzA D])
        cases har : arrowHere (tokL t j)
        · (refine W.c1 (DC.lift1 D (fun D' => sr_is w0 t hT j (by omega) l 100 (tokL t j).pos 4 [45, 62] _ b D')) ?_; simp only [go_sem, seval, reduceCtorEq, rzA D, ha1, har])
          refine W.yes rfl ?_
          ((try refine W.a ?_); simp only [go_sem, seval, reduceCtorEq, rzA D])
          subst hr'
          (refine W.fg (srd_ok D hok t (j : Nat) l 100 (tokL t j).pos) (d := (sent0 0 (ns.map (·.text)) n).v) (by simp only [r84, go_sem, seval, reduceCtorEq, sent0_v, strsC]; rfl) (by simp only [resV, go_sem, seval, reduceCtorEq, sent0_v, strsC]; exact wk_here) ?_ (hl := by (first | exact .c _ | (simp only [go_sem, seval, reduceCtorEq, sent0_v, strsC]; done))))
          exact ⟨rfl, _, _, _, rfl, rfl⟩
        · have := harr har
          (refine W.c1 (DC.lift1 D (fun D' => sr_is w0 t hT j (by omega) l 100 (tokL t j).pos 4 [45, 62] _ b D')) ?_; simp only [go_sem, seval, reduceCtorEq, rzA D, ha1, har])
          refine W.no rfl ?_
          ((try refine W.a ?_); simp only [go_sem, seval, reduceCtorEq, rzA D, hwn])
          refine .inv ⟨⟨n + 1, j + 1, 100, (tokL t j).pos⟩, ⟨by show n + 1 ≤ j + 1; omega, by show j + 1 ≤ 1000004; omega, .inr ⟨rfl, hr'⟩⟩, by simp only; omega, ?_⟩
          (refine Lew.cutL (srd_ok D hok t ((j + 1 : Nat) : Int) l 100 (tokL t j).pos) ?_ (by simp) (by simp) ?_ ?_ ?_; exact lee_here; ((try simp only [okB, wkB, go_sem, seval, reduceCtorEq, rz_len]) <;> omega); (simp only [List.length_cons, List.length_nil, Nat.reduceAdd, List.take_succ_cons, List.take_zero, wkB, and_true]; (repeat' (refine And.intro ?_ ?_)) <;> (first | exact Blk.wk.rfl _ | exact Blk.wk.gone _ | (refine Blk.wk_cells ?_ rfl; (exact wk_here)))); (repeat' (first | exact LowE.base _ | (refine LowE.put ?_ (by first | exact .c _ | ((try simp only [okB, wkB, go_sem, seval, reduceCtorEq, rz_len]) <;> omega))))))
      · rw [hty, if_pos rfl] at hr'
        have hjt : j < t.length := tokL_lt fun e => by rw [typeHere, e] at hty; simp at hty
        (refine W.c1 (DC.lift1 D (fun D' => sr_is w0 t hT j (by omega) l 0 0 1 [116, 121, 112, 101] _ b D')) ?_; simp only [go_sem, seval, reduceCtorEq, rzA D, ht1, hty, if_true])
        refine W.no rfl ?_
        ((try refine W.a ?_); simp only [go_sem, seval, reduceCtorEq, rzA D])
        cases har : arrowHere (tokL t (j + 1))
        · rw [har, if_neg (by decide)] at hr'
          subst hr'
          (refine W.c1 (DC.lift1 D (fun D' => sr_is w0 t hT (j + 1) (by omega) l 0 0 4 [45, 62] _ b D')) ?_; simp only [go_sem, seval, reduceCtorEq, rzA D, ha1, har])
          refine W.yes rfl ?_
          ((try refine W.a ?_); simp only [go_sem, seval, reduceCtorEq, rzA D])
          (refine W.fg (srd_ok D hok t ((j + 1 : Nat) : Int) l 0 0) (d := (sent0 0 (ns.map (·.text)) n).v) (by simp only [r84, go_sem, seval, reduceCtorEq, sent0_v, strsC]; rfl) (by simp only [resV, go_sem, seval, reduceCtorEq, sent0_v, strsC]; exact wk_here) ?_ (hl := by (first | exact .c _ | (simp only [go_sem, seval, reduceCtorEq, sent0_v, strsC]; done))))
          exact ⟨rfl, rfl⟩
        · rw [har, if_pos rfl] at hr'
          have hjt2 : j + 1 < t.length := tokL_lt fun e => by rw [arrowHere, e] at har; simp at har
          (refine W.c1 (DC.lift1 D (fun D' => sr_is w0 t hT (j + 1) (by omega) l 0 0 4 [45, 62] _ b D')) ?_; simp only [go_sem, seval, reduceCtorEq, rzA D, ha1, har, if_true])
          refine W.no rfl ?_
          ((try refine W.a ?_); simp only [go_sem, seval, reduceCtorEq, rzA D, hwn])
          refine .inv ⟨⟨n + 1, j + 2, 0, 0⟩, ⟨by show n + 1 ≤ j + 2; omega, by show j + 2 ≤ 1000004; omega, .inl ⟨rfl, rfl, by show j + 2 ≤ t.length; omega, hr'⟩⟩, by simp only; omega, ?_⟩
          (refine Lew.cutL (srd_ok D hok t ((j + 2 : Nat) : Int) l 0 0) ?_ (by simp) (by simp) ?_ ?_ ?_; exact lee_here; ((try simp only [okB, wkB, go_sem, seval, reduceCtorEq, rz_len]) <;> omega); (simp only [List.length_cons, List.length_nil, Nat.reduceAdd, List.take_succ_cons, List.take_zero, wkB, and_true]; (repeat' (refine And.intro ?_ ?_)) <;> (first | exact Blk.wk.rfl _ | exact Blk.wk.gone _ | (refine Blk.wk_cells ?_ rfl; (exact wk_here)))); (repeat' (first | exact LowE.base _ | (refine LowE.put ?_ (by first | exact .c _ | ((try simp only [okB, wkB, go_sem, seval, reduceCtorEq, rz_len]) <;> omega))))))
    · subst hr'
      ((try refine W.a ?_); simp only [go_sem, seval, reduceCtorEq, rzA D, he])
      refine W.no rfl ?_
      ((try refine W.a ?_); simp only [go_sem, seval, reduceCtorEq, rzA D])
      (refine W.fg (srd_ok D hok t (j : Nat) l e p) (d := (sent0 0 (ns.map (·.text)) n).v) (by simp only [r84, go_sem, seval, reduceCtorEq, sent0_v, strsC]; rfl) (by simp only [resV, go_sem, seval, reduceCtorEq, sent0_v, strsC]; exact wk_here) ?_ (hl := by (first | exact .c _ | (simp only [go_sem, seval, reduceCtorEq, sent0_v, strsC]; done))))
      exact ⟨he, _, _, _, rfl, rfl⟩
end
section
attribute [local go_sem] strsC sdX rz_len rz_g0 rz_g rz_s0 rz_s rz_sb zeroB Typ.v Typ.cs_eq tk_mk tname_mk tn_mk tl_mk tysC

theorem tyT_err {t : List Tok} {i : Nat} {x : Bad} (ht : t.length ≤ 1000000) (h : tyT t i = .error x) : (x.e == 0) = false := by
  obtain ⟨f, hf⟩ := tyT_is t i
  rw [h] at hf
  obtain ⟨o, _, hO⟩ := (ty_out f).2.2.2 _ _ _ _ _ ht hf
  exact hO.2.2
theorem sent_v (s : Sent) : s.v = .agg [I s.k, .c (strsC s.names), I s.n, I s.ty.k, S s.ty.name, I s.ty.n, .c (.sl (s.ty.l.map Typ.cs)), S s.op.name, I s.op.prec, I s.op.fix, I s.body.k, S s.body.name, I s.body.n, .c (.sl (s.body.l.map Pre.cs)), I s.body.pos, I s.pos] := rfl
noncomputable def typeP (t : List Tok) (i : Nat) (l : List OpT) : SoR := match namesS t true i [] with
  | .error b => .error b
  | .ok (ns, j) => match tyT t j with
    | .error b => .error b
    | .ok (u, k, _) => .ok (⟨1, ns.map (·.text), 0, u, .zero, .none, 0⟩, k, l)
theorem sr_typed (w0 : World) (t : List Tok) (hT : TEnd t) (i : Nat) (hi : i ≤ t.length) (l : List OpT) (σ : H) (b : Nat) (D : b < σ.length) :
    DC Tryz.prog w0 85 [.ptr b 0] (srd σ b t i l 0 0) (RSen t σ b (typeP t i l)) := by
  refine k85.go rfl (fun hok hsz => ?_)
  have hle := hT.le
  generalize hr : typeP t i l = r
  unfold typeP at hr
  ((try refine W.a ?_); simp only [go_sem, seval, reduceCtorEq, c85, rzA D])
  (refine W.call (DC.lift1R D (fun D' => sr_names2 w0 t hT i hi l _ b D')) rfl rfl (by first | rfl | simp) ?_)
  intro d σ1 hR
  obtain ⟨ns, j, e, p, hnl, hjl, rfl, rfl, hst⟩ := names_out hT hi hR
  ((try refine W.a ?_); simp only [go_sem, seval, reduceCtorEq, rzA D])
  (refine W.c1 (source_texts w0 ns hnl _) ?_; simp only [go_sem, seval, reduceCtorEq, rzA D])
  rcases hst with ⟨rfl, rfl, hj, hn⟩ | ⟨he, hn⟩
  · rw [hn] at hr
    simp only at hr
    ((try refine W.a ?_); simp only [go_sem, seval, reduceCtorEq, rzA D])
    refine W.no rfl ?_
    ((try refine W.a ?_); simp only [go_sem, seval, reduceCtorEq, rzA D])
    cases hty : tyT t j with
    | error x =>
      rw [hty] at hr
      subst hr
      have hxe := tyT_err (by omega) hty
      have hxn : (x.e != 0) = true := by rw [bne, hxe]; rfl
      have hf : tyFrom t (j : Int) = .error x := by rw [tyFrom_nat hj, hty]
      apply W.dregE (List.cons_ne_nil _ _)
      case hc =>
        (apply CanonE.advPO; simp only [go_sem, seval, reduceCtorEq, rzA D])
        (apply CanonE.pcall (fun τ => ty_Read w0 t j (by omega) τ); (case hg => rfl); (case hf => rfl); (case ha => first | rfl | simp))
        (apply CanonE.advPO; simp only [go_sem, seval, reduceCtorEq, rzA D, hf, tyReadV, Typ.none])
        exact CanonE.nil
      ((try refine W.a ?_); simp only [go_sem, seval, reduceCtorEq, rzA D, hxn])
      refine W.yes rfl ?_
      ((try refine W.a ?_); simp only [go_sem, seval, reduceCtorEq, rzA D])
      (refine W.c1 (DC.lift1 D (fun D' => sr_fail w0 t j l 0 0 x.e x.pos _ b D')) ?_; simp only [go_sem, seval, reduceCtorEq, rzA D, if_true])
      (refine W.fg (srd_ok D hok t (j : Nat) l x.e x.pos) (d := (sent0 1 (ns.map (·.text)) 0).v) (by simp only [r85, go_sem, seval, reduceCtorEq, sent0_v, strsC]; rfl) (by simp only [resV, go_sem, seval, reduceCtorEq, sent0_v, strsC]; exact wk_here) ?_ (hl := by (first | exact .c _ | (simp only [go_sem, seval, reduceCtorEq, sent0_v, strsC]; done))))
      exact ⟨hxe, _, _, _, rfl, rfl⟩
    | ok x =>
      obtain ⟨u, k, ws⟩ := x
      rw [hty] at hr
      subst hr
      have hf : tyFrom t (j : Int) = .ok (u, k, ws) := by rw [tyFrom_nat hj, hty]
      apply W.dregE (List.cons_ne_nil _ _)
      case hc =>
        (apply CanonE.advPO; simp only [go_sem, seval, reduceCtorEq, rzA D])
        (apply CanonE.pcall (fun τ => ty_Read w0 t j (by omega) τ); (case hg => rfl); (case hf => rfl); (case ha => first | rfl | simp))
        (apply CanonE.advPO; simp only [go_sem, seval, reduceCtorEq, rzA D, hf, tyReadV])
        exact CanonE.nil
      ((try refine W.a ?_); simp only [go_sem, seval, reduceCtorEq, rzA D])
      refine W.no rfl ?_
      ((try refine W.a ?_); simp only [go_sem, seval, reduceCtorEq, rzA D])
      (refine W.fg (srd_ok D hok t (k : Nat) l 0 0) (d := (⟨1, ns.map (·.text), 0, u, .zero, .none, 0⟩ : Sent).v) (by simp only [r85, go_sem, seval, reduceCtorEq, sent_v, strsC, OpT.zero, Pre.none]; rfl) (by simp only [resV, go_sem, seval, reduceCtorEq, sent_v, strsC, OpT.zero, Pre.none]; exact wk_here) ?_ (hl := by (first | exact .c _ | (simp only [go_sem, seval, reduceCtorEq, sent_v, strsC, OpT.zero, Pre.none]; done))))
      exact ⟨rfl, rfl⟩
  · rw [hn] at hr
    subst hr
    have hb : (e != 0) = true := by rw [bne, he]; rfl
    ((try refine W.a ?_); simp only [go_sem, seval, reduceCtorEq, rzA D, hb])
    refine W.yes rfl ?_
    ((try refine W.a ?_); simp only [go_sem, seval, reduceCtorEq, rzA D])
    (refine W.fg (srd_ok D hok t (j : Nat) l e p) (d := (sent0 1 (ns.map (·.text)) 0).v) (by simp only [r85, go_sem, seval, reduceCtorEq, sent0_v, strsC]; rfl) (by simp only [resV, go_sem, seval, reduceCtorEq, sent0_v, strsC]; exact wk_here) ?_ (hl := by (first | exact .c _ | (simp only [go_sem, seval, reduceCtorEq, sent0_v, strsC]; done))))
    exact ⟨he, _, _, _, rfl, rfl⟩
theorem sr_end0 (w0 : World) (t : List Tok) (hT : TEnd t) (i : Nat) (hi : i ≤ 1000000) (l : List OpT) (σ : H) (b : Nat) (D : b < σ.length) :
    DC Tryz.prog w0 88 [.ptr b 0] (srd σ b t i l 0 0) (Same (.tup []) (srd σ b t ((i + 1 : Nat) : Int) l (if (tokL t i).kind = 7 then 0 else 101) (if (tokL t i).kind = 7 then 0 else (tokL t i).pos))) := by
  refine k88.go rfl (fun hok hsz => ?_)
  have hk : ([7] : List Int).contains (tokL t i).kind = decide ((tokL t i).kind = 7) := by
    simp only [List.contains_cons, List.contains_nil, Bool.or_false]
    rw [Bool.eq_iff_iff]; simp
  have hc := sr_take w0 t hT i hi l 0 0 101 [7] σ b D
  rw [hk] at hc
  simp only [decide_eq_true_eq, if_true] at hc
  ((try refine W.a ?_); simp only [go_sem, seval, reduceCtorEq, c88, rzA D])
  refine W.yes rfl ?_
  ((try refine W.a ?_); simp only [go_sem, seval, reduceCtorEq, rzA D])
  (refine W.c1w (hc) ?_; simp only [go_sem, seval, reduceCtorEq, rzA D])
  (refine W.done (Fin.sameW (srd_ok D hok t ((i + 1 : Nat) : Int) l (if (tokL t i).kind = 7 then 0 else 101) (if (tokL t i).kind = 7 then 0 else (tokL t i).pos)) (by (first | rfl | exact List.length_set .. | simp)) (by simp only [r88, go_sem, seval, reduceCtorEq]; rfl) ?_ (by (first | exact .c _ | (simp only [go_sem, seval, reduceCtorEq]; done))) (by (first | rfl | exact (List.append_nil _).symm))); simp only [resV]; try exact V.wk.rfl _)
theorem sr_end1 (w0 : World) (t : List Tok) (i : Int) (l : List OpT) (e p : Int) (he : (e == 0) = false) (σ : H) (b : Nat) (D : b < σ.length) :
    DC Tryz.prog w0 88 [.ptr b 0] (srd σ b t i l e p) (Same (.tup []) (srd σ b t i l e p)) := by
  refine k88.go rfl (fun hok hsz => ?_)
  ((try refine W.a ?_); simp only [go_sem, seval, reduceCtorEq, c88, rzA D, he])
  refine W.no rfl ?_
  ((try refine W.a ?_); simp only [go_sem, seval, reduceCtorEq, rzA D])
  (refine W.done (Fin.sameW (hok) (by (first | rfl | exact List.length_set .. | simp)) (by simp only [r88, go_sem, seval, reduceCtorEq]; rfl) ?_ (by (first | exact .c _ | (simp only [go_sem, seval, reduceCtorEq]; done))) (by (first | rfl | exact (List.append_nil _).symm))); simp only [resV]; try exact V.wk.rfl _)
noncomputable def clauseP (t : List Tok) (i : Nat) (l : List OpT) : SoR := match exprT l t i with
  | .error b => .error b
  | .ok (m, k) => .ok (⟨3, [], 0, .none, .zero, m.p, 0⟩, k, l)
theorem sr_clause (w0 : World) (t : List Tok) (hT : TEnd t) (i : Nat) (hi : i ≤ t.length) (l : List OpT) (σ : H) (b : Nat) (D : b < σ.length) :
    DC Tryz.prog w0 87 [.ptr b 0] (srd σ b t i l 0 0) (RSen t σ b (clauseP t i l)) := by
  refine k87.go rfl (fun hok hsz => ?_)
  have hle := hT.le
  generalize hr : clauseP t i l = r
  unfold clauseP at hr
  ((try refine W.a ?_); simp only [go_sem, seval, reduceCtorEq, c87, rzA D])
  have hE := exprT_is l t i
  cases hx : exprT l t i with
  | error x =>
    rw [hx] at hr hE
    subst hr
    have hxn := Lamb.Expr.err hE
    have hxe : (x.e == 0) = false := by rw [bne] at hxn; simpa using hxn
    apply W.dregE (List.cons_ne_nil _ _)
    case hc =>
      (apply CanonE.advPO; simp only [go_sem, seval, reduceCtorEq, rzA D])
      (apply CanonE.pcall (fun τ => read_Read w0 l t i _ τ hE hi (by omega)); (case hg => rfl); (case hf => rfl); (case ha => first | rfl | simp))
      (apply CanonE.advPO; simp only [go_sem, seval, reduceCtorEq, rzA D, readV, Pre.none])
      exact CanonE.nil
    ((try refine W.a ?_); simp only [go_sem, seval, reduceCtorEq, rzA D, hxn])
    refine W.yes rfl ?_
    ((try refine W.a ?_); simp only [go_sem, seval, reduceCtorEq, rzA D])
    (refine W.c1 (DC.lift1 D (fun D' => sr_fail w0 t i l 0 0 x.e x.pos _ b D')) ?_; simp only [go_sem, seval, reduceCtorEq, rzA D, if_true])
    (refine W.fg (srd_ok D hok t (i : Nat) l x.e x.pos) (d := (sent0 3 [] 0).v) (by simp only [r87, go_sem, seval, reduceCtorEq, sent0_v, strsC]; rfl) (by simp only [resV, go_sem, seval, reduceCtorEq, sent0_v, strsC]; exact wk_here) ?_ (hl := by (first | exact .c _ | (simp only [go_sem, seval, reduceCtorEq, sent0_v, strsC]; done))))
    exact ⟨hxe, _, _, _, rfl, rfl⟩
  | ok x =>
    obtain ⟨m, k⟩ := x
    rw [hx] at hr hE
    subst hr
    apply W.dregE (List.cons_ne_nil _ _)
    case hc =>
      (apply CanonE.advPO; simp only [go_sem, seval, reduceCtorEq, rzA D])
      (apply CanonE.pcall (fun τ => read_Read w0 l t i _ τ hE hi (by omega)); (case hg => rfl); (case hf => rfl); (case ha => first | rfl | simp))
      (apply CanonE.advPO; simp only [go_sem, seval, reduceCtorEq, rzA D, readV])
      exact CanonE.nil
    ((try refine W.a ?_); simp only [go_sem, seval, reduceCtorEq, rzA D])
    refine W.no rfl ?_
    ((try refine W.a ?_); simp only [go_sem, seval, reduceCtorEq, rzA D])
    (refine W.fg (srd_ok D hok t (k : Nat) l 0 0) (d := (⟨3, [], 0, .none, .zero, m.p, 0⟩ : Sent).v) (by simp only [r87, go_sem, seval, reduceCtorEq, sent_v, strsC, OpT.zero, Typ.none, tk_mk, tname_mk, tn_mk, tl_mk]; rfl) (by simp only [resV, go_sem, seval, reduceCtorEq, sent_v, strsC, OpT.zero, Typ.none, tk_mk, tname_mk, tn_mk, tl_mk]; exact wk_here) ?_ (hl := by (first | exact .c _ | (simp only [go_sem, seval, reduceCtorEq, sent_v, strsC, OpT.zero, Typ.none, tk_mk, tname_mk, tn_mk, tl_mk]; done))))
    exact ⟨rfl, rfl⟩
end
section
attribute [local go_sem] strsC sdX rz_len rz_g0 rz_g rz_s0 rz_s rz_sb zeroB

def opP (t : List Tok) (i : Nat) (fix : Int) (l : List OpT) : SoR := match namesS t true i [] with
  | .error b => .error b
  | .ok (ns, j) =>
    if (tokL t j).kind = 3 then
      if (tokL t (j + 1)).kind = 7 then
        match declL (tokL t j).n fix l ns with
        | .error b => .error b
        | .ok l' => .ok (⟨2, ns.map (·.text), 0, .none, ⟨[], (tokL t j).n, fix⟩, .none, 0⟩, j + 2, l')
      else .error ⟨101, (tokL t (j + 1)).pos⟩
    else .error ⟨100, (tokL t j).pos⟩
theorem wrong_many {l : List OpT} {o : OpT} (h : wrongL l o = 0) : l.length < 64 := by
  unfold wrongL at h
  split at h
  · cases h
  · split at h
    · cases h
    · split at h
      · cases h
      · split at h
        · cases h
        · split at h
          · cases h
          · omega
theorem declL_len {prec fix : Int} : ∀ {ns : List Tok} {l l' : List OpT}, l.length ≤ 64 → l ≠ [] → declL prec fix l ns = .ok l' → l'.length ≤ 64 ∧ l' ≠ []
  | [], l, l', h, hn, he => by
    rw [declL] at he
    injection he with he
    subst he
    exact ⟨h, hn⟩
  | x :: r, l, l', h, hn, he => by
    rw [declL] at he
    split at he
    · rename_i hw
      have := wrong_many hw
      exact declL_len (by simp; omega) (by simp) he
    · cases he
structure OpSt where
  k : Nat
  l : List OpT
  e : Int
  p : Int
theorem sr_operator (w0 : World) (t : List Tok) (hT : TEnd t) (i : Nat) (hi : i ≤ t.length) (fix : Int) (l : List OpT) (hl : l.length ≤ 64) (hne : l ≠ []) (σ : H) (b : Nat) (D : b < σ.length) :
    DC Tryz.prog w0 86 [.ptr b 0, I fix] (srd σ b t i l 0 0) (RSen t σ b (opP t i fix l)) := by
  refine k86.go rfl (fun hok hsz => ?_)
  have hle := hT.le
  generalize hr : opP t i fix l = r
  unfold opP at hr
  ((try refine W.a ?_); simp only [go_sem, seval, reduceCtorEq, c86, rzA D])
  (refine W.call (DC.lift1R D (fun D' => sr_names2 w0 t hT i hi l _ b D')) rfl rfl (by first | rfl | simp) ?_)
  intro d σ1 hR
  obtain ⟨ns, j, e, p, hnl, hjl, rfl, rfl, hst⟩ := names_out hT hi hR
  ((try refine W.a ?_); simp only [go_sem, seval, reduceCtorEq, rzA D])
  (refine W.c1 (source_texts w0 ns hnl _) ?_; simp only [go_sem, seval, reduceCtorEq, rzA D])
  rcases hst with ⟨rfl, rfl, hj, hn⟩ | ⟨he, hn⟩
  · rw [hn] at hr
    simp only at hr
    have hk : ([3] : List Int).contains (tokL t j).kind = decide ((tokL t j).kind = 3) := by
      simp only [List.contains_cons, List.contains_nil, Bool.or_false]
      rw [Bool.eq_iff_iff]; simp
    have hc := fun L => DC.lift1 D (L := L) (fun D' => sr_take w0 t hT j (by omega) l 0 0 100 [3] (σ ++ L) b D')
    rw [hk] at hc
    simp only [decide_eq_true_eq, if_true] at hc
    ((try refine W.a ?_); simp only [go_sem, seval, reduceCtorEq, rzA D])
    refine W.no rfl ?_
    ((try refine W.a ?_); simp only [go_sem, seval, reduceCtorEq, rzA D])
    (refine W.c1w (hc _) ?_; simp only [go_sem, seval, reduceCtorEq, rzA D])
    by_cases h3 : (tokL t j).kind = 3
    · rw [if_pos h3] at hr
      simp only [if_pos h3]
      (refine W.c1 (DC.lift1 D (fun D' => sr_end0 w0 t hT (j + 1) (by omega) l _ b D')) ?_; simp only [go_sem, seval, reduceCtorEq, rzA D])
      by_cases h7 : (tokL t (j + 1)).kind = 7
      · rw [if_pos h7] at hr
        simp only [if_pos h7]
        refine W.loopP (fun x : OpSt => x.k ≤ ns.length ∧ x.l.length ≤ 64 ∧ x.l ≠ [] ∧ ((x.e = 0 ∧ x.p = 0 ∧ r = (match declL (tokL t j).n fix x.l (ns.drop x.k) with
            | .error b => .error b
            | .ok l' => .ok (⟨2, ns.map (·.text), 0, .none, ⟨[], (tokL t j).n, fix⟩, .none, 0⟩, j + 2, l'))) ∨ ((x.e == 0) = false ∧ r = .error ⟨x.e, x.p⟩)))
          (fun x => ⟨(((((((base.put (some 0) (.ptr b 0)).put (some 1) (I fix)).put (some 4) (.ptr σ.length 0)).put (some 6) (.ptr (σ.length + 1) 0)).put (some 34) (.c (toksC ns))).put (some 35) (I ns.length)).put (some 36) (I (x.k : Nat))), srd σ b t ((j + 1 + 1 : Nat) : Int) x.l x.e x.p ++ [zeroB, .cells [I 2, .c (strsC (ns.map (·.text))), I 0, I 0, S [], I 0, .csl [], S [], I (tokL t j).n, I fix, I 0, S [], I 0, .csl [], I 0, I 0]]⟩) (fun x => ns.length - x.k) ⟨0, l, 0, 0⟩ ⟨Nat.zero_le _, hl, hne, .inl ⟨rfl, rfl, by rw [← hr, List.drop_zero]⟩⟩ ?_ (fun x hx => ?_)
        · (refine Lew.env ?_; exact lee_here)
        · obtain ⟨k, lx, e, p⟩ := x
          obtain ⟨hkn, hlx, hlne, hst⟩ := hx
          simp only at hkn hlx hlne hst
          by_cases hlt : k < ns.length
          · have h1 : ((k : Int) < (ns.length : Int)) := by omega
            have hx : ns[k]? = some ns[k] := List.getElem?_eq_getElem hlt
            have hwk : IntKind.i64.wrap ((k : Int) + 1) = ((k + 1 : Nat) : Int) := by rw [wrap_in] <;> omega
            have hdr : ns.drop k = ns[k] :: ns.drop (k + 1) := List.drop_eq_getElem_cons hlt
            rcases hst with ⟨rfl, rfl, hr'⟩ | ⟨he, hr'⟩
            · rw [hdr, declL] at hr'
              ((try refine W.a ?_); simp only [go_sem, seval, reduceCtorEq, rzA D, h1])
              refine W.yes rfl ?_
              ((try refine W.a ?_); simp only [go_sem, seval, reduceCtorEq, rzA D, h1, nat0, hx])
              refine W.no rfl ?_
              ((try refine W.a ?_); simp only [go_sem, seval, reduceCtorEq, rzA D])
              by_cases hwr : wrongL lx ⟨ns[k].text, (tokL t j).n, fix⟩ = 0
              · rw [if_pos hwr] at hr'
                have hlen := wrong_many hwr
                apply W.dregE (List.cons_ne_nil _ _)
                case hc =>
                  (apply CanonE.advPO; simp only [go_sem, seval, reduceCtorEq, rzA D])
                  (apply CanonE.call (ops_Declare w0 lx ⟨ns[k].text, (tokL t j).n, fix⟩ hlne (by omega) _); (case hg => rfl); (case hf => rfl); (case ha => first | rfl | simp))
                  (apply CanonE.advPO; simp only [go_sem, seval, reduceCtorEq, rzA D, hwr, if_true])
                  exact CanonE.nil
                ((try refine W.a ?_); simp only [go_sem, seval, reduceCtorEq, rzA D])
                refine W.no rfl ?_
                ((try refine W.a ?_); simp only [go_sem, seval, reduceCtorEq, rzA D, hwk])
                refine .inv ⟨⟨k + 1, lx ++ [⟨ns[k].text, (tokL t j).n, fix⟩], 0, 0⟩, ⟨hlt, by simp; omega, by simp, .inl ⟨rfl, rfl, hr'⟩⟩, by simp only; omega, ?_⟩
                (refine Lew.cutL (srd_ok D hok t ((j + 1 + 1 : Nat) : Int) (lx ++ [⟨ns[k].text, (tokL t j).n, fix⟩]) 0 0) ?_ (by simp) (by simp) ?_ ?_ ?_; exact lee_here; ((try simp only [okB, wkB, go_sem, seval, reduceCtorEq, rz_len]) <;> omega); (simp only [List.length_cons, List.length_nil, Nat.reduceAdd, List.take_succ_cons, List.take_zero, wkB, and_true]; (repeat' (refine And.intro ?_ ?_)) <;> (first | exact Blk.wk.rfl _ | exact Blk.wk.gone _ | (refine Blk.wk_cells ?_ rfl; (exact wk_here)))); (repeat' (first | exact LowE.base _ | (refine LowE.put ?_ (by first | exact .c _ | ((try simp only [okB, wkB, go_sem, seval, reduceCtorEq, rz_len]) <;> omega))))))
              · rw [if_neg hwr] at hr'
                have hwb : (wrongL lx ⟨ns[k].text, (tokL t j).n, fix⟩ == 0) = false := by simpa using hwr
                have hwn : (wrongL lx ⟨ns[k].text, (tokL t j).n, fix⟩ != 0) = true := by simpa using hwr
                apply W.dregE (List.cons_ne_nil _ _)
                case hc =>
                  (apply CanonE.advPO; simp only [go_sem, seval, reduceCtorEq, rzA D])
                  (apply CanonE.call (ops_Declare w0 lx ⟨ns[k].text, (tokL t j).n, fix⟩ hlne (by omega) _); (case hg => rfl); (case hf => rfl); (case ha => first | rfl | simp))
                  (apply CanonE.advPO; simp only [go_sem, seval, reduceCtorEq, rzA D, if_neg hwr])
                  exact CanonE.nil
                ((try refine W.a ?_); simp only [go_sem, seval, reduceCtorEq, rzA D, hwn])
                refine W.yes rfl ?_
                ((try refine W.a ?_); simp only [go_sem, seval, reduceCtorEq, rzA D])
                (refine W.c1 (DC.lift1 D (fun D' => sr_fail w0 t ((j + 1 + 1 : Nat) : Int) lx 0 0 (wrongL lx ⟨ns[k].text, (tokL t j).n, fix⟩) ns[k].pos _ b D')) ?_; simp only [go_sem, seval, reduceCtorEq, rzA D, if_true, hwk])
                refine .inv ⟨⟨k + 1, lx, wrongL lx ⟨ns[k].text, (tokL t j).n, fix⟩, ns[k].pos⟩, ⟨hlt, hlx, hlne, .inr ⟨hwb, hr'⟩⟩, by simp only; omega, ?_⟩
                (refine Lew.cutL (srd_ok D hok t ((j + 1 + 1 : Nat) : Int) lx (wrongL lx ⟨ns[k].text, (tokL t j).n, fix⟩) ns[k].pos) ?_ (by simp) (by simp) ?_ ?_ ?_; exact lee_here; ((try simp only [okB, wkB, go_sem, seval, reduceCtorEq, rz_len]) <;> omega); (simp only [List.length_cons, List.length_nil, Nat.reduceAdd, List.take_succ_cons, List.take_zero, wkB, and_true]; (repeat' (refine And.intro ?_ ?_)) <;> (first | exact Blk.wk.rfl _ | exact Blk.wk.gone _ | (refine Blk.wk_cells ?_ rfl; (exact wk_here)))); (repeat' (first | exact LowE.base _ | (refine LowE.put ?_ (by first | exact .c _ | ((try simp only [okB, wkB, go_sem, seval, reduceCtorEq, rz_len]) <;> omega))))))
            · subst hr'
              have hb : (e != 0) = true := by rw [bne, he]; rfl
              ((try refine W.a ?_); simp only [go_sem, seval, reduceCtorEq, rzA D, h1])
              refine W.yes rfl ?_
              ((try refine W.a ?_); simp only [go_sem, seval, reduceCtorEq, rzA D, h1, nat0, hx, hb])
              refine W.yes rfl ?_
              ((try refine W.a ?_); simp only [go_sem, seval, reduceCtorEq, rzA D])
              (refine W.fg (srd_ok D hok t ((j + 1 + 1 : Nat) : Int) lx e p) (d := (⟨2, ns.map (·.text), 0, .none, ⟨[], (tokL t j).n, fix⟩, .none, 0⟩ : Sent).v) (by simp only [r86, go_sem, seval, reduceCtorEq, sent_v, strsC, Pre.none, Typ.none, tk_mk, tname_mk, tn_mk, tl_mk]; rfl) (by simp only [resV, go_sem, seval, reduceCtorEq, sent_v, strsC, Pre.none, Typ.none, tk_mk, tname_mk, tn_mk, tl_mk]; exact wk_here) ?_ (hl := by (first | exact .c _ | (simp only [go_sem, seval, reduceCtorEq, sent_v, strsC, Pre.none, Typ.none, tk_mk, tname_mk, tn_mk, tl_mk]; done))))
              exact ⟨he, _, _, _, rfl, rfl⟩
          · have h1 : ¬ ((k : Int) < (ns.length : Int)) := by omega
            have hdr : ns.drop k = [] := List.drop_eq_nil_of_le (by omega)
            ((try refine W.a ?_); simp only [go_sem, seval, reduceCtorEq, rzA D, h1])
            refine W.no rfl ?_
            ((try refine W.a ?_); simp only [go_sem, seval, reduceCtorEq, rzA D])
            rcases hst with ⟨rfl, rfl, hr'⟩ | ⟨he, hr'⟩
            · rw [hdr, declL] at hr'
              subst hr'
              (refine W.fg (srd_ok D hok t ((j + 1 + 1 : Nat) : Int) lx 0 0) (d := (⟨2, ns.map (·.text), 0, .none, ⟨[], (tokL t j).n, fix⟩, .none, 0⟩ : Sent).v) (by simp only [r86, go_sem, seval, reduceCtorEq, sent_v, strsC, Pre.none, Typ.none, tk_mk, tname_mk, tn_mk, tl_mk]; rfl) (by simp only [resV, go_sem, seval, reduceCtorEq, sent_v, strsC, Pre.none, Typ.none, tk_mk, tname_mk, tn_mk, tl_mk]; exact wk_here) ?_ (hl := by (first | exact .c _ | (simp only [go_sem, seval, reduceCtorEq, sent_v, strsC, Pre.none, Typ.none, tk_mk, tname_mk, tn_mk, tl_mk]; done))))
              exact ⟨rfl, rfl⟩
            · subst hr'
              (refine W.fg (srd_ok D hok t ((j + 1 + 1 : Nat) : Int) lx e p) (d := (⟨2, ns.map (·.text), 0, .none, ⟨[], (tokL t j).n, fix⟩, .none, 0⟩ : Sent).v) (by simp only [r86, go_sem, seval, reduceCtorEq, sent_v, strsC, Pre.none, Typ.none, tk_mk, tname_mk, tn_mk, tl_mk]; rfl) (by simp only [resV, go_sem, seval, reduceCtorEq, sent_v, strsC, Pre.none, Typ.none, tk_mk, tname_mk, tn_mk, tl_mk]; exact wk_here) ?_ (hl := by (first | exact .c _ | (simp only [go_sem, seval, reduceCtorEq, sent_v, strsC, Pre.none, Typ.none, tk_mk, tname_mk, tn_mk, tl_mk]; done))))
              exact ⟨he, _, _, _, rfl, rfl⟩
      · rw [if_neg h7] at hr
        subst hr
        simp only [if_neg h7]
        refine W.loopP (fun k : Nat => k = 0) (fun k => ⟨(((((((base.put (some 0) (.ptr b 0)).put (some 1) (I fix)).put (some 4) (.ptr σ.length 0)).put (some 6) (.ptr (σ.length + 1) 0)).put (some 34) (.c (toksC ns))).put (some 35) (I ns.length)).put (some 36) (I (k : Nat))), srd σ b t ((j + 1 + 1 : Nat) : Int) l 101 (tokL t (j + 1)).pos ++ [zeroB, .cells [I 2, .c (strsC (ns.map (·.text))), I 0, I 0, S [], I 0, .csl [], S [], I (tokL t j).n, I fix, I 0, S [], I 0, .csl [], I 0, I 0]]⟩) (fun k => 0) 0 rfl ?_ (fun k hk => ?_)
        · (refine Lew.env ?_; exact lee_here)
        · subst hk
          by_cases hlt : 0 < ns.length
          · have h1 : (((0 : Nat) : Int) < (ns.length : Int)) := by omega
            have h1' : ((0 : Int) < (ns.length : Int)) := by omega
            have hx : ns[0]? = some ns[0] := List.getElem?_eq_getElem hlt
            ((try refine W.a ?_); simp only [go_sem, seval, reduceCtorEq, rzA D, h1, h1'])
            refine W.yes rfl ?_
            ((try refine W.a ?_); simp only [go_sem, seval, reduceCtorEq, rzA D, h1, h1', nat0, hx])
            refine W.yes rfl ?_
            ((try refine W.a ?_); simp only [go_sem, seval, reduceCtorEq, rzA D])
            (refine W.fg (srd_ok D hok t ((j + 1 + 1 : Nat) : Int) l 101 (tokL t (j + 1)).pos) (d := (⟨2, ns.map (·.text), 0, .none, ⟨[], (tokL t j).n, fix⟩, .none, 0⟩ : Sent).v) (by simp only [r86, go_sem, seval, reduceCtorEq, sent_v, strsC, Pre.none, Typ.none, tk_mk, tname_mk, tn_mk, tl_mk]; rfl) (by simp only [resV, go_sem, seval, reduceCtorEq, sent_v, strsC, Pre.none, Typ.none, tk_mk, tname_mk, tn_mk, tl_mk]; exact wk_here) ?_ (hl := by (first | exact .c _ | (simp only [go_sem, seval, reduceCtorEq, sent_v, strsC, Pre.none, Typ.none, tk_mk, tname_mk, tn_mk, tl_mk]; done))))
            exact ⟨rfl, _, _, _, rfl, rfl⟩
          · have h1 : ¬ (((0 : Nat) : Int) < (ns.length : Int)) := by omega
            have h1' : ¬ ((0 : Int) < (ns.length : Int)) := by omega
            ((try refine W.a ?_); simp only [go_sem, seval, reduceCtorEq, rzA D, h1, h1'])
            refine W.no rfl ?_
            ((try refine W.a ?_); simp only [go_sem, seval, reduceCtorEq, rzA D])
            (refine W.fg (srd_ok D hok t ((j + 1 + 1 : Nat) : Int) l 101 (tokL t (j + 1)).pos) (d := (⟨2, ns.map (·.text), 0, .none, ⟨[], (tokL t j).n, fix⟩, .none, 0⟩ : Sent).v) (by simp only [r86, go_sem, seval, reduceCtorEq, sent_v, strsC, Pre.none, Typ.none, tk_mk, tname_mk, tn_mk, tl_mk]; rfl) (by simp only [resV, go_sem, seval, reduceCtorEq, sent_v, strsC, Pre.none, Typ.none, tk_mk, tname_mk, tn_mk, tl_mk]; exact wk_here) ?_ (hl := by (first | exact .c _ | (simp only [go_sem, seval, reduceCtorEq, sent_v, strsC, Pre.none, Typ.none, tk_mk, tname_mk, tn_mk, tl_mk]; done))))
            exact ⟨rfl, _, _, _, rfl, rfl⟩
    · rw [if_neg h3] at hr
      subst hr
      simp only [if_neg h3]
      (refine W.c1 (DC.lift1 D (fun D' => sr_end1 w0 t ((j + 1 : Nat) : Int) l 100 (tokL t j).pos rfl _ b D')) ?_; simp only [go_sem, seval, reduceCtorEq, rzA D])
      refine W.loopP (fun k : Nat => k = 0) (fun k => ⟨(((((((base.put (some 0) (.ptr b 0)).put (some 1) (I fix)).put (some 4) (.ptr σ.length 0)).put (some 6) (.ptr (σ.length + 1) 0)).put (some 34) (.c (toksC ns))).put (some 35) (I ns.length)).put (some 36) (I (k : Nat))), srd σ b t ((j + 1 : Nat) : Int) l 100 (tokL t j).pos ++ [zeroB, .cells [I 2, .c (strsC (ns.map (·.text))), I 0, I 0, S [], I 0, .csl [], S [], I (tokL t j).n, I fix, I 0, S [], I 0, .csl [], I 0, I 0]]⟩) (fun k => 0) 0 rfl ?_ (fun k hk => ?_)
      · (refine Lew.env ?_; exact lee_here)
      · subst hk
        by_cases hlt : 0 < ns.length
        · have h1 : (((0 : Nat) : Int) < (ns.length : Int)) := by omega
          have h1' : ((0 : Int) < (ns.length : Int)) := by omega
          have hx : ns[0]? = some ns[0] := List.getElem?_eq_getElem hlt
          ((try refine W.a ?_); simp only [go_sem, seval, reduceCtorEq, rzA D, h1, h1'])
          refine W.yes rfl ?_
          ((try refine W.a ?_); simp only [go_sem, seval, reduceCtorEq, rzA D, h1, h1', nat0, hx])
          refine W.yes rfl ?_
          ((try refine W.a ?_); simp only [go_sem, seval, reduceCtorEq, rzA D])
          (refine W.fg (srd_ok D hok t ((j + 1 : Nat) : Int) l 100 (tokL t j).pos) (d := (⟨2, ns.map (·.text), 0, .none, ⟨[], (tokL t j).n, fix⟩, .none, 0⟩ : Sent).v) (by simp only [r86, go_sem, seval, reduceCtorEq, sent_v, strsC, Pre.none, Typ.none, tk_mk, tname_mk, tn_mk, tl_mk]; rfl) (by simp only [resV, go_sem, seval, reduceCtorEq, sent_v, strsC, Pre.none, Typ.none, tk_mk, tname_mk, tn_mk, tl_mk]; exact wk_here) ?_ (hl := by (first | exact .c _ | (simp only [go_sem, seval, reduceCtorEq, sent_v, strsC, Pre.none, Typ.none, tk_mk, tname_mk, tn_mk, tl_mk]; done))))
          exact ⟨rfl, _, _, _, rfl, rfl⟩
        · have h1 : ¬ (((0 : Nat) : Int) < (ns.length : Int)) := by omega
          have h1' : ¬ ((0 : Int) < (ns.length : Int)) := by omega
          ((try refine W.a ?_); simp only [go_sem, seval, reduceCtorEq, rzA D, h1, h1'])
          refine W.no rfl ?_
          ((try refine W.a ?_); simp only [go_sem, seval, reduceCtorEq, rzA D])
          (refine W.fg (srd_ok D hok t ((j + 1 : Nat) : Int) l 100 (tokL t j).pos) (d := (⟨2, ns.map (·.text), 0, .none, ⟨[], (tokL t j).n, fix⟩, .none, 0⟩ : Sent).v) (by simp only [r86, go_sem, seval, reduceCtorEq, sent_v, strsC, Pre.none, Typ.none, tk_mk, tname_mk, tn_mk, tl_mk]; rfl) (by simp only [resV, go_sem, seval, reduceCtorEq, sent_v, strsC, Pre.none, Typ.none, tk_mk, tname_mk, tn_mk, tl_mk]; exact wk_here) ?_ (hl := by (first | exact .c _ | (simp only [go_sem, seval, reduceCtorEq, sent_v, strsC, Pre.none, Typ.none, tk_mk, tname_mk, tn_mk, tl_mk]; done))))
          exact ⟨rfl, _, _, _, rfl, rfl⟩
  · rw [hn] at hr
    subst hr
    have hb : (e != 0) = true := by rw [bne, he]; rfl
    ((try refine W.a ?_); simp only [go_sem, seval, reduceCtorEq, rzA D, hb])
    refine W.yes rfl ?_
    ((try refine W.a ?_); simp only [go_sem, seval, reduceCtorEq, rzA D])
    (refine W.fg (srd_ok D hok t (j : Nat) l e p) (d := (⟨2, ns.map (·.text), 0, .none, ⟨[], 0, fix⟩, .none, 0⟩ : Sent).v) (by simp only [r86, go_sem, seval, reduceCtorEq, sent_v, strsC, Pre.none, Typ.none, tk_mk, tname_mk, tn_mk, tl_mk]; rfl) (by simp only [resV, go_sem, seval, reduceCtorEq, sent_v, strsC, Pre.none, Typ.none, tk_mk, tname_mk, tn_mk, tl_mk]; exact wk_here) ?_ (hl := by (first | exact .c _ | (simp only [go_sem, seval, reduceCtorEq, sent_v, strsC, Pre.none, Typ.none, tk_mk, tname_mk, tn_mk, tl_mk]; done))))
    exact ⟨he, _, _, _, rfl, rfl⟩
end
end Go.Proofs.YtplgnfciipceiaaGreatDoor

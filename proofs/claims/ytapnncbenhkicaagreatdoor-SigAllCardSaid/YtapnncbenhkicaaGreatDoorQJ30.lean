/-
  Walks: operators' sentences.
  Walks: a sentence.
  The code of some functions, without addresses.
  Walks: the first operators.
  Walks: rows of operators, one behind the other.
  Walks: the first operators, all of them.
  Walks: source.Read, source.Query.
  Walks: source.Query.
  The code of some functions, without addresses.
  Walks: a tree is the same as itself.
  Walks: the document's examples of sentences; which operators are the same.
  The code of some functions, without addresses.
  The code of some functions, without addresses.
  The code of some functions, without addresses.
  Walks: the document's reader, its small functions.
  Walks: the document's type reader, its small functions.
  Walks: the document's type reader: an atom.
  Walks: the document's type reader: a type; its Read.
  Walks: the document's Read of types; which types are the same, and how large they are.
  Walks: when two sentences are the same.
  The code of some functions, without addresses.
  Walks: the document's operators: the first ones; what is wrong with one more.
  Walks: which kind, which constant; whether a type fits.
  Walks: whether a type fits; which names have a meaning of their own.
  Walks: sentences are added to a signature.
  Walks: a name of a sentence is added; a sentence is added.
  Walks: the document's answer: a name of a sentence is added.
  Walks: the document's answer: a sentence is added; when two signatures are the same.
  The code of some functions, without addresses.
-/
import Derived.Test.YtapnncbenhkicaaGreatDoorQJ29
import Derived.Test.YtapnncbenhkicaaGreatDoorChecked
import Derived.Test.YtapnncbenhkicaaGreatDoorQJ11
import Derived.Test.YtapnncbenhkicaaGreatDoorQGrow
import Derived.Test.YtapnncbenhkicaaGreatDoorQLxD
import Derived.Test.YtapnncbenhkicaaGreatDoorQLexGl
import Derived.Test.YtapnncbenhkicaaGreatDoorQLexBk
import Derived.Test.YtapnncbenhkicaaGreatDoorQJ28
import Derived.Test.YtapnncbenhkicaaGreatDoorQRefH
import Derived.Test.YtapnncbenhkicaaGreatDoorQRefI
set_option linter.unusedSimpArgs false
set_option linter.unusedVariables false
set_option maxHeartbeats 8000000
set_option maxRecDepth 20000
namespace Go.Proofs.YtapnncbenhkicaaGreatDoor
open Go.RowKit Go.Lamb
attribute [local go_sem] advO_skip advO_reg advO_seq advO_block advO_exit advO_endb advO_opsNil advO_ops advG_yes advG_no advG_none advS_some advS_none advO_cond advO_loop advO_dreg advO_ret advO_bad advO_inv advO_nil advO_zero wantedV Lamb.step ev_t ev_k put_some put_none argEnv popTo cellsAt V.cellsV V.rows V.toC toCs fillV bytesC byteRows appV rowsV boundV boundL binV binInt binStr eqC eqL V.isNil leaves V.leaf Ins.quiet Ins.pure List.getD_cons_zero List.getD_cons_succ List.getD_nil List.all_cons List.all_nil List.length_cons List.length_nil List.take_succ_cons List.take_zero List.drop_succ_cons List.drop_zero List.cons_append List.nil_append List.append_nil List.append_assoc List.map_cons List.map_nil List.getElem?_cons_zero List.getElem?_cons_succ List.length_append List.length_set hget0 hget hset0 hset hsets hgs0 hgs hss0 hss List.set_cons_zero List.set_cons_succ List.forall_mem_cons List.not_mem_nil false_implies implies_true Option.map_some Bool.and_true Bool.true_and Bool.not_not Bool.not_true Bool.not_false Bool.and_self Bool.or_true Bool.true_or Bool.or_false Bool.false_or Bool.and_false Bool.false_and Bool.false_eq_true beq_self_eq_true and_self and_true true_and if_true if_false Nat.zero_add Nat.add_zero Nat.le_refl Int.toNat_natCast decide_true decide_false beq_t beq_f List.length_map List.getElem?_map I S B opsC toksC OpT.v OpT.cs OpT.zero Tok.v Tok.cs Pre.v Pre.cs_eq k_mk name_mk n_mk l_mk pos_mk Pre.app applyL natCast0 natCast1 natCast2 AOp.o AOp.m AOp.f AOp.l AOp.d AOp.n AOp.x AOp.s AOp.k AOp.y AOp.z EOp.q low_c low_void low_any low_csl low_nilf low_ptr low_osl low_agg low_tup low_fn resEval advPO_nil advPO_loud advPO_quiet pL_yes pL_no pLS_some pLS_none pQ_yes pQ_no pQS_some pQS_loud eq_self Nat.sub_zero
section
attribute [local go_sem] strsC sdX rz_len rz_g0 rz_g rz_s0 rz_s rz_sb zeroB

def opP (t : List Tok) (i : Nat) (fix : Int) (l : List OpT) : SoR := match namesS t true i [] with
  | .error b => .error b
  | .ok (ns, j) =>
    if (tokL t j).kind = 3 then
      if (tokL t (j + 1)).kind = 7 then
        match declL (tokL t j).n fix l ns with
        | .error b => .error b
        | .ok l' => .ok (⟨2, ns.map (·.text), 0, .none, ⟨[], (tokL t j).n, fix⟩, .none, 0⟩, j + 2, l')
      else .error ⟨101, (tokL t (j + 1)).pos⟩
    else .error ⟨100, (tokL t j).pos⟩
theorem wrong_many {l : List OpT} {o : OpT} (h : wrongL l o = 0) : l.length < 64 := by
  unfold wrongL at h
  split at h
  · cases h
  · split at h
    · cases h
    · split at h
      · cases h
      · split at h
        · cases h
        · split at h
          · cases h
          · omega
theorem declL_len {prec fix : Int} : ∀ {ns : List Tok} {l l' : List OpT}, l.length ≤ 64 → l ≠ [] → declL prec fix l ns = .ok l' → l'.length ≤ 64 ∧ l' ≠ []
  | [], l, l', h, hn, he => by
    rw [declL] at he
    injection he with he
    subst he
    exact ⟨h, hn⟩
  | x :: r, l, l', h, hn, he => by
    rw [declL] at he
    split at he
    · rename_i hw
      have := wrong_many hw
      exact declL_len (by simp; omega) (by simp) he
    · cases he
structure OpSt where
  k : Nat
  l : List OpT
  e : Int
  p : Int
theorem sr_operator (w0 : World) (t : List Tok) (hT : TEnd t) (i : Nat) (hi : i ≤ t.length) (fix : Int) (l : List OpT) (hl : l.length ≤ 64) (hne : l ≠ []) (σ : H) (b : Nat) (D : b < σ.length) :
    DC Tryz.prog w0 50 [.ptr b 0, I fix] (srd σ b t i l 0 0) (RSen t σ b (opP t i fix l)) := by
  refine k50.go rfl (fun hok hsz => ?_)
  have hle := hT.le
  generalize hr : opP t i fix l = r
  unfold opP at hr
  ((try refine W.a ?_); simp only [go_sem, seval, reduceCtorEq, c50, rzA D])
  (refine W.call (DC.lift1R D (fun D' => sr_names2 w0 t hT i hi l _ b D')) rfl rfl (by first | rfl | simp) ?_)
  intro d σ1 hR
  obtain ⟨ns, j, e, p, hnl, hjl, rfl, rfl, hst⟩ := names_out hT hi hR
  ((try refine W.a ?_); simp only [go_sem, seval, reduceCtorEq, rzA D])
  (refine W.c1 (source_texts w0 ns hnl _) ?_; simp only [go_sem, seval, reduceCtorEq, rzA D])
  rcases hst with ⟨rfl, rfl, hj, hn⟩ | ⟨he, hn⟩
  · rw [hn] at hr
    simp only at hr
    have hk : ([3] : List Int).contains (tokL t j).kind = decide ((tokL t j).kind = 3) := by
      simp only [List.contains_cons, List.contains_nil, Bool.or_false]
      rw [Bool.eq_iff_iff]; simp
    have hc := fun L => DC.lift1 D (L := L) (fun D' => sr_take w0 t hT j (by omega) l 0 0 100 [3] (σ ++ L) b D')
    rw [hk] at hc
    simp only [decide_eq_true_eq, if_true] at hc
    ((try refine W.a ?_); simp only [go_sem, seval, reduceCtorEq, rzA D])
    refine W.no rfl ?_
    ((try refine W.a ?_); simp only [go_sem, seval, reduceCtorEq, rzA D])
    (refine W.c1w (hc _) ?_; simp only [go_sem, seval, reduceCtorEq, rzA D])
    by_cases h3 : (tokL t j).kind = 3
    · rw [if_pos h3] at hr
      simp only [if_pos h3]
      (refine W.c1 (DC.lift1 D (fun D' => sr_end0 w0 t hT (j + 1) (by omega) l _ b D')) ?_; simp only [go_sem, seval, reduceCtorEq, rzA D])
      by_cases h7 : (tokL t (j + 1)).kind = 7
      · rw [if_pos h7] at hr
        simp only [if_pos h7]
        refine W.loopP (fun x : OpSt => x.k ≤ ns.length ∧ x.l.length ≤ 64 ∧ x.l ≠ [] ∧ ((x.e = 0 ∧ x.p = 0 ∧ r = (match declL (tokL t j).n fix x.l (ns.drop x.k) with
            | .error b => .error b
            | .ok l' => .ok (⟨2, ns.map (·.text), 0, .none, ⟨[], (tokL t j).n, fix⟩, .none, 0⟩, j + 2, l'))) ∨ ((x.e == 0) = false ∧ r = .error ⟨x.e, x.p⟩)))
          (fun x => ⟨(((((((base.put (some 0) (.ptr b 0)).put (some 1) (I fix)).put (some 4) (.ptr σ.length 0)).put (some 6) (.ptr (σ.length + 1) 0)).put (some 34) (.c (toksC ns))).put (some 35) (I ns.length)).put (some 36) (I (x.k : Nat))), srd σ b t ((j + 1 + 1 : Nat) : Int) x.l x.e x.p ++ [zeroB, .cells [I 2, .c (strsC (ns.map (·.text))), I 0, I 0, S [], I 0, .csl [], S [], I (tokL t j).n, I fix, I 0, S [], I 0, .csl [], I 0, I 0]]⟩) (fun x => ns.length - x.k) ⟨0, l, 0, 0⟩ ⟨Nat.zero_le _, hl, hne, .inl ⟨rfl, rfl, by rw [← hr, List.drop_zero]⟩⟩ ?_ (fun x hx => ?_)
        · (refine Lew.env ?_; exact lee_here)
        · obtain ⟨k, lx, e, p⟩ := x
          obtain ⟨hkn, hlx, hlne, hst⟩ := hx
          simp only at hkn hlx hlne hst
          by_cases hlt : k < ns.length
          · have h1 : ((k : Int) < (ns.length : Int)) := by omega
            have hx : ns[k]? = some ns[k] := List.getElem?_eq_getElem hlt
            have hwk : IntKind.i64.wrap ((k : Int) + 1) = ((k + 1 : Nat) : Int) := by rw [wrap_in] <;> omega
            have hdr : ns.drop k = ns[k] :: ns.drop (k + 1) := List.drop_eq_getElem_cons hlt
            rcases hst with ⟨rfl, rfl, hr'⟩ | ⟨he, hr'⟩
            · rw [hdr, declL] at hr'
              ((try refine W.a ?_); simp only [go_sem, seval, reduceCtorEq, rzA D, h1])
              refine W.yes rfl ?_
              ((try refine W.a ?_); simp only [go_sem, seval, reduceCtorEq, rzA D, h1, nat0, hx])
              refine W.no rfl ?_
              ((try refine W.a ?_); simp only [go_sem, seval, reduceCtorEq, rzA D])
              by_cases hwr : wrongL lx ⟨ns[k].text, (tokL t j).n, fix⟩ = 0
              · rw [if_pos hwr] at hr'
                have hlen := wrong_many hwr
                apply W.dregE (List.cons_ne_nil _ _)
                case hc =>
                  (apply CanonE.advPO; simp only [go_sem, seval, reduceCtorEq, rzA D])
                  (apply CanonE.call (ops_Declare w0 lx ⟨ns[k].text, (tokL t j).n, fix⟩ hlne (by omega) _); (case hg => rfl); (case hf => rfl); (case ha => first | rfl | simp))
                  (apply CanonE.advPO; simp only [go_sem, seval, reduceCtorEq, rzA D, hwr, if_true])
                  exact CanonE.nil
                ((try refine W.a ?_); simp only [go_sem, seval, reduceCtorEq, rzA D])
                refine W.no rfl ?_
                ((try refine W.a ?_); simp only [go_sem, seval, reduceCtorEq, rzA D, hwk])
                refine .inv ⟨⟨k + 1, lx ++ [⟨ns[k].text, (tokL t j).n, fix⟩], 0, 0⟩, ⟨hlt, by simp; omega, by simp, .inl ⟨rfl, rfl, hr'⟩⟩, by simp only; omega, ?_⟩
                (refine Lew.cutL (srd_ok D hok t ((j + 1 + 1 : Nat) : Int) (lx ++ [⟨ns[k].text, (tokL t j).n, fix⟩]) 0 0) ?_ (by simp) (by simp) ?_ ?_ ?_; exact lee_here; ((try simp only [okB, wkB, go_sem, seval, reduceCtorEq, rz_len]) <;> omega); (simp only [List.length_cons, List.length_nil, Nat.reduceAdd, List.take_succ_cons, List.take_zero, wkB, and_true]; (repeat' (refine And.intro ?_ ?_)) <;> (first | exact Blk.wk.rfl _ | exact Blk.wk.gone _ | (refine Blk.wk_cells ?_ rfl; (exact wk_here)))); (repeat' (first | exact LowE.base _ | (refine LowE.put ?_ (by first | exact .c _ | ((try simp only [okB, wkB, go_sem, seval, reduceCtorEq, rz_len]) <;> omega))))))
              · rw [if_neg hwr] at hr'
                have hwb : (wrongL lx ⟨ns[k].text, (tokL t j).n, fix⟩ == 0) = false := by simpa using hwr
                have hwn : (wrongL lx ⟨ns[k].text, (tokL t j).n, fix⟩ != 0) = true := by simpa using hwr
                apply W.dregE (List.cons_ne_nil _ _)
                case hc =>
                  (apply CanonE.advPO; simp only [go_sem, seval, reduceCtorEq, rzA D])
                  (apply CanonE.call (ops_Declare w0 lx ⟨ns[k].text, (tokL t j).n, fix⟩ hlne (by omega) _); (case hg => rfl); (case hf => rfl); (case ha => first | rfl | simp))
                  (apply CanonE.advPO; simp only [go_sem, seval, reduceCtorEq, rzA D, if_neg hwr])
                  exact CanonE.nil
                ((try refine W.a ?_); simp only [go_sem, seval, reduceCtorEq, rzA D, hwn])
                refine W.yes rfl ?_
                ((try refine W.a ?_); simp only [go_sem, seval, reduceCtorEq, rzA D])
                (refine W.c1 (DC.lift1 D (fun D' => sr_fail w0 t ((j + 1 + 1 : Nat) : Int) lx 0 0 (wrongL lx ⟨ns[k].text, (tokL t j).n, fix⟩) ns[k].pos _ b D')) ?_; simp only [go_sem, seval, reduceCtorEq, rzA D, if_true, hwk])
                refine .inv ⟨⟨k + 1, lx, wrongL lx ⟨ns[k].text, (tokL t j).n, fix⟩, ns[k].pos⟩, ⟨hlt, hlx, hlne, .inr ⟨hwb, hr'⟩⟩, by simp only; omega, ?_⟩
                (refine Lew.cutL (srd_ok D hok t ((j + 1 + 1 : Nat) : Int) lx (wrongL lx ⟨ns[k].text, (tokL t j).n, fix⟩) ns[k].pos) ?_ (by simp) (by simp) ?_ ?_ ?_; exact lee_here; ((try simp only [okB, wkB, go_sem, seval, reduceCtorEq, rz_len]) <;> omega); (simp only [List.length_cons, List.length_nil, Nat.reduceAdd, List.take_succ_cons, List.take_zero, wkB, and_true]; (repeat' (refine And.intro ?_ ?_)) <;> (first | exact Blk.wk.rfl _ | exact Blk.wk.gone _ | (refine Blk.wk_cells ?_ rfl; (exact wk_here)))); (repeat' (first | exact LowE.base _ | (refine LowE.put ?_ (by first | exact .c _ | ((try simp only [okB, wkB, go_sem, seval, reduceCtorEq, rz_len]) <;> omega))))))
            · subst hr'
              have hb : (e != 0) = true := by rw [bne, he]; rfl
              ((try refine W.a ?_); simp only [go_sem, seval, reduceCtorEq, rzA D, h1])
              refine W.yes rfl ?_
              ((try refine W.a ?_); simp only [go_sem, seval, reduceCtorEq, rzA D, h1, nat0, hx, hb])
              refine W.yes rfl ?_
              ((try refine W.a ?_); simp only [go_sem, seval, reduceCtorEq, rzA D])
              (refine W.fg (srd_ok D hok t ((j + 1 + 1 : Nat) : Int) lx e p) (d := (⟨2, ns.map (·.text), 0, .none, ⟨[], (tokL t j).n, fix⟩, .none, 0⟩ : Sent).v) (by simp only [r50, go_sem, seval, reduceCtorEq, sent_v, strsC, Pre.none, Typ.none, tk_mk, tname_mk, tn_mk, tl_mk]; rfl) (by simp only [resV, go_sem, seval, reduceCtorEq, sent_v, strsC, Pre.none, Typ.none, tk_mk, tname_mk, tn_mk, tl_mk]; exact wk_here) ?_ (hl := by (first | exact .c _ | (simp only [go_sem, seval, reduceCtorEq, sent_v, strsC, Pre.none, Typ.none, tk_mk, tname_mk, tn_mk, tl_mk]; done))))
              exact ⟨he, _, _, _, rfl, rfl⟩
          · have h1 : ¬ ((k : Int) < (ns.length : Int)) := by omega
            have hdr : ns.drop k = [] := List.drop_eq_nil_of_le (by omega)
            ((try refine W.a ?_); simp only [go_sem, seval, reduceCtorEq, rzA D, h1])
            refine W.no rfl ?_
            ((try refine W.a ?_); simp only [go_sem, seval, reduceCtorEq, rzA D])
            rcases hst with ⟨rfl, rfl, hr'⟩ | ⟨he, hr'⟩
            · rw [hdr, declL] at hr'
              subst hr'
              (refine W.fg (srd_ok D hok t ((j + 1 + 1 : Nat) : Int) lx 0 0) (d := (⟨2, ns.map (·.text), 0, .none, ⟨[], (tokL t j).n, fix⟩, .none, 0⟩ : Sent).v) (by simp only [r50, go_sem, seval, reduceCtorEq, sent_v, strsC, Pre.none, Typ.none, tk_mk, tname_mk, tn_mk, tl_mk]; rfl) (by simp only [resV, go_sem, seval, reduceCtorEq, sent_v, strsC, Pre.none, Typ.none, tk_mk, tname_mk, tn_mk, tl_mk]; exact wk_here) ?_ (hl := by (first | exact .c _ | (simp only [go_sem, seval, reduceCtorEq, sent_v, strsC, Pre.none, Typ.none, tk_mk, tname_mk, tn_mk, tl_mk]; done))))
              exact ⟨rfl, rfl⟩
            · subst hr'
              (refine W.fg (srd_ok D hok t ((j + 1 + 1 : Nat) : Int) lx e p) (d := (⟨2, ns.map (·.text), 0, .none, ⟨[], (tokL t j).n, fix⟩, .none, 0⟩ : Sent).v) (by simp only [r50, go_sem, seval, reduceCtorEq, sent_v, strsC, Pre.none, Typ.none, tk_mk, tname_mk, tn_mk, tl_mk]; rfl) (by simp only [resV, go_sem, seval, reduceCtorEq, sent_v, strsC, Pre.none, Typ.none, tk_mk, tname_mk, tn_mk, tl_mk]; exact wk_here) ?_ (hl := by (first | exact .c _ | (simp only [go_sem, seval, reduceCtorEq, sent_v, strsC, Pre.none, Typ.none, tk_mk, tname_mk, tn_mk, tl_mk]; done))))
              exact ⟨he, _, _, _, rfl, rfl⟩
      · rw [if_neg h7] at hr
        subst hr
        simp only [if_neg h7]
        refine W.loopP (fun k : Nat => k = 0) (fun k => ⟨(((((((base.put (some 0) (.ptr b 0)).put (some 1) (I fix)).put (some 4) (.ptr σ.length 0)).put (some 6) (.ptr (σ.length + 1) 0)).put (some 34) (.c (toksC ns))).put (some 35) (I ns.length)).put (some 36) (I (k : Nat))), srd σ b t ((j + 1 + 1 : Nat) : Int) l 101 (tokL t (j + 1)).pos ++ [zeroB, .cells [I 2, .c (strsC (ns.map (·.text))), I 0, I 0, S [], I 0, .csl [], S [], I (tokL t j).n, I fix, I 0, S [], I 0, .csl [], I 0, I 0]]⟩) (fun k => 0) 0 rfl ?_ (fun k hk => ?_)
        · (refine Lew.env ?_; exact lee_here)
        · subst hk
          by_cases hlt : 0 < ns.length
          · have h1 : (((0 : Nat) : Int) < (ns.length : Int)) := by omega
            have h1' : ((0 : Int) < (ns.length : Int)) := by omega
            have hx : ns[0]? = some ns[0] := List.getElem?_eq_getElem hlt
            ((try refine W.a ?_); simp only [go_sem, seval, reduceCtorEq, rzA D, h1, h1'])
            refine W.yes rfl ?_
            ((try refine W.a ?_); simp only [go_sem, seval, reduceCtorEq, rzA D, h1, h1', nat0, hx])
            refine W.yes rfl ?_
            ((try refine W.a ?_); simp only [go_sem, seval, reduceCtorEq, rzA D])
            (refine W.fg (srd_ok D hok t ((j + 1 + 1 : Nat) : Int) l 101 (tokL t (j + 1)).pos) (d := (⟨2, ns.map (·.text), 0, .none, ⟨[], (tokL t j).n, fix⟩, .none, 0⟩ : Sent).v) (by simp only [r50, go_sem, seval, reduceCtorEq, sent_v, strsC, Pre.none, Typ.none, tk_mk, tname_mk, tn_mk, tl_mk]; rfl) (by simp only [resV, go_sem, seval, reduceCtorEq, sent_v, strsC, Pre.none, Typ.none, tk_mk, tname_mk, tn_mk, tl_mk]; exact wk_here) ?_ (hl := by (first | exact .c _ | (simp only [go_sem, seval, reduceCtorEq, sent_v, strsC, Pre.none, Typ.none, tk_mk, tname_mk, tn_mk, tl_mk]; done))))
            exact ⟨rfl, _, _, _, rfl, rfl⟩
          · have h1 : ¬ (((0 : Nat) : Int) < (ns.length : Int)) := by omega
            have h1' : ¬ ((0 : Int) < (ns.length : Int)) := by omega
            ((try refine W.a ?_); simp only [go_sem, seval, reduceCtorEq, rzA D, h1, h1'])
            refine W.no rfl ?_
            ((try refine W.a ?_); simp only [go_sem, seval, reduceCtorEq, rzA D])
            (refine W.fg (srd_ok D hok t ((j + 1 + 1 : Nat) : Int) l 101 (tokL t (j + 1)).pos) (d := (⟨2, ns.map (·.text), 0, .none, ⟨[], (tokL t j).n, fix⟩, .none, 0⟩ : Sent).v) (by simp only [r50, go_sem, seval, reduceCtorEq, sent_v, strsC, Pre.none, Typ.none, tk_mk, tname_mk, tn_mk, tl_mk]; rfl) (by simp only [resV, go_sem, seval, reduceCtorEq, sent_v, strsC, Pre.none, Typ.none, tk_mk, tname_mk, tn_mk, tl_mk]; exact wk_here) ?_ (hl := by (first | exact .c _ | (simp only [go_sem, seval, reduceCtorEq, sent_v, strsC, Pre.none, Typ.none, tk_mk, tname_mk, tn_mk, tl_mk]; done))))
            exact ⟨rfl, _, _, _, rfl, rfl⟩
    · rw [if_neg h3] at hr
      subst hr
      simp only [if_neg h3]
      (refine W.c1 (DC.lift1 D (fun D' => sr_end1 w0 t ((j + 1 : Nat) : Int) l 100 (tokL t j).pos rfl _ b D')) ?_; simp only [go_sem, seval, reduceCtorEq, rzA D])
      refine W.loopP (fun k : Nat => k = 0) (fun k => ⟨(((((((base.put (some 0) (.ptr b 0)).put (some 1) (I fix)).put (some 4) (.ptr σ.length 0)).put (some 6) (.ptr (σ.length + 1) 0)).put (some 34) (.c (toksC ns))).put (some 35) (I ns.length)).put (some 36) (I (k : Nat))), srd σ b t ((j + 1 : Nat) : Int) l 100 (tokL t j).pos ++ [zeroB, .cells [I 2, .c (strsC (ns.map (·.text))), I 0, I 0, S [], I 0, .csl [], S [], I (tokL t j).n, I fix, I 0, S [], I 0, .csl [], I 0, I 0]]⟩) (fun k => 0) 0 rfl ?_ (fun k hk => ?_)
      · (refine Lew.env ?_; exact lee_here)
      · subst hk
        by_cases hlt : 0 < ns.length
        · have h1 : (((0 : Nat) : Int) < (ns.length : Int)) := by omega
          have h1' : ((0 : Int) < (ns.length : Int)) := by omega
          have hx : ns[0]? = some ns[0] := List.getElem?_eq_getElem hlt
          ((try refine W.a ?_); simp only [go_sem, seval, reduceCtorEq, rzA D, h1, h1'])
          refine W.yes rfl ?_
          ((try refine W.a ?_); simp only [go_sem, seval, reduceCtorEq, rzA D, h1, h1', nat0, hx])
          refine W.yes rfl ?_
          ((try refine W.a ?_); simp only [go_sem, seval, reduceCtorEq, rzA D])
          (refine W.fg (srd_ok D hok t ((j + 1 : Nat) : Int) l 100 (tokL t j).pos) (d := (⟨2, ns.map (·.text), 0, .none, ⟨[], (tokL t j).n, fix⟩, .none, 0⟩ : Sent).v) (by simp only [r50, go_sem, seval, reduceCtorEq, sent_v, strsC, Pre.none, Typ.none, tk_mk, tname_mk, tn_mk, tl_mk]; rfl) (by simp only [resV, go_sem, seval, reduceCtorEq, sent_v, strsC, Pre.none, Typ.none, tk_mk, tname_mk, tn_mk, tl_mk]; exact wk_here) ?_ (hl := by (first | exact .c _ | (simp only [go_sem, seval, reduceCtorEq, sent_v, strsC, Pre.none, Typ.none, tk_mk, tname_mk, tn_mk, tl_mk]; done))))
          exact ⟨rfl, _, _, _, rfl, rfl⟩
        · have h1 : ¬ (((0 : Nat) : Int) < (ns.length : Int)) := by omega
          have h1' : ¬ ((0 : Int) < (ns.length : Int)) := by omega
          ((try refine W.a ?_); simp only [go_sem, seval, reduceCtorEq, rzA D, h1, h1'])
          refine W.no rfl ?_
          ((try refine W.a ?_); simp only [go_sem, seval, reduceCtorEq, rzA D])
          (refine W.fg (srd_ok D hok t ((j + 1 : Nat) : Int) l 100 (tokL t j).pos) (d := (⟨2, ns.map (·.text), 0, .none, ⟨[], (tokL t j).n, fix⟩, .none, 0⟩ : Sent).v) (by simp only [r50, go_sem, seval, reduceCtorEq, sent_v, strsC, Pre.none, Typ.none, tk_mk, tname_mk, tn_mk, tl_mk]; rfl) (by simp only [resV, go_sem, seval, reduceCtorEq, sent_v, strsC, Pre.none, Typ.none, tk_mk, tname_mk, tn_mk, tl_mk]; exact wk_here) ?_ (hl := by (first | exact .c _ | (simp only [go_sem, seval, reduceCtorEq, sent_v, strsC, Pre.none, Typ.none, tk_mk, tname_mk, tn_mk, tl_mk]; done))))
          exact ⟨rfl, _, _, _, rfl, rfl⟩
  · rw [hn] at hr
    subst hr
    have hb : (e != 0) = true := by rw [bne, he]; rfl
    ((try refine W.a ?_); simp only [go_sem, seval, reduceCtorEq, rzA D, hb])
    refine W.yes rfl ?_
    ((try refine W.a ?_); simp only [go_sem, seval, reduceCtorEq, rzA D])
    (refine W.fg (srd_ok D hok t (j : Nat) l e p) (d := (⟨2, ns.map (·.text), 0, .none, ⟨[], 0, fix⟩, .none, 0⟩ : Sent).v) (by simp only [r50, go_sem, seval, reduceCtorEq, sent_v, strsC, Pre.none, Typ.none, tk_mk, tname_mk, tn_mk, tl_mk]; rfl) (by simp only [resV, go_sem, seval, reduceCtorEq, sent_v, strsC, Pre.none, Typ.none, tk_mk, tname_mk, tn_mk, tl_mk]; exact wk_here) ?_ (hl := by (first | exact .c _ | (simp only [go_sem, seval, reduceCtorEq, sent_v, strsC, Pre.none, Typ.none, tk_mk, tname_mk, tn_mk, tl_mk]; done))))
    exact ⟨he, _, _, _, rfl, rfl⟩
end
section
attribute [local go_sem] strsC sdX rz_len rz_g0 rz_g rz_s0 rz_s rz_sb zeroB

def words5 : List Str := [[107, 105, 110, 100], [116, 121, 112, 101], [105, 110, 102, 105, 120], [105, 110, 102, 105, 120, 108], [105, 110, 102, 105, 120, 114]]
/-- A sentence ahead of its dot. -/
noncomputable def beforeP (t : List Tok) (l : List OpT) (i : Nat) : SoR :=
  if (tokL t i).kind = 1 ∧ (tokL t i).text = [107, 105, 110, 100] then kindP t (i + 1) l
  else if (tokL t i).kind = 1 ∧ (tokL t i).text = [116, 121, 112, 101] then typeP t (i + 1) l
  else if (tokL t i).kind = 1 ∧ (tokL t i).text = [105, 110, 102, 105, 120] then opP t (i + 1) 0 l
  else if (tokL t i).kind = 1 ∧ (tokL t i).text = [105, 110, 102, 105, 120, 108] then opP t (i + 1) 1 l
  else if (tokL t i).kind = 1 ∧ (tokL t i).text = [105, 110, 102, 105, 120, 114] then opP t (i + 1) 2 l
  else clauseP t i l
def sentAt (s : Sent) (pos : Int) : Sent := ⟨s.k, s.names, s.n, s.ty, s.op, s.body, pos⟩
def dotP (t : List Tok) (pos : Int) : SoR → SoR
  | .error b => .error b
  | .ok (s, k, l') => if s.k = 2 then .ok (sentAt s pos, k, l') else endS t (sentAt s pos) k l'
theorem kind_dot (t : List Tok) (i : Nat) (pos : Int) (l : List OpT) : kindSent t i pos l = dotP t pos (kindP t i l) := by
  unfold kindSent kindP
  cases namesS t false i [] with
  | error b => rfl
  | ok x =>
    obtain ⟨ns, j⟩ := x
    simp only
    cases kindS t j 0 with
    | error b => rfl
    | ok y => obtain ⟨n, k⟩ := y; rfl
theorem type_dot (t : List Tok) (i : Nat) (pos : Int) (l : List OpT) : typeSent t i pos l = dotP t pos (typeP t i l) := by
  unfold typeSent typeP
  cases namesS t true i [] with
  | error b => rfl
  | ok x =>
    obtain ⟨ns, j⟩ := x
    simp only
    cases tyT t j with
    | error b => rfl
    | ok y => obtain ⟨u, k, ws⟩ := y; rfl
theorem op_dot2 (t : List Tok) (i : Nat) (pos fix : Int) (l : List OpT) : opSent t i pos fix l = dotP t pos (opP t i fix l) := by
  unfold opSent opP
  cases namesS t true i [] with
  | error b => rfl
  | ok x =>
    obtain ⟨ns, j⟩ := x
    simp only
    by_cases h3 : (tokL t j).kind = 3
    · rw [if_pos h3, if_pos h3]
      by_cases h7 : (tokL t (j + 1)).kind = 7
      · rw [if_pos h7, if_pos h7]
        cases declL (tokL t j).n fix l ns with
        | error b => rfl
        | ok l' => rfl
      · rw [if_neg h7, if_neg h7]; rfl
    · rw [if_neg h3, if_neg h3]; rfl
theorem clause_dot (t : List Tok) (i : Nat) (pos : Int) (l : List OpT) : clauseSent t i pos l = dotP t pos (clauseP t i l) := by
  unfold clauseSent clauseP
  cases exprT l t i with
  | error b => rfl
  | ok y => obtain ⟨m, k⟩ := y; rfl
theorem sentS_dot (t : List Tok) (l : List OpT) (i : Nat) : sentS t l i = dotP t (tokL t i).pos (beforeP t l i) := by
  unfold sentS beforeP
  simp only [kind_dot, type_dot, op_dot2, clause_dot]
  by_cases c1 : (tokL t i).kind = 1 ∧ (tokL t i).text = [107, 105, 110, 100]
  · simp only [if_pos c1]
  simp only [if_neg c1]
  by_cases c2 : (tokL t i).kind = 1 ∧ (tokL t i).text = [116, 121, 112, 101]
  · simp only [if_pos c2]
  simp only [if_neg c2]
  by_cases c3 : (tokL t i).kind = 1 ∧ (tokL t i).text = [105, 110, 102, 105, 120]
  · simp only [if_pos c3]
  simp only [if_neg c3]
  by_cases c4 : (tokL t i).kind = 1 ∧ (tokL t i).text = [105, 110, 102, 105, 120, 108]
  · simp only [if_pos c4]
  simp only [if_neg c4]
  by_cases c5 : (tokL t i).kind = 1 ∧ (tokL t i).text = [105, 110, 102, 105, 120, 114]
  · simp only [if_pos c5]
  simp only [if_neg c5]
theorem rsen_out {t : List Tok} {σ : H} {b : Nat} {r : SoR} {d : V} {σ' : H} (h : RSen t σ b r d σ') : ∃ (s : Sent) (j : Int) (l' : List OpT) (e p : Int), d = s.v ∧ σ' = srd σ b t j l' e p ∧ ((e = 0 ∧ p = 0 ∧ ∃ k : Nat, j = k ∧ r = .ok (s, k, l')) ∨ ((e == 0) = false ∧ r = .error ⟨e, p⟩)) := by
  cases r with
  | ok x =>
    obtain ⟨s, k, l'⟩ := x
    obtain ⟨rfl, rfl⟩ := h
    exact ⟨s, k, l', 0, 0, rfl, rfl, .inl ⟨rfl, rfl, k, rfl, rfl⟩⟩
  | error x =>
    obtain ⟨he, s, j, l', rfl, rfl⟩ := h
    exact ⟨s, j, l', x.e, x.pos, rfl, rfl, .inr ⟨he, rfl⟩⟩
theorem before_far {t : List Tok} {l l' : List OpT} {i k : Nat} {s : Sent} (h : beforeP t l i = .ok (s, k, l')) : k ≤ t.length := by
  have hop : ∀ fix, opP t (i + 1) fix l = .ok (s, k, l') → k ≤ t.length := fun fix h => by
    have := op_dot2 t (i + 1) 0 fix l
    rw [h] at this
    unfold opP at h
    split at h
    · cases h
    · split at h
      · split at h
        · rename_i h7
          have := tokL_lt (t := t) (by rw [h7]; decide)
          split at h
          · cases h
          · injection h with h; injection h with _ h; injection h with h _
            omega
        · cases h
      · cases h
  unfold beforeP at h
  split at h
  · unfold kindP at h
    split at h
    · cases h
    · split at h
      · cases h
      · rename_i hk
        injection h with h; injection h with _ h; injection h with h _
        have := kindS_far _ _ _ _ _ (Nat.le_refl _) hk
        omega
  · split at h
    · unfold typeP at h
      split at h
      · cases h
      · split at h
        · cases h
        · rename_i hk
          injection h with h; injection h with _ h; injection h with h _
          have := tyT_far hk
          omega
    · split at h
      · exact hop _ h
      · split at h
        · exact hop _ h
        · split at h
          · exact hop _ h
          · unfold clauseP at h
            split at h
            · cases h
            · rename_i hk
              injection h with h; injection h with _ h; injection h with h _
              have := exprT_far hk
              omega
theorem source_Words (w0 : World) (σ : H) : DC Tryz.prog w0 47 [] σ (Same (.csl (strsR words5)) σ) := by
  refine k47.go rfl (fun hok hsz => ?_)
  ((try refine W.a ?_); simp only [go_sem, seval, reduceCtorEq, c47])
  (refine W.fs (hok) (by simp only [r47, go_sem, seval, reduceCtorEq]; rfl) ?_; simp only [resV]; try exact V.wk.rfl _)
theorem sr_sentence (w0 : World) (t : List Tok) (hT : TEnd t) (i : Nat) (hi : i ≤ t.length) (l : List OpT) (hl : l.length ≤ 64) (hne : l ≠ []) (σ : H) (b : Nat) (D : b < σ.length) :
    DC Tryz.prog w0 19 [.ptr b 0] (srd σ b t i l 0 0) (RSen t σ b (sentS t l i)) := by
  refine k19.go rfl (fun hok hsz => ?_)
  have hle := hT.le
  have hwi : IntKind.i64.wrap ((i : Int) + 1) = ((i + 1 : Nat) : Int) := by rw [wrap_in] <;> omega
  rw [sentS_dot]
  generalize hr0 : beforeP t l i = r
  have hr := hr0
  unfold beforeP at hr
  ((try refine W.a ?_); simp only [go_sem, seval, reduceCtorEq, c19, rzA D])
  (refine W.c1 (DC.lift1 D (fun D' => sr_tok w0 t hT i (by omega) l 0 0 _ b D')) ?_; simp only [go_sem, seval, reduceCtorEq, rzA D])
  by_cases hk1 : (tokL t i).kind = 1
  · have n1 : ((tokL t i).kind == 1) = true := by simpa using hk1
    have hil : i + 1 ≤ t.length := tokL_lt (by rw [hk1]; decide)
    simp only [hk1, true_and] at hr
    by_cases e1 : (tokL t i).text = [107, 105, 110, 100]
    · rw [if_pos e1] at hr
      have hw : words5.contains (tokL t i).text = true := by rw [e1]; rfl
      have b1 : ((tokL t i).text == [107, 105, 110, 100]) = true := by simpa using e1
      apply W.dregE (List.cons_ne_nil _ _)
      case hc =>
        (apply CanonE.advPO; simp only [go_sem, seval, reduceCtorEq, rzA D, n1])
        (apply CanonE.call (source_Words w0 _); (case hg => rfl); (case hf => rfl); (case ha => first | rfl | simp))
        (apply CanonE.advPO; simp only [go_sem, seval, reduceCtorEq, rzA D, n1])
        (apply CanonE.callw (str_contains w0 words5 (tokL t i).text _); (case hg => rfl); (case hf => rfl); (case ha => rfl); (case hw => ((exact wk_here))))
        (apply CanonE.advPO; simp only [go_sem, seval, reduceCtorEq, rzA D, n1, hw])
        exact CanonE.nil
      ((try refine W.a ?_); simp only [go_sem, seval, reduceCtorEq, rzA D])
      refine W.yes rfl ?_
      ((try refine W.a ?_); simp only [go_sem, seval, reduceCtorEq, rzA D, hwi, b1])
      refine W.yes rfl ?_
      ((try refine W.a ?_); simp only [go_sem, seval, reduceCtorEq, rzA D])
      (refine W.call (DC.lift1R D (fun D' => sr_kind w0 t hT (i + 1) hil l _ b D')) rfl rfl (by first | rfl | simp) ?_)
      intro d σ1 hR
      rw [hr] at hR
      obtain ⟨s, j, l', e, p, rfl, rfl, hst⟩ := rsen_out hR
      ((try refine W.a ?_); simp only [go_sem, seval, reduceCtorEq, rzA D, sent_v])
      rcases hst with ⟨rfl, rfl, k, rfl, hr'⟩ | ⟨he, hr'⟩
      · subst hr'
        have hkf := before_far hr0
        simp only [dotP]
        by_cases hs2 : s.k = 2
        · have ns2 : (s.k != 2) = false := by simpa using hs2
          rw [if_pos hs2]
          ((try refine W.a ?_); simp only [go_sem, seval, reduceCtorEq, rzA D, ns2])
          refine W.no rfl ?_
          ((try refine W.a ?_); simp only [go_sem, seval, reduceCtorEq, rzA D])
          (refine W.fg (srd_ok D hok t (k : Nat) l' 0 0) (d := (sentAt s (tokL t i).pos).v) (by simp only [r19, go_sem, seval, reduceCtorEq, sent_v, sentAt, strsC]; rfl) (by simp only [resV, go_sem, seval, reduceCtorEq, sent_v, sentAt, strsC]; exact wk_here) ?_ (hl := by (first | exact .c _ | (simp only [go_sem, seval, reduceCtorEq, sent_v, sentAt, strsC]; done))))
          exact ⟨rfl, rfl⟩
        · have ns2 : (s.k != 2) = true := by simpa using hs2
          rw [if_neg hs2]
          ((try refine W.a ?_); simp only [go_sem, seval, reduceCtorEq, rzA D, ns2])
          refine W.yes rfl ?_
          ((try refine W.a ?_); simp only [go_sem, seval, reduceCtorEq, rzA D])
          (refine W.c1 (DC.lift1 D (fun D' => sr_end0 w0 t hT k (by omega) l' _ b D')) ?_; simp only [go_sem, seval, reduceCtorEq, rzA D])
          unfold endS
          by_cases h7 : (tokL t k).kind = 7
          · simp only [if_pos h7]
            (refine W.fg (srd_ok D hok t ((k + 1 : Nat) : Int) l' 0 0) (d := (sentAt s (tokL t i).pos).v) (by simp only [r19, go_sem, seval, reduceCtorEq, sent_v, sentAt, strsC]; rfl) (by simp only [resV, go_sem, seval, reduceCtorEq, sent_v, sentAt, strsC]; exact wk_here) ?_ (hl := by (first | exact .c _ | (simp only [go_sem, seval, reduceCtorEq, sent_v, sentAt, strsC]; done))))
            exact ⟨rfl, rfl⟩
          · simp only [if_neg h7]
            (refine W.fg (srd_ok D hok t ((k + 1 : Nat) : Int) l' 101 (tokL t k).pos) (d := (sentAt s (tokL t i).pos).v) (by simp only [r19, go_sem, seval, reduceCtorEq, sent_v, sentAt, strsC]; rfl) (by simp only [resV, go_sem, seval, reduceCtorEq, sent_v, sentAt, strsC]; exact wk_here) ?_ (hl := by (first | exact .c _ | (simp only [go_sem, seval, reduceCtorEq, sent_v, sentAt, strsC]; done))))
            exact ⟨rfl, _, _, _, rfl, rfl⟩
      · subst hr'
        simp only [dotP]
        by_cases hs2 : s.k = 2
        · have ns2 : (s.k != 2) = false := by simpa using hs2
          ((try refine W.a ?_); simp only [go_sem, seval, reduceCtorEq, rzA D, ns2])
          refine W.no rfl ?_
          ((try refine W.a ?_); simp only [go_sem, seval, reduceCtorEq, rzA D])
          (refine W.fg (srd_ok D hok t j l' e p) (d := (sentAt s (tokL t i).pos).v) (by simp only [r19, go_sem, seval, reduceCtorEq, sent_v, sentAt, strsC]; rfl) (by simp only [resV, go_sem, seval, reduceCtorEq, sent_v, sentAt, strsC]; exact wk_here) ?_ (hl := by (first | exact .c _ | (simp only [go_sem, seval, reduceCtorEq, sent_v, sentAt, strsC]; done))))
          exact ⟨he, _, _, _, rfl, rfl⟩
        · have ns2 : (s.k != 2) = true := by simpa using hs2
          ((try refine W.a ?_); simp only [go_sem, seval, reduceCtorEq, rzA D, ns2])
          refine W.yes rfl ?_
          ((try refine W.a ?_); simp only [go_sem, seval, reduceCtorEq, rzA D])
          (refine W.c1 (DC.lift1 D (fun D' => sr_end1 w0 t j l' e p he _ b D')) ?_; simp only [go_sem, seval, reduceCtorEq, rzA D])
          (refine W.fg (srd_ok D hok t j l' e p) (d := (sentAt s (tokL t i).pos).v) (by simp only [r19, go_sem, seval, reduceCtorEq, sent_v, sentAt, strsC]; rfl) (by simp only [resV, go_sem, seval, reduceCtorEq, sent_v, sentAt, strsC]; exact wk_here) ?_ (hl := by (first | exact .c _ | (simp only [go_sem, seval, reduceCtorEq, sent_v, sentAt, strsC]; done))))
          exact ⟨he, _, _, _, rfl, rfl⟩
    rw [if_neg e1] at hr
    by_cases e2 : (tokL t i).text = [116, 121, 112, 101]
    · rw [if_pos e2] at hr
      have hw : words5.contains (tokL t i).text = true := by rw [e2]; rfl
      have b1 : ((tokL t i).text == [107, 105, 110, 100]) = false := by simpa using e1
      have b2 : ((tokL t i).text == [116, 121, 112, 101]) = true := by simpa using e2
      apply W.dregE (List.cons_ne_nil _ _)
      case hc =>
        (apply CanonE.advPO; simp only [go_sem, seval, reduceCtorEq, rzA D, n1])
        (apply CanonE.call (source_Words w0 _); (case hg => rfl); (case hf => rfl); (case ha => first | rfl | simp))
        (apply CanonE.advPO; simp only [go_sem, seval, reduceCtorEq, rzA D, n1])
        (apply CanonE.callw (str_contains w0 words5 (tokL t i).text _); (case hg => rfl); (case hf => rfl); (case ha => rfl); (case hw => ((exact wk_here))))
        (apply CanonE.advPO; simp only [go_sem, seval, reduceCtorEq, rzA D, n1, hw])
        exact CanonE.nil
      ((try refine W.a ?_); simp only [go_sem, seval, reduceCtorEq, rzA D])
      refine W.yes rfl ?_
      ((try refine W.a ?_); simp only [go_sem, seval, reduceCtorEq, rzA D, hwi, b1, b2])
      refine W.no rfl ?_
      ((try refine W.a ?_); simp only [go_sem, seval, reduceCtorEq, rzA D, b1, b2])
      refine W.yes rfl ?_
      ((try refine W.a ?_); simp only [go_sem, seval, reduceCtorEq, rzA D])
      (refine W.call (DC.lift1R D (fun D' => sr_typed w0 t hT (i + 1) hil l _ b D')) rfl rfl (by first | rfl | simp) ?_)
      intro d σ1 hR
      rw [hr] at hR
      obtain ⟨s, j, l', e, p, rfl, rfl, hst⟩ := rsen_out hR
      ((try refine W.a ?_); simp only [go_sem, seval, reduceCtorEq, rzA D, sent_v])
      rcases hst with ⟨rfl, rfl, k, rfl, hr'⟩ | ⟨he, hr'⟩
      · subst hr'
        have hkf := before_far hr0
        simp only [dotP]
        by_cases hs2 : s.k = 2
        · have ns2 : (s.k != 2) = false := by simpa using hs2
          rw [if_pos hs2]
          ((try refine W.a ?_); simp only [go_sem, seval, reduceCtorEq, rzA D, ns2])
          refine W.no rfl ?_
          ((try refine W.a ?_); simp only [go_sem, seval, reduceCtorEq, rzA D])
          (refine W.fg (srd_ok D hok t (k : Nat) l' 0 0) (d := (sentAt s (tokL t i).pos).v) (by simp only [r19, go_sem, seval, reduceCtorEq, sent_v, sentAt, strsC]; rfl) (by simp only [resV, go_sem, seval, reduceCtorEq, sent_v, sentAt, strsC]; exact wk_here) ?_ (hl := by (first | exact .c _ | (simp only [go_sem, seval, reduceCtorEq, sent_v, sentAt, strsC]; done))))
          exact ⟨rfl, rfl⟩
        · have ns2 : (s.k != 2) = true := by simpa using hs2
          rw [if_neg hs2]
          ((try refine W.a ?_); simp only [go_sem, seval, reduceCtorEq, rzA D, ns2])
          refine W.yes rfl ?_
          ((try refine W.a ?_); simp only [go_sem, seval, reduceCtorEq, rzA D])
          (refine W.c1 (DC.lift1 D (fun D' => sr_end0 w0 t hT k (by omega) l' _ b D')) ?_; simp only [go_sem, seval, reduceCtorEq, rzA D])
          unfold endS
          by_cases h7 : (tokL t k).kind = 7
          · simp only [if_pos h7]
            (refine W.fg (srd_ok D hok t ((k + 1 : Nat) : Int) l' 0 0) (d := (sentAt s (tokL t i).pos).v) (by simp only [r19, go_sem, seval, reduceCtorEq, sent_v, sentAt, strsC]; rfl) (by simp only [resV, go_sem, seval, reduceCtorEq, sent_v, sentAt, strsC]; exact wk_here) ?_ (hl := by (first | exact .c _ | (simp only [go_sem, seval, reduceCtorEq, sent_v, sentAt, strsC]; done))))
            exact ⟨rfl, rfl⟩
          · simp only [if_neg h7]
            (refine W.fg (srd_ok D hok t ((k + 1 : Nat) : Int) l' 101 (tokL t k).pos) (d := (sentAt s (tokL t i).pos).v) (by simp only [r19, go_sem, seval, reduceCtorEq, sent_v, sentAt, strsC]; rfl) (by simp only [resV, go_sem, seval, reduceCtorEq, sent_v, sentAt, strsC]; exact wk_here) ?_ (hl := by (first | exact .c _ | (simp only [go_sem, seval, reduceCtorEq, sent_v, sentAt, strsC]; done))))
            exact ⟨rfl, _, _, _, rfl, rfl⟩
      · subst hr'
        simp only [dotP]
        by_cases hs2 : s.k = 2
        · have ns2 : (s.k != 2) = false := by simpa using hs2
          ((try refine W.a ?_); simp only [go_sem, seval, reduceCtorEq, rzA D, ns2])
          refine W.no rfl ?_
          ((try refine W.a ?_); simp only [go_sem, seval, reduceCtorEq, rzA D])
          (refine W.fg (srd_ok D hok t j l' e p) (d := (sentAt s (tokL t i).pos).v) (by simp only [r19, go_sem, seval, reduceCtorEq, sent_v, sentAt, strsC]; rfl) (by simp only [resV, go_sem, seval, reduceCtorEq, sent_v, sentAt, strsC]; exact wk_here) ?_ (hl := by (first | exact .c _ | (simp only [go_sem, seval, reduceCtorEq, sent_v, sentAt, strsC]; done))))
          exact ⟨he, _, _, _, rfl, rfl⟩
        · have ns2 : (s.k != 2) = true := by simpa using hs2
          ((try refine W.a ?_); simp only [go_sem, seval, reduceCtorEq, rzA D, ns2])
          refine W.yes rfl ?_
          ((try refine W.a ?_); simp only [go_sem, seval, reduceCtorEq, rzA D])
          (refine W.c1 (DC.lift1 D (fun D' => sr_end1 w0 t j l' e p he _ b D')) ?_; simp only [go_sem, seval, reduceCtorEq, rzA D])
          (refine W.fg (srd_ok D hok t j l' e p) (d := (sentAt s (tokL t i).pos).v) (by simp only [r19, go_sem, seval, reduceCtorEq, sent_v, sentAt, strsC]; rfl) (by simp only [resV, go_sem, seval, reduceCtorEq, sent_v, sentAt, strsC]; exact wk_here) ?_ (hl := by (first | exact .c _ | (simp only [go_sem, seval, reduceCtorEq, sent_v, sentAt, strsC]; done))))
          exact ⟨he, _, _, _, rfl, rfl⟩
    rw [if_neg e2] at hr
    by_cases e3 : (tokL t i).text = [105, 110, 102, 105, 120]
    · rw [if_pos e3] at hr
      have hw : words5.contains (tokL t i).text = true := by rw [e3]; rfl
      have b1 : ((tokL t i).text == [107, 105, 110, 100]) = false := by simpa using e1
      have b2 : ((tokL t i).text == [116, 121, 112, 101]) = false := by simpa using e2
      have b3 : ((tokL t i).text == [105, 110, 102, 105, 120]) = true := by simpa using e3
      apply W.dregE (List.cons_ne_nil _ _)
      case hc =>
        (apply CanonE.advPO; simp only [go_sem, seval, reduceCtorEq, rzA D, n1])
        (apply CanonE.call (source_Words w0 _); (case hg => rfl); (case hf => rfl); (case ha => first | rfl | simp))
        (apply CanonE.advPO; simp only [go_sem, seval, reduceCtorEq, rzA D, n1])
        (apply CanonE.callw (str_contains w0 words5 (tokL t i).text _); (case hg => rfl); (case hf => rfl); (case ha => rfl); (case hw => ((exact wk_here))))
        (apply CanonE.advPO; simp only [go_sem, seval, reduceCtorEq, rzA D, n1, hw])
        exact CanonE.nil
      ((try refine W.a ?_); simp only [go_sem, seval, reduceCtorEq, rzA D])
      refine W.yes rfl ?_
      ((try refine W.a ?_); simp only [go_sem, seval, reduceCtorEq, rzA D, hwi, b1, b2, b3])
      refine W.no rfl ?_
      ((try refine W.a ?_); simp only [go_sem, seval, reduceCtorEq, rzA D, b1, b2, b3])
      refine W.no rfl ?_
      ((try refine W.a ?_); simp only [go_sem, seval, reduceCtorEq, rzA D, b1, b2, b3])
      refine W.yes rfl ?_
      ((try refine W.a ?_); simp only [go_sem, seval, reduceCtorEq, rzA D])
      (refine W.call (DC.lift1R D (fun D' => sr_operator w0 t hT (i + 1) hil 0 l hl hne _ b D')) rfl rfl (by first | rfl | simp) ?_)
      intro d σ1 hR
      rw [hr] at hR
      obtain ⟨s, j, l', e, p, rfl, rfl, hst⟩ := rsen_out hR
      ((try refine W.a ?_); simp only [go_sem, seval, reduceCtorEq, rzA D, sent_v])
      rcases hst with ⟨rfl, rfl, k, rfl, hr'⟩ | ⟨he, hr'⟩
      · subst hr'
        have hkf := before_far hr0
        simp only [dotP]
        by_cases hs2 : s.k = 2
        · have ns2 : (s.k != 2) = false := by simpa using hs2
          rw [if_pos hs2]
          ((try refine W.a ?_); simp only [go_sem, seval, reduceCtorEq, rzA D, ns2])
          refine W.no rfl ?_
          ((try refine W.a ?_); simp only [go_sem, seval, reduceCtorEq, rzA D])
          (refine W.fg (srd_ok D hok t (k : Nat) l' 0 0) (d := (sentAt s (tokL t i).pos).v) (by simp only [r19, go_sem, seval, reduceCtorEq, sent_v, sentAt, strsC]; rfl) (by simp only [resV, go_sem, seval, reduceCtorEq, sent_v, sentAt, strsC]; exact wk_here) ?_ (hl := by (first | exact .c _ | (simp only [go_sem, seval, reduceCtorEq, sent_v, sentAt, strsC]; done))))
          exact ⟨rfl, rfl⟩
        · have ns2 : (s.k != 2) = true := by simpa using hs2
          rw [if_neg hs2]
          ((try refine W.a ?_); simp only [go_sem, seval, reduceCtorEq, rzA D, ns2])
          refine W.yes rfl ?_
          ((try refine W.a ?_); simp only [go_sem, seval, reduceCtorEq, rzA D])
          (refine W.c1 (DC.lift1 D (fun D' => sr_end0 w0 t hT k (by omega) l' _ b D')) ?_; simp only [go_sem, seval, reduceCtorEq, rzA D])
          unfold endS
          by_cases h7 : (tokL t k).kind = 7
          · simp only [if_pos h7]
            (refine W.fg (srd_ok D hok t ((k + 1 : Nat) : Int) l' 0 0) (d := (sentAt s (tokL t i).pos).v) (by simp only [r19, go_sem, seval, reduceCtorEq, sent_v, sentAt, strsC]; rfl) (by simp only [resV, go_sem, seval, reduceCtorEq, sent_v, sentAt, strsC]; exact wk_here) ?_ (hl := by (first | exact .c _ | (simp only [go_sem, seval, reduceCtorEq, sent_v, sentAt, strsC]; done))))
            exact ⟨rfl, rfl⟩
          · simp only [if_neg h7]
            (refine W.fg (srd_ok D hok t ((k + 1 : Nat) : Int) l' 101 (tokL t k).pos) (d := (sentAt s (tokL t i).pos).v) (by simp only [r19, go_sem, seval, reduceCtorEq, sent_v, sentAt, strsC]; rfl) (by simp only [resV, go_sem, seval, reduceCtorEq, sent_v, sentAt, strsC]; exact wk_here) ?_ (hl := by (first | exact .c _ | (simp only [go_sem, seval, reduceCtorEq, sent_v, sentAt, strsC]; done))))
            exact ⟨rfl, _, _, _, rfl, rfl⟩
      · subst hr'
        simp only [dotP]
        by_cases hs2 : s.k = 2
        · have ns2 : (s.k != 2) = false := by simpa using hs2
          ((try refine W.a ?_); simp only [go_sem, seval, reduceCtorEq, rzA D, ns2])
          refine W.no rfl ?_
          ((try refine W.a ?_); simp only [go_sem, seval, reduceCtorEq, rzA D])
          (refine W.fg (srd_ok D hok t j l' e p) (d := (sentAt s (tokL t i).pos).v) (by simp only [r19, go_sem, seval, reduceCtorEq, sent_v, sentAt, strsC]; rfl) (by simp only [resV, go_sem, seval, reduceCtorEq, sent_v, sentAt, strsC]; exact wk_here) ?_ (hl := by (first | exact .c _ | (simp only [go_sem, seval, reduceCtorEq, sent_v, sentAt, strsC]; done))))
          exact ⟨he, _, _, _, rfl, rfl⟩
        · have ns2 : (s.k != 2) = true := by simpa using hs2
          ((try refine W.a ?_); simp only [go_sem, seval, reduceCtorEq, rzA D, ns2])
          refine W.yes rfl ?_
          ((try refine W.a ?_); simp only [go_sem, seval, reduceCtorEq, rzA D])
          (refine W.c1 (DC.lift1 D (fun D' => sr_end1 w0 t j l' e p he _ b D')) ?_; simp only [go_sem, seval, reduceCtorEq, rzA D])
          (refine W.fg (srd_ok D hok t j l' e p) (d := (sentAt s (tokL t i).pos).v) (by simp only [r19, go_sem, seval, reduceCtorEq, sent_v, sentAt, strsC]; rfl) (by simp only [resV, go_sem, seval, reduceCtorEq, sent_v, sentAt, strsC]; exact wk_here) ?_ (hl := by (first | exact .c _ | (simp only [go_sem, seval, reduceCtorEq, sent_v, sentAt, strsC]; done))))
          exact ⟨he, _, _, _, rfl, rfl⟩
    rw [if_neg e3] at hr
    by_cases e4 : (tokL t i).text = [105, 110, 102, 105, 120, 108]
    · rw [if_pos e4] at hr
      have hw : words5.contains (tokL t i).text = true := by rw [e4]; rfl
      have b1 : ((tokL t i).text == [107, 105, 110, 100]) = false := by simpa using e1
      have b2 : ((tokL t i).text == [116, 121, 112, 101]) = false := by simpa using e2
      have b3 : ((tokL t i).text == [105, 110, 102, 105, 120]) = false := by simpa using e3
      have b4 : ((tokL t i).text == [105, 110, 102, 105, 120, 108]) = true := by simpa using e4
      apply W.dregE (List.cons_ne_nil _ _)
      case hc =>
        (apply CanonE.advPO; simp only [go_sem, seval, reduceCtorEq, rzA D, n1])
        (apply CanonE.call (source_Words w0 _); (case hg => rfl); (case hf => rfl); (case ha => first | rfl | simp))
        (apply CanonE.advPO; simp only [go_sem, seval, reduceCtorEq, rzA D, n1])
        (apply CanonE.callw (str_contains w0 words5 (tokL t i).text _); (case hg => rfl); (case hf => rfl); (case ha => rfl); (case hw => ((exact wk_here))))
        (apply CanonE.advPO; simp only [go_sem, seval, reduceCtorEq, rzA D, n1, hw])
        exact CanonE.nil
      ((try refine W.a ?_); simp only [go_sem, seval, reduceCtorEq, rzA D])
      refine W.yes rfl ?_
      ((try refine W.a ?_); simp only [go_sem, seval, reduceCtorEq, rzA D, hwi, b1, b2, b3, b4])
      refine W.no rfl ?_
      ((try refine W.a ?_); simp only [go_sem, seval, reduceCtorEq, rzA D, b1, b2, b3, b4])
      refine W.no rfl ?_
      ((try refine W.a ?_); simp only [go_sem, seval, reduceCtorEq, rzA D, b1, b2, b3, b4])
      refine W.no rfl ?_
      ((try refine W.a ?_); simp only [go_sem, seval, reduceCtorEq, rzA D, b1, b2, b3, b4])
      refine W.yes rfl ?_
      ((try refine W.a ?_); simp only [go_sem, seval, reduceCtorEq, rzA D])
      (refine W.call (DC.lift1R D (fun D' => sr_operator w0 t hT (i + 1) hil 1 l hl hne _ b D')) rfl rfl (by first | rfl | simp) ?_)
      intro d σ1 hR
      rw [hr] at hR
      obtain ⟨s, j, l', e, p, rfl, rfl, hst⟩ := rsen_out hR
      ((try refine W.a ?_); simp only [go_sem, seval, reduceCtorEq, rzA D, sent_v])
      rcases hst with ⟨rfl, rfl, k, rfl, hr'⟩ | ⟨he, hr'⟩
      · subst hr'
        have hkf := before_far hr0
        simp only [dotP]
        by_cases hs2 : s.k = 2
        · have ns2 : (s.k != 2) = false := by simpa using hs2
          rw [if_pos hs2]
          ((try refine W.a ?_); simp only [go_sem, seval, reduceCtorEq, rzA D, ns2])
          refine W.no rfl ?_
          ((try refine W.a ?_); simp only [go_sem, seval, reduceCtorEq, rzA D])
          (refine W.fg (srd_ok D hok t (k : Nat) l' 0 0) (d := (sentAt s (tokL t i).pos).v) (by simp only [r19, go_sem, seval, reduceCtorEq, sent_v, sentAt, strsC]; rfl) (by simp only [resV, go_sem, seval, reduceCtorEq, sent_v, sentAt, strsC]; exact wk_here) ?_ (hl := by (first | exact .c _ | (simp only [go_sem, seval, reduceCtorEq, sent_v, sentAt, strsC]; done))))
          exact ⟨rfl, rfl⟩
        · have ns2 : (s.k != 2) = true := by simpa using hs2
          rw [if_neg hs2]
          ((try refine W.a ?_); simp only [go_sem, seval, reduceCtorEq, rzA D, ns2])
          refine W.yes rfl ?_
          ((try refine W.a ?_); simp only [go_sem, seval, reduceCtorEq, rzA D])
          (refine W.c1 (DC.lift1 D (fun D' => sr_end0 w0 t hT k (by omega) l' _ b D')) ?_; simp only [go_sem, seval, reduceCtorEq, rzA D])
          unfold endS
          by_cases h7 : (tokL t k).kind = 7
          · simp only [if_pos h7]
            (refine W.fg (srd_ok D hok t ((k + 1 : Nat) : Int) l' 0 0) (d := (sentAt s (tokL t i).pos).v) (by simp only [r19, go_sem, seval, reduceCtorEq, sent_v, sentAt, strsC]; rfl) (by simp only [resV, go_sem, seval, reduceCtorEq, sent_v, sentAt, strsC]; exact wk_here) ?_ (hl := by (first | exact .c _ | (simp only [go_sem, seval, reduceCtorEq, sent_v, sentAt, strsC]; done))))
            exact ⟨rfl, rfl⟩
          · simp only [if_neg h7]
            (refine W.fg (srd_ok D hok t ((k + 1 : Nat) : Int) l' 101 (tokL t k).pos) (d := (sentAt s (tokL t i).pos).v) (by simp only [r19, go_sem, seval, reduceCtorEq, sent_v, sentAt, strsC]; rfl) (by simp only [resV, go_sem, seval, reduceCtorEq, sent_v, sentAt, strsC]; exact wk_here) ?_ (hl := by (first | exact .c _ | (simp only [go_sem, seval, reduceCtorEq, sent_v, sentAt, strsC]; done))))
            exact ⟨rfl, _, _, _, rfl, rfl⟩
      · subst hr'
        simp only [dotP]
        by_cases hs2 : s.k = 2
        · have ns2 : (s.k != 2) = false := by simpa using hs2
          ((try refine W.a ?_); simp only [go_sem, seval, reduceCtorEq, rzA D, ns2])
          refine W.no rfl ?_
          ((try refine W.a ?_); simp only [go_sem, seval, reduceCtorEq, rzA D])
          (refine W.fg (srd_ok D hok t j l' e p) (d := (sentAt s (tokL t i).pos).v) (by simp only [r19, go_sem, seval, reduceCtorEq, sent_v, sentAt, strsC]; rfl) (by simp only [resV, go_sem, seval, reduceCtorEq, sent_v, sentAt, strsC]; exact wk_here) ?_ (hl := by (first | exact .c _ | (simp only [go_sem, seval, reduceCtorEq, sent_v, sentAt, strsC]; done))))
          exact ⟨he, _, _, _, rfl, rfl⟩
        · have ns2 : (s.k != 2) = true := by simpa using hs2
          ((try refine W.a ?_); simp only [go_sem, seval, reduceCtorEq, rzA D, ns2])
          refine W.yes rfl ?_
          ((try refine W.a ?_); simp only [go_sem, seval, reduceCtorEq, rzA D])
          (refine W.c1 (DC.lift1 D (fun D' => sr_end1 w0 t j l' e p he _ b D')) ?_; simp only [go_sem, seval, reduceCtorEq, rzA D])
          (refine W.fg (srd_ok D hok t j l' e p) (d := (sentAt s (tokL t i).pos).v) (by simp only [r19, go_sem, seval, reduceCtorEq, sent_v, sentAt, strsC]; rfl) (by simp only [resV, go_sem, seval, reduceCtorEq, sent_v, sentAt, strsC]; exact wk_here) ?_ (hl := by (first | exact .c _ | (simp only [go_sem, seval, reduceCtorEq, sent_v, sentAt, strsC]; done))))
          exact ⟨he, _, _, _, rfl, rfl⟩
    rw [if_neg e4] at hr
    by_cases e5 : (tokL t i).text = [105, 110, 102, 105, 120, 114]
    · rw [if_pos e5] at hr
      have hw : words5.contains (tokL t i).text = true := by rw [e5]; rfl
      have b1 : ((tokL t i).text == [107, 105, 110, 100]) = false := by simpa using e1
      have b2 : ((tokL t i).text == [116, 121, 112, 101]) = false := by simpa using e2
      have b3 : ((tokL t i).text == [105, 110, 102, 105, 120]) = false := by simpa using e3
      have b4 : ((tokL t i).text == [105, 110, 102, 105, 120, 108]) = false := by simpa using e4
      have b5 : ((tokL t i).text == [105, 110, 102, 105, 120, 114]) = true := by simpa using e5
      apply W.dregE (List.cons_ne_nil _ _)
      case hc =>
        (apply CanonE.advPO; simp only [go_sem, seval, reduceCtorEq, rzA D, n1])
        (apply CanonE.call (source_Words w0 _); (case hg => rfl); (case hf => rfl); (case ha => first | rfl | simp))
        (apply CanonE.advPO; simp only [go_sem, seval, reduceCtorEq, rzA D, n1])
        (apply CanonE.callw (str_contains w0 words5 (tokL t i).text _); (case hg => rfl); (case hf => rfl); (case ha => rfl); (case hw => ((exact wk_here))))
        (apply CanonE.advPO; simp only [go_sem, seval, reduceCtorEq, rzA D, n1, hw])
        exact CanonE.nil
      ((try refine W.a ?_); simp only [go_sem, seval, reduceCtorEq, rzA D])
      refine W.yes rfl ?_
      ((try refine W.a ?_); simp only [go_sem, seval, reduceCtorEq, rzA D, hwi, b1, b2, b3, b4, b5])
      refine W.no rfl ?_
      ((try refine W.a ?_); simp only [go_sem, seval, reduceCtorEq, rzA D, b1, b2, b3, b4, b5])
      refine W.no rfl ?_
      ((try refine W.a ?_); simp only [go_sem, seval, reduceCtorEq, rzA D, b1, b2, b3, b4, b5])
      refine W.no rfl ?_
      ((try refine W.a ?_); simp only [go_sem, seval, reduceCtorEq, rzA D, b1, b2, b3, b4, b5])
      refine W.no rfl ?_
      ((try refine W.a ?_); simp only [go_sem, seval, reduceCtorEq, rzA D, b1, b2, b3, b4, b5])
      refine W.yes rfl ?_
      ((try refine W.a ?_); simp only [go_sem, seval, reduceCtorEq, rzA D])
      (refine W.call (DC.lift1R D (fun D' => sr_operator w0 t hT (i + 1) hil 2 l hl hne _ b D')) rfl rfl (by first | rfl | simp) ?_)
      intro d σ1 hR
      rw [hr] at hR
      obtain ⟨s, j, l', e, p, rfl, rfl, hst⟩ := rsen_out hR
      ((try refine W.a ?_); simp only [go_sem, seval, reduceCtorEq, rzA D, sent_v])
      rcases hst with ⟨rfl, rfl, k, rfl, hr'⟩ | ⟨he, hr'⟩
      · subst hr'
        have hkf := before_far hr0
        simp only [dotP]
        by_cases hs2 : s.k = 2
        · have ns2 : (s.k != 2) = false := by simpa using hs2
          rw [if_pos hs2]
          ((try refine W.a ?_); simp only [go_sem, seval, reduceCtorEq, rzA D, ns2])
          refine W.no rfl ?_
          ((try refine W.a ?_); simp only [go_sem, seval, reduceCtorEq, rzA D])
          (refine W.fg (srd_ok D hok t (k : Nat) l' 0 0) (d := (sentAt s (tokL t i).pos).v) (by simp only [r19, go_sem, seval, reduceCtorEq, sent_v, sentAt, strsC]; rfl) (by simp only [resV, go_sem, seval, reduceCtorEq, sent_v, sentAt, strsC]; exact wk_here) ?_ (hl := by (first | exact .c _ | (simp only [go_sem, seval, reduceCtorEq, sent_v, sentAt, strsC]; done))))
          exact ⟨rfl, rfl⟩
        · have ns2 : (s.k != 2) = true := by simpa using hs2
          rw [if_neg hs2]
          ((try refine W.a ?_); simp only [go_sem, seval, reduceCtorEq, rzA D, ns2])
          refine W.yes rfl ?_
          ((try refine W.a ?_); simp only [go_sem, seval, reduceCtorEq, rzA D])
          (refine W.c1 (DC.lift1 D (fun D' => sr_end0 w0 t hT k (by omega) l' _ b D')) ?_; simp only [go_sem, seval, reduceCtorEq, rzA D])
          unfold endS
          by_cases h7 : (tokL t k).kind = 7
          · simp only [if_pos h7]
            (refine W.fg (srd_ok D hok t ((k + 1 : Nat) : Int) l' 0 0) (d := (sentAt s (tokL t i).pos).v) (by simp only [r19, go_sem, seval, reduceCtorEq, sent_v, sentAt, strsC]; rfl) (by simp only [resV, go_sem, seval, reduceCtorEq, sent_v, sentAt, strsC]; exact wk_here) ?_ (hl := by (first | exact .c _ | (simp only [go_sem, seval, reduceCtorEq, sent_v, sentAt, strsC]; done))))
            exact ⟨rfl, rfl⟩
          · simp only [if_neg h7]
            (refine W.fg (srd_ok D hok t ((k + 1 : Nat) : Int) l' 101 (tokL t k).pos) (d := (sentAt s (tokL t i).pos).v) (by simp only [r19, go_sem, seval, reduceCtorEq, sent_v, sentAt, strsC]; rfl) (by simp only [resV, go_sem, seval, reduceCtorEq, sent_v, sentAt, strsC]; exact wk_here) ?_ (hl := by (first | exact .c _ | (simp only [go_sem, seval, reduceCtorEq, sent_v, sentAt, strsC]; done))))
            exact ⟨rfl, _, _, _, rfl, rfl⟩
      · subst hr'
        simp only [dotP]
        by_cases hs2 : s.k = 2
        · have ns2 : (s.k != 2) = false := by simpa using hs2
          ((try refine W.a ?_); simp only [go_sem, seval, reduceCtorEq, rzA D, ns2])
          refine W.no rfl ?_
          ((try refine W.a ?_); simp only [go_sem, seval, reduceCtorEq, rzA D])
          (refine W.fg (srd_ok D hok t j l' e p) (d := (sentAt s (tokL t i).pos).v) (by simp only [r19, go_sem, seval, reduceCtorEq, sent_v, sentAt, strsC]; rfl) (by simp only [resV, go_sem, seval, reduceCtorEq, sent_v, sentAt, strsC]; exact wk_here) ?_ (hl := by (first | exact .c _ | (simp only [go_sem, seval, reduceCtorEq, sent_v, sentAt, strsC]; done))))
          exact ⟨he, _, _, _, rfl, rfl⟩
        · have ns2 : (s.k != 2) = true := by simpa using hs2
          ((try refine W.a ?_); simp only [go_sem, seval, reduceCtorEq, rzA D, ns2])
          refine W.yes rfl ?_
          ((try refine W.a ?_); simp only [go_sem, seval, reduceCtorEq, rzA D])
          (refine W.c1 (DC.lift1 D (fun D' => sr_end1 w0 t j l' e p he _ b D')) ?_; simp only [go_sem, seval, reduceCtorEq, rzA D])
          (refine W.fg (srd_ok D hok t j l' e p) (d := (sentAt s (tokL t i).pos).v) (by simp only [r19, go_sem, seval, reduceCtorEq, sent_v, sentAt, strsC]; rfl) (by simp only [resV, go_sem, seval, reduceCtorEq, sent_v, sentAt, strsC]; exact wk_here) ?_ (hl := by (first | exact .c _ | (simp only [go_sem, seval, reduceCtorEq, sent_v, sentAt, strsC]; done))))
          exact ⟨he, _, _, _, rfl, rfl⟩
    rw [if_neg e5] at hr
    have hw : words5.contains (tokL t i).text = false := by
      cases h : words5.contains (tokL t i).text
      · rfl
      · rw [List.contains_iff_mem] at h
        simp only [words5, List.mem_cons, List.not_mem_nil, or_false] at h
        rcases h with h | h | h | h | h
        · exact absurd h e1
        · exact absurd h e2
        · exact absurd h e3
        · exact absurd h e4
        · exact absurd h e5
    apply W.dregE (List.cons_ne_nil _ _)
    case hc =>
      (apply CanonE.advPO; simp only [go_sem, seval, reduceCtorEq, rzA D, n1])
      (apply CanonE.call (source_Words w0 _); (case hg => rfl); (case hf => rfl); (case ha => first | rfl | simp))
      (apply CanonE.advPO; simp only [go_sem, seval, reduceCtorEq, rzA D, n1])
      (apply CanonE.callw (str_contains w0 words5 (tokL t i).text _); (case hg => rfl); (case hf => rfl); (case ha => rfl); (case hw => ((exact wk_here))))
      (apply CanonE.advPO; simp only [go_sem, seval, reduceCtorEq, rzA D, n1, hw])
      exact CanonE.nil
    ((try refine W.a ?_); simp only [go_sem, seval, reduceCtorEq, rzA D])
    refine W.no rfl ?_
    ((try refine W.a ?_); simp only [go_sem, seval, reduceCtorEq, rzA D])
    refine W.no rfl ?_
    ((try refine W.a ?_); simp only [go_sem, seval, reduceCtorEq, rzA D])
    refine W.no rfl ?_
    ((try refine W.a ?_); simp only [go_sem, seval, reduceCtorEq, rzA D])
    refine W.no rfl ?_
    ((try refine W.a ?_); simp only [go_sem, seval, reduceCtorEq, rzA D])
    refine W.no rfl ?_
    ((try refine W.a ?_); simp only [go_sem, seval, reduceCtorEq, rzA D])
    refine W.no rfl ?_
    ((try refine W.a ?_); simp only [go_sem, seval, reduceCtorEq, rzA D])
    (refine W.call (DC.lift1R D (fun D' => sr_clause w0 t hT i hi l _ b D')) rfl rfl (by first | rfl | simp) ?_)
    intro d σ1 hR
    rw [hr] at hR
    obtain ⟨s, j, l', e, p, rfl, rfl, hst⟩ := rsen_out hR
    ((try refine W.a ?_); simp only [go_sem, seval, reduceCtorEq, rzA D, sent_v])
    rcases hst with ⟨rfl, rfl, k, rfl, hr'⟩ | ⟨he, hr'⟩
    · subst hr'
      have hkf := before_far hr0
      simp only [dotP]
      by_cases hs2 : s.k = 2
      · have ns2 : (s.k != 2) = false := by simpa using hs2
        rw [if_pos hs2]
        ((try refine W.a ?_); simp only [go_sem, seval, reduceCtorEq, rzA D, ns2])
        refine W.no rfl ?_
        ((try refine W.a ?_); simp only [go_sem, seval, reduceCtorEq, rzA D])
        (refine W.fg (srd_ok D hok t (k : Nat) l' 0 0) (d := (sentAt s (tokL t i).pos).v) (by simp only [r19, go_sem, seval, reduceCtorEq, sent_v, sentAt, strsC]; rfl) (by simp only [resV, go_sem, seval, reduceCtorEq, sent_v, sentAt, strsC]; exact wk_here) ?_ (hl := by (first | exact .c _ | (simp only [go_sem, seval, reduceCtorEq, sent_v, sentAt, strsC]; done))))
        exact ⟨rfl, rfl⟩
      · have ns2 : (s.k != 2) = true := by simpa using hs2
        rw [if_neg hs2]
        ((try refine W.a ?_); simp only [go_sem, seval, reduceCtorEq, rzA D, ns2])
        refine W.yes rfl ?_
        ((try refine W.a ?_); simp only [go_sem, seval, reduceCtorEq, rzA D])
        (refine W.c1 (DC.lift1 D (fun D' => sr_end0 w0 t hT k (by omega) l' _ b D')) ?_; simp only [go_sem, seval, reduceCtorEq, rzA D])
        unfold endS
        by_cases h7 : (tokL t k).kind = 7
        · simp only [if_pos h7]
          (refine W.fg (srd_ok D hok t ((k + 1 : Nat) : Int) l' 0 0) (d := (sentAt s (tokL t i).pos).v) (by simp only [r19, go_sem, seval, reduceCtorEq, sent_v, sentAt, strsC]; rfl) (by simp only [resV, go_sem, seval, reduceCtorEq, sent_v, sentAt, strsC]; exact wk_here) ?_ (hl := by (first | exact .c _ | (simp only [go_sem, seval, reduceCtorEq, sent_v, sentAt, strsC]; done))))
          exact ⟨rfl, rfl⟩
        · simp only [if_neg h7]
          (refine W.fg (srd_ok D hok t ((k + 1 : Nat) : Int) l' 101 (tokL t k).pos) (d := (sentAt s (tokL t i).pos).v) (by simp only [r19, go_sem, seval, reduceCtorEq, sent_v, sentAt, strsC]; rfl) (by simp only [resV, go_sem, seval, reduceCtorEq, sent_v, sentAt, strsC]; exact wk_here) ?_ (hl := by (first | exact .c _ | (simp only [go_sem, seval, reduceCtorEq, sent_v, sentAt, strsC]; done))))
          exact ⟨rfl, _, _, _, rfl, rfl⟩
    · subst hr'
      simp only [dotP]
      by_cases hs2 : s.k = 2
      · have ns2 : (s.k != 2) = false := by simpa using hs2
        ((try refine W.a ?_); simp only [go_sem, seval, reduceCtorEq, rzA D, ns2])
        refine W.no rfl ?_
        ((try refine W.a ?_); simp only [go_sem, seval, reduceCtorEq, rzA D])
        (refine W.fg (srd_ok D hok t j l' e p) (d := (sentAt s (tokL t i).pos).v) (by simp only [r19, go_sem, seval, reduceCtorEq, sent_v, sentAt, strsC]; rfl) (by simp only [resV, go_sem, seval, reduceCtorEq, sent_v, sentAt, strsC]; exact wk_here) ?_ (hl := by (first | exact .c _ | (simp only [go_sem, seval, reduceCtorEq, sent_v, sentAt, strsC]; done))))
        exact ⟨he, _, _, _, rfl, rfl⟩
      · have ns2 : (s.k != 2) = true := by simpa using hs2
        ((try refine W.a ?_); simp only [go_sem, seval, reduceCtorEq, rzA D, ns2])
        refine W.yes rfl ?_
        ((try refine W.a ?_); simp only [go_sem, seval, reduceCtorEq, rzA D])
        (refine W.c1 (DC.lift1 D (fun D' => sr_end1 w0 t j l' e p he _ b D')) ?_; simp only [go_sem, seval, reduceCtorEq, rzA D])
        (refine W.fg (srd_ok D hok t j l' e p) (d := (sentAt s (tokL t i).pos).v) (by simp only [r19, go_sem, seval, reduceCtorEq, sent_v, sentAt, strsC]; rfl) (by simp only [resV, go_sem, seval, reduceCtorEq, sent_v, sentAt, strsC]; exact wk_here) ?_ (hl := by (first | exact .c _ | (simp only [go_sem, seval, reduceCtorEq, sent_v, sentAt, strsC]; done))))
        exact ⟨he, _, _, _, rfl, rfl⟩
  · have n1 : ((tokL t i).kind == 1) = false := by simpa using hk1
    simp only [hk1, false_and, if_false] at hr
    apply W.dregE (List.cons_ne_nil _ _)
    case hc =>
      (apply CanonE.advPO; simp only [go_sem, seval, reduceCtorEq, rzA D, n1])
      exact CanonE.nil
    ((try refine W.a ?_); simp only [go_sem, seval, reduceCtorEq, rzA D])
    refine W.no rfl ?_
    ((try refine W.a ?_); simp only [go_sem, seval, reduceCtorEq, rzA D])
    refine W.no rfl ?_
    ((try refine W.a ?_); simp only [go_sem, seval, reduceCtorEq, rzA D])
    refine W.no rfl ?_
    ((try refine W.a ?_); simp only [go_sem, seval, reduceCtorEq, rzA D])
    refine W.no rfl ?_
    ((try refine W.a ?_); simp only [go_sem, seval, reduceCtorEq, rzA D])
    refine W.no rfl ?_
    ((try refine W.a ?_); simp only [go_sem, seval, reduceCtorEq, rzA D])
    refine W.no rfl ?_
    ((try refine W.a ?_); simp only [go_sem, seval, reduceCtorEq, rzA D])
    (refine W.call (DC.lift1R D (fun D' => sr_clause w0 t hT i hi l _ b D')) rfl rfl (by first | rfl | simp) ?_)
    intro d σ1 hR
    rw [hr] at hR
    obtain ⟨s, j, l', e, p, rfl, rfl, hst⟩ := rsen_out hR
    ((try refine W.a ?_); simp only [go_sem, seval, reduceCtorEq, rzA D, sent_v])
    rcases hst with ⟨rfl, rfl, k, rfl, hr'⟩ | ⟨he, hr'⟩
    · subst hr'
      have hkf := before_far hr0
      simp only [dotP]
      by_cases hs2 : s.k = 2
      · have ns2 : (s.k != 2) = false := by simpa using hs2
        rw [if_pos hs2]
        ((try refine W.a ?_); simp only [go_sem, seval, reduceCtorEq, rzA D, ns2])
        refine W.no rfl ?_
        ((try refine W.a ?_); simp only [go_sem, seval, reduceCtorEq, rzA D])
        (refine W.fg (srd_ok D hok t (k : Nat) l' 0 0) (d := (sentAt s (tokL t i).pos).v) (by simp only [r19, go_sem, seval, reduceCtorEq, sent_v, sentAt, strsC]; rfl) (by simp only [resV, go_sem, seval, reduceCtorEq, sent_v, sentAt, strsC]; exact wk_here) ?_ (hl := by (first | exact .c _ | (simp only [go_sem, seval, reduceCtorEq, sent_v, sentAt, strsC]; done))))
        exact ⟨rfl, rfl⟩
      · have ns2 : (s.k != 2) = true := by simpa using hs2
        rw [if_neg hs2]
        ((try refine W.a ?_); simp only [go_sem, seval, reduceCtorEq, rzA D, ns2])
        refine W.yes rfl ?_
        ((try refine W.a ?_); simp only [go_sem, seval, reduceCtorEq, rzA D])
        (refine W.c1 (DC.lift1 D (fun D' => sr_end0 w0 t hT k (by omega) l' _ b D')) ?_; simp only [go_sem, seval, reduceCtorEq, rzA D])
        unfold endS
        by_cases h7 : (tokL t k).kind = 7
        · simp only [if_pos h7]
          (refine W.fg (srd_ok D hok t ((k + 1 : Nat) : Int) l' 0 0) (d := (sentAt s (tokL t i).pos).v) (by simp only [r19, go_sem, seval, reduceCtorEq, sent_v, sentAt, strsC]; rfl) (by simp only [resV, go_sem, seval, reduceCtorEq, sent_v, sentAt, strsC]; exact wk_here) ?_ (hl := by (first | exact .c _ | (simp only [go_sem, seval, reduceCtorEq, sent_v, sentAt, strsC]; done))))
          exact ⟨rfl, rfl⟩
        · simp only [if_neg h7]
          (refine W.fg (srd_ok D hok t ((k + 1 : Nat) : Int) l' 101 (tokL t k).pos) (d := (sentAt s (tokL t i).pos).v) (by simp only [r19, go_sem, seval, reduceCtorEq, sent_v, sentAt, strsC]; rfl) (by simp only [resV, go_sem, seval, reduceCtorEq, sent_v, sentAt, strsC]; exact wk_here) ?_ (hl := by (first | exact .c _ | (simp only [go_sem, seval, reduceCtorEq, sent_v, sentAt, strsC]; done))))
          exact ⟨rfl, _, _, _, rfl, rfl⟩
    · subst hr'
      simp only [dotP]
      by_cases hs2 : s.k = 2
      · have ns2 : (s.k != 2) = false := by simpa using hs2
        ((try refine W.a ?_); simp only [go_sem, seval, reduceCtorEq, rzA D, ns2])
        refine W.no rfl ?_
        ((try refine W.a ?_); simp only [go_sem, seval, reduceCtorEq, rzA D])
        (refine W.fg (srd_ok D hok t j l' e p) (d := (sentAt s (tokL t i).pos).v) (by simp only [r19, go_sem, seval, reduceCtorEq, sent_v, sentAt, strsC]; rfl) (by simp only [resV, go_sem, seval, reduceCtorEq, sent_v, sentAt, strsC]; exact wk_here) ?_ (hl := by (first | exact .c _ | (simp only [go_sem, seval, reduceCtorEq, sent_v, sentAt, strsC]; done))))
        exact ⟨he, _, _, _, rfl, rfl⟩
      · have ns2 : (s.k != 2) = true := by simpa using hs2
        ((try refine W.a ?_); simp only [go_sem, seval, reduceCtorEq, rzA D, ns2])
        refine W.yes rfl ?_
        ((try refine W.a ?_); simp only [go_sem, seval, reduceCtorEq, rzA D])
        (refine W.c1 (DC.lift1 D (fun D' => sr_end1 w0 t j l' e p he _ b D')) ?_; simp only [go_sem, seval, reduceCtorEq, rzA D])
        (refine W.fg (srd_ok D hok t j l' e p) (d := (sentAt s (tokL t i).pos).v) (by simp only [r19, go_sem, seval, reduceCtorEq, sent_v, sentAt, strsC]; rfl) (by simp only [resV, go_sem, seval, reduceCtorEq, sent_v, sentAt, strsC]; exact wk_here) ?_ (hl := by (first | exact .c _ | (simp only [go_sem, seval, reduceCtorEq, sent_v, sentAt, strsC]; done))))
        exact ⟨he, _, _, _, rfl, rfl⟩
end
end Go.Proofs.YtapnncbenhkicaaGreatDoor
namespace Go.Proofs.YtapnncbenhkicaaGreatDoor
open Go.RowKit Go.Lamb
/-- ops.row -/
def c45 : AC :=
  .seq (.reg [.o 6 (.mov (.k (.csl [])))])
  (.seq (.reg [.o 7 (.mov (.k (.csl [])))])
  (.seq (.seq (.reg [.m 10 2, .o 11 (.lenr (.t 10)), .o 12 (.mov (.k (.c (.int .i64 0))))])
  (.block 0 (.loop (.seq (.reg [.o 13 (.bin .lss (.t 12) (.t 11))])
  (.seq (.cond (.t 13)
  (.skip)
  (.exit 0))
  (.seq (.block 1 (.seq (.reg [.o 14 (.iadd 1 (.t 10) (.t 12)), .l 15 14, .m 9 15])
  (.reg [.m 16 7, .m 17 9, .m 18 0, .m 19 1, .o 20 (.build [.c (.str []), .c (.int .i64 0), .c (.int .i64 0)] [(0, 1, (.t 17)), (1, 1, (.t 18)), (2, 1, (.t 19))]), .o 21 (.bsl 3 [(.t 20)]), .o 22 (.app 45 3 32 (.t 16) (.t 21)), .m 7 22])))
  (.reg [.o 23 (.bin .add (.t 12) (.k (.c (.int .i64 1)))), .m 12 23])))))))
  (.seq (.reg [.m 24 7, .m 6 24])
  (.ret))))
def r45 : List ResV := [.tmp 6]
theorem k45 : CodeIs Tryz.prog 45 3 Tryz.f45 c45 r45 := ⟨by kernel_rfl, Tryz.func45, rfl, by kernel_rfl, by kernel_rfl, by decide, enters_fn Tryz.func45 (by kernel_rfl) rfl⟩
/-- slices.Concat[[]api.Op,api.Op] -/
def c44 : AC :=
  .seq (.reg [.o 2 (.mov (.k (.csl [])))])
  (.seq (.reg [.o 3 (.mov (.k (.c (.int .i64 0))))])
  (.seq (.seq (.reg [.m 9 0, .o 10 (.lenr (.t 9)), .o 11 (.mov (.k (.c (.int .i64 0))))])
  (.block 0 (.loop (.seq (.reg [.o 12 (.bin .lss (.t 11) (.t 10))])
  (.seq (.cond (.t 12)
  (.skip)
  (.exit 0))
  (.seq (.block 1 (.seq (.reg [.o 13 (.iadd 1 (.t 9) (.t 11)), .l 14 13, .m 5 14])
  (.seq (.reg [.m 15 3, .m 16 5, .o 17 (.lenr (.t 16)), .o 18 (.bin .add (.t 15) (.t 17)), .m 3 18])
  (.seq (.reg [.m 19 3, .o 20 (.bin .lss (.t 19) (.k (.c (.int .i64 0))))])
  (.cond (.t 20)
  (.reg [.o 21 (.bad), ⟨none, .bad, none⟩])
  (.skip))))))
  (.reg [.o 22 (.bin .add (.t 11) (.k (.c (.int .i64 1)))), .m 11 22])))))))
  (.seq (.reg [.m 23 3, .k 24 83 [(.k (.csl [])), (.t 23)], .m 6 24])
  (.seq (.seq (.reg [.m 25 0, .o 26 (.lenr (.t 25)), .o 27 (.mov (.k (.c (.int .i64 0))))])
  (.block 2 (.loop (.seq (.reg [.o 28 (.bin .lss (.t 27) (.t 26))])
  (.seq (.cond (.t 28)
  (.skip)
  (.exit 2))
  (.seq (.block 3 (.seq (.reg [.o 29 (.iadd 1 (.t 25) (.t 27)), .l 30 29, .m 8 30])
  (.reg [.m 31 6, .m 32 8, .o 33 (.app 45 3 32 (.t 31) (.t 32)), .m 6 33])))
  (.reg [.o 34 (.bin .add (.t 27) (.k (.c (.int .i64 1)))), .m 27 34])))))))
  (.seq (.reg [.m 35 6, .m 2 35])
  (.ret))))))
def r44 : List ResV := [.tmp 2]
theorem k44 : CodeIs Tryz.prog 44 1 Tryz.f44 c44 r44 := ⟨by kernel_rfl, Tryz.func44, rfl, by kernel_rfl, by kernel_rfl, by decide, enters_fn Tryz.func44 (by kernel_rfl) rfl⟩
/-- ops.Default -/
def c17 : AC :=
  .seq (.reg [.o 0 (.mov (.k (.csl [])))])
  (.seq (.reg [.o 1 (.bsl 1 [(.k (.c (.str [58, 45])))]), .k 2 45 [(.k (.c (.int .i64 10))), (.k (.c (.int .i64 0))), (.t 1)], .o 3 (.bsl 1 [(.k (.c (.str [59])))]), .k 4 45 [(.k (.c (.int .i64 20))), (.k (.c (.int .i64 2))), (.t 3)], .o 5 (.bsl 1 [(.k (.c (.str [44])))]), .k 6 45 [(.k (.c (.int .i64 30))), (.k (.c (.int .i64 2))), (.t 5)], .o 7 (.bsl 1 [(.k (.c (.str [61, 62])))]), .k 8 45 [(.k (.c (.int .i64 40))), (.k (.c (.int .i64 2))), (.t 7)], .o 9 (.bsl 1 [(.k (.c (.str [61]))), (.k (.c (.str [105, 115]))), (.k (.c (.str [60]))), (.k (.c (.str [61, 60]))), (.k (.c (.str [62]))), (.k (.c (.str [62, 61])))]), .k 10 45 [(.k (.c (.int .i64 60))), (.k (.c (.int .i64 0))), (.t 9)], .o 11 (.bsl 1 [(.k (.c (.str [43]))), (.k (.c (.str [45])))]), .k 12 45 [(.k (.c (.int .i64 80))), (.k (.c (.int .i64 1))), (.t 11)], .o 13 (.bsl 1 [(.k (.c (.str [42]))), (.k (.c (.str [100, 105, 118]))), (.k (.c (.str [109, 111, 100])))]), .k 14 45 [(.k (.c (.int .i64 90))), (.k (.c (.int .i64 1))), (.t 13)], .o 15 (.bsl 1 [(.t 2), (.t 4), (.t 6), (.t 8), (.t 10), (.t 12), (.t 14)]), .k 16 44 [(.t 15)], .m 0 16])
  (.ret))
def r17 : List ResV := [.tmp 0]
theorem k17 : CodeIs Tryz.prog 17 0 Tryz.f17 c17 r17 := ⟨by kernel_rfl, Tryz.func17, rfl, by kernel_rfl, by kernel_rfl, by decide, enters_fn Tryz.func17 (by kernel_rfl) rfl⟩
--absent /-- ref03.Exact -/
--absent /-- ref03.left -/
--absent /-- ref03.Deep -/
end Go.Proofs.YtapnncbenhkicaaGreatDoor
namespace Go.Proofs.YtapnncbenhkicaaGreatDoor
open Go.RowKit Go.Lamb
attribute [local go_sem] advO_skip advO_reg advO_seq advO_block advO_exit advO_endb advO_opsNil advO_ops advG_yes advG_no advG_none advS_some advS_none advO_cond advO_loop advO_dreg advO_ret advO_bad advO_inv advO_nil advO_zero wantedV Lamb.step ev_t ev_k put_some put_none argEnv popTo cellsAt V.cellsV V.rows V.toC toCs fillV bytesC byteRows appV rowsV boundV boundL binV binInt binStr eqC eqL V.isNil leaves V.leaf Ins.quiet Ins.pure List.getD_cons_zero List.getD_cons_succ List.getD_nil List.all_cons List.all_nil List.length_cons List.length_nil List.take_succ_cons List.take_zero List.drop_succ_cons List.drop_zero List.cons_append List.nil_append List.append_nil List.append_assoc List.map_cons List.map_nil List.getElem?_cons_zero List.getElem?_cons_succ List.length_append List.length_set hget0 hget hset0 hset hsets hgs0 hgs hss0 hss List.set_cons_zero List.set_cons_succ List.forall_mem_cons List.not_mem_nil false_implies implies_true Option.map_some Bool.and_true Bool.true_and Bool.not_not Bool.not_true Bool.not_false Bool.and_self Bool.or_true Bool.true_or Bool.or_false Bool.false_or Bool.and_false Bool.false_and Bool.false_eq_true beq_self_eq_true and_self and_true true_and if_true if_false Nat.zero_add Nat.add_zero Nat.le_refl Int.toNat_natCast decide_true decide_false beq_t beq_f List.length_map List.getElem?_map I S B opsC toksC OpT.v OpT.cs OpT.zero Tok.v Tok.cs Pre.v Pre.cs_eq k_mk name_mk n_mk l_mk pos_mk Pre.app applyL natCast0 natCast1 natCast2 AOp.o AOp.m AOp.f AOp.l AOp.d AOp.n AOp.x AOp.s AOp.k AOp.y AOp.z EOp.q low_c low_void low_any low_csl low_nilf low_ptr low_osl low_agg low_tup low_fn resEval advPO_nil advPO_loud advPO_quiet pL_yes pL_no pLS_some pLS_none pQ_yes pQ_no pQS_some pQS_loud eq_self Nat.sub_zero
section

def rowOf (prec fix : Int) (names : List (List UInt8)) : List OpT := names.map fun n => ⟨n, prec, fix⟩
theorem ops_row (w0 : World) (prec fix : Int) (names : List (List UInt8)) (hn : names.length ≤ 1000) (σ : H) :
    DC Tryz.prog w0 45 [I prec, I fix, .csl (names.map fun n => [.str n])] σ (Same (.c (opsC (rowOf prec fix names))) σ) := by
  refine k45.go rfl (fun hok hsz => ?_)
  ((try refine W.a ?_); simp only [go_sem, seval, reduceCtorEq, c45])
  refine W.own 7 45 3 rfl ?_
  refine W.loopP (fun i => i ≤ names.length) (fun i => ⟨((((((base.put (some 0) (I prec)).put (some 1) (I fix)).put (some 7) (.osl σ.length ((rowOf prec fix (names.take i)).map OpT.cs))).put (some 10) (.csl (names.map fun n => [.str n]))).put (some 11) (I names.length)).put (some 12) (I i)), σ ++ [.spare 45 3 i]⟩) (fun i => names.length - i) 0 (Nat.zero_le _) ?_ (fun i hi => ?_)
  · (refine Lew.env ?_; exact lee_here)
  · by_cases hlt : i < names.length
    · have h1 : ((i : Int) < (names.length : Int)) := by omega
      have hx : names[i]? = some names[i] := List.getElem?_eq_getElem hlt
      have hl : (rowOf prec fix (names.take i)).length = i := by simp [rowOf, hi]
      have hb1 : (i + 1) * 32 ≤ 140737488355328 := by omega
      have hb2 : i + 1 ≤ 140737488355328 := by omega
      have hta : (rowOf prec fix (names.take (i + 1))).map OpT.cs = (rowOf prec fix (names.take i)).map OpT.cs ++ [OpT.cs ⟨names[i], prec, fix⟩] := by
        unfold rowOf
        rw [List.take_add_one, hx, List.map_append, List.map_append]; rfl
      have hw : IntKind.i64.wrap ((i : Int) + 1) = ((i + 1 : Nat) : Int) := by rw [wrap_in] <;> omega
      ((try refine W.a ?_); simp only [go_sem, seval, reduceCtorEq, h1])
      refine W.yes rfl ?_
      ((try refine W.a ?_); simp only [go_sem, seval, reduceCtorEq, h1, nat0, hx, hl, hb1, hb2, eq_self, hw])
      refine .inv ⟨i + 1, hlt, by omega, ?_⟩
      simp only [go_sem, seval, reduceCtorEq, hta]
      (refine Lew.env ?_; exact lee_here)
    · have h1 : ¬ ((i : Int) < (names.length : Int)) := by omega
      have hi' : i = names.length := by omega
      subst hi'
      ((try refine W.a ?_); simp only [go_sem, seval, reduceCtorEq, h1])
      refine W.no rfl ?_
      ((try refine W.a ?_); simp only [go_sem, seval, reduceCtorEq, List.take_length])
      (refine W.fs (hok) (by simp only [r45, go_sem, seval, reduceCtorEq]; rfl) ?_; simp only [resV]; try exact V.wk.rfl _)
      (all_goals exact wk_here)
end
section

theorem flat_take {α : Type} {ls : List (List α)} {i : Nat} (h : i < ls.length) : (ls.take (i + 1)).flatten = (ls.take i).flatten ++ ls[i] := by
  rw [List.take_add_one, List.getElem?_eq_getElem h, List.flatten_append]
  congr 1
  exact List.append_nil _
theorem flat_le {α : Type} {ls : List (List α)} (i : Nat) : (ls.take i).flatten.length ≤ ls.flatten.length := by
  have : ls.flatten = (ls.take i).flatten ++ (ls.drop i).flatten := by rw [← List.flatten_append, List.take_append_drop]
  rw [this, List.length_append]
  omega
theorem slices_Concat (w0 : World) (ls : List (List OpT)) (hn : ls.flatten.length ≤ 100000) (hls : ls.length ≤ 100000) (σ : H) :
    DC Tryz.prog w0 44 [.csl (ls.map fun r => [opsC r])] σ (Same (.c (opsC ls.flatten)) σ) := by
  refine k44.go rfl (fun hok hsz => ?_)
  ((try refine W.a ?_); simp only [go_sem, seval, reduceCtorEq, c44])
  refine W.loopP (fun i => i ≤ ls.length) (fun i => ⟨(((((base.put (some 0) (.csl (ls.map fun r => [opsC r]))).put (some 3) (I (ls.take i).flatten.length)).put (some 9) (.csl (ls.map fun r => [opsC r]))).put (some 10) (I ls.length)).put (some 11) (I i)), σ⟩) (fun i => ls.length - i) 0 (Nat.zero_le _) ?_ (fun i hi => ?_)
  · (refine Lew.env ?_; exact lee_here)
  · by_cases hlt : i < ls.length
    · have h1 : ((i : Int) < (ls.length : Int)) := by omega
      have hx : ls[i]? = some ls[i] := List.getElem?_eq_getElem hlt
      have hft := flat_take hlt
      have hfl : (ls.take (i + 1)).flatten.length = (ls.take i).flatten.length + ls[i].length := by rw [hft, List.length_append]
      have hle := flat_le (ls := ls) (i + 1)
      have hw : IntKind.i64.wrap ((i : Int) + 1) = ((i + 1 : Nat) : Int) := by rw [wrap_in] <;> omega
      have hw2 : IntKind.i64.wrap (((ls.take i).flatten.length : Int) + (ls[i].length : Int)) = (((ls.take (i + 1)).flatten.length : Nat) : Int) := by rw [wrap_in] <;> omega
      have hneg : ¬ ((((ls.take (i + 1)).flatten.length : Nat) : Int) < 0) := by omega
      ((try refine W.a ?_); simp only [go_sem, seval, reduceCtorEq, h1])
      refine W.yes rfl ?_
      ((try refine W.a ?_); simp only [go_sem, seval, reduceCtorEq, h1, nat0, hx, hw2, hneg])
      refine W.no rfl ?_
      ((try refine W.a ?_); simp only [go_sem, seval, reduceCtorEq, hw])
      refine .inv ⟨i + 1, hlt, by omega, ?_⟩
      (refine Lew.env ?_; exact lee_here)
    · have h1 : ¬ ((i : Int) < (ls.length : Int)) := by omega
      have hi' : i = ls.length := by omega
      subst hi'
      ((try refine W.a ?_); simp only [go_sem, seval, reduceCtorEq, h1])
      refine W.no rfl ?_
      ((try refine W.a ?_); simp only [go_sem, seval, reduceCtorEq, List.take_length])
      (refine W.c1 (slices_Grow w0 ls.flatten.length (by omega) _) ?_; simp only [go_sem, seval, reduceCtorEq])
      refine W.loopP (fun i => i ≤ ls.length) (fun i => ⟨((((base.put (some 6) (.osl σ.length ((ls.take i).flatten.map OpT.cs))).put (some 25) (.csl (ls.map fun r => [opsC r]))).put (some 26) (I ls.length)).put (some 27) (I i)), σ ++ [.spare 45 3 (ls.take i).flatten.length]⟩) (fun i => ls.length - i) 0 (Nat.zero_le _) ?_ (fun i hi => ?_)
      · (refine Lew.env ?_; exact lee_here)
      · by_cases hlt : i < ls.length
        · have h1 : ((i : Int) < (ls.length : Int)) := by omega
          have hx : ls[i]? = some ls[i] := List.getElem?_eq_getElem hlt
          have hft := flat_take hlt
          have hfl : (ls.take (i + 1)).flatten.length = (ls.take i).flatten.length + ls[i].length := by rw [hft, List.length_append]
          have hle := flat_le (ls := ls) (i + 1)
          have hb1 : ((ls.take i).flatten.length + ls[i].length) * 32 ≤ 140737488355328 := by omega
          have hb2 : (ls.take i).flatten.length + ls[i].length ≤ 140737488355328 := by omega
          have hb3 : ∀ r ∈ ls[i].map OpT.cs, r.length = 3 := fun r hr => by obtain ⟨o, _, rfl⟩ := List.mem_map.1 hr; rfl
          have hta : (ls.take (i + 1)).flatten.map OpT.cs = (ls.take i).flatten.map OpT.cs ++ ls[i].map OpT.cs := by rw [hft, List.map_append]
          have hw : IntKind.i64.wrap ((i : Int) + 1) = ((i + 1 : Nat) : Int) := by rw [wrap_in] <;> omega
          ((try refine W.a ?_); simp only [go_sem, seval, reduceCtorEq, h1])
          refine W.yes rfl ?_
          ((try refine W.a ?_); simp only [go_sem, seval, reduceCtorEq, h1, nat0, hx, hb1, hb2, eq_self, hw, eq_true hb3])
          refine .inv ⟨i + 1, hlt, by omega, ?_⟩
          simp only [go_sem, seval, reduceCtorEq, hta, hfl]
          (refine Lew.env ?_; exact lee_here)
        · have h1 : ¬ ((i : Int) < (ls.length : Int)) := by omega
          have hi' : i = ls.length := by omega
          subst hi'
          ((try refine W.a ?_); simp only [go_sem, seval, reduceCtorEq, h1])
          refine W.no rfl ?_
          ((try refine W.a ?_); simp only [go_sem, seval, reduceCtorEq, List.take_length])
          (refine W.fs (hok) (by simp only [r44, go_sem, seval, reduceCtorEq]; rfl) ?_; simp only [resV]; try exact V.wk.rfl _)
          (all_goals exact wk_here)
end
section

def firstRows : List (List OpT) := [rowOf 10 0 [[58, 45]], rowOf 20 2 [[59]], rowOf 30 2 [[44]], rowOf 40 2 [[61, 62]], rowOf 60 0 [[61], [105, 115], [60], [61, 60], [62], [62, 61]], rowOf 80 1 [[43], [45]], rowOf 90 1 [[42], [100, 105, 118], [109, 111, 100]]]
theorem ops_Default (w0 : World) (σ : H) : DC Tryz.prog w0 17 [] σ (Same (.c (opsC firstRows.flatten)) σ) := by
  refine k17.go rfl (fun hok hsz => ?_)
  ((try refine W.a ?_); simp only [go_sem, seval, reduceCtorEq, c17])
  (refine W.c1 (ops_row w0 10 0 [[58, 45]] (by decide) _) ?_; simp only [go_sem, seval, reduceCtorEq])
  (refine W.c1 (ops_row w0 20 2 [[59]] (by decide) _) ?_; simp only [go_sem, seval, reduceCtorEq])
  (refine W.c1 (ops_row w0 30 2 [[44]] (by decide) _) ?_; simp only [go_sem, seval, reduceCtorEq])
  (refine W.c1 (ops_row w0 40 2 [[61, 62]] (by decide) _) ?_; simp only [go_sem, seval, reduceCtorEq])
  (refine W.c1 (ops_row w0 60 0 [[61], [105, 115], [60], [61, 60], [62], [62, 61]] (by decide) _) ?_; simp only [go_sem, seval, reduceCtorEq])
  (refine W.c1 (ops_row w0 80 1 [[43], [45]] (by decide) _) ?_; simp only [go_sem, seval, reduceCtorEq])
  (refine W.c1 (ops_row w0 90 1 [[42], [100, 105, 118], [109, 111, 100]] (by decide) _) ?_; simp only [go_sem, seval, reduceCtorEq])
  (refine W.c1 (slices_Concat w0 firstRows (by decide) (by decide) _) ?_; simp only [go_sem, seval, reduceCtorEq])
  (refine W.fs (hok) (by simp only [r17, go_sem, seval, reduceCtorEq]; rfl) ?_; simp only [resV]; try exact V.wk.rfl _)
end
section
attribute [local go_sem] strsC sdX rz_len rz_g0 rz_g rz_s0 rz_s rz_sb zeroB

def ops0 : List OpT := firstRows.flatten
theorem back_end : ∀ {l : List Tok}, BackOk l → ∃ h : l ≠ [], (l.getLast h).key = (0, [], 0)
  | [], h => h.elim
  | t :: l, h => by
    rcases h with ⟨rfl, h⟩ | ⟨_, h⟩
    · exact ⟨by simp, h⟩
    · obtain ⟨hn, hk⟩ := back_end h
      exact ⟨by simp, by rw [List.getLast_cons hn]; exact hk⟩
theorem lex_back {s : List UInt8} (hs : s.length ≤ 2048) (he : (lexL s).err = 0) : BackOk (lexL s).toks := by
  have eS : lexL s = lexAt s.length (skipL false s) := if_neg (by omega)
  have h := (back_ok s.length _ (skipL false s) (Nat.lt_succ_self _) (by rw [eS] at he; exact he)).1
  rwa [show lexF s.length (skipL false s).length.succ (skipL false s) = lexL s from eS.symm] at h
theorem lex_end {s : List UInt8} (hs : s.length ≤ 2048) (he : (lexL s).err = 0) : TEnd (lexL s).toks := by
  obtain ⟨hn, hk⟩ := back_end (lex_back hs he)
  have hc := lexL_count s
  refine ⟨hn, fun h => ?_, by omega⟩
  rw [← List.getLast_eq_getElem hn]
  have hp : lastPos (lexL s).toks = ((lexL s).toks.getLast hn).pos := by
    unfold lastPos
    rw [List.getLast?_eq_some_getLast hn]; rfl
  rw [hp]
  generalize (lexL s).toks.getLast hn = x at hk
  obtain ⟨k, tx, n, ps⟩ := x
  simp only [Tok.key, Prod.mk.injEq] at hk
  obtain ⟨rfl, rfl, rfl⟩ := hk
  rfl
/-- What Read tells of a text. -/
noncomputable def readS (s : List UInt8) : Except Bad (List Sent × List OpT) := if (lexL s).err = 0 then allS (lexL s).toks ops0 0 [] else .error ⟨(lexL s).err, (lexL s).pos⟩
def srcV : Except Bad (List Sent × List OpT) → V
  | .ok (xs, l) => .tup [.c (sentsC xs), .c (opsC l), I 0, I 0]
  | .error x => .tup [.c (.sl []), .c (.sl []), I x.e, I x.pos]
theorem sent_ops {t : List Tok} {l l' : List OpT} {i j : Nat} {s : Sent} (hl : l.length ≤ 64) (hn : l ≠ []) (h : sentS t l i = .ok (s, j, l')) : l'.length ≤ 64 ∧ l' ≠ [] := by
  have hend : ∀ {s0 : Sent} {k : Nat}, endS t s0 k l = .ok (s, j, l') → l'.length ≤ 64 ∧ l' ≠ [] := fun h => by
    unfold endS at h
    split at h
    · injection h with h; injection h with _ h; injection h with _ h
      subst h; exact ⟨hl, hn⟩
    · cases h
  have hop : ∀ fix, opSent t (i + 1) (tokL t i).pos fix l = .ok (s, j, l') → l'.length ≤ 64 ∧ l' ≠ [] := fun fix h => by
    unfold opSent at h
    split at h
    · cases h
    · split at h
      · split at h
        · split at h
          · cases h
          · rename_i hd
            injection h with h; injection h with _ h; injection h with _ h
            subst h
            exact declL_len hl hn hd
        · cases h
      · cases h
  unfold sentS at h
  simp only at h
  split at h
  · unfold kindSent at h
    split at h
    · cases h
    · split at h
      · cases h
      · exact hend h
  · split at h
    · unfold typeSent at h
      split at h
      · cases h
      · split at h
        · cases h
        · exact hend h
    · split at h
      · exact hop _ h
      · split at h
        · exact hop _ h
        · split at h
          · exact hop _ h
          · unfold clauseSent at h
            split at h
            · cases h
            · exact hend h
theorem sent_cs (s : Sent) : s.cs = [.int .i64 s.k, strsC s.names, .int .i64 s.n, .int .i64 s.ty.k, .str s.ty.name, .int .i64 s.ty.n, .sl (s.ty.l.map Typ.cs), .str s.op.name, .int .i64 s.op.prec, .int .i64 s.op.fix, .int .i64 s.body.k, .str s.body.name, .int .i64 s.body.n, .sl (s.body.l.map Pre.cs), .int .i64 s.body.pos, .int .i64 s.pos] := rfl
structure AllSt where
  acc : List Sent
  i : Nat
  l : List OpT
theorem source_Read {w0 : World} (hG : Glob w0) (s : List UInt8) (hs : s.length ≤ 2048) (σ : H) : DC Tryz.prog w0 5 [S s] σ (Same (srcV (readS s)) σ) := by
  refine k5.go rfl (fun hok hsz => ?_)
  generalize hr : readS s = r
  unfold readS at hr
  ((try refine W.a ?_); simp only [go_sem, seval, reduceCtorEq, c5])
  (refine W.c1 (lex_Lex hG s (by omega) _) ?_; simp only [go_sem, seval, reduceCtorEq])
  by_cases he : (lexL s).err = 0
  · have hb : ((lexL s).err != 0) = false := by simpa using he
    rw [if_pos he] at hr
    have hT := lex_end hs he
    have hle := hT.le
    have hlen := lexL_count s
    generalize (lexL s).toks = t at *
    ((try refine W.a ?_); simp only [go_sem, seval, reduceCtorEq, hb])
    refine W.no rfl ?_
    ((try refine W.a ?_); simp only [go_sem, seval, reduceCtorEq])
    (refine W.c1 (ops_Default w0 _) ?_; simp only [go_sem, seval, reduceCtorEq])
    refine W.own 10 51 16 rfl ?_
    obtain ⟨τ, D, hτl, hrz⟩ : ∃ τ : H, σ.length < τ.length ∧ τ.length = σ.length + 1 ∧ ∀ X L, σ ++ X :: L = rz τ σ.length X ++ L := ⟨σ ++ [.gone], by simp, by simp, fun X L => by unfold rz; simp⟩
    have ho : ops0.length ≤ 64 ∧ ops0 ≠ [] := by decide
    have hokz : ∀ (i : Int) (l : List OpT) (e p : Int), H.ok (srd τ σ.length t i l e p) := fun i l e p => by
      have : srd τ σ.length t i l e p = σ ++ [sdX t i l e p] := by
        have := hrz (sdX t i l e p) []
        rw [List.append_nil] at this
        exact this.symm
      rw [this]
      refine H.ok_append hok fun b hb cs tg hc x hx => ?_
      simp only [List.mem_cons, List.not_mem_nil, or_false] at hb
      subst hb
      unfold sdX at hc
      injection hc with hc _
      subst hc
      simp only [List.mem_cons, List.not_mem_nil, or_false] at hx
      rcases hx with rfl | rfl | rfl | rfl | rfl <;> exact .c _
    ((try refine W.a ?_); simp only [go_sem, seval, reduceCtorEq, hrz])
    have hstart : ∀ {Q k ρ}, W Tryz.prog w0 σ.length Q k ⟨ρ, srd τ σ.length t (0 : Nat) ops0 0 0 ++ [.spare 51 16 0]⟩ → W Tryz.prog w0 σ.length Q k ⟨ρ, rz τ σ.length (.cells [.c (.sl (t.map Tok.cs)), .c (.int .i64 0), .c (.sl (firstRows.flatten.map OpT.cs)), .c (.int .i64 0), .c (.int .i64 0)]) ++ [.spare 51 16 0]⟩ := fun h => h
    let I0 : AllSt → Prop := fun x => x.acc.length ≤ x.i ∧ x.i ≤ t.length ∧ x.l.length ≤ 64 ∧ x.l ≠ [] ∧ r = allS t x.l x.i x.acc
    let I1 : AllSt × Int × Int → Prop := fun x => (x.2.1 = 0 ∧ x.2.2 = 0 ∧ I0 x.1) ∨ ((x.2.1 == 0) = false ∧ r = .error ⟨x.2.1, x.2.2⟩)
    refine W.loopP (α := AllSt × Int × Int × Int) (fun x => I1 (x.1, x.2.1, x.2.2.1) ∧ (x.2.1 = 0 → x.2.2.2 = x.1.i))
      (fun x => ⟨((base.put (some 9) (.ptr σ.length 0)).put (some 10) (.osl τ.length (x.1.acc.map Sent.cs))), srd τ σ.length t x.2.2.2 x.1.l x.2.1 x.2.2.1 ++ [.spare 51 16 x.1.acc.length]⟩) (fun x => if x.2.1 = 0 then t.length + 1 - x.1.i else 0) (⟨[], 0, ops0⟩, 0, 0, 0) ⟨.inl ⟨rfl, rfl, Nat.zero_le _, Nat.zero_le _, ho.1, ho.2, hr.symm⟩, fun _ => rfl⟩ ?_ (fun x hx => ?_)
    · (refine Lew.env ?_; exact lee_here)
    · obtain ⟨⟨acc, i, l⟩, e, p, j⟩ := x
      obtain ⟨hx, hj⟩ := hx
      simp only [I1] at hx hj
      rcases hx with ⟨rfl, rfl, h1, h2, h3, h4, h5⟩ | ⟨he1, h1⟩
      · obtain rfl := hj rfl
        simp only at h1 h2 h3 h4 h5
        rw [allS_eq] at h5
        by_cases hk0 : (tokL t i).kind = 0
        · have n0 : ((tokL t i).kind != 0) = false := by simpa using hk0
          rw [if_pos hk0] at h5
          subst h5
          ((try refine W.a ?_); simp only [go_sem, seval, reduceCtorEq, rzA D])
          (refine W.c1 (DC.lift1 D (fun D' => sr_tok w0 t hT i (by omega) l 0 0 _ σ.length D')) ?_; simp only [go_sem, seval, reduceCtorEq, rzA D, n0])
          refine W.no rfl ?_
          ((try refine W.a ?_); simp only [go_sem, seval, reduceCtorEq, rzA D])
          refine W.no rfl ?_
          ((try refine W.a ?_); simp only [go_sem, seval, reduceCtorEq, rzA D])
          (apply W.dregE (List.cons_ne_nil _ _); case hc => ((apply CanonE.advPO; simp only [go_sem, seval, reduceCtorEq, rzA D]); exact CanonE.nil))
          ((try refine W.a ?_); simp only [go_sem, seval, reduceCtorEq, rzA D])
          rw [← hrz]
          (refine W.fs (hok) (by simp only [r5, go_sem, seval, reduceCtorEq, srcV, sentsC]; rfl) ?_ (hl := by (first | exact .c _ | (simp only [go_sem, seval, reduceCtorEq, srcV, sentsC]; done))); simp only [resV, srcV, sentsC]; try exact V.wk.rfl _)
          (all_goals exact wk_here)
        · have n0 : ((tokL t i).kind != 0) = true := by simpa using hk0
          rw [if_neg hk0] at h5
          have hil := tokL_lt hk0
          ((try refine W.a ?_); simp only [go_sem, seval, reduceCtorEq, rzA D])
          (refine W.c1 (DC.lift1 D (fun D' => sr_tok w0 t hT i (by omega) l 0 0 _ σ.length D')) ?_; simp only [go_sem, seval, reduceCtorEq, rzA D, n0])
          refine W.yes rfl ?_
          ((try refine W.a ?_); simp only [go_sem, seval, reduceCtorEq, rzA D])
          (refine W.call (DC.lift1R D (fun D' => sr_sentence w0 t hT i h2 l h3 h4 _ σ.length D')) rfl rfl (by first | rfl | simp) ?_)
          intro d σ1 hR
          obtain ⟨s', j, l', e, p, rfl, rfl, hst⟩ := rsen_out hR
          have hb1 : (acc.length + 1) * 200 ≤ 140737488355328 := by omega
          have hb2 : acc.length + 1 ≤ 140737488355328 := by omega
          ((try refine W.a ?_); simp only [go_sem, seval, reduceCtorEq, rzA D, sent_v, hb1, hb2])
          rcases hst with ⟨rfl, rfl, k, rfl, hs'⟩ | ⟨he1, hs'⟩
          · rw [hs'] at h5
            have hf := sentS_far hs'
            have hop := sent_ops h3 h4 hs'
            refine .inv ⟨(⟨acc ++ [s'], k, l'⟩, 0, 0, k), ⟨.inl ⟨rfl, rfl, by simp; omega, hf.2, hop.1, hop.2, h5⟩, fun _ => rfl⟩, by simp only [if_true]; omega, ?_⟩
            simp only [go_sem, seval, reduceCtorEq, List.map_append, List.length_append, sent_cs]
            (refine Lew.env ?_; exact lee_here)
          · rw [hs'] at h5
            have hne : ¬ e = 0 := by simpa using he1
            refine .inv ⟨(⟨acc ++ [s'], 0, l'⟩, e, p, j), ⟨.inr ⟨he1, h5⟩, fun h => absurd h hne⟩, by simp only [if_neg hne, if_true]; omega, ?_⟩
            simp only [go_sem, seval, reduceCtorEq, List.map_append, List.length_append, sent_cs]
            (refine Lew.env ?_; exact lee_here)
      · subst h1
        have hb1 : (e != 0) = true := by rw [bne, he1]; rfl
        ((try refine W.a ?_); simp only [go_sem, seval, reduceCtorEq, rzA D, he1])
        refine W.no rfl ?_
        ((try refine W.a ?_); simp only [go_sem, seval, reduceCtorEq, rzA D, hb1])
        refine W.yes rfl ?_
        ((try refine W.a ?_); simp only [go_sem, seval, reduceCtorEq, rzA D])
        (apply W.dregE (List.cons_ne_nil _ _); case hc => ((apply CanonE.advPO; simp only [go_sem, seval, reduceCtorEq, rzA D]); exact CanonE.nil))
        ((try refine W.a ?_); simp only [go_sem, seval, reduceCtorEq, rzA D])
        rw [← hrz]
        (refine W.fs (hok) (by simp only [r5, go_sem, seval, reduceCtorEq, srcV]; rfl) ?_ (hl := by (first | exact .c _ | (simp only [go_sem, seval, reduceCtorEq, srcV]; done))); simp only [resV, srcV]; try exact V.wk.rfl _)
        (all_goals exact wk_here)
  · have hb : ((lexL s).err != 0) = true := by simpa using he
    rw [if_neg he] at hr
    subst hr
    ((try refine W.a ?_); simp only [go_sem, seval, reduceCtorEq, hb])
    refine W.yes rfl ?_
    ((try refine W.a ?_); simp only [go_sem, seval, reduceCtorEq])
    (refine W.fs (hok) (by simp only [r5, go_sem, seval, reduceCtorEq, srcV]; rfl) ?_ (hl := by (first | exact .c _ | (simp only [go_sem, seval, reduceCtorEq, srcV]; done))); simp only [resV, srcV]; try exact V.wk.rfl _)
    (all_goals exact wk_here)
end
section
attribute [local go_sem] strsC rz_len rz_g0 rz_g rz_s0 rz_s rz_sb

end
end Go.Proofs.YtapnncbenhkicaaGreatDoor
namespace Go.Proofs.YtapnncbenhkicaaGreatDoor
open Go.RowKit Go.Lamb
--absent /-- (*ref10.State).fail -/
--absent /-- (*ref10.State).tok -/
--absent /-- (*ref10.State).word -/
--absent /-- (*ref10.State).Names -/
--absent /-- (*ref10.State).end -/
--absent /-- (*ref10.State).kind -/
--absent /-- (*ref10.State).types -/
--absent /-- (*ref10.State).op -/
--absent /-- (*ref10.State).clause -/
--absent /-- (*ref10.State).One -/
--absent /-- ref10.Read -/
--absent /-- ref02.Declare -/
/-- lambentref02.Default -/
def c37 : AC :=
  .seq (.reg [.o 0 (.mov (.k (.csl [])))])
  (.seq (.reg [.o 1 (.mov (.k (.csl [])))])
  (.seq (.reg [.m 2 1, .k 3 66 [(.k (.c (.str [58, 45]))), (.k (.c (.int .i64 10))), (.k (.c (.int .i64 0)))], .k 4 66 [(.k (.c (.str [59]))), (.k (.c (.int .i64 20))), (.k (.c (.int .i64 2)))], .k 5 66 [(.k (.c (.str [44]))), (.k (.c (.int .i64 30))), (.k (.c (.int .i64 2)))], .k 6 66 [(.k (.c (.str [61, 62]))), (.k (.c (.int .i64 40))), (.k (.c (.int .i64 2)))], .o 7 (.bsl 3 [(.t 3), (.t 4), (.t 5), (.t 6)]), .o 8 (.app 45 3 32 (.t 2) (.t 7)), .m 1 8])
  (.seq (.reg [.m 9 1, .k 10 66 [(.k (.c (.str [61]))), (.k (.c (.int .i64 60))), (.k (.c (.int .i64 0)))], .k 11 66 [(.k (.c (.str [105, 115]))), (.k (.c (.int .i64 60))), (.k (.c (.int .i64 0)))], .k 12 66 [(.k (.c (.str [60]))), (.k (.c (.int .i64 60))), (.k (.c (.int .i64 0)))], .k 13 66 [(.k (.c (.str [61, 60]))), (.k (.c (.int .i64 60))), (.k (.c (.int .i64 0)))], .k 14 66 [(.k (.c (.str [62]))), (.k (.c (.int .i64 60))), (.k (.c (.int .i64 0)))], .k 15 66 [(.k (.c (.str [62, 61]))), (.k (.c (.int .i64 60))), (.k (.c (.int .i64 0)))], .o 16 (.bsl 3 [(.t 10), (.t 11), (.t 12), (.t 13), (.t 14), (.t 15)]), .o 17 (.app 45 3 32 (.t 9) (.t 16)), .m 1 17])
  (.seq (.reg [.m 18 1, .k 19 66 [(.k (.c (.str [43]))), (.k (.c (.int .i64 80))), (.k (.c (.int .i64 1)))], .k 20 66 [(.k (.c (.str [45]))), (.k (.c (.int .i64 80))), (.k (.c (.int .i64 1)))], .k 21 66 [(.k (.c (.str [42]))), (.k (.c (.int .i64 90))), (.k (.c (.int .i64 1)))], .k 22 66 [(.k (.c (.str [100, 105, 118]))), (.k (.c (.int .i64 90))), (.k (.c (.int .i64 1)))], .k 23 66 [(.k (.c (.str [109, 111, 100]))), (.k (.c (.int .i64 90))), (.k (.c (.int .i64 1)))], .o 24 (.bsl 3 [(.t 19), (.t 20), (.t 21), (.t 22), (.t 23)]), .o 25 (.app 45 3 32 (.t 18) (.t 24)), .m 1 25])
  (.seq (.reg [.m 26 1, .m 0 26])
  (.ret))))))
def r37 : List ResV := [.tmp 0]
theorem k37 : CodeIs Tryz.prog 37 0 Tryz.f37 c37 r37 := ⟨by kernel_rfl, Tryz.func37, rfl, by kernel_rfl, by kernel_rfl, by decide, enters_fn Tryz.func37 (by kernel_rfl) rfl⟩
/-- lambentref02.one -/
def c66 : AC :=
  .seq (.reg [.o 6 (.box (.k (.agg [.c (.str []), .c (.int .i64 0), .c (.int .i64 0)])))])
  (.seq (.reg [.m 7 0, .m 8 1, .m 9 2, .o 10 (.build [.c (.str []), .c (.int .i64 0), .c (.int .i64 0)] [(0, 1, (.t 7)), (1, 1, (.t 8)), (2, 1, (.t 9))]), .s 3 6 10])
  (.ret))
def r66 : List ResV := [.celln 3 6]
theorem k66 : CodeIs Tryz.prog 66 3 Tryz.f66 c66 r66 := ⟨by kernel_rfl, Tryz.func66, rfl, by kernel_rfl, by kernel_rfl, by decide, enters_fn Tryz.func66 (by kernel_rfl) rfl⟩
/-- lambentref02.Same -/
def c27 : AC :=
  .seq (.reg [.o 4 (.mov (.k (.c (.bool false))))])
  (.seq (.seq (.reg [.m 6 0, .o 7 (.lenr (.t 6)), .m 8 1, .o 9 (.lenr (.t 8)), .o 10 (.bin .neq (.t 7) (.t 9))])
  (.cond (.t 10)
  (.seq (.reg [.o 4 (.mov (.k (.c (.bool false))))])
  (.ret))
  (.skip)))
  (.seq (.seq (.reg [.o 5 (.mov (.k (.c (.int .i64 0))))])
  (.block 0 (.loop (.seq (.seq (.reg [.m 11 5, .m 12 0, .o 13 (.lenr (.t 12)), .o 14 (.bin .lss (.t 11) (.t 13))])
  (.cond (.t 14)
  (.skip)
  (.exit 0)))
  (.seq (.block 1 (.seq (.dreg [.m 17 0, .m 18 5, .o 19 (.iadd 3 (.t 17) (.t 18)), .d 20 3 19, .m 21 1, .m 22 5, .o 23 (.iadd 3 (.t 21) (.t 22)), .d 24 3 23, .o 25 (.eqs true [2, 1, 1] (.t 20) (.t 24))]
    [.q (.m 17 0), .q (.m 18 5), .q (.o 19 (.iadd 3 (.t 17) (.t 18))), .q (.d 20 3 19), .q (.m 21 1), .q (.m 22 5), .q (.o 23 (.iadd 3 (.t 21) (.t 22))), .q (.d 24 3 23), .q (.o 25 (.eqs true [2, 1, 1] (.t 20) (.t 24)))])
  (.cond (.t 25)
  (.seq (.reg [.o 4 (.mov (.k (.c (.bool false))))])
  (.ret))
  (.skip))))
  (.reg [.m 15 5, .o 16 (.bin .add (.t 15) (.k (.c (.int .i64 1)))), .m 5 16]))))))
  (.seq (.reg [.o 4 (.mov (.k (.c (.bool true))))])
  (.ret))))
def r27 : List ResV := [.tmp 4]
theorem k27 : CodeIs Tryz.prog 27 2 Tryz.f27 c27 r27 := ⟨by kernel_rfl, Tryz.func27, rfl, by kernel_rfl, by kernel_rfl, by decide, enters_fn Tryz.func27 (by kernel_rfl) rfl⟩
--absent /-- ref10.Same -/
--absent /-- ref10.SameAll -/
--absent /-- law10.works -/
--absent /-- law10.alike -/
--absent /-- law10.SourceReads -/
--absent /-- law10.SourceGlue -/
--absent /-- law10.SourceOne -/
--absent /-- ref01.Lex -/
end Go.Proofs.YtapnncbenhkicaaGreatDoor
namespace Go.Proofs.YtapnncbenhkicaaGreatDoor
open Go.RowKit Go.Lamb

end Go.Proofs.YtapnncbenhkicaaGreatDoor
namespace Go.Proofs.YtapnncbenhkicaaGreatDoor
open Go.RowKit Go.Lamb
attribute [local go_sem] advO_skip advO_reg advO_seq advO_block advO_exit advO_endb advO_opsNil advO_ops advG_yes advG_no advG_none advS_some advS_none advO_cond advO_loop advO_dreg advO_ret advO_bad advO_inv advO_nil advO_zero wantedV Lamb.step ev_t ev_k put_some put_none argEnv popTo cellsAt V.cellsV V.rows V.toC toCs fillV bytesC byteRows appV rowsV boundV boundL binV binInt binStr eqC eqL V.isNil leaves V.leaf Ins.quiet Ins.pure List.getD_cons_zero List.getD_cons_succ List.getD_nil List.all_cons List.all_nil List.length_cons List.length_nil List.take_succ_cons List.take_zero List.drop_succ_cons List.drop_zero List.cons_append List.nil_append List.append_nil List.append_assoc List.map_cons List.map_nil List.getElem?_cons_zero List.getElem?_cons_succ List.length_append List.length_set hget0 hget hset0 hset hsets hgs0 hgs hss0 hss List.set_cons_zero List.set_cons_succ List.forall_mem_cons List.not_mem_nil false_implies implies_true Option.map_some Bool.and_true Bool.true_and Bool.not_not Bool.not_true Bool.not_false Bool.and_self Bool.or_true Bool.true_or Bool.or_false Bool.false_or Bool.and_false Bool.false_and Bool.false_eq_true beq_self_eq_true and_self and_true true_and if_true if_false Nat.zero_add Nat.add_zero Nat.le_refl Int.toNat_natCast decide_true decide_false beq_t beq_f List.length_map List.getElem?_map I S B opsC toksC OpT.v OpT.cs OpT.zero Tok.v Tok.cs Pre.v Pre.cs_eq k_mk name_mk n_mk l_mk pos_mk Pre.app applyL natCast0 natCast1 natCast2 AOp.o AOp.m AOp.f AOp.l AOp.d AOp.n AOp.x AOp.s AOp.k AOp.y AOp.z EOp.q low_c low_void low_any low_csl low_nilf low_ptr low_osl low_agg low_tup low_fn resEval advPO_nil advPO_loud advPO_quiet pL_yes pL_no pLS_some pLS_none pQ_yes pQ_no pQS_some pQS_loud eq_self Nat.sub_zero

end Go.Proofs.YtapnncbenhkicaaGreatDoor
namespace Go.Proofs.YtapnncbenhkicaaGreatDoor
open Go.RowKit Go.Lamb
--absent /-- ref03.Same -/
end Go.Proofs.YtapnncbenhkicaaGreatDoor
namespace Go.Proofs.YtapnncbenhkicaaGreatDoor
open Go.RowKit Go.Lamb
--absent /-- (*ref05.State).fail -/
--absent /-- (*ref05.State).atom -/
--absent /-- (*ref05.State).Atom -/
--absent /-- (*ref05.State).Type -/
--absent /-- ref05.Read -/
/-- lambentref05.Same -/
def c26 : AC :=
  .seq (.reg [.o 2 (.box (.t 0)), .o 3 (.box (.t 1)), .o 4 (.mov (.k (.c (.bool false))))])
  (.seq (.seq (.reg [.f 7 0 2, .l 8 7, .f 9 0 3, .l 10 9, .o 11 (.bin .neq (.t 8) (.t 10)), .m 12 11, .z 13 (.fadd 1 (.t 2)) 12, .z 14 (.load1 (.t 13)) 12, .z 15 (.fadd 1 (.t 3)) 12, .z 16 (.load1 (.t 15)) 12, .z 17 (.bin .neq (.t 14) (.t 16)) 12, .o 18 (.pick (.t 12) (.k (.c (.bool true))) (.t 17)), .m 19 18, .z 20 (.fadd 2 (.t 2)) 19, .z 21 (.load1 (.t 20)) 19, .z 22 (.fadd 2 (.t 3)) 19, .z 23 (.load1 (.t 22)) 19, .z 24 (.bin .neq (.t 21) (.t 23)) 19, .o 25 (.pick (.t 19) (.k (.c (.bool true))) (.t 24)), .m 26 25, .z 27 (.fadd 3 (.t 2)) 26, .z 28 (.load1 (.t 27)) 26, .z 29 (.lenr (.t 28)) 26, .z 30 (.fadd 3 (.t 3)) 26, .z 31 (.load1 (.t 30)) 26, .z 32 (.lenr (.t 31)) 26, .z 33 (.bin .neq (.t 29) (.t 32)) 26, .o 34 (.pick (.t 26) (.k (.c (.bool true))) (.t 33))])
  (.cond (.t 34)
  (.seq (.reg [.o 4 (.mov (.k (.c (.bool false))))])
  (.ret))
  (.skip)))
  (.seq (.seq (.reg [.o 5 (.mov (.k (.c (.int .i64 0))))])
  (.block 0 (.loop (.seq (.seq (.reg [.m 35 5, .f 36 3 2, .l 37 36, .o 38 (.lenr (.t 37)), .o 39 (.bin .lss (.t 35) (.t 38))])
  (.cond (.t 39)
  (.skip)
  (.exit 0)))
  (.seq (.block 1 (.seq (.dreg [.f 42 3 2, .l 43 42, .m 44 5, .o 45 (.iadd 4 (.t 43) (.t 44)), .d 46 4 45, .f 47 3 3, .l 48 47, .m 49 5, .o 50 (.iadd 4 (.t 48) (.t 49)), .d 51 4 50, .k 52 26 [(.t 46), (.t 51)], .m 6 52]
    [.q (.f 42 3 2), .q (.l 43 42), .q (.m 44 5), .q (.o 45 (.iadd 4 (.t 43) (.t 44))), .q (.d 46 4 45), .q (.f 47 3 3), .q (.l 48 47), .q (.m 49 5), .q (.o 50 (.iadd 4 (.t 48) (.t 49))), .q (.d 51 4 50), ⟨.k 52 26 [(.t 46), (.t 51)], true, 0⟩, ⟨.m 6 52, false, 1⟩])
  (.seq (.reg [.m 53 6, .o 54 (.un .not (.t 53))])
  (.cond (.t 54)
  (.seq (.reg [.o 4 (.mov (.k (.c (.bool false))))])
  (.ret))
  (.skip)))))
  (.reg [.m 40 5, .o 41 (.bin .add (.t 40) (.k (.c (.int .i64 1)))), .m 5 41]))))))
  (.seq (.reg [.o 4 (.mov (.k (.c (.bool true))))])
  (.ret))))
def r26 : List ResV := [.tmp 4]
theorem k26 : CodeIs Tryz.prog 26 2 Tryz.f26 c26 r26 := ⟨by kernel_rfl, Tryz.func26, rfl, by kernel_rfl, by kernel_rfl, by decide, enters_fn Tryz.func26 (by kernel_rfl) rfl⟩
--absent /-- ref05.left -/
--absent /-- ref05.Large -/
end Go.Proofs.YtapnncbenhkicaaGreatDoor
namespace Go.Proofs.YtapnncbenhkicaaGreatDoor
open Go.RowKit Go.Lamb
--absent /-- ref03.Tok -/
--absent /-- (*ref03.State).fail -/
--absent /-- (*ref03.State).begins -/
--absent /-- (*ref03.State).deep -/
--absent /-- (*ref03.State).Atom -/
--absent /-- (*ref03.State).Operand -/
--absent /-- (*ref03.State).Expr -/
--absent /-- ref03.Read -/
end Go.Proofs.YtapnncbenhkicaaGreatDoor
namespace Go.Proofs.YtapnncbenhkicaaGreatDoor
open Go.RowKit Go.Lamb

end Go.Proofs.YtapnncbenhkicaaGreatDoor
namespace Go.Proofs.YtapnncbenhkicaaGreatDoor
open Go.RowKit Go.Lamb

/-- The document's type reader's blocks. -/
def tqX (t : List Tok) (i : Int) (v : Nat) (vs : List Str) (e p : Int) : Blk := .cells [.c (toksC t), I i, I e, I p, .osl v (strsR vs)]
abbrev tqs (σ : H) (b v : Nat) (t : List Tok) (i : Int) (vs : List Str) (e p : Int) : H := rs σ b v (tqX t i v vs e p) (tyY vs)
attribute [local go_sem] tqX tyY rs_len rs_g0 rs_g rs_s0 rs_s rs_sv Typ.v Typ.cs_eq tk_mk tname_mk tn_mk tl_mk tysC
end Go.Proofs.YtapnncbenhkicaaGreatDoor
namespace Go.Proofs.YtapnncbenhkicaaGreatDoor
open Go.RowKit Go.Lamb

abbrev tqo (σ : H) (b v : Nat) (t : List Tok) (o : TyO) : H := tqs σ b v t o.j o.ws o.e o.p
attribute [local go_sem] tqX tyY rs_len rs_g0 rs_g rs_s0 rs_s rs_sv Typ.v Typ.cs_eq tk_mk tname_mk tn_mk tl_mk tysC
end Go.Proofs.YtapnncbenhkicaaGreatDoor
namespace Go.Proofs.YtapnncbenhkicaaGreatDoor
open Go.RowKit Go.Lamb
attribute [local go_sem] tqX tyY rs_len rs_g0 rs_g rs_s0 rs_s rs_sv Typ.v Typ.cs_eq tk_mk tname_mk tn_mk tl_mk tysC

end Go.Proofs.YtapnncbenhkicaaGreatDoor
namespace Go.Proofs.YtapnncbenhkicaaGreatDoor
open Go.RowKit Go.Lamb
attribute [local go_sem] advO_skip advO_reg advO_seq advO_block advO_exit advO_endb advO_opsNil advO_ops advG_yes advG_no advG_none advS_some advS_none advO_cond advO_loop advO_dreg advO_ret advO_bad advO_inv advO_nil advO_zero wantedV Lamb.step ev_t ev_k put_some put_none argEnv popTo cellsAt V.cellsV V.rows V.toC toCs fillV bytesC byteRows appV rowsV boundV boundL binV binInt binStr eqC eqL V.isNil leaves V.leaf Ins.quiet Ins.pure List.getD_cons_zero List.getD_cons_succ List.getD_nil List.all_cons List.all_nil List.length_cons List.length_nil List.take_succ_cons List.take_zero List.drop_succ_cons List.drop_zero List.cons_append List.nil_append List.append_nil List.append_assoc List.map_cons List.map_nil List.getElem?_cons_zero List.getElem?_cons_succ List.length_append List.length_set hget0 hget hset0 hset hsets hgs0 hgs hss0 hss List.set_cons_zero List.set_cons_succ List.forall_mem_cons List.not_mem_nil false_implies implies_true Option.map_some Bool.and_true Bool.true_and Bool.not_not Bool.not_true Bool.not_false Bool.and_self Bool.or_true Bool.true_or Bool.or_false Bool.false_or Bool.and_false Bool.false_and Bool.false_eq_true beq_self_eq_true and_self and_true true_and if_true if_false Nat.zero_add Nat.add_zero Nat.le_refl Int.toNat_natCast decide_true decide_false beq_t beq_f List.length_map List.getElem?_map I S B opsC toksC OpT.v OpT.cs OpT.zero Tok.v Tok.cs Pre.v Pre.cs_eq k_mk name_mk n_mk l_mk pos_mk Pre.app applyL natCast0 natCast1 natCast2 AOp.o AOp.m AOp.f AOp.l AOp.d AOp.n AOp.x AOp.s AOp.k AOp.y AOp.z EOp.q low_c low_void low_any low_csl low_nilf low_ptr low_osl low_agg low_tup low_fn resEval advPO_nil advPO_loud advPO_quiet pL_yes pL_no pLS_some pLS_none pQ_yes pQ_no pQS_some pQS_loud eq_self Nat.sub_zero
attribute [local go_sem] tqX tyY rs_len rs_g0 rs_g rs_s0 rs_s rs_sv Typ.v Typ.cs_eq tk_mk tname_mk tn_mk tl_mk tysC

theorem typ_len {p : Typ} {args : List V} (h : ∀ y ∈ args, V.Sz y) (hx : p.v ∈ args) : p.l.length ≤ 9223372036854775807 := by
  have := h _ hx
  rw [Typ.v, sz_agg] at this
  exact sz_rows (this (.c (.sl (p.l.map Typ.cs))) (by simp))
theorem ref05_Same (w0 : World) (p : Typ) : ∀ (q : Typ) (σ : H), DC Tryz.prog w0 26 [p.v, q.v] σ (Same (B (sameTy p q)) σ) := by
  refine Typ.ind (P := fun p => ∀ (q : Typ) (σ : H), DC Tryz.prog w0 26 [p.v, q.v] σ (Same (B (sameTy p q)) σ)) (fun p ih q σ => ?_) p
  refine k26.go rfl (fun hok hsz => ?_)
  have hlen := typ_len hsz (List.mem_cons_self ..)
  have hlq : ((p.l.length : Int) == (q.l.length : Int)) = (p.l.length == q.l.length) := by rw [Bool.eq_iff_iff]; simp; omega
  have hnl : p.l.length ≠ q.l.length → zipAll sameTy p.l q.l = false := zipAll_len
  (((try refine W.a ?_); (try simp only [bne, go_sem, seval, reduceCtorEq, c26, hlq, *])); (repeat' (first | (refine W.yes rfl ?_; (refine W.a ?_; simp only [bne, go_sem, seval, reduceCtorEq, c26, hlq, *])) | (refine W.no rfl ?_; (refine W.a ?_; simp only [bne, go_sem, seval, reduceCtorEq, c26, hlq, *])) | (refine W.testn rfl (fun hT => ?_) (fun hT => ?_) <;> (refine W.a ?_; simp only [bne, go_sem, seval, reduceCtorEq, c26, hlq, *])) | (refine W.test rfl (fun hT => ?_) (fun hT => ?_) <;> (refine W.a ?_; simp only [bne, go_sem, seval, reduceCtorEq, c26, hlq, *])) | (refine advG_ifn _ _ _ _ (fun hT => ?_) (fun hT => ?_) <;> simp only [bne, go_sem, seval, reduceCtorEq, c26, hlq, *]) | (refine advG_if _ _ _ _ (fun hT => ?_) (fun hT => ?_) <;> simp only [bne, go_sem, seval, reduceCtorEq, c26, hlq, *]))))
  all_goals (try (refine W.fs (hok) (by simp only [r26, go_sem, seval, reduceCtorEq]; rfl) ?_; simp only [resV]; (first | exact V.wk.rfl _ | (refine wk_bool ?_; clear hsz hok; rw [sameTy_eq] <;> ((try simp only [beq_iff_eq, beq_eq_false_iff_ne, ne_eq, decide_eq_true_eq, decide_eq_false_iff_not] at *); first | (exfalso; omega) | (simp [hnl, *]; done) | (simp [hnl, *]; omega) | (simp [hnl, *]))))))
  simp only [beq_iff_eq, beq_eq_false_iff_ne, Bool.not_eq_true', Bool.not_eq_false'] at *
  have hl : p.l.length = q.l.length := by assumption
  have hs0 : sameTy p q = zipAll sameTy p.l q.l := by rw [sameTy_eq]; simp [*]
  refine W.loopP (fun i => i ≤ p.l.length ∧ ∀ j (hj : j < p.l.length) (hj' : j < q.l.length), j < i → sameTy p.l[j] q.l[j] = true) (fun i => ⟨((((base.put (some 2) (.ptr σ.length 0)).put (some 3) (.ptr (σ.length + 1) 0)).put (some 4) (B false)).put (some 5) (I (i : Nat))), σ ++ [.cells p.v.cellsV, .cells q.v.cellsV]⟩) (fun i => p.l.length - i) 0 ⟨Nat.zero_le _, fun _ _ _ h => absurd h (by omega)⟩ ?_ (fun i hi => ?_)
  · (refine Lew.env ?_; exact lee_here)
  · obtain ⟨hi, hinv⟩ := hi
    by_cases hlt : i < p.l.length
    · have h1 : ((i : Int) < (p.l.length : Int)) := by omega
      have h2 : ((i : Int) < (q.l.length : Int)) := by omega
      have hltr : i < q.l.length := by omega
      have hx : p.l[i]? = some p.l[i] := List.getElem?_eq_getElem hlt
      have hy : q.l[i]? = some q.l[i] := List.getElem?_eq_getElem hltr
      have hw : IntKind.i64.wrap ((i : Int) + 1) = ((i + 1 : Nat) : Int) := wrap_next hlt hlen
      ((try refine W.a ?_); simp only [go_sem, seval, reduceCtorEq, h1])
      refine W.yes rfl ?_
      ((try refine W.a ?_); simp only [go_sem, seval, reduceCtorEq])
      apply W.dregE (List.cons_ne_nil _ _)
      case hc =>
        (apply CanonE.advPO; simp only [go_sem, seval, reduceCtorEq, h1, h2, nat0, hx, hy])
        (apply CanonE.call (ih p.l[i] (List.getElem_mem hlt) q.l[i] _); (case hg => rfl); (case hf => rfl); (case ha => first | rfl | simp))
        (apply CanonE.advPO; simp only [go_sem, seval, reduceCtorEq])
        exact CanonE.nil
      ((try refine W.a ?_); simp only [go_sem, seval, reduceCtorEq])
      refine W.testn rfl (fun h => ?_) (fun h => ?_)
      · ((try refine W.a ?_); simp only [go_sem, seval, reduceCtorEq, hw])
        refine .inv ⟨i + 1, ⟨hlt, fun j hj hj' hji => ?_⟩, by omega, ?_⟩
        · rcases Nat.lt_succ_iff_lt_or_eq.1 hji with h' | h'
          · exact hinv j hj hj' h'
          · subst h'; exact h
        · (refine Lew.env ?_; exact lee_here)
      · ((try refine W.a ?_); simp only [go_sem, seval, reduceCtorEq])
        (refine W.fs (hok) (by simp only [r26, go_sem, seval, reduceCtorEq]; rfl) ?_; simp only [resV]; try exact V.wk.rfl _)
        rw [hs0, zipAll_no hlt hltr h]
        exact .rfl _
    · have h1 : ¬ ((i : Int) < (p.l.length : Int)) := by omega
      ((try refine W.a ?_); simp only [go_sem, seval, reduceCtorEq, h1])
      refine W.no rfl ?_
      ((try refine W.a ?_); simp only [go_sem, seval, reduceCtorEq])
      (refine W.fs (hok) (by simp only [r26, go_sem, seval, reduceCtorEq]; rfl) ?_; simp only [resV]; try exact V.wk.rfl _)
      rw [hs0, zipAll_yes hl (fun j hj hj' => hinv j hj hj' (by omega))]
      exact .rfl _
end Go.Proofs.YtapnncbenhkicaaGreatDoor
namespace Go.Proofs.YtapnncbenhkicaaGreatDoor
open Go.RowKit Go.Lamb

end Go.Proofs.YtapnncbenhkicaaGreatDoor
namespace Go.Proofs.YtapnncbenhkicaaGreatDoor
open Go.RowKit Go.Lamb
--absent /-- ref01.IsName -/
--absent /-- ref01.IsSym -/
end Go.Proofs.YtapnncbenhkicaaGreatDoor
namespace Go.Proofs.YtapnncbenhkicaaGreatDoor
open Go.RowKit Go.Lamb
attribute [local go_sem] advO_skip advO_reg advO_seq advO_block advO_exit advO_endb advO_opsNil advO_ops advG_yes advG_no advG_none advS_some advS_none advO_cond advO_loop advO_dreg advO_ret advO_bad advO_inv advO_nil advO_zero wantedV Lamb.step ev_t ev_k put_some put_none argEnv popTo cellsAt V.cellsV V.rows V.toC toCs fillV bytesC byteRows appV rowsV boundV boundL binV binInt binStr eqC eqL V.isNil leaves V.leaf Ins.quiet Ins.pure List.getD_cons_zero List.getD_cons_succ List.getD_nil List.all_cons List.all_nil List.length_cons List.length_nil List.take_succ_cons List.take_zero List.drop_succ_cons List.drop_zero List.cons_append List.nil_append List.append_nil List.append_assoc List.map_cons List.map_nil List.getElem?_cons_zero List.getElem?_cons_succ List.length_append List.length_set hget0 hget hset0 hset hsets hgs0 hgs hss0 hss List.set_cons_zero List.set_cons_succ List.forall_mem_cons List.not_mem_nil false_implies implies_true Option.map_some Bool.and_true Bool.true_and Bool.not_not Bool.not_true Bool.not_false Bool.and_self Bool.or_true Bool.true_or Bool.or_false Bool.false_or Bool.and_false Bool.false_and Bool.false_eq_true beq_self_eq_true and_self and_true true_and if_true if_false Nat.zero_add Nat.add_zero Nat.le_refl Int.toNat_natCast decide_true decide_false beq_t beq_f List.length_map List.getElem?_map I S B opsC toksC OpT.v OpT.cs OpT.zero Tok.v Tok.cs Pre.v Pre.cs_eq k_mk name_mk n_mk l_mk pos_mk Pre.app applyL natCast0 natCast1 natCast2 AOp.o AOp.m AOp.f AOp.l AOp.d AOp.n AOp.x AOp.s AOp.k AOp.y AOp.z EOp.q low_c low_void low_any low_csl low_nilf low_ptr low_osl low_agg low_tup low_fn resEval advPO_nil advPO_loud advPO_quiet pL_yes pL_no pLS_some pLS_none pQ_yes pQ_no pQS_some pQS_loud eq_self Nat.sub_zero
section

theorem ref02_one (w0 : World) (name : Str) (prec fix : Int) (σ : H) : DC Tryz.prog w0 66 [S name, I prec, I fix] σ (Same (OpT.v ⟨name, prec, fix⟩) σ) := by
  refine k66.go rfl (fun hok hsz => ?_)
  ((try refine W.a ?_); simp only [go_sem, seval, reduceCtorEq, c66])
  (refine W.fs (hok) (by simp only [r66, go_sem, seval, reduceCtorEq]; rfl) ?_; simp only [resV]; try exact V.wk.rfl _)
theorem ref02_Default (w0 : World) (σ : H) : DC Tryz.prog w0 37 [] σ (Same (.osl σ.length (ops0.map OpT.cs)) (σ ++ [.spare 45 3 ops0.length])) := by
  refine k37.goN rfl (fun hok hsz => ?_)
  ((try refine W.a ?_); simp only [go_sem, seval, reduceCtorEq, c37])
  refine W.own 2 45 3 rfl ?_
  (refine W.c1 (ref02_one w0 _ _ _ _) ?_; simp only [go_sem, seval, reduceCtorEq])
  (refine W.c1 (ref02_one w0 _ _ _ _) ?_; simp only [go_sem, seval, reduceCtorEq])
  (refine W.c1 (ref02_one w0 _ _ _ _) ?_; simp only [go_sem, seval, reduceCtorEq])
  (refine W.c1 (ref02_one w0 _ _ _ _) ?_; simp only [go_sem, seval, reduceCtorEq])
  (refine W.c1 (ref02_one w0 _ _ _ _) ?_; simp only [go_sem, seval, reduceCtorEq])
  (refine W.c1 (ref02_one w0 _ _ _ _) ?_; simp only [go_sem, seval, reduceCtorEq])
  (refine W.c1 (ref02_one w0 _ _ _ _) ?_; simp only [go_sem, seval, reduceCtorEq])
  (refine W.c1 (ref02_one w0 _ _ _ _) ?_; simp only [go_sem, seval, reduceCtorEq])
  (refine W.c1 (ref02_one w0 _ _ _ _) ?_; simp only [go_sem, seval, reduceCtorEq])
  (refine W.c1 (ref02_one w0 _ _ _ _) ?_; simp only [go_sem, seval, reduceCtorEq])
  (refine W.c1 (ref02_one w0 _ _ _ _) ?_; simp only [go_sem, seval, reduceCtorEq])
  (refine W.c1 (ref02_one w0 _ _ _ _) ?_; simp only [go_sem, seval, reduceCtorEq])
  (refine W.c1 (ref02_one w0 _ _ _ _) ?_; simp only [go_sem, seval, reduceCtorEq])
  (refine W.c1 (ref02_one w0 _ _ _ _) ?_; simp only [go_sem, seval, reduceCtorEq])
  (refine W.c1 (ref02_one w0 _ _ _ _) ?_; simp only [go_sem, seval, reduceCtorEq])
  refine W.ret ⟨_, _, rfl, .rfl _, ?_⟩
  exact ⟨rfl, rfl⟩
end
section
attribute [local go_sem] Typ.v Typ.cs_eq tk_mk tname_mk tn_mk tl_mk tysC KdT.v KdT.cs NmT.v NmT.cs kdsC nmsC Sg.v

def kindV (o : Option KdT) : V := .tup [I (o.getD .none).n, B o.isSome]
def findV (o : Option NmT) : V := .tup [(o.getD .none).ty.v, B o.isSome]
theorem sig_Kind1 (w0 : World) (x : KdT) (name : Str) (σ : H) (b : Nat) (hb : σ[b]? = some (.cells [S name])) : DC Tryz.prog w0 31 [x.v, .ptr b 0] σ (Same (B (x.name == name)) σ) := by
  refine k31.go rfl (fun hok hsz => ?_)
  ((try refine W.a ?_); simp only [go_sem, seval, reduceCtorEq, c31, hG hb])
  (refine W.fs (hok) (by simp only [r31, go_sem, seval, reduceCtorEq]; rfl) ?_; simp only [resV]; try exact V.wk.rfl _)
theorem sig_Find1 (w0 : World) (x : NmT) (name : Str) (σ : H) (b : Nat) (hb : σ[b]? = some (.cells [S name])) : DC Tryz.prog w0 29 [x.v, .ptr b 0] σ (Same (B (x.name == name)) σ) := by
  refine k29.go rfl (fun hok hsz => ?_)
  ((try refine W.a ?_); simp only [go_sem, seval, reduceCtorEq, c29, hG hb])
  (refine W.fs (hok) (by simp only [r29, go_sem, seval, reduceCtorEq]; rfl) ?_; simp only [resV]; try exact V.wk.rfl _)
theorem sig_firstK (w0 : World) (l : List KdT) (f : FuncId) (caps : List V) (p : KdT → Bool) (σ : H) (hcaps : ∀ k, V.low (σ.length + k) (.fn f caps)) (hp : ∀ x L, DC Tryz.prog w0 f (KdT.v x :: caps) (σ ++ L) (Same (B (p x)) (σ ++ L))) :
    DC Tryz.prog w0 30 [.c (kdsC l), .fn f caps] σ (Same (.tup [((l.find? p).getD .none).v, B (l.find? p).isSome]) σ) := by
  generalize hF : V.fn f caps = F at hcaps
  refine k30.go rfl (fun hok hsz => ?_)
  have hlen : l.length ≤ 9223372036854775807 := sz_rows (f := KdT.cs) (hsz _ (List.mem_cons_self ..))
  ((try refine W.a ?_); simp only [go_sem, seval, reduceCtorEq, c30])
  refine W.loopP (fun i => i ≤ l.length ∧ UpTo p l i) (fun i => ⟨((((((base.put (some 1) (F)).put (some 4) (.ptr σ.length 0)).put (some 5) (B false)).put (some 9) (.c (kdsC l))).put (some 10) (I l.length)).put (some 11) (I (i : Nat))), σ ++ [.cells [S [], I 0]]⟩) (fun i => l.length - i) 0 ⟨Nat.zero_le _, upTo_zero⟩ ?_ (fun i hi => ?_)
  · (refine Lew.env ?_; exact lee_here)
  · obtain ⟨hi, hinv⟩ := hi
    by_cases hlt : i < l.length
    · have h1 : ((i : Int) < (l.length : Int)) := by omega
      have hx : l[i]? = some l[i] := List.getElem?_eq_getElem hlt
      have hw : IntKind.i64.wrap ((i : Int) + 1) = ((i + 1 : Nat) : Int) := wrap_next hlt hlen
      ((try refine W.a ?_); simp only [go_sem, seval, reduceCtorEq, h1])
      refine W.yes rfl ?_
      ((try refine W.a ?_); simp only [go_sem, seval, reduceCtorEq, h1, nat0, hx])
      refine W.c1 (hp l[i] _) ?_ (hf := hF.symm)
      simp only [go_sem, seval, reduceCtorEq]
      refine W.test rfl (fun h => ?_) (fun h => ?_)
      · ((try refine W.a ?_); simp only [go_sem, seval, reduceCtorEq])
        rw [find_at hinv hlt h]
        (refine W.fg (hok) (d := .tup [l[i].v, B true]) (by simp only [r30, go_sem, seval, reduceCtorEq]; rfl) (by simp only [resV, go_sem, seval, reduceCtorEq]; exact wk_here) ?_)
        exact ⟨rfl, rfl⟩
      · ((try refine W.a ?_); simp only [go_sem, seval, reduceCtorEq, hw])
        refine .inv ⟨i + 1, ⟨hlt, upTo_next hinv hlt h⟩, by omega, ?_⟩
        (refine Lew.cutL (hok) ?_ (by simp) (by simp) ?_ ?_ ?_; exact lee_here; ((try simp only [okB, wkB, go_sem, seval, reduceCtorEq, hcaps]) <;> omega); (simp only [List.length_cons, List.length_nil, Nat.reduceAdd, List.take_succ_cons, List.take_zero, wkB, and_true]; (repeat' (refine And.intro ?_ ?_)) <;> (first | exact Blk.wk.rfl _ | exact Blk.wk.gone _ | (refine Blk.wk_cells ?_ rfl; (exact wk_here)))); (repeat' (first | exact LowE.base _ | (refine LowE.put ?_ (by first | exact .c _ | ((try simp only [okB, wkB, go_sem, seval, reduceCtorEq, hcaps]) <;> omega))))))
    · have h1 : ¬ ((i : Int) < (l.length : Int)) := by omega
      ((try refine W.a ?_); simp only [go_sem, seval, reduceCtorEq, h1])
      refine W.no rfl ?_
      ((try refine W.a ?_); simp only [go_sem, seval, reduceCtorEq])
      rw [find_no hinv (by omega)]
      (refine W.fg (hok) (d := .tup [KdT.none.v, B false]) (by simp only [r30, go_sem, seval, reduceCtorEq, KdT.none]; rfl) (by simp only [resV, go_sem, seval, reduceCtorEq, KdT.none]; exact wk_here) ?_ (hl := by (first | exact .c _ | (simp only [go_sem, seval, reduceCtorEq, KdT.none]; done))))
      exact ⟨rfl, rfl⟩
theorem sig_firstN (w0 : World) (l : List NmT) (f : FuncId) (caps : List V) (p : NmT → Bool) (σ : H) (hcaps : ∀ k, V.low (σ.length + k) (.fn f caps)) (hp : ∀ x L, DC Tryz.prog w0 f (NmT.v x :: caps) (σ ++ L) (Same (B (p x)) (σ ++ L))) :
    DC Tryz.prog w0 28 [.c (nmsC l), .fn f caps] σ (Same (.tup [((l.find? p).getD .none).v, B (l.find? p).isSome]) σ) := by
  generalize hF : V.fn f caps = F at hcaps
  refine k28.go rfl (fun hok hsz => ?_)
  have hlen : l.length ≤ 9223372036854775807 := sz_rows (f := NmT.cs) (hsz _ (List.mem_cons_self ..))
  ((try refine W.a ?_); simp only [go_sem, seval, reduceCtorEq, c28])
  refine W.loopP (fun i => i ≤ l.length ∧ UpTo p l i) (fun i => ⟨((((((base.put (some 1) (F)).put (some 4) (.ptr σ.length 0)).put (some 5) (B false)).put (some 9) (.c (nmsC l))).put (some 10) (I l.length)).put (some 11) (I (i : Nat))), σ ++ [.cells [S [], I 0, S [], I 0, .csl []]]⟩) (fun i => l.length - i) 0 ⟨Nat.zero_le _, upTo_zero⟩ ?_ (fun i hi => ?_)
  · (refine Lew.env ?_; exact lee_here)
  · obtain ⟨hi, hinv⟩ := hi
    by_cases hlt : i < l.length
    · have h1 : ((i : Int) < (l.length : Int)) := by omega
      have hx : l[i]? = some l[i] := List.getElem?_eq_getElem hlt
      have hw : IntKind.i64.wrap ((i : Int) + 1) = ((i + 1 : Nat) : Int) := wrap_next hlt hlen
      ((try refine W.a ?_); simp only [go_sem, seval, reduceCtorEq, h1])
      refine W.yes rfl ?_
      ((try refine W.a ?_); simp only [go_sem, seval, reduceCtorEq, h1, nat0, hx])
      refine W.c1 (hp l[i] _) ?_ (hf := hF.symm)
      simp only [go_sem, seval, reduceCtorEq]
      refine W.test rfl (fun h => ?_) (fun h => ?_)
      · ((try refine W.a ?_); simp only [go_sem, seval, reduceCtorEq])
        rw [find_at hinv hlt h]
        (refine W.fg (hok) (d := .tup [l[i].v, B true]) (by simp only [r28, go_sem, seval, reduceCtorEq]; rfl) (by simp only [resV, go_sem, seval, reduceCtorEq]; exact wk_here) ?_)
        exact ⟨rfl, rfl⟩
      · ((try refine W.a ?_); simp only [go_sem, seval, reduceCtorEq, hw])
        refine .inv ⟨i + 1, ⟨hlt, upTo_next hinv hlt h⟩, by omega, ?_⟩
        (refine Lew.cutL (hok) ?_ (by simp) (by simp) ?_ ?_ ?_; exact lee_here; ((try simp only [okB, wkB, go_sem, seval, reduceCtorEq, hcaps]) <;> omega); (simp only [List.length_cons, List.length_nil, Nat.reduceAdd, List.take_succ_cons, List.take_zero, wkB, and_true]; (repeat' (refine And.intro ?_ ?_)) <;> (first | exact Blk.wk.rfl _ | exact Blk.wk.gone _ | (refine Blk.wk_cells ?_ rfl; (exact wk_here)))); (repeat' (first | exact LowE.base _ | (refine LowE.put ?_ (by first | exact .c _ | ((try simp only [okB, wkB, go_sem, seval, reduceCtorEq, hcaps]) <;> omega))))))
    · have h1 : ¬ ((i : Int) < (l.length : Int)) := by omega
      ((try refine W.a ?_); simp only [go_sem, seval, reduceCtorEq, h1])
      refine W.no rfl ?_
      ((try refine W.a ?_); simp only [go_sem, seval, reduceCtorEq])
      rw [find_no hinv (by omega)]
      (refine W.fg (hok) (d := .tup [NmT.none.v, B false]) (by simp only [r28, go_sem, seval, reduceCtorEq, NmT.none, Typ.none]; rfl) (by simp only [resV, go_sem, seval, reduceCtorEq, NmT.none, Typ.none]; exact wk_here) ?_ (hl := by (first | exact .c _ | (simp only [go_sem, seval, reduceCtorEq, NmT.none, Typ.none]; done))))
      exact ⟨rfl, rfl⟩
theorem low_cap (n b f : Nat) (h : b < n) (k : Nat) : V.low (n + k) (.fn f [.ptr b 0]) := (low_fn _ _ _).2 (fun x hx => by simp only [List.mem_singleton] at hx; subst hx; exact .ptr (by omega))
theorem sig_Kind (w0 : World) (s : Sg) (name : Str) (σ : H) : DC Tryz.prog w0 11 [s.v, S name] σ (Same (kindV (kindL s.kinds name)) σ) := by
  refine k11.go rfl (fun hok hsz => ?_)
  have hc := fun M => sig_firstK w0 s.kinds 31 [.ptr (σ.length + 1) 0] (·.name == name) (σ ++ [.cells s.v.cellsV, .cells [S name]] ++ M) (low_cap _ _ _ (by simp)) (fun x L => sig_Kind1 w0 x name _ _ (by rw [List.append_assoc, List.append_assoc, hget]; rfl))
  have hc0 := hc []
  rw [List.append_nil] at hc0
  unfold kindL kindV
  generalize s.kinds.find? (·.name == name) = r at hc0
  ((try refine W.a ?_); simp only [go_sem, seval, reduceCtorEq, c11])
  (refine W.c1 (hc0) ?_; simp only [go_sem, seval, reduceCtorEq])
  (refine W.fg (hok) (d := .tup [I (r.getD .none).n, B r.isSome]) (by simp only [r11, go_sem, seval, reduceCtorEq]; rfl) (by simp only [resV, go_sem, seval, reduceCtorEq]; exact wk_here) ?_)
  exact ⟨rfl, rfl⟩
theorem sig_Find (w0 : World) (s : Sg) (name : Str) (σ : H) : DC Tryz.prog w0 10 [s.v, S name] σ (Same (findV (findN s.types name)) σ) := by
  refine k10.go rfl (fun hok hsz => ?_)
  have hc0 := sig_firstN w0 s.types 29 [.ptr (σ.length + 1) 0] (·.name == name) (σ ++ [.cells s.v.cellsV, .cells [S name], .cells [I 0, S [], I 0, .csl []]]) (low_cap _ _ _ (by simp)) (fun x L => sig_Find1 w0 x name _ _ (by rw [List.append_assoc, hget]; rfl))
  unfold findN findV
  generalize s.types.find? (·.name == name) = r at hc0
  ((try refine W.a ?_); simp only [go_sem, seval, reduceCtorEq, c10])
  (refine W.c1 (hc0) ?_; simp only [go_sem, seval, reduceCtorEq])
  (refine W.fg (hok) (d := .tup [(r.getD .none).ty.v, B r.isSome]) (by simp only [r10, go_sem, seval, reduceCtorEq]; rfl) (by simp only [resV, go_sem, seval, reduceCtorEq]; exact wk_here) ?_)
  exact ⟨rfl, rfl⟩
end
section
attribute [local go_sem] Typ.v Typ.cs_eq tk_mk tname_mk tn_mk tl_mk tysC KdT.v KdT.cs NmT.v NmT.cs kdsC nmsC Sg.v

theorem sig_known1 (w0 : World) (s : Sg) (q : Typ) (b : Bool) (σ : H) (a : Nat) (ha : σ[a]? = some (.cells s.v.cellsV)) (hq : ∀ τ, DC Tryz.prog w0 58 [s.v, q.v] τ (Same (B b) τ)) : DC Tryz.prog w0 94 [q.v, .ptr a 0] σ (Same (B (!b)) σ) := by
  refine k94.go rfl (fun hok hsz => ?_)
  have ha' : ∀ L, (σ ++ L)[a]? = some (.cells [.c (.sl (s.kinds.map KdT.cs)), .c (.sl (s.types.map NmT.cs)), .c (opsC s.ops)]) := fun L => hG ha L
  ((try refine W.a ?_); simp only [go_sem, seval, reduceCtorEq, c94, ha'])
  (refine W.c1 (hq _) ?_; simp only [go_sem, seval, reduceCtorEq])
  (refine W.fs (hok) (by simp only [r94, go_sem, seval, reduceCtorEq]; rfl) ?_; simp only [resV]; try exact V.wk.rfl _)
theorem kind_yes {l : List KdT} {p : Typ} {x : KdT} (h : kindL l p.name = some x) (hk : (p.k == 0) = true) : kindHere l p = (x.n == (p.l.length : Int)) := by
  unfold kindHere
  rw [h, hk]; rfl
theorem kind_no {l : List KdT} {p : Typ} (h : kindL l p.name = none) (hk : (p.k == 0) = true) : kindHere l p = false := by
  unfold kindHere
  rw [h, hk]; rfl
theorem kind_other {l : List KdT} {p : Typ} (hk : (p.k == 0) = false) : kindHere l p = true := by
  unfold kindHere
  rw [hk]; rfl
theorem sig_known (w0 : World) (s : Sg) (p : Typ) : ∀ (σ : H), DC Tryz.prog w0 58 [s.v, p.v] σ (Same (B (knownT s.kinds p)) σ) := by
  induction p using Typ.ind with
  | h p ih =>
  intro σ
  refine k58.go rfl (fun hok hsz => ?_)
  have hC := ContainsFunc_ty w0 p.l 94 [.ptr σ.length 0] (fun q => !knownT s.kinds q) (σ ++ [.cells s.v.cellsV, .cells p.v.cellsV]) (fun q hq => sig_known1 w0 s q _ _ _ (by rw [hget0]; rfl) (fun τ => ih q hq τ))
  have hany := any_all p.l (knownT s.kinds)
  have hK := fun σ => sig_Kind w0 s p.name σ
  rw [knownT_eq]
  unfold kindV at hK
  cases hk0 : (p.k == 0)
  · rw [kind_other hk0, Bool.true_and]
    generalize kindL s.kinds p.name = r at hK
    ((try refine W.a ?_); simp only [go_sem, seval, reduceCtorEq, c58, hk0])
    (refine W.c1 (hK _) ?_; simp only [go_sem, seval, reduceCtorEq, hk0])
    refine W.no rfl ?_
    ((try refine W.a ?_); simp only [go_sem, seval, reduceCtorEq])
    (refine W.c1 (hC) ?_; simp only [go_sem, seval, reduceCtorEq, hany])
    (refine W.fs (hok) (by simp only [r58, go_sem, seval, reduceCtorEq]; rfl) ?_; simp only [resV]; try exact V.wk.rfl _)
  · cases hr : kindL s.kinds p.name with
    | none =>
      rw [kind_no hr hk0, Bool.false_and]
      rw [hr] at hK
      ((try refine W.a ?_); simp only [go_sem, seval, reduceCtorEq, c58, hk0, Option.getD_none, Option.isSome_none])
      (refine W.c1 (hK _) ?_; simp only [go_sem, seval, reduceCtorEq, hk0, Option.getD_none, Option.isSome_none])
      refine W.yes rfl ?_
      ((try refine W.a ?_); simp only [go_sem, seval, reduceCtorEq])
      (refine W.fs (hok) (by simp only [r58, go_sem, seval, reduceCtorEq]; rfl) ?_; simp only [resV]; try exact V.wk.rfl _)
    | some x =>
      rw [kind_yes hr hk0]
      rw [hr] at hK
      cases hn : (x.n == (p.l.length : Int))
      · rw [Bool.false_and]
        have hn' : (x.n != (p.l.length : Int)) = true := by rw [bne, hn]; rfl
        ((try refine W.a ?_); simp only [go_sem, seval, reduceCtorEq, c58, hk0, Option.getD_some, Option.isSome_some])
        (refine W.c1 (hK _) ?_; simp only [go_sem, seval, reduceCtorEq, hk0, Option.getD_some, Option.isSome_some, hn'])
        refine W.yes rfl ?_
        ((try refine W.a ?_); simp only [go_sem, seval, reduceCtorEq])
        (refine W.fs (hok) (by simp only [r58, go_sem, seval, reduceCtorEq]; rfl) ?_; simp only [resV]; try exact V.wk.rfl _)
      · rw [Bool.true_and]
        have hn' : (x.n != (p.l.length : Int)) = false := by rw [bne, hn]; rfl
        ((try refine W.a ?_); simp only [go_sem, seval, reduceCtorEq, c58, hk0, Option.getD_some, Option.isSome_some])
        (refine W.c1 (hK _) ?_; simp only [go_sem, seval, reduceCtorEq, hk0, Option.getD_some, Option.isSome_some, hn'])
        refine W.no rfl ?_
        ((try refine W.a ?_); simp only [go_sem, seval, reduceCtorEq])
        (refine W.c1 (hC) ?_; simp only [go_sem, seval, reduceCtorEq, hany])
        (refine W.fs (hok) (by simp only [r58, go_sem, seval, reduceCtorEq]; rfl) ?_; simp only [resV]; try exact V.wk.rfl _)
theorem sig_Fits (w0 : World) (s : Sg) (p : Typ) (σ : H) : DC Tryz.prog w0 24 [s.v, p.v] σ (Same (B (fitsT s.kinds p)) σ) := by
  refine k24.go rfl (fun hok hsz => ?_)
  unfold fitsT
  cases hv : validT p
  · ((try refine W.a ?_); simp only [go_sem, seval, reduceCtorEq, c24])
    (refine W.c1 (ty_Valid w0 p _) ?_; simp only [go_sem, seval, reduceCtorEq, hv])
    (refine W.fs (hok) (by simp only [r24, go_sem, seval, reduceCtorEq]; rfl) ?_; simp only [resV]; try exact V.wk.rfl _)
  · ((try refine W.a ?_); simp only [go_sem, seval, reduceCtorEq, c24])
    (refine W.c1 (ty_Valid w0 p _) ?_; simp only [go_sem, seval, reduceCtorEq, hv])
    (refine W.c1 (sig_known w0 s p _) ?_; simp only [go_sem, seval, reduceCtorEq])
    (refine W.fs (hok) (by simp only [r24, go_sem, seval, reduceCtorEq]; rfl) ?_; simp only [resV]; try exact V.wk.rfl _)
def logicalB (name : Str) : Bool := logicals.any (name == ·)
theorem sig_Logical (w0 : World) (name : Str) (σ : H) : DC Tryz.prog w0 15 [S name] σ (Same (B (logicalB name)) σ) := by
  refine k15.go rfl (fun hok hsz => ?_)
  (((try refine W.a ?_); (try simp only [bne, go_sem, seval, reduceCtorEq, c15, *])); (repeat' (first | (refine W.yes rfl ?_; (refine W.a ?_; simp only [bne, go_sem, seval, reduceCtorEq, c15, *])) | (refine W.no rfl ?_; (refine W.a ?_; simp only [bne, go_sem, seval, reduceCtorEq, c15, *])) | (refine W.testn rfl (fun hT => ?_) (fun hT => ?_) <;> (refine W.a ?_; simp only [bne, go_sem, seval, reduceCtorEq, c15, *])) | (refine W.test rfl (fun hT => ?_) (fun hT => ?_) <;> (refine W.a ?_; simp only [bne, go_sem, seval, reduceCtorEq, c15, *])) | (refine advG_ifn _ _ _ _ (fun hT => ?_) (fun hT => ?_) <;> simp only [bne, go_sem, seval, reduceCtorEq, c15, *]) | (refine advG_if _ _ _ _ (fun hT => ?_) (fun hT => ?_) <;> simp only [bne, go_sem, seval, reduceCtorEq, c15, *]))))
  all_goals (refine W.fs (hok) (by simp only [r15, go_sem, seval, reduceCtorEq]; rfl) ?_; simp only [resV]; (first | exact V.wk.rfl _ | (refine wk_bool ?_; clear hsz hok; rw [logicalB] <;> ((try simp only [beq_iff_eq, beq_eq_false_iff_ne, ne_eq, decide_eq_true_eq, decide_eq_false_iff_not] at *); first | (exfalso; omega) | (simp [logicals, *]; done) | (simp [logicals, *]; omega) | (simp [logicals, *])))))
end
section
attribute [local go_sem] Typ.v Typ.cs_eq tk_mk tname_mk tn_mk tl_mk tysC KdT.v KdT.cs NmT.v NmT.cs kdsC nmsC Sg.v Sent.v

theorem clone_opA (w0 : World) (l : List OpT) (hn : l.length ≤ 1000000) (σ : H) : DC Tryz.prog w0 56 [.c (opsC l)] σ (Same (.osl σ.length (l.map OpT.cs)) (σ ++ [.spare 45 3 l.length])) := by
  refine k56.goN rfl (fun hok hsz => ?_)
  have hb1 : l.length * 32 ≤ 140737488355328 := by omega
  have hb2 : l.length ≤ 140737488355328 := by omega
  have hb3 : ∀ r ∈ l.map OpT.cs, r.length = 3 := fun r hr => by obtain ⟨o, _, rfl⟩ := List.mem_map.1 hr; rfl
  ((try refine W.a ?_); simp only [go_sem, seval, reduceCtorEq, c56])
  refine W.opsFork rfl rfl rfl (fun b hb => ?_)
  cases b
  · ((try refine W.a ?_); simp only [go_sem, seval, reduceCtorEq])
    refine W.no rfl ?_
    ((try refine W.a ?_); simp only [go_sem, seval, reduceCtorEq, hb1, hb2, eq_true hb3, true_or])
    refine W.ret ⟨_, _, rfl, .rfl _, ?_⟩
    refine ⟨rfl, ?_⟩
    simp only [List.length_map]
  · have hl : l = [] := by simpa using hb rfl
    subst hl
    ((try refine W.a ?_); simp only [go_sem, seval, reduceCtorEq])
    refine W.yes rfl ?_
    ((try refine W.a ?_); simp only [go_sem, seval, reduceCtorEq])
    refine W.own 2 45 3 rfl ?_
    exact W.ret ⟨_, _, rfl, .rfl _, rfl, rfl⟩
theorem clone_kd (w0 : World) (l : List KdT) (hn : l.length ≤ 1000000) (σ : H) : DC Tryz.prog w0 54 [.c (kdsC l)] σ (Same (.osl σ.length (l.map KdT.cs)) (σ ++ [.spare 78 2 l.length])) := by
  refine k54.goN rfl (fun hok hsz => ?_)
  have hb1 : l.length * 24 ≤ 140737488355328 := by omega
  have hb2 : l.length ≤ 140737488355328 := by omega
  have hb3 : ∀ r ∈ l.map KdT.cs, r.length = 2 := fun r hr => by obtain ⟨o, _, rfl⟩ := List.mem_map.1 hr; rfl
  ((try refine W.a ?_); simp only [go_sem, seval, reduceCtorEq, c54])
  refine W.opsFork rfl rfl rfl (fun b hb => ?_)
  cases b
  · ((try refine W.a ?_); simp only [go_sem, seval, reduceCtorEq])
    refine W.no rfl ?_
    ((try refine W.a ?_); simp only [go_sem, seval, reduceCtorEq, hb1, hb2, eq_true hb3, true_or])
    refine W.ret ⟨_, _, rfl, .rfl _, ?_⟩
    refine ⟨rfl, ?_⟩
    simp only [List.length_map]
  · have hl : l = [] := by simpa using hb rfl
    subst hl
    ((try refine W.a ?_); simp only [go_sem, seval, reduceCtorEq])
    refine W.yes rfl ?_
    ((try refine W.a ?_); simp only [go_sem, seval, reduceCtorEq])
    refine W.own 2 78 2 rfl ?_
    exact W.ret ⟨_, _, rfl, .rfl _, rfl, rfl⟩
theorem nm_rows {l : List NmT} : ∀ r ∈ l.map NmT.cs, r.length = 5 := fun r hr => by obtain ⟨o, _, rfl⟩ := List.mem_map.1 hr; rfl
theorem kd_rows {l : List KdT} : ∀ r ∈ l.map KdT.cs, r.length = 2 := fun r hr => by obtain ⟨o, _, rfl⟩ := List.mem_map.1 hr; rfl
theorem clone_nm (w0 : World) (l : List NmT) (hn : l.length ≤ 1000000) (σ : H) : DC Tryz.prog w0 55 [.c (nmsC l)] σ (Same (.osl σ.length (l.map NmT.cs)) (σ ++ [.spare 75 5 l.length])) := by
  refine k55.goN rfl (fun hok hsz => ?_)
  have hb1 : l.length * 72 ≤ 140737488355328 := by omega
  have hb2 : l.length ≤ 140737488355328 := by omega
  have hb3 := nm_rows (l := l)
  ((try refine W.a ?_); simp only [go_sem, seval, reduceCtorEq, c55])
  refine W.opsFork rfl rfl rfl (fun b hb => ?_)
  cases b
  · ((try refine W.a ?_); simp only [go_sem, seval, reduceCtorEq])
    refine W.no rfl ?_
    ((try refine W.a ?_); simp only [go_sem, seval, reduceCtorEq, hb1, hb2, eq_true hb3, true_or])
    refine W.ret ⟨_, _, rfl, .rfl _, ?_⟩
    refine ⟨rfl, ?_⟩
    simp only [List.length_map]
  · have hl : l = [] := by simpa using hb rfl
    subst hl
    ((try refine W.a ?_); simp only [go_sem, seval, reduceCtorEq])
    refine W.yes rfl ?_
    ((try refine W.a ?_); simp only [go_sem, seval, reduceCtorEq])
    refine W.own 2 75 5 rfl ?_
    exact W.ret ⟨_, _, rfl, .rfl _, rfl, rfl⟩
theorem clip_kd (w0 : World) (l : List KdT) (σ : H) : DC Tryz.prog w0 61 [.c (kdsC l)] σ (Same (.csl (l.map KdT.cs)) σ) := by
  refine k61.go rfl (fun hok hsz => ?_)
  have hb3 := kd_rows (l := l)
  have hle : (l.length : Int) ≤ (l.length : Int) := Int.le_refl _
  have htk : (l.map KdT.cs).take l.length = l.map KdT.cs := List.take_of_length_le (by simp)
  ((try refine W.a ?_); simp only [go_sem, seval, reduceCtorEq, c61, eq_true hb3, nat0, hle, htk])
  (refine W.fs (hok) (by simp only [r61, go_sem, seval, reduceCtorEq]; rfl) ?_; simp only [resV]; try exact V.wk.rfl _)
theorem clip_nm (w0 : World) (l : List NmT) (σ : H) : DC Tryz.prog w0 63 [.c (nmsC l)] σ (Same (.csl (l.map NmT.cs)) σ) := by
  refine k63.go rfl (fun hok hsz => ?_)
  have hb3 := nm_rows (l := l)
  have hle : (l.length : Int) ≤ (l.length : Int) := Int.le_refl _
  have htk : (l.map NmT.cs).take l.length = l.map NmT.cs := List.take_of_length_le (by simp)
  ((try refine W.a ?_); simp only [go_sem, seval, reduceCtorEq, c63, eq_true hb3, nat0, hle, htk])
  (refine W.fs (hok) (by simp only [r63, go_sem, seval, reduceCtorEq]; rfl) ?_; simp only [resV]; try exact V.wk.rfl _)
theorem ops_DeclareA (w0 : World) (l : List OpT) (o : OpT) (hn : l.length ≤ 99999) (σ : H) : DC Tryz.prog w0 64 [.c (opsC l), o.v] σ (Same (.tup [.c (opsC (if wrongL l o = 0 then l ++ [o] else l)), I (wrongL l o)]) σ) := by
  refine k64.go rfl (fun hok hsz => ?_)
  ((try refine W.a ?_); simp only [go_sem, seval, reduceCtorEq, c64])
  (refine W.c1 (ops_wrong w0 l o _) ?_; simp only [go_sem, seval, reduceCtorEq])
  by_cases hw : wrongL l o = 0
  · have hb : (wrongL l o != 0) = false := by simpa using hw
    have hb1 : (l.length + 1) * 32 ≤ 140737488355328 := by omega
    have hb2 : l.length + 1 ≤ 140737488355328 := by omega
    rw [if_pos hw]
    ((try refine W.a ?_); simp only [go_sem, seval, reduceCtorEq, hb])
    refine W.no rfl ?_
    ((try refine W.a ?_); simp only [go_sem, seval, reduceCtorEq])
    apply W.dregE (List.cons_ne_nil _ _)
    case hc =>
      (apply CanonE.advPO; simp only [go_sem, seval, reduceCtorEq])
      (apply CanonE.call (clone_opA w0 l (by omega) _); (case hg => rfl); (case hf => rfl); (case ha => first | rfl | simp))
      (apply CanonE.advPO; simp only [go_sem, seval, reduceCtorEq, hb1, hb2])
      exact CanonE.nil
    ((try refine W.a ?_); simp only [go_sem, seval, reduceCtorEq])
    rw [hw]
    (refine W.fs (hok) (by simp only [r64, go_sem, seval, reduceCtorEq]; rfl) ?_; simp only [resV]; try exact V.wk.rfl _)
    simp only [List.map_append, List.map_cons, List.map_nil, OpT.cs]
    (all_goals exact wk_here)
  · have hb : (wrongL l o != 0) = true := by simpa using hw
    rw [if_neg hw]
    ((try refine W.a ?_); simp only [go_sem, seval, reduceCtorEq, hb])
    refine W.yes rfl ?_
    ((try refine W.a ?_); simp only [go_sem, seval, reduceCtorEq])
    (refine W.c1 (clone_opA w0 l (by omega) _) ?_; simp only [go_sem, seval, reduceCtorEq])
    (refine W.fs (hok) (by simp only [r64, go_sem, seval, reduceCtorEq]; rfl) ?_; simp only [resV]; try exact V.wk.rfl _)
    (all_goals exact wk_here)
structure SgLe (s : Sg) (n : Nat) : Prop where
  k : s.kinds.length ≤ n
  t : s.types.length ≤ n
  o : s.ops.length ≤ n
theorem sig_copied (w0 : World) (s : Sg) (hs : SgLe s 90000) (σ : H) : DC Tryz.prog w0 23 [s.v] σ (Same s.v σ) := by
  refine k23.go rfl (fun hok hsz => ?_)
  obtain ⟨h1, h2, h3⟩ := hs
  ((try refine W.a ?_); simp only [go_sem, seval, reduceCtorEq, c23])
  apply W.dregE (List.cons_ne_nil _ _)
  case hc =>
    (apply CanonE.advPO; simp only [go_sem, seval, reduceCtorEq])
    (apply CanonE.call (clone_kd w0 s.kinds (by omega) _); (case hg => rfl); (case hf => rfl); (case ha => first | rfl | simp))
    (apply CanonE.advPO; simp only [go_sem, seval, reduceCtorEq])
    (apply CanonE.call (clone_nm w0 s.types (by omega) _); (case hg => rfl); (case hf => rfl); (case ha => first | rfl | simp))
    (apply CanonE.advPO; simp only [go_sem, seval, reduceCtorEq])
    (apply CanonE.call (clone_opA w0 s.ops (by omega) _); (case hg => rfl); (case hf => rfl); (case ha => first | rfl | simp))
    (apply CanonE.advPO; simp only [go_sem, seval, reduceCtorEq])
    exact CanonE.nil
  ((try refine W.a ?_); simp only [go_sem, seval, reduceCtorEq])
  (refine W.fg (hok) (d := s.v) (by simp only [r23, go_sem, seval, reduceCtorEq]; rfl) (by simp only [resV, go_sem, seval, reduceCtorEq]; exact wk_here) ?_)
  exact ⟨rfl, rfl⟩
theorem sig_may (w0 : World) (ok there : Bool) (n : Nat) (σ : H) : DC Tryz.prog w0 59 [B ok, B there, I n] σ (Same (I (mayE ok there n)) σ) := by
  refine k59.go rfl (fun hok hsz => ?_)
  unfold mayE
  cases ok
  · ((try refine W.a ?_); simp only [go_sem, seval, reduceCtorEq, c59])
    refine W.yes rfl ?_
    ((try refine W.a ?_); simp only [go_sem, seval, reduceCtorEq])
    (refine W.fs (hok) (by simp only [r59, go_sem, seval, reduceCtorEq]; rfl) ?_; simp only [resV]; try exact V.wk.rfl _)
  · ((try refine W.a ?_); simp only [go_sem, seval, reduceCtorEq, c59])
    refine W.no rfl ?_
    ((try refine W.a ?_); simp only [go_sem, seval, reduceCtorEq])
    cases there
    · refine W.no rfl ?_
      ((try refine W.a ?_); simp only [go_sem, seval, reduceCtorEq])
      by_cases h : 1024 ≤ n
      · have h' : (n : Int) ≥ 1024 := by omega
        ((try refine W.a ?_); simp only [go_sem, seval, reduceCtorEq, h'])
        refine W.yes rfl ?_
        ((try refine W.a ?_); simp only [go_sem, seval, reduceCtorEq])
        rw [if_pos h]
        (refine W.fs (hok) (by simp only [r59, go_sem, seval, reduceCtorEq]; rfl) ?_; simp only [resV]; try exact V.wk.rfl _)
      · have h' : ¬ (n : Int) ≥ 1024 := by omega
        ((try refine W.a ?_); simp only [go_sem, seval, reduceCtorEq, h'])
        refine W.no rfl ?_
        ((try refine W.a ?_); simp only [go_sem, seval, reduceCtorEq])
        rw [if_neg h]
        (refine W.fs (hok) (by simp only [r59, go_sem, seval, reduceCtorEq]; rfl) ?_; simp only [resV]; try exact V.wk.rfl _)
    · refine W.yes rfl ?_
      ((try refine W.a ?_); simp only [go_sem, seval, reduceCtorEq])
      (refine W.fs (hok) (by simp only [r59, go_sem, seval, reduceCtorEq]; rfl) ?_; simp only [resV]; try exact V.wk.rfl _)
end
section
attribute [local go_sem] Typ.v Typ.cs_eq tk_mk tname_mk tn_mk tl_mk tysC KdT.v KdT.cs NmT.v NmT.cs kdsC nmsC Sg.v Sent.v strsC

theorem add_kind {s : Sg} {x : Sent} {name : Str} (h : x.k = 0) : addN s x name = (⟨s.kinds ++ [⟨name, x.n⟩], s.types, s.ops⟩, mayE (isNameB name && decide (x.n ≥ 0)) (kindL s.kinds name).isSome s.kinds.length) := by
  unfold addN; rw [if_pos h]
theorem add_type {s : Sg} {x : Sent} {name : Str} (h : x.k = 1) : addN s x name = (⟨s.kinds, s.types ++ [⟨name, x.ty⟩], s.ops⟩, mayE (isNameB name || isSymB name) (findN s.types name).isSome s.types.length) := by
  unfold addN; rw [if_neg (by omega), if_pos h]
theorem add_op {s : Sg} {x : Sent} {name : Str} (h : x.k = 2) : addN s x name = (⟨s.kinds, s.types, if wrongL s.ops (opN x name) = 0 then s.ops ++ [opN x name] else s.ops⟩, wrongL s.ops (opN x name)) := by
  unfold addN; rw [if_neg (by omega), if_neg (by omega), if_pos h]
theorem add_other {s : Sg} {x : Sent} {name : Str} (h0 : x.k ≠ 0) (h1 : x.k ≠ 1) (h2 : x.k ≠ 2) : addN s x name = (s, 0) := by
  unfold addN; rw [if_neg h0, if_neg h1, if_neg h2]
theorem sig_add (w0 : World) (s : Sg) (hs : SgLe s 90000) (x : Sent) (name : Str) (σ : H) : DC Tryz.prog w0 25 [s.v, x.v, S name] σ (Same (.tup [(addN s x name).1.v, I (addN s x name).2]) σ) := by
  refine k25.go rfl (fun hok hsz => ?_)
  obtain ⟨hs1, hs2, hs3⟩ := hs
  by_cases h0 : x.k = 0
  · have k0 : (x.k == 0) = true := by simpa using h0
    have hb1 : (s.kinds.length + 1) * 24 ≤ 140737488355328 := by omega
    have hb2 : s.kinds.length + 1 ≤ 140737488355328 := by omega
    have hb3 := kd_rows (l := s.kinds)
    have hK := fun σ => sig_Kind w0 s name σ
    rw [add_kind h0]
    unfold kindV at hK
    generalize kindL s.kinds name = r at hK ⊢
    ((try refine W.a ?_); simp only [go_sem, seval, reduceCtorEq, c25, k0])
    refine W.yes rfl ?_
    ((try refine W.a ?_); simp only [go_sem, seval, reduceCtorEq])
    (refine W.c1 (hK _) ?_; simp only [go_sem, seval, reduceCtorEq])
    cases hN : isNameB name
    · apply W.dregE (List.cons_ne_nil _ _)
      case hc =>
        (apply CanonE.advPO; simp only [go_sem, seval, reduceCtorEq])
        (apply CanonE.call (lex_IsNameD w0 name _); (case hg => rfl); (case hf => rfl); (case ha => first | rfl | simp))
        (apply CanonE.advPO; simp only [go_sem, seval, reduceCtorEq, hN])
        (apply CanonE.call (sig_may w0 false r.isSome s.kinds.length _); (case hg => rfl); (case hf => rfl); (case ha => first | rfl | simp))
        (apply CanonE.advPO; simp only [go_sem, seval, reduceCtorEq])
        exact CanonE.nil
      ((try refine W.a ?_); simp only [go_sem, seval, reduceCtorEq])
      apply W.dregE (List.cons_ne_nil _ _)
      case hc =>
        (apply CanonE.advPO; simp only [go_sem, seval, reduceCtorEq])
        (apply CanonE.call (clip_kd w0 s.kinds _); (case hg => rfl); (case hf => rfl); (case ha => first | rfl | simp))
        (apply CanonE.advPO; simp only [go_sem, seval, reduceCtorEq, hb1, hb2, eq_true hb3, ne_eq, not_false_eq_true, or_true])
        exact CanonE.nil
      ((try refine W.a ?_); simp only [go_sem, seval, reduceCtorEq])
      (refine W.fg (hok) (d := .tup [Sg.v ⟨s.kinds ++ [⟨name, x.n⟩], s.types, s.ops⟩, I (mayE false r.isSome s.kinds.length)]) (by simp only [r25, go_sem, seval, reduceCtorEq, List.map_append]; rfl) (by simp only [resV, go_sem, seval, reduceCtorEq, List.map_append]; exact wk_here) ?_ (hl := by (first | exact .c _ | (simp only [go_sem, seval, reduceCtorEq, List.map_append]; done))))
      exact ⟨rfl, rfl⟩
    · apply W.dregE (List.cons_ne_nil _ _)
      case hc =>
        (apply CanonE.advPO; simp only [go_sem, seval, reduceCtorEq])
        (apply CanonE.call (lex_IsNameD w0 name _); (case hg => rfl); (case hf => rfl); (case ha => first | rfl | simp))
        (apply CanonE.advPO; simp only [go_sem, seval, reduceCtorEq, hN])
        (apply CanonE.call (sig_may w0 (decide (x.n ≥ 0)) r.isSome s.kinds.length _); (case hg => rfl); (case hf => rfl); (case ha => first | rfl | simp))
        (apply CanonE.advPO; simp only [go_sem, seval, reduceCtorEq])
        exact CanonE.nil
      ((try refine W.a ?_); simp only [go_sem, seval, reduceCtorEq])
      apply W.dregE (List.cons_ne_nil _ _)
      case hc =>
        (apply CanonE.advPO; simp only [go_sem, seval, reduceCtorEq])
        (apply CanonE.call (clip_kd w0 s.kinds _); (case hg => rfl); (case hf => rfl); (case ha => first | rfl | simp))
        (apply CanonE.advPO; simp only [go_sem, seval, reduceCtorEq, hb1, hb2, eq_true hb3, ne_eq, not_false_eq_true, or_true])
        exact CanonE.nil
      ((try refine W.a ?_); simp only [go_sem, seval, reduceCtorEq])
      (refine W.fg (hok) (d := .tup [Sg.v ⟨s.kinds ++ [⟨name, x.n⟩], s.types, s.ops⟩, I (mayE (decide (x.n ≥ 0)) r.isSome s.kinds.length)]) (by simp only [r25, go_sem, seval, reduceCtorEq, List.map_append]; rfl) (by simp only [resV, go_sem, seval, reduceCtorEq, List.map_append]; exact wk_here) ?_ (hl := by (first | exact .c _ | (simp only [go_sem, seval, reduceCtorEq, List.map_append]; done))))
      exact ⟨rfl, rfl⟩
  have n0 : (x.k == 0) = false := by simpa using h0
  by_cases h1 : x.k = 1
  · have k1 : (x.k == 1) = true := by simpa using h1
    have hb1 : (s.types.length + 1) * 72 ≤ 140737488355328 := by omega
    have hb2 : s.types.length + 1 ≤ 140737488355328 := by omega
    have hb3 := nm_rows (l := s.types)
    have hF := fun σ => sig_Find w0 s name σ
    rw [add_type h1]
    unfold findV at hF
    generalize findN s.types name = r at hF ⊢
    ((try refine W.a ?_); simp only [go_sem, seval, reduceCtorEq, c25, n0])
    refine W.no rfl ?_
    ((try refine W.a ?_); simp only [go_sem, seval, reduceCtorEq, k1])
    refine W.yes rfl ?_
    ((try refine W.a ?_); simp only [go_sem, seval, reduceCtorEq])
    (refine W.c1 (hF _) ?_; simp only [go_sem, seval, reduceCtorEq])
    cases hN : isNameB name
    · apply W.dregE (List.cons_ne_nil _ _)
      case hc =>
        (apply CanonE.advPO; simp only [go_sem, seval, reduceCtorEq])
        (apply CanonE.call (lex_IsNameD w0 name _); (case hg => rfl); (case hf => rfl); (case ha => first | rfl | simp))
        (apply CanonE.advPO; simp only [go_sem, seval, reduceCtorEq, hN])
        (apply CanonE.call (lex_IsSymD w0 name _); (case hg => rfl); (case hf => rfl); (case ha => first | rfl | simp))
        (apply CanonE.advPO; simp only [go_sem, seval, reduceCtorEq])
        (apply CanonE.call (sig_may w0 (isSymB name) r.isSome s.types.length _); (case hg => rfl); (case hf => rfl); (case ha => first | rfl | simp))
        (apply CanonE.advPO; simp only [go_sem, seval, reduceCtorEq])
        exact CanonE.nil
      ((try refine W.a ?_); simp only [go_sem, seval, reduceCtorEq])
      apply W.dregE (List.cons_ne_nil _ _)
      case hc =>
        (apply CanonE.advPO; simp only [go_sem, seval, reduceCtorEq])
        (apply CanonE.call (clip_nm w0 s.types _); (case hg => rfl); (case hf => rfl); (case ha => first | rfl | simp))
        (apply CanonE.advPO; simp only [go_sem, seval, reduceCtorEq, hb1, hb2, eq_true hb3, ne_eq, not_false_eq_true, or_true])
        exact CanonE.nil
      ((try refine W.a ?_); simp only [go_sem, seval, reduceCtorEq])
      (refine W.fg (hok) (d := .tup [Sg.v ⟨s.kinds, s.types ++ [⟨name, x.ty⟩], s.ops⟩, I (mayE (isSymB name) r.isSome s.types.length)]) (by simp only [r25, go_sem, seval, reduceCtorEq, List.map_append]; rfl) (by simp only [resV, go_sem, seval, reduceCtorEq, List.map_append]; exact wk_here) ?_ (hl := by (first | exact .c _ | (simp only [go_sem, seval, reduceCtorEq, List.map_append]; done))))
      exact ⟨rfl, rfl⟩
    · apply W.dregE (List.cons_ne_nil _ _)
      case hc =>
        (apply CanonE.advPO; simp only [go_sem, seval, reduceCtorEq])
        (apply CanonE.call (lex_IsNameD w0 name _); (case hg => rfl); (case hf => rfl); (case ha => first | rfl | simp))
        (apply CanonE.advPO; simp only [go_sem, seval, reduceCtorEq, hN])
        (apply CanonE.call (sig_may w0 true r.isSome s.types.length _); (case hg => rfl); (case hf => rfl); (case ha => first | rfl | simp))
        (apply CanonE.advPO; simp only [go_sem, seval, reduceCtorEq])
        exact CanonE.nil
      ((try refine W.a ?_); simp only [go_sem, seval, reduceCtorEq])
      apply W.dregE (List.cons_ne_nil _ _)
      case hc =>
        (apply CanonE.advPO; simp only [go_sem, seval, reduceCtorEq])
        (apply CanonE.call (clip_nm w0 s.types _); (case hg => rfl); (case hf => rfl); (case ha => first | rfl | simp))
        (apply CanonE.advPO; simp only [go_sem, seval, reduceCtorEq, hb1, hb2, eq_true hb3, ne_eq, not_false_eq_true, or_true])
        exact CanonE.nil
      ((try refine W.a ?_); simp only [go_sem, seval, reduceCtorEq])
      (refine W.fg (hok) (d := .tup [Sg.v ⟨s.kinds, s.types ++ [⟨name, x.ty⟩], s.ops⟩, I (mayE true r.isSome s.types.length)]) (by simp only [r25, go_sem, seval, reduceCtorEq, List.map_append]; rfl) (by simp only [resV, go_sem, seval, reduceCtorEq, List.map_append]; exact wk_here) ?_ (hl := by (first | exact .c _ | (simp only [go_sem, seval, reduceCtorEq, List.map_append]; done))))
      exact ⟨rfl, rfl⟩
  have n1 : (x.k == 1) = false := by simpa using h1
  by_cases h2 : x.k = 2
  · have k2 : (x.k == 2) = true := by simpa using h2
    rw [add_op h2]
    have hD := fun σ => ops_DeclareA w0 s.ops (opN x name) (by omega) σ
    generalize wrongL s.ops (opN x name) = e at hD ⊢
    ((try refine W.a ?_); simp only [go_sem, seval, reduceCtorEq, c25, n0])
    refine W.no rfl ?_
    ((try refine W.a ?_); simp only [go_sem, seval, reduceCtorEq, n1])
    refine W.no rfl ?_
    ((try refine W.a ?_); simp only [go_sem, seval, reduceCtorEq, k2])
    refine W.yes rfl ?_
    ((try refine W.a ?_); simp only [go_sem, seval, reduceCtorEq])
    unfold opN at hD ⊢
    by_cases he : e = 0
    · rw [if_pos he] at hD ⊢
      (refine W.c1 (hD _) ?_; simp only [go_sem, seval, reduceCtorEq])
      (refine W.fg (hok) (d := .tup [Sg.v ⟨s.kinds, s.types, s.ops ++ [⟨name, x.op.prec, x.op.fix⟩]⟩, I e]) (by simp only [r25, go_sem, seval, reduceCtorEq, List.map_append]; rfl) (by simp only [resV, go_sem, seval, reduceCtorEq, List.map_append]; exact wk_here) ?_ (hl := by (first | exact .c _ | (simp only [go_sem, seval, reduceCtorEq, List.map_append]; done))))
      exact ⟨rfl, rfl⟩
    · rw [if_neg he] at hD ⊢
      (refine W.c1 (hD _) ?_; simp only [go_sem, seval, reduceCtorEq])
      (refine W.fg (hok) (d := .tup [Sg.v s, I e]) (by simp only [r25, go_sem, seval, reduceCtorEq]; rfl) (by simp only [resV, go_sem, seval, reduceCtorEq]; exact wk_here) ?_)
      exact ⟨rfl, rfl⟩
  · have n2 : (x.k == 2) = false := by simpa using h2
    rw [add_other h0 h1 h2]
    ((try refine W.a ?_); simp only [go_sem, seval, reduceCtorEq, c25, n0])
    refine W.no rfl ?_
    ((try refine W.a ?_); simp only [go_sem, seval, reduceCtorEq, n1])
    refine W.no rfl ?_
    ((try refine W.a ?_); simp only [go_sem, seval, reduceCtorEq, n2])
    refine W.no rfl ?_
    ((try refine W.a ?_); simp only [go_sem, seval, reduceCtorEq])
    (refine W.fg (hok) (d := .tup [s.v, I 0]) (by simp only [r25, go_sem, seval, reduceCtorEq]; rfl) (by simp only [resV, go_sem, seval, reduceCtorEq]; exact wk_here) ?_)
    exact ⟨rfl, rfl⟩
theorem sig_Add (w0 : World) (s : Sg) (hs : SgLe s 2000) (x : Sent) (hx : x.names.length ≤ 1000) (σ : H) : DC Tryz.prog w0 8 [s.v, x.v] σ (Same (.tup [(addS s x).1.v, I (addS s x).2]) σ) := by
  refine k8.go rfl (fun hok hsz => ?_)
  have hs' : SgLe s 90000 := ⟨by have := hs.k; omega, by have := hs.t; omega, by have := hs.o; omega⟩
  have hcp := fun σ => sig_copied w0 s hs' σ
  unfold addS
  by_cases hr : x.k < 0 ∨ 3 < x.k
  · rw [if_pos hr]
    rcases hr with hr | hr
    · ((try refine W.a ?_); simp only [go_sem, seval, reduceCtorEq, c8, hr])
      refine W.yes rfl ?_
      ((try refine W.a ?_); simp only [go_sem, seval, reduceCtorEq])
      (refine W.c1 (hcp _) ?_; simp only [go_sem, seval, reduceCtorEq])
      (refine W.fg (hok) (d := .tup [s.v, I 1]) (by simp only [r8, go_sem, seval, reduceCtorEq]; rfl) (by simp only [resV, go_sem, seval, reduceCtorEq]; exact wk_here) ?_)
      exact ⟨rfl, rfl⟩
    · have h1 : ¬ x.k < 0 := by omega
      have h2 : x.k > 3 := hr
      ((try refine W.a ?_); simp only [go_sem, seval, reduceCtorEq, c8, h1, h2])
      refine W.yes rfl ?_
      ((try refine W.a ?_); simp only [go_sem, seval, reduceCtorEq])
      (refine W.c1 (hcp _) ?_; simp only [go_sem, seval, reduceCtorEq])
      (refine W.fg (hok) (d := .tup [s.v, I 1]) (by simp only [r8, go_sem, seval, reduceCtorEq]; rfl) (by simp only [resV, go_sem, seval, reduceCtorEq]; exact wk_here) ?_)
      exact ⟨rfl, rfl⟩
  rw [if_neg hr]
  have h1 : ¬ x.k < 0 := by omega
  have h2 : ¬ x.k > 3 := by omega
  have tail : ∀ (ρ : Env), ¬ (x.k = 1 ∧ fitsT s.kinds x.ty = false) → True := fun _ _ => trivial
  by_cases hf : x.k = 1 ∧ fitsT s.kinds x.ty = false
  · rw [if_pos hf]
    have k1 : (x.k == 1) = true := by simpa using hf.1
    have hfit := hf.2
    ((try refine W.a ?_); simp only [go_sem, seval, reduceCtorEq, c8, h1, h2])
    refine W.no rfl ?_
    ((try refine W.a ?_); simp only [go_sem, seval, reduceCtorEq, k1])
    (refine W.c1 (sig_Fits w0 s x.ty _) ?_; simp only [go_sem, seval, reduceCtorEq, hfit])
    refine W.yes rfl ?_
    ((try refine W.a ?_); simp only [go_sem, seval, reduceCtorEq])
    (refine W.c1 (hcp _) ?_; simp only [go_sem, seval, reduceCtorEq])
    (refine W.fg (hok) (d := .tup [s.v, I 111]) (by simp only [r8, go_sem, seval, reduceCtorEq]; rfl) (by simp only [resV, go_sem, seval, reduceCtorEq]; exact wk_here) ?_)
    exact ⟨rfl, rfl⟩
  rw [if_neg hf]
  generalize hR : outS s (addsL x s x.names) = R
  cases k1 : (x.k == 1)
  case' false =>
    ((try refine W.a ?_); simp only [go_sem, seval, reduceCtorEq, c8, h1, h2])
    refine W.no rfl ?_
    ((try refine W.a ?_); simp only [go_sem, seval, reduceCtorEq, k1])
    refine W.no rfl ?_
    ((try refine W.a ?_); simp only [go_sem, seval, reduceCtorEq])
    (refine W.c1 (hcp _) ?_; simp only [go_sem, seval, reduceCtorEq])
  case' true =>
    have hfit : fitsT s.kinds x.ty = true := by
      cases h : fitsT s.kinds x.ty
      · exact absurd ⟨by simpa using k1, h⟩ hf
      · rfl
    ((try refine W.a ?_); simp only [go_sem, seval, reduceCtorEq, c8, h1, h2])
    refine W.no rfl ?_
    ((try refine W.a ?_); simp only [go_sem, seval, reduceCtorEq, k1])
    (refine W.c1 (sig_Fits w0 s x.ty _) ?_; simp only [go_sem, seval, reduceCtorEq, hfit])
    refine W.no rfl ?_
    ((try refine W.a ?_); simp only [go_sem, seval, reduceCtorEq])
    (refine W.c1 (hcp _) ?_; simp only [go_sem, seval, reduceCtorEq])
  all_goals
    refine W.loopP (α := Nat × Sg) (fun y => y.1 ≤ x.names.length ∧ addsL x s (x.names.take y.1) = .ok y.2) (fun y => ⟨((((((((base.put (some 2) (.ptr σ.length 0)).put (some 3) (.ptr (σ.length + 1) 0)).put (some 4) (.ptr (σ.length + 2) 0)).put (some 5) (I 0)).put (some 6) (.ptr (σ.length + 3) 0)).put (some 38) (.c (strsC x.names))).put (some 39) (I x.names.length)).put (some 40) (I (y.1 : Nat))), σ ++ [.cells s.v.cellsV, .cells x.v.cellsV, .cells [.csl [], .csl [], .csl []], .cells y.2.v.cellsV]⟩) (fun y => x.names.length - y.1) (0, s) ⟨Nat.zero_le _, rfl⟩ ?_ (fun y hy => ?_)
    · simp only [go_sem, seval, reduceCtorEq]
      (refine Lew.env ?_; exact lee_here)
    · obtain ⟨i, t⟩ := y
      obtain ⟨hi, hinv⟩ := hy
      simp only at hi hinv
      by_cases hlt : i < x.names.length
      · have q1 : ((i : Int) < (x.names.length : Int)) := by omega
        have hxx : x.names[i]? = some x.names[i] := List.getElem?_eq_getElem hlt
        have hw : IntKind.i64.wrap ((i : Int) + 1) = ((i + 1 : Nat) : Int) := wrap_next hlt (by omega)
        have hlen := adds_len x _ s t hinv
        rw [List.length_take] at hlen
        have hadd := fun σ => sig_add w0 t ⟨by have := hs.k; omega, by have := hs.t; omega, by have := hs.o; omega⟩ x x.names[i] σ
        by_cases he : (addN t x x.names[i]).2 = 0
        · have hgo := adds_go x s hlt hinv he
          rw [he] at hadd
          generalize (addN t x x.names[i]).1 = u at hgo hadd
          generalize x.names[i] = nm at *
          ((try refine W.a ?_); simp only [go_sem, seval, reduceCtorEq, q1])
          refine W.yes rfl ?_
          ((try refine W.a ?_); simp only [go_sem, seval, reduceCtorEq, q1, nat0, hxx])
          (refine W.c1 (hadd _) ?_; simp only [go_sem, seval, reduceCtorEq])
          refine W.no rfl ?_
          ((try refine W.a ?_); simp only [go_sem, seval, reduceCtorEq, hw])
          refine .inv ⟨(i + 1, u), ⟨hlt, hgo⟩, by simp only; omega, ?_⟩
          simp only [go_sem, seval, reduceCtorEq]
          (refine Lew.cutL (hok) ?_ (by simp) (by simp) ?_ ?_ ?_; exact lee_here; ((try simp only [okB, wkB, go_sem, seval, reduceCtorEq]) <;> omega); (simp only [List.length_cons, List.length_nil, Nat.reduceAdd, List.take_succ_cons, List.take_zero, wkB, and_true]; (repeat' (refine And.intro ?_ ?_)) <;> (first | exact Blk.wk.rfl _ | exact Blk.wk.gone _ | (refine Blk.wk_cells ?_ rfl; (exact wk_here)))); (repeat' (first | exact LowE.base _ | (refine LowE.put ?_ (by first | exact .c _ | ((try simp only [okB, wkB, go_sem, seval, reduceCtorEq]) <;> omega))))))
        · have hst := adds_stop x s hlt hinv he
          have hRv : R = (s, (addN t x x.names[i]).2) := by rw [← hR, hst]; rfl
          rw [hRv]
          clear hRv hR
          have hb : ((addN t x x.names[i]).2 != 0) = true := by simpa using he
          generalize addN t x x.names[i] = u at hst hadd hb ⊢
          generalize x.names[i] = nm at *
          ((try refine W.a ?_); simp only [go_sem, seval, reduceCtorEq, q1])
          refine W.yes rfl ?_
          ((try refine W.a ?_); simp only [go_sem, seval, reduceCtorEq, q1, nat0, hxx])
          (refine W.c1 (hadd _) ?_; simp only [go_sem, seval, reduceCtorEq, hb])
          refine W.yes rfl ?_
          ((try refine W.a ?_); simp only [go_sem, seval, reduceCtorEq])
          (refine W.c1 (hcp _) ?_; simp only [go_sem, seval, reduceCtorEq])
          (refine W.fg (hok) (d := .tup [s.v, I u.2]) (by simp only [r8, go_sem, seval, reduceCtorEq]; rfl) (by simp only [resV, go_sem, seval, reduceCtorEq]; exact wk_here) ?_)
          exact ⟨rfl, rfl⟩
      · have q1 : ¬ ((i : Int) < (x.names.length : Int)) := by omega
        have htk : x.names.take i = x.names := List.take_of_length_le (by omega)
        rw [htk] at hinv
        have hRv : R = (t, 0) := by rw [← hR, hinv]; rfl
        rw [hRv]
        clear hRv hR
        ((try refine W.a ?_); simp only [go_sem, seval, reduceCtorEq, q1])
        refine W.no rfl ?_
        ((try refine W.a ?_); simp only [go_sem, seval, reduceCtorEq])
        (refine W.fg (hok) (d := .tup [t.v, I 0]) (by simp only [r8, go_sem, seval, reduceCtorEq]; rfl) (by simp only [resV, go_sem, seval, reduceCtorEq]; exact wk_here) ?_)
        exact ⟨rfl, rfl⟩
end
end Go.Proofs.YtapnncbenhkicaaGreatDoor
namespace Go.Proofs.YtapnncbenhkicaaGreatDoor
open Go.RowKit Go.Lamb
attribute [local go_sem] Typ.v Typ.cs_eq tk_mk tname_mk tn_mk tl_mk tysC KdT.v KdT.cs NmT.v NmT.cs kdsC nmsC Sg.v Sent.v strsC

def outB (b : Nat) (s : Sg) : Blk := .cells [.osl (b + 1) (s.kinds.map KdT.cs), .osl (b + 2) (s.types.map NmT.cs), .osl (b + 3) (s.ops.map OpT.cs)]
abbrev sgs (σ : H) (b : Nat) (s : Sg) : H := rfour σ b (outB b s) (.spare 78 2 s.kinds.length) (.spare 75 5 s.types.length) (.spare 45 3 s.ops.length)
attribute [local go_sem] outB rf_len rf_g0 rf_g rf_t0 rf_t
end Go.Proofs.YtapnncbenhkicaaGreatDoor
namespace Go.Lamb
open Go Go.RowKit
end Go.Lamb
namespace Go.Proofs.YtapnncbenhkicaaGreatDoor
open Go.RowKit Go.Lamb
attribute [local go_sem] Typ.v Typ.cs_eq tk_mk tname_mk tn_mk tl_mk tysC KdT.v KdT.cs NmT.v NmT.cs kdsC nmsC Sg.v Sent.v strsC

end Go.Proofs.YtapnncbenhkicaaGreatDoor
namespace Go.Proofs.YtapnncbenhkicaaGreatDoor
open Go.RowKit Go.Lamb
/-- slices.Concat[[]api.Named,api.Named] -/
def c21 : AC :=
  .seq (.reg [.o 2 (.mov (.k (.csl [])))])
  (.seq (.reg [.o 3 (.mov (.k (.c (.int .i64 0))))])
  (.seq (.seq (.reg [.m 9 0, .o 10 (.lenr (.t 9)), .o 11 (.mov (.k (.c (.int .i64 0))))])
  (.block 0 (.loop (.seq (.reg [.o 12 (.bin .lss (.t 11) (.t 10))])
  (.seq (.cond (.t 12)
  (.skip)
  (.exit 0))
  (.seq (.block 1 (.seq (.reg [.o 13 (.iadd 1 (.t 9) (.t 11)), .l 14 13, .m 5 14])
  (.seq (.reg [.m 15 3, .m 16 5, .o 17 (.lenr (.t 16)), .o 18 (.bin .add (.t 15) (.t 17)), .m 3 18])
  (.seq (.reg [.m 19 3, .o 20 (.bin .lss (.t 19) (.k (.c (.int .i64 0))))])
  (.cond (.t 20)
  (.reg [.o 21 (.bad), ⟨none, .bad, none⟩])
  (.skip))))))
  (.reg [.o 22 (.bin .add (.t 11) (.k (.c (.int .i64 1)))), .m 11 22])))))))
  (.seq (.reg [.m 23 3, .k 24 53 [(.k (.csl [])), (.t 23)], .m 6 24])
  (.seq (.seq (.reg [.m 25 0, .o 26 (.lenr (.t 25)), .o 27 (.mov (.k (.c (.int .i64 0))))])
  (.block 2 (.loop (.seq (.reg [.o 28 (.bin .lss (.t 27) (.t 26))])
  (.seq (.cond (.t 28)
  (.skip)
  (.exit 2))
  (.seq (.block 3 (.seq (.reg [.o 29 (.iadd 1 (.t 25) (.t 27)), .l 30 29, .m 8 30])
  (.reg [.m 31 6, .m 32 8, .o 33 (.app 75 5 72 (.t 31) (.t 32)), .m 6 33])))
  (.reg [.o 34 (.bin .add (.t 27) (.k (.c (.int .i64 1)))), .m 27 34])))))))
  (.seq (.reg [.m 35 6, .m 2 35])
  (.ret))))))
def r21 : List ResV := [.tmp 2]
theorem k21 : CodeIs Tryz.prog 21 1 Tryz.f21 c21 r21 := ⟨by kernel_rfl, Tryz.func21, rfl, by kernel_rfl, by kernel_rfl, by decide, enters_fn Tryz.func21 (by kernel_rfl) rfl⟩
end Go.Proofs.YtapnncbenhkicaaGreatDoor

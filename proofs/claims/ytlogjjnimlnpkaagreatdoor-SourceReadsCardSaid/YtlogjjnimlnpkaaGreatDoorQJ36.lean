/-
  Walks: the document's reader of sentences: operators.
  Walks: the document's reader of sentences: all of them.
  Walks: the document's reading of a text's sentences.
  Plain: what else is known of sentences that are read: errors, places, how many there are.
  Any text's sentences, the operators behind it, or what is wrong, and where, are just what the document says.
-/
import Derived.Test.YtlogjjnimlnpkaaGreatDoorQJ35
import Derived.Test.YtlogjjnimlnpkaaGreatDoorQRefFO
set_option linter.unusedSimpArgs false
set_option linter.unusedVariables false
set_option maxHeartbeats 8000000
set_option maxRecDepth 20000
namespace Go.Proofs.YtlogjjnimlnpkaaGreatDoor
open Go.RowKit Go.Lamb
attribute [local go_sem] advO_skip advO_reg advO_seq advO_block advO_exit advO_endb advO_opsNil advO_ops advG_yes advG_no advG_none advS_some advS_none advO_cond advO_loop advO_dreg advO_ret advO_bad advO_inv advO_nil advO_zero wantedV Lamb.step ev_t ev_k put_some put_none argEnv popTo cellsAt V.cellsV V.rows V.toC toCs fillV bytesC byteRows appV rowsV boundV boundL binV binInt binStr eqC eqL V.isNil leaves V.leaf Ins.quiet Ins.pure List.getD_cons_zero List.getD_cons_succ List.getD_nil List.all_cons List.all_nil List.length_cons List.length_nil List.take_succ_cons List.take_zero List.drop_succ_cons List.drop_zero List.cons_append List.nil_append List.append_nil List.append_assoc List.map_cons List.map_nil List.getElem?_cons_zero List.getElem?_cons_succ List.length_append List.length_set hget0 hget hset0 hset hsets hgs0 hgs hss0 hss List.set_cons_zero List.set_cons_succ List.forall_mem_cons List.not_mem_nil false_implies implies_true Option.map_some Bool.and_true Bool.true_and Bool.not_not Bool.not_true Bool.not_false Bool.and_self Bool.or_true Bool.true_or Bool.or_false Bool.false_or Bool.and_false Bool.false_and Bool.false_eq_true beq_self_eq_true and_self and_true true_and if_true if_false Nat.zero_add Nat.add_zero Nat.le_refl Int.toNat_natCast decide_true decide_false beq_t beq_f List.length_map List.getElem?_map I S B opsC toksC OpT.v OpT.cs OpT.zero Tok.v Tok.cs Pre.v Pre.cs_eq k_mk name_mk n_mk l_mk pos_mk Pre.app applyL natCast0 natCast1 natCast2 AOp.o AOp.m AOp.f AOp.l AOp.d AOp.n AOp.x AOp.s AOp.k AOp.y AOp.z EOp.q low_c low_void low_any low_csl low_nilf low_ptr low_osl low_agg low_tup low_fn resEval advPO_nil advPO_loud advPO_quiet pL_yes pL_no pLS_some pLS_none pQ_yes pQ_no pQS_some pQS_loud eq_self Nat.sub_zero
section
attribute [local go_sem] strsC posC qdX qdY rs_len rs_g0 rs_g rs_s0 rs_s rs_sv zeroB

theorem ref02_DeclareO (w0 : World) (l : List OpT) (v : Nat) (name : Str) (prec fix : Int) (hf : fix = 0 ∨ fix = 1 ∨ fix = 2) (σ : H) : DC Tryz.prog w0 128 [.osl v (l.map OpT.cs), OpT.v ⟨name, prec, fix⟩] σ (Same (I (wrongL l ⟨name, prec, fix⟩)) σ) :=
  (ref02_Declare w0 l name prec fix hf σ).weakA (wk_agg_cons (.osl _ _) (wk_agg_cons (.rfl _) wk_agg_nil))
theorem qr_op (w0 : World) (t : List Tok) (ht : t.length ≤ 100000) (i : Nat) (hi : i ≤ t.length) (pos fix : Int) (hf : fix = 0 ∨ fix = 1 ∨ fix = 2) (l : List OpT) (hl : l.length ≤ 64) (σ : H) (b v : Nat) (D : Two σ b v) :
    DC Tryz.prog w0 171 [.ptr b 0, I pos, I fix] (qd σ b v t i l 0 0) (RQ t σ b v (opSent t i pos fix l)) := by
  refine k171.go rfl (fun hok hsz => ?_)
  have hlb := D.lb
  have hlv := D.lv
  generalize hr : opSent t i pos fix l = r
  unfold opSent at hr
  ((try refine W.a ?_); simp only [go_sem, seval, reduceCtorEq, c171, rsA D])
  (refine W.call (DC.liftR D (fun D' => qr_Names w0 t ht true i hi l _ b v D')) rfl rfl (by first | rfl | simp) ?_)
  intro d σ1 hR
  obtain ⟨ns, ps, j, e, p, rfl, rfl, hst⟩ := rnm_out hR
  ((try refine W.a ?_); simp only [go_sem, seval, reduceCtorEq, rsA D])
  rcases hst with ⟨rfl, rfl, rfl, hj, hn⟩ | ⟨he, hn⟩
  · rw [hn] at hr
    simp only at hr
    have hnl := namesS_len hn
    simp only [List.length_nil] at hnl
    have hwj : IntKind.i64.wrap ((j : Int) + 1) = ((j + 1 : Nat) : Int) := by rw [wrap_in] <;> omega
    refine W.no rfl ?_
    ((try refine W.a ?_); simp only [go_sem, seval, reduceCtorEq, rsA D])
    by_cases h3 : (tokL t j).kind = 3
    · rw [if_pos h3] at hr
      have n3 : ((tokL t j).kind != 3) = false := by simpa using h3
      (refine W.c1 (DC.lift D (fun D' => qr_tok w0 t j l 0 0 _ b v D')) ?_; simp only [go_sem, seval, reduceCtorEq, rsA D, n3])
      refine W.no rfl ?_
      ((try refine W.a ?_); simp only [go_sem, seval, reduceCtorEq, rsA D, hwj])
      by_cases h7 : (tokL t (j + 1)).kind = 7
      · rw [if_pos h7] at hr
        (refine W.c1 (DC.lift D (fun D' => qr_end w0 t (j + 1) (by omega) l _ b v D')) ?_; simp only [go_sem, seval, reduceCtorEq, rsA D, if_pos h7])
        refine W.loopP (fun x : OpSt => x.k ≤ ns.length ∧ x.l.length ≤ 64 + x.k ∧ ((x.e = 0 ∧ x.p = 0 ∧ r = (match declL (tokL t j).n fix x.l (ns.drop x.k) with
            | .error b => .error b
            | .ok l' => .ok (⟨2, ns.map (·.text), 0, .none, ⟨[], (tokL t j).n, fix⟩, .none, pos⟩, j + 2, l'))) ∨ ((x.e == 0) = false ∧ r = .error ⟨x.e, x.p⟩)))
          (fun x => ⟨((((((((base.put (some 0) (.ptr b 0)).put (some 1) (I pos)).put (some 2) (I fix)).put (some 6) (.ptr σ.length 0)).put (some 7) (.c (strsC (ns.map (·.text))))).put (some 8) (.c (posC ns))).put (some 9) (.ptr (σ.length + 1) 0)).put (some 10) (I (x.k : Nat))), qd σ b v t ((j + 2 : Nat) : Int) x.l x.e x.p ++ [zeroB, .cells (tokL t j).v.cellsV]⟩) (fun x => ns.length - x.k) ⟨0, l, 0, 0⟩ ⟨Nat.zero_le _, by show l.length ≤ 64 + 0; omega, .inl ⟨rfl, rfl, by rw [← hr]; rfl⟩⟩ ?_ (fun x hx => ?_)
        · (refine Lew.env ?_; exact lee_here)
        · obtain ⟨k, lx, e, p⟩ := x
          obtain ⟨hkn, hlx, hst⟩ := hx
          simp only at hkn hlx hst
          by_cases hlt : k < ns.length
          · have h1 : ((k : Int) < (ns.length : Int)) := by omega
            have hx : ns[k]? = some ns[k] := List.getElem?_eq_getElem hlt
            have hwk : IntKind.i64.wrap ((k : Int) + 1) = ((k + 1 : Nat) : Int) := by rw [wrap_in] <;> omega
            have hdr : ns.drop k = ns[k] :: ns.drop (k + 1) := List.drop_eq_getElem_cons hlt
            have hb1 : (lx.length + 1) * 32 ≤ 140737488355328 := by omega
            have hb2 : lx.length + 1 ≤ 140737488355328 := by omega
            rcases hst with ⟨rfl, rfl, hr'⟩ | ⟨he, hr'⟩
            · rw [hdr, declL] at hr'
              ((try refine W.a ?_); simp only [go_sem, seval, reduceCtorEq, rsA D, h1])
              refine W.yes rfl ?_
              ((try refine W.a ?_); simp only [go_sem, seval, reduceCtorEq, rsA D])
              (apply W.dregE (List.cons_ne_nil _ _); case hc => ((apply CanonE.advPO; simp only [go_sem, seval, reduceCtorEq, rsA D, h1, nat0, hx]); exact CanonE.nil))
              ((try refine W.a ?_); simp only [go_sem, seval, reduceCtorEq, rsA D])
              have hk2 : ∀ (e p : Int), H.ok (rs σ b v (.cells [.c (toksC t), I ((j + 2 : Nat) : Int), I e, I p, .osl v (lx.map OpT.cs ++ [[.str ns[k].text, .int .i64 (tokL t j).n, .int .i64 fix]])]) (.spare 35 3 (lx.length + 1))) := fun e p => by
                have h := qd_ok D hok t ((j + 2 : Nat) : Int) (lx ++ [⟨ns[k].text, (tokL t j).n, fix⟩]) e p
                unfold qd qdX qdY at h
                rw [List.map_append, List.length_append] at h
                exact h
              by_cases hwr : wrongL lx ⟨ns[k].text, (tokL t j).n, fix⟩ = 0
              · rw [if_pos hwr] at hr'
                apply W.dregE (List.cons_ne_nil _ _)
                case hc =>
                  (apply CanonE.advPO; simp only [go_sem, seval, reduceCtorEq, rsA D])
                  (apply CanonE.call (ref02_DeclareO w0 lx v ns[k].text (tokL t j).n fix hf _); (case hg => rfl); (case hf => rfl); (case ha => first | rfl | simp))
                  (apply CanonE.advPO; simp only [go_sem, seval, reduceCtorEq, rsA D, hwr])
                  exact CanonE.nil
                ((try refine W.a ?_); simp only [go_sem, seval, reduceCtorEq, rsA D])
                refine W.no rfl ?_
                ((try refine W.a ?_); simp only [go_sem, seval, reduceCtorEq, rsA D])
                (apply W.dregE (List.cons_ne_nil _ _); case hc => ((apply CanonE.advPO; simp only [go_sem, seval, reduceCtorEq, rsA D, hb1, hb2]); exact CanonE.nil))
                ((try refine W.a ?_); simp only [go_sem, seval, reduceCtorEq, rsA D, hwk])
                refine .inv ⟨⟨k + 1, lx ++ [⟨ns[k].text, (tokL t j).n, fix⟩], 0, 0⟩, ⟨hlt, by simp; omega, .inl ⟨rfl, rfl, hr'⟩⟩, by simp only; omega, ?_⟩
                simp only [go_sem, seval, reduceCtorEq, qd, List.map_append, List.length_append]
                (refine Lew.cutL (hk2 0 0) ?_ (by simp) (by simp) ?_ ?_ ?_; exact lee_here; ((try simp only [okB, wkB, go_sem, seval, reduceCtorEq, rs_len]) <;> omega); (simp only [List.length_cons, List.length_nil, Nat.reduceAdd, List.take_succ_cons, List.take_zero, wkB, and_true]; (repeat' (refine And.intro ?_ ?_)) <;> (first | exact Blk.wk.rfl _ | (refine Blk.wk_cells ?_ rfl; (exact wk_here)))); (repeat' (first | exact LowE.base _ | (refine LowE.put ?_ (by first | exact .c _ | ((try simp only [okB, wkB, go_sem, seval, reduceCtorEq, rs_len]) <;> omega))))))
              · rw [if_neg hwr] at hr'
                have hwb : (wrongL lx ⟨ns[k].text, (tokL t j).n, fix⟩ == 0) = false := by simpa using hwr
                have hwn : (wrongL lx ⟨ns[k].text, (tokL t j).n, fix⟩ != 0) = true := by simpa using hwr
                apply W.dregE (List.cons_ne_nil _ _)
                case hc =>
                  (apply CanonE.advPO; simp only [go_sem, seval, reduceCtorEq, rsA D])
                  (apply CanonE.call (ref02_DeclareO w0 lx v ns[k].text (tokL t j).n fix hf _); (case hg => rfl); (case hf => rfl); (case ha => first | rfl | simp))
                  (apply CanonE.advPO; simp only [go_sem, seval, reduceCtorEq, rsA D])
                  exact CanonE.nil
                ((try refine W.a ?_); simp only [go_sem, seval, reduceCtorEq, rsA D, hwn])
                refine W.yes rfl ?_
                ((try refine W.a ?_); simp only [go_sem, seval, reduceCtorEq, rsA D, h1, nat0, hx])
                (refine W.c1 (DC.lift D (fun D' => qr_fail w0 t ((j + 2 : Nat) : Int) lx 0 0 (wrongL lx ⟨ns[k].text, (tokL t j).n, fix⟩) ns[k].pos _ b v D')) ?_; simp only [go_sem, seval, reduceCtorEq, rsA D, if_true])
                (apply W.dregE (List.cons_ne_nil _ _); case hc => ((apply CanonE.advPO; simp only [go_sem, seval, reduceCtorEq, rsA D, hb1, hb2]); exact CanonE.nil))
                ((try refine W.a ?_); simp only [go_sem, seval, reduceCtorEq, rsA D, hwk])
                refine .inv ⟨⟨k + 1, lx ++ [⟨ns[k].text, (tokL t j).n, fix⟩], wrongL lx ⟨ns[k].text, (tokL t j).n, fix⟩, ns[k].pos⟩, ⟨hlt, by simp; omega, .inr ⟨hwb, hr'⟩⟩, by simp only; omega, ?_⟩
                simp only [go_sem, seval, reduceCtorEq, qd, List.map_append, List.length_append]
                (refine Lew.cutL (hk2 (wrongL lx ⟨ns[k].text, (tokL t j).n, fix⟩) ns[k].pos) ?_ (by simp) (by simp) ?_ ?_ ?_; exact lee_here; ((try simp only [okB, wkB, go_sem, seval, reduceCtorEq, rs_len]) <;> omega); (simp only [List.length_cons, List.length_nil, Nat.reduceAdd, List.take_succ_cons, List.take_zero, wkB, and_true]; (repeat' (refine And.intro ?_ ?_)) <;> (first | exact Blk.wk.rfl _ | (refine Blk.wk_cells ?_ rfl; (exact wk_here)))); (repeat' (first | exact LowE.base _ | (refine LowE.put ?_ (by first | exact .c _ | ((try simp only [okB, wkB, go_sem, seval, reduceCtorEq, rs_len]) <;> omega))))))
            · subst hr'
              ((try refine W.a ?_); simp only [go_sem, seval, reduceCtorEq, rsA D, h1, he])
              refine W.no rfl ?_
              ((try refine W.a ?_); simp only [go_sem, seval, reduceCtorEq, rsA D])
              (refine W.fg (qd_ok D hok t ((j + 2 : Nat) : Int) lx e p) (d := (⟨2, ns.map (·.text), 0, .none, ⟨[], (tokL t j).n, fix⟩, .none, pos⟩ : Sent).v) (by simp only [r171, go_sem, seval, reduceCtorEq, sent_v, strsC, Pre.none, Typ.none, tk_mk, tname_mk, tn_mk, tl_mk]; rfl) (by simp only [resV, go_sem, seval, reduceCtorEq, sent_v, strsC, Pre.none, Typ.none, tk_mk, tname_mk, tn_mk, tl_mk]; exact wk_here) ?_ (hl := by (first | exact .c _ | (simp only [go_sem, seval, reduceCtorEq, sent_v, strsC, Pre.none, Typ.none, tk_mk, tname_mk, tn_mk, tl_mk]; done))))
              exact ⟨he, _, _, _, rfl, rfl⟩
          · have h1 : ¬ ((k : Int) < (ns.length : Int)) := by omega
            have hdr : ns.drop k = [] := List.drop_eq_nil_of_le (by omega)
            ((try refine W.a ?_); simp only [go_sem, seval, reduceCtorEq, rsA D, h1])
            refine W.no rfl ?_
            ((try refine W.a ?_); simp only [go_sem, seval, reduceCtorEq, rsA D])
            rcases hst with ⟨rfl, rfl, hr'⟩ | ⟨he, hr'⟩
            · rw [hdr, declL] at hr'
              subst hr'
              (refine W.fg (qd_ok D hok t ((j + 2 : Nat) : Int) lx 0 0) (d := (⟨2, ns.map (·.text), 0, .none, ⟨[], (tokL t j).n, fix⟩, .none, pos⟩ : Sent).v) (by simp only [r171, go_sem, seval, reduceCtorEq, sent_v, strsC, Pre.none, Typ.none, tk_mk, tname_mk, tn_mk, tl_mk]; rfl) (by simp only [resV, go_sem, seval, reduceCtorEq, sent_v, strsC, Pre.none, Typ.none, tk_mk, tname_mk, tn_mk, tl_mk]; exact wk_here) ?_ (hl := by (first | exact .c _ | (simp only [go_sem, seval, reduceCtorEq, sent_v, strsC, Pre.none, Typ.none, tk_mk, tname_mk, tn_mk, tl_mk]; done))))
              exact ⟨rfl, rfl⟩
            · subst hr'
              (refine W.fg (qd_ok D hok t ((j + 2 : Nat) : Int) lx e p) (d := (⟨2, ns.map (·.text), 0, .none, ⟨[], (tokL t j).n, fix⟩, .none, pos⟩ : Sent).v) (by simp only [r171, go_sem, seval, reduceCtorEq, sent_v, strsC, Pre.none, Typ.none, tk_mk, tname_mk, tn_mk, tl_mk]; rfl) (by simp only [resV, go_sem, seval, reduceCtorEq, sent_v, strsC, Pre.none, Typ.none, tk_mk, tname_mk, tn_mk, tl_mk]; exact wk_here) ?_ (hl := by (first | exact .c _ | (simp only [go_sem, seval, reduceCtorEq, sent_v, strsC, Pre.none, Typ.none, tk_mk, tname_mk, tn_mk, tl_mk]; done))))
              exact ⟨he, _, _, _, rfl, rfl⟩
      · rw [if_neg h7] at hr
        subst hr
        (refine W.c1 (DC.lift D (fun D' => qr_end w0 t (j + 1) (by omega) l _ b v D')) ?_; simp only [go_sem, seval, reduceCtorEq, rsA D, if_neg h7])
        refine W.loopP (fun k : Nat => k = 0) (fun k => ⟨((((((((base.put (some 0) (.ptr b 0)).put (some 1) (I pos)).put (some 2) (I fix)).put (some 6) (.ptr σ.length 0)).put (some 7) (.c (strsC (ns.map (·.text))))).put (some 8) (.c (posC ns))).put (some 9) (.ptr (σ.length + 1) 0)).put (some 10) (I (k : Nat))), qd σ b v t ((j + 1 : Nat) : Int) l 101 (tokL t (j + 1)).pos ++ [zeroB, .cells (tokL t j).v.cellsV]⟩) (fun k => 0) 0 rfl ?_ (fun k hk => ?_)
        · (refine Lew.env ?_; exact lee_here)
        · subst hk
          by_cases hlt : 0 < ns.length
          · have h1' : ((0 : Int) < (ns.length : Int)) := by omega
            ((try refine W.a ?_); simp only [go_sem, seval, reduceCtorEq, rsA D, h1'])
            refine W.no rfl ?_
            ((try refine W.a ?_); simp only [go_sem, seval, reduceCtorEq, rsA D])
            (refine W.fg (qd_ok D hok t ((j + 1 : Nat) : Int) l 101 (tokL t (j + 1)).pos) (d := (⟨2, ns.map (·.text), 0, .none, ⟨[], (tokL t j).n, fix⟩, .none, pos⟩ : Sent).v) (by simp only [r171, go_sem, seval, reduceCtorEq, sent_v, strsC, Pre.none, Typ.none, tk_mk, tname_mk, tn_mk, tl_mk]; rfl) (by simp only [resV, go_sem, seval, reduceCtorEq, sent_v, strsC, Pre.none, Typ.none, tk_mk, tname_mk, tn_mk, tl_mk]; exact wk_here) ?_ (hl := by (first | exact .c _ | (simp only [go_sem, seval, reduceCtorEq, sent_v, strsC, Pre.none, Typ.none, tk_mk, tname_mk, tn_mk, tl_mk]; done))))
            exact ⟨rfl, _, _, _, rfl, rfl⟩
          · have h1' : ¬ ((0 : Int) < (ns.length : Int)) := by omega
            ((try refine W.a ?_); simp only [go_sem, seval, reduceCtorEq, rsA D, h1'])
            refine W.no rfl ?_
            ((try refine W.a ?_); simp only [go_sem, seval, reduceCtorEq, rsA D])
            (refine W.fg (qd_ok D hok t ((j + 1 : Nat) : Int) l 101 (tokL t (j + 1)).pos) (d := (⟨2, ns.map (·.text), 0, .none, ⟨[], (tokL t j).n, fix⟩, .none, pos⟩ : Sent).v) (by simp only [r171, go_sem, seval, reduceCtorEq, sent_v, strsC, Pre.none, Typ.none, tk_mk, tname_mk, tn_mk, tl_mk]; rfl) (by simp only [resV, go_sem, seval, reduceCtorEq, sent_v, strsC, Pre.none, Typ.none, tk_mk, tname_mk, tn_mk, tl_mk]; exact wk_here) ?_ (hl := by (first | exact .c _ | (simp only [go_sem, seval, reduceCtorEq, sent_v, strsC, Pre.none, Typ.none, tk_mk, tname_mk, tn_mk, tl_mk]; done))))
            exact ⟨rfl, _, _, _, rfl, rfl⟩
    · rw [if_neg h3] at hr
      subst hr
      have n3 : ((tokL t j).kind != 3) = true := by simpa using h3
      (refine W.c1 (DC.lift D (fun D' => qr_tok w0 t j l 0 0 _ b v D')) ?_; simp only [go_sem, seval, reduceCtorEq, rsA D, n3])
      refine W.yes rfl ?_
      ((try refine W.a ?_); simp only [go_sem, seval, reduceCtorEq, rsA D])
      (refine W.c1 (DC.lift D (fun D' => qr_fail w0 t j l 0 0 100 (tokL t j).pos _ b v D')) ?_; simp only [go_sem, seval, reduceCtorEq, rsA D, if_true])
      (refine W.fg (qd_ok D hok t (j : Nat) l 100 (tokL t j).pos) (d := (sentP 0 [] 0 0).v) (by simp only [r171, go_sem, seval, reduceCtorEq, sentP_v, strsC]; rfl) (by simp only [resV, go_sem, seval, reduceCtorEq, sentP_v, strsC]; exact wk_here) ?_ (hl := by (first | exact .c _ | (simp only [go_sem, seval, reduceCtorEq, sentP_v, strsC]; done))))
      exact ⟨rfl, _, _, _, rfl, rfl⟩
  · rw [hn] at hr
    subst hr
    have hb : (e != 0) = true := by rw [bne, he]; rfl
    ((try refine W.a ?_); simp only [go_sem, seval, reduceCtorEq, rsA D, hb])
    refine W.yes rfl ?_
    ((try refine W.a ?_); simp only [go_sem, seval, reduceCtorEq, rsA D])
    (refine W.fg (qd_ok D hok t (j : Nat) l e p) (d := (sentP 0 [] 0 0).v) (by simp only [r171, go_sem, seval, reduceCtorEq, sentP_v, strsC]; rfl) (by simp only [resV, go_sem, seval, reduceCtorEq, sentP_v, strsC]; exact wk_here) ?_ (hl := by (first | exact .c _ | (simp only [go_sem, seval, reduceCtorEq, sentP_v, strsC]; done))))
    exact ⟨he, _, _, _, rfl, rfl⟩
end
section
attribute [local go_sem] strsC posC qdX qdY rs_len rs_g0 rs_g rs_s0 rs_s rs_sv zeroB

theorem rq_out {t : List Tok} {σ : H} {b v : Nat} {r : SoR} {d : V} {σ' : H} (h : RQ t σ b v r d σ') : ∃ (s : Sent) (j : Nat) (l' : List OpT) (e p : Int), d = s.v ∧ σ' = qd σ b v t j l' e p ∧ ((e = 0 ∧ p = 0 ∧ r = .ok (s, j, l')) ∨ ((e == 0) = false ∧ r = .error ⟨e, p⟩)) := by
  cases r with
  | ok x =>
    obtain ⟨s, k, l'⟩ := x
    obtain ⟨rfl, rfl⟩ := h
    exact ⟨s, k, l', 0, 0, rfl, rfl, .inl ⟨rfl, rfl, rfl⟩⟩
  | error x =>
    obtain ⟨he, s, j, l', rfl, rfl⟩ := h
    exact ⟨s, j, l', x.e, x.pos, rfl, rfl, .inr ⟨he, rfl⟩⟩
theorem qr_One (w0 : World) (t : List Tok) (ht : t.length ≤ 100000) (i : Nat) (hi : i ≤ t.length) (l : List OpT) (hl : l.length ≤ 64) (σ : H) (b v : Nat) (D : Two σ b v) :
    DC Tryz.prog w0 103 [.ptr b 0] (qd σ b v t i l 0 0) (RQ t σ b v (sentS t l i)) := by
  refine k103.go rfl (fun hok hsz => ?_)
  have hlb := D.lb
  have hlv := D.lv
  have hwi : IntKind.i64.wrap ((i : Int) + 1) = ((i + 1 : Nat) : Int) := by rw [wrap_in] <;> omega
  have hwb : IntKind.i64.wrap (((i + 1 : Nat) : Int) - 1) = (i : Int) := by rw [wrap_in] <;> omega
  generalize hr : sentS t l i = r
  unfold sentS at hr
  simp only at hr
  have hend : ∀ {d : V} {σ' : H} {r : SoR} {L : H}, RQ t (σ ++ L) b v r d σ' → ∃ (s : Sent) (j : Nat) (l' : List OpT) (e p : Int), d = s.v ∧ σ' = qd (σ ++ L) b v t j l' e p ∧ ((e = 0 ∧ p = 0 ∧ r = .ok (s, j, l')) ∨ ((e == 0) = false ∧ r = .error ⟨e, p⟩)) := fun h => rq_out h
  ((try refine W.a ?_); simp only [go_sem, seval, reduceCtorEq, c103, rsA D])
  by_cases hk1 : (tokL t i).kind = 1
  · have n1 : ((tokL t i).kind == 1) = true := by simpa using hk1
    have hil : i + 1 ≤ t.length := tokL_lt (by rw [hk1]; decide)
    simp only [hk1, true_and] at hr
    (refine W.c1 (DC.lift D (fun D' => qr_tok w0 t i l 0 0 _ b v D')) ?_; simp only [go_sem, seval, reduceCtorEq, rsA D, n1])
    refine W.yes rfl ?_
    ((try refine W.a ?_); simp only [go_sem, seval, reduceCtorEq, rsA D, hwi])
    by_cases e1 : (tokL t i).text = [107, 105, 110, 100]
    · have b1 : ((tokL t i).text == [107, 105, 110, 100]) = true := by simpa using e1
      rw [if_pos e1] at hr
      ((try refine W.a ?_); simp only [go_sem, seval, reduceCtorEq, rsA D, b1])
      refine W.yes rfl ?_
      ((try refine W.a ?_); simp only [go_sem, seval, reduceCtorEq, rsA D])
      (refine W.call (DC.liftR D (fun D' => qr_kind w0 t ht (i + 1) hil (tokL t i).pos l _ b v D')) rfl rfl (by first | rfl | simp) ?_)
      intro d σ1 hR
      rw [hr] at hR
      obtain ⟨s, j, l', e, p, rfl, rfl, hst⟩ := hend hR
      ((try refine W.a ?_); simp only [go_sem, seval, reduceCtorEq, rsA D, sent_v])
      rcases hst with ⟨rfl, rfl, rfl⟩ | ⟨he, rfl⟩
      · (refine W.fg (qd_ok D hok t (j : Nat) l' 0 0) (d := s.v) (by simp only [r103, go_sem, seval, reduceCtorEq, sent_v, strsC]; rfl) (by simp only [resV, go_sem, seval, reduceCtorEq, sent_v, strsC]; exact wk_here) ?_ (hl := by (first | exact .c _ | (simp only [go_sem, seval, reduceCtorEq, sent_v, strsC]; done))))
        exact ⟨rfl, rfl⟩
      · (refine W.fg (qd_ok D hok t (j : Nat) l' e p) (d := s.v) (by simp only [r103, go_sem, seval, reduceCtorEq, sent_v, strsC]; rfl) (by simp only [resV, go_sem, seval, reduceCtorEq, sent_v, strsC]; exact wk_here) ?_ (hl := by (first | exact .c _ | (simp only [go_sem, seval, reduceCtorEq, sent_v, strsC]; done))))
        exact ⟨he, _, _, _, rfl, rfl⟩
    have b1 : ((tokL t i).text == [107, 105, 110, 100]) = false := by simpa using e1
    rw [if_neg e1] at hr
    ((try refine W.a ?_); simp only [go_sem, seval, reduceCtorEq, rsA D, b1])
    refine W.no rfl ?_
    by_cases e2 : (tokL t i).text = [116, 121, 112, 101]
    · have b2 : ((tokL t i).text == [116, 121, 112, 101]) = true := by simpa using e2
      rw [if_pos e2] at hr
      ((try refine W.a ?_); simp only [go_sem, seval, reduceCtorEq, rsA D, b2])
      refine W.yes rfl ?_
      ((try refine W.a ?_); simp only [go_sem, seval, reduceCtorEq, rsA D])
      (refine W.call (DC.liftR D (fun D' => qr_types w0 t ht (i + 1) hil (tokL t i).pos l _ b v D')) rfl rfl (by first | rfl | simp) ?_)
      intro d σ1 hR
      rw [hr] at hR
      obtain ⟨s, j, l', e, p, rfl, rfl, hst⟩ := hend hR
      ((try refine W.a ?_); simp only [go_sem, seval, reduceCtorEq, rsA D, sent_v])
      rcases hst with ⟨rfl, rfl, rfl⟩ | ⟨he, rfl⟩
      · (refine W.fg (qd_ok D hok t (j : Nat) l' 0 0) (d := s.v) (by simp only [r103, go_sem, seval, reduceCtorEq, sent_v, strsC]; rfl) (by simp only [resV, go_sem, seval, reduceCtorEq, sent_v, strsC]; exact wk_here) ?_ (hl := by (first | exact .c _ | (simp only [go_sem, seval, reduceCtorEq, sent_v, strsC]; done))))
        exact ⟨rfl, rfl⟩
      · (refine W.fg (qd_ok D hok t (j : Nat) l' e p) (d := s.v) (by simp only [r103, go_sem, seval, reduceCtorEq, sent_v, strsC]; rfl) (by simp only [resV, go_sem, seval, reduceCtorEq, sent_v, strsC]; exact wk_here) ?_ (hl := by (first | exact .c _ | (simp only [go_sem, seval, reduceCtorEq, sent_v, strsC]; done))))
        exact ⟨he, _, _, _, rfl, rfl⟩
    have b2 : ((tokL t i).text == [116, 121, 112, 101]) = false := by simpa using e2
    rw [if_neg e2] at hr
    ((try refine W.a ?_); simp only [go_sem, seval, reduceCtorEq, rsA D, b2])
    refine W.no rfl ?_
    by_cases e3 : (tokL t i).text = [105, 110, 102, 105, 120]
    · have b3 : ((tokL t i).text == [105, 110, 102, 105, 120]) = true := by simpa using e3
      rw [if_pos e3] at hr
      ((try refine W.a ?_); simp only [go_sem, seval, reduceCtorEq, rsA D, b3])
      refine W.yes rfl ?_
      ((try refine W.a ?_); simp only [go_sem, seval, reduceCtorEq, rsA D])
      (refine W.call (DC.liftR D (fun D' => qr_op w0 t ht (i + 1) hil (tokL t i).pos 0 (by decide) l hl _ b v D')) rfl rfl (by first | rfl | simp) ?_)
      intro d σ1 hR
      rw [hr] at hR
      obtain ⟨s, j, l', e, p, rfl, rfl, hst⟩ := hend hR
      ((try refine W.a ?_); simp only [go_sem, seval, reduceCtorEq, rsA D, sent_v])
      rcases hst with ⟨rfl, rfl, rfl⟩ | ⟨he, rfl⟩
      · (refine W.fg (qd_ok D hok t (j : Nat) l' 0 0) (d := s.v) (by simp only [r103, go_sem, seval, reduceCtorEq, sent_v, strsC]; rfl) (by simp only [resV, go_sem, seval, reduceCtorEq, sent_v, strsC]; exact wk_here) ?_ (hl := by (first | exact .c _ | (simp only [go_sem, seval, reduceCtorEq, sent_v, strsC]; done))))
        exact ⟨rfl, rfl⟩
      · (refine W.fg (qd_ok D hok t (j : Nat) l' e p) (d := s.v) (by simp only [r103, go_sem, seval, reduceCtorEq, sent_v, strsC]; rfl) (by simp only [resV, go_sem, seval, reduceCtorEq, sent_v, strsC]; exact wk_here) ?_ (hl := by (first | exact .c _ | (simp only [go_sem, seval, reduceCtorEq, sent_v, strsC]; done))))
        exact ⟨he, _, _, _, rfl, rfl⟩
    have b3 : ((tokL t i).text == [105, 110, 102, 105, 120]) = false := by simpa using e3
    rw [if_neg e3] at hr
    ((try refine W.a ?_); simp only [go_sem, seval, reduceCtorEq, rsA D, b3])
    refine W.no rfl ?_
    by_cases e4 : (tokL t i).text = [105, 110, 102, 105, 120, 108]
    · have b4 : ((tokL t i).text == [105, 110, 102, 105, 120, 108]) = true := by simpa using e4
      rw [if_pos e4] at hr
      ((try refine W.a ?_); simp only [go_sem, seval, reduceCtorEq, rsA D, b4])
      refine W.yes rfl ?_
      ((try refine W.a ?_); simp only [go_sem, seval, reduceCtorEq, rsA D])
      (refine W.call (DC.liftR D (fun D' => qr_op w0 t ht (i + 1) hil (tokL t i).pos 1 (by decide) l hl _ b v D')) rfl rfl (by first | rfl | simp) ?_)
      intro d σ1 hR
      rw [hr] at hR
      obtain ⟨s, j, l', e, p, rfl, rfl, hst⟩ := hend hR
      ((try refine W.a ?_); simp only [go_sem, seval, reduceCtorEq, rsA D, sent_v])
      rcases hst with ⟨rfl, rfl, rfl⟩ | ⟨he, rfl⟩
      · (refine W.fg (qd_ok D hok t (j : Nat) l' 0 0) (d := s.v) (by simp only [r103, go_sem, seval, reduceCtorEq, sent_v, strsC]; rfl) (by simp only [resV, go_sem, seval, reduceCtorEq, sent_v, strsC]; exact wk_here) ?_ (hl := by (first | exact .c _ | (simp only [go_sem, seval, reduceCtorEq, sent_v, strsC]; done))))
        exact ⟨rfl, rfl⟩
      · (refine W.fg (qd_ok D hok t (j : Nat) l' e p) (d := s.v) (by simp only [r103, go_sem, seval, reduceCtorEq, sent_v, strsC]; rfl) (by simp only [resV, go_sem, seval, reduceCtorEq, sent_v, strsC]; exact wk_here) ?_ (hl := by (first | exact .c _ | (simp only [go_sem, seval, reduceCtorEq, sent_v, strsC]; done))))
        exact ⟨he, _, _, _, rfl, rfl⟩
    have b4 : ((tokL t i).text == [105, 110, 102, 105, 120, 108]) = false := by simpa using e4
    rw [if_neg e4] at hr
    ((try refine W.a ?_); simp only [go_sem, seval, reduceCtorEq, rsA D, b4])
    refine W.no rfl ?_
    by_cases e5 : (tokL t i).text = [105, 110, 102, 105, 120, 114]
    · have b5 : ((tokL t i).text == [105, 110, 102, 105, 120, 114]) = true := by simpa using e5
      rw [if_pos e5] at hr
      ((try refine W.a ?_); simp only [go_sem, seval, reduceCtorEq, rsA D, b5])
      refine W.yes rfl ?_
      ((try refine W.a ?_); simp only [go_sem, seval, reduceCtorEq, rsA D])
      (refine W.call (DC.liftR D (fun D' => qr_op w0 t ht (i + 1) hil (tokL t i).pos 2 (by decide) l hl _ b v D')) rfl rfl (by first | rfl | simp) ?_)
      intro d σ1 hR
      rw [hr] at hR
      obtain ⟨s, j, l', e, p, rfl, rfl, hst⟩ := hend hR
      ((try refine W.a ?_); simp only [go_sem, seval, reduceCtorEq, rsA D, sent_v])
      rcases hst with ⟨rfl, rfl, rfl⟩ | ⟨he, rfl⟩
      · (refine W.fg (qd_ok D hok t (j : Nat) l' 0 0) (d := s.v) (by simp only [r103, go_sem, seval, reduceCtorEq, sent_v, strsC]; rfl) (by simp only [resV, go_sem, seval, reduceCtorEq, sent_v, strsC]; exact wk_here) ?_ (hl := by (first | exact .c _ | (simp only [go_sem, seval, reduceCtorEq, sent_v, strsC]; done))))
        exact ⟨rfl, rfl⟩
      · (refine W.fg (qd_ok D hok t (j : Nat) l' e p) (d := s.v) (by simp only [r103, go_sem, seval, reduceCtorEq, sent_v, strsC]; rfl) (by simp only [resV, go_sem, seval, reduceCtorEq, sent_v, strsC]; exact wk_here) ?_ (hl := by (first | exact .c _ | (simp only [go_sem, seval, reduceCtorEq, sent_v, strsC]; done))))
        exact ⟨he, _, _, _, rfl, rfl⟩
    have b5 : ((tokL t i).text == [105, 110, 102, 105, 120, 114]) = false := by simpa using e5
    rw [if_neg e5] at hr
    ((try refine W.a ?_); simp only [go_sem, seval, reduceCtorEq, rsA D, b5])
    refine W.no rfl ?_
    ((try refine W.a ?_); simp only [go_sem, seval, reduceCtorEq, rsA D, hwb])
    ((try refine W.a ?_); simp only [go_sem, seval, reduceCtorEq, rsA D])
    (refine W.call (DC.liftR D (fun D' => qr_clause w0 t ht i hi (tokL t i).pos l _ b v D')) rfl rfl (by first | rfl | simp) ?_)
    intro d σ1 hR
    rw [hr] at hR
    obtain ⟨s, j, l', e, p, rfl, rfl, hst⟩ := hend hR
    ((try refine W.a ?_); simp only [go_sem, seval, reduceCtorEq, rsA D, sent_v])
    rcases hst with ⟨rfl, rfl, rfl⟩ | ⟨he, rfl⟩
    · (refine W.fg (qd_ok D hok t (j : Nat) l' 0 0) (d := s.v) (by simp only [r103, go_sem, seval, reduceCtorEq, sent_v, strsC]; rfl) (by simp only [resV, go_sem, seval, reduceCtorEq, sent_v, strsC]; exact wk_here) ?_ (hl := by (first | exact .c _ | (simp only [go_sem, seval, reduceCtorEq, sent_v, strsC]; done))))
      exact ⟨rfl, rfl⟩
    · (refine W.fg (qd_ok D hok t (j : Nat) l' e p) (d := s.v) (by simp only [r103, go_sem, seval, reduceCtorEq, sent_v, strsC]; rfl) (by simp only [resV, go_sem, seval, reduceCtorEq, sent_v, strsC]; exact wk_here) ?_ (hl := by (first | exact .c _ | (simp only [go_sem, seval, reduceCtorEq, sent_v, strsC]; done))))
      exact ⟨he, _, _, _, rfl, rfl⟩
  · have n1 : ((tokL t i).kind == 1) = false := by simpa using hk1
    simp only [hk1, false_and, if_false] at hr
    (refine W.c1 (DC.lift D (fun D' => qr_tok w0 t i l 0 0 _ b v D')) ?_; simp only [go_sem, seval, reduceCtorEq, rsA D, n1])
    refine W.no rfl ?_
    ((try refine W.a ?_); simp only [go_sem, seval, reduceCtorEq, rsA D])
    (refine W.call (DC.liftR D (fun D' => qr_clause w0 t ht i hi (tokL t i).pos l _ b v D')) rfl rfl (by first | rfl | simp) ?_)
    intro d σ1 hR
    rw [hr] at hR
    obtain ⟨s, j, l', e, p, rfl, rfl, hst⟩ := hend hR
    ((try refine W.a ?_); simp only [go_sem, seval, reduceCtorEq, rsA D, sent_v])
    rcases hst with ⟨rfl, rfl, rfl⟩ | ⟨he, rfl⟩
    · (refine W.fg (qd_ok D hok t (j : Nat) l' 0 0) (d := s.v) (by simp only [r103, go_sem, seval, reduceCtorEq, sent_v, strsC]; rfl) (by simp only [resV, go_sem, seval, reduceCtorEq, sent_v, strsC]; exact wk_here) ?_ (hl := by (first | exact .c _ | (simp only [go_sem, seval, reduceCtorEq, sent_v, strsC]; done))))
      exact ⟨rfl, rfl⟩
    · (refine W.fg (qd_ok D hok t (j : Nat) l' e p) (d := s.v) (by simp only [r103, go_sem, seval, reduceCtorEq, sent_v, strsC]; rfl) (by simp only [resV, go_sem, seval, reduceCtorEq, sent_v, strsC]; exact wk_here) ?_ (hl := by (first | exact .c _ | (simp only [go_sem, seval, reduceCtorEq, sent_v, strsC]; done))))
      exact ⟨he, _, _, _, rfl, rfl⟩
end
section
attribute [local go_sem] strsC posC qdX qdY rs_len rs_g0 rs_g rs_s0 rs_s rs_sv zeroB

theorem ref10_Read (w0 : World) (s : List UInt8) (hs : s.length ≤ 2048) (σ : H) : DC Tryz.prog w0 48 [S s] σ (Same (srcV (readS s)) σ) := by
  refine k48.go rfl (fun hok hsz => ?_)
  generalize hr : readS s = r
  unfold readS at hr
  ((try refine W.a ?_); simp only [go_sem, seval, reduceCtorEq, c48])
  (refine W.c1 (ref01_Lex s (by omega) _) ?_; simp only [go_sem, seval, reduceCtorEq])
  by_cases he : (lexL s).err = 0
  · have hb : ((lexL s).err != 0) = false := by simpa using he
    rw [if_pos he] at hr
    have hT := lex_end hs he
    have hle := hT.le
    have hlen := lexL_count s
    generalize (lexL s).toks = t at *
    ((try refine W.a ?_); simp only [go_sem, seval, reduceCtorEq, hb])
    refine W.no rfl ?_
    ((try refine W.a ?_); simp only [go_sem, seval, reduceCtorEq])
    (refine W.c1 (ref02_Default w0 _) ?_; simp only [go_sem, seval, reduceCtorEq])
    refine W.own 10 41 16 rfl ?_
    obtain ⟨τ, D, hτl, hrz⟩ : ∃ τ : H, Two τ (σ.length + 1) σ.length ∧ τ.length = σ.length + 2 ∧ ∀ X Y L, σ ++ Y :: X :: L = rs τ (σ.length + 1) σ.length X Y ++ L := ⟨σ ++ [.gone, .gone], ⟨by omega, by simp, by simp⟩, by simp, fun X Y L => by unfold rs; simp⟩
    have ho : ops0.length ≤ 64 ∧ ops0 ≠ [] := by decide
    have hokz : ∀ (i : Int) (l : List OpT) (e p : Int), H.ok (qd τ (σ.length + 1) σ.length t i l e p) := fun i l e p => by
      have : qd τ (σ.length + 1) σ.length t i l e p = σ ++ [qdY l, qdX t i σ.length l e p] := by
        have := hrz (qdX t i σ.length l e p) (qdY l) []
        rw [List.append_nil] at this
        exact this.symm
      rw [this]
      refine H.ok_append hok fun b hb cs tg hc x hx => ?_
      simp only [List.mem_cons, List.not_mem_nil, or_false] at hb
      rcases hb with rfl | rfl
      · unfold qdY at hc; cases hc
      · unfold qdX at hc
        injection hc with hc _
        subst hc
        simp only [List.mem_cons, List.not_mem_nil, or_false] at hx
        rcases hx with rfl | rfl | rfl | rfl | rfl
        · exact .c _
        · exact .c _
        · exact .c _
        · exact .c _
        · exact .osl (by simp)
    ((try refine W.a ?_); simp only [go_sem, seval, reduceCtorEq, hrz])
    let I0 : AllSt → Prop := fun x => x.acc.length ≤ x.i ∧ x.i ≤ t.length ∧ x.l.length ≤ 64 ∧ x.l ≠ [] ∧ r = allS t x.l x.i x.acc
    let I1 : AllSt × Int × Int → Prop := fun x => (x.2.1 = 0 ∧ x.2.2 = 0 ∧ I0 x.1) ∨ ((x.2.1 == 0) = false ∧ r = .error ⟨x.2.1, x.2.2⟩)
    refine W.loopP (α := AllSt × Int × Int) (fun x => I1 x)
      (fun x => ⟨((base.put (some 9) (.ptr (σ.length + 1) 0)).put (some 10) (.osl τ.length (x.1.acc.map Sent.cs))), qd τ (σ.length + 1) σ.length t (x.1.i : Nat) x.1.l x.2.1 x.2.2 ++ [.spare 41 16 x.1.acc.length]⟩) (fun x => if x.2.1 = 0 then t.length + 1 - x.1.i else 0) (⟨[], 0, ops0⟩, 0, 0) (.inl ⟨rfl, rfl, Nat.zero_le _, Nat.zero_le _, ho.1, ho.2, hr.symm⟩) ?_ (fun x hx => ?_)
    · (refine Lew.env ?_; exact lee_here)
    · obtain ⟨⟨acc, i, l⟩, e, p⟩ := x
      simp only [I1] at hx
      rcases hx with ⟨rfl, rfl, h1, h2, h3, h4, h5⟩ | ⟨he1, h1⟩
      · simp only at h1 h2 h3 h4 h5
        rw [allS_eq] at h5
        by_cases hk0 : (tokL t i).kind = 0
        · have n0 : ((tokL t i).kind != 0) = false := by simpa using hk0
          rw [if_pos hk0] at h5
          subst h5
          ((try refine W.a ?_); simp only [go_sem, seval, reduceCtorEq, rsA D])
          (refine W.c1 (DC.lift D (fun D' => qr_tok w0 t i l 0 0 _ (σ.length + 1) σ.length D')) ?_; simp only [go_sem, seval, reduceCtorEq, rsA D, n0])
          refine W.no rfl ?_
          ((try refine W.a ?_); simp only [go_sem, seval, reduceCtorEq, rsA D])
          refine W.no rfl ?_
          ((try refine W.a ?_); simp only [go_sem, seval, reduceCtorEq, rsA D])
          (apply W.dregE (List.cons_ne_nil _ _); case hc => ((apply CanonE.advPO; simp only [go_sem, seval, reduceCtorEq, rsA D]); exact CanonE.nil))
          ((try refine W.a ?_); simp only [go_sem, seval, reduceCtorEq, rsA D])
          rw [← hrz]
          (refine W.fs (hok) (by simp only [r48, go_sem, seval, reduceCtorEq, srcV, sentsC]; rfl) ?_ (hl := by (first | exact .c _ | (simp only [go_sem, seval, reduceCtorEq, srcV, sentsC]; done))); simp only [resV, srcV, sentsC]; try exact V.wk.rfl _)
          (all_goals exact wk_here)
        · have n0 : ((tokL t i).kind != 0) = true := by simpa using hk0
          rw [if_neg hk0] at h5
          have hil := tokL_lt hk0
          ((try refine W.a ?_); simp only [go_sem, seval, reduceCtorEq, rsA D])
          (refine W.c1 (DC.lift D (fun D' => qr_tok w0 t i l 0 0 _ (σ.length + 1) σ.length D')) ?_; simp only [go_sem, seval, reduceCtorEq, rsA D, n0])
          refine W.yes rfl ?_
          ((try refine W.a ?_); simp only [go_sem, seval, reduceCtorEq, rsA D])
          (refine W.call (DC.liftR D (fun D' => qr_One w0 t hle i h2 l h3 _ (σ.length + 1) σ.length D')) rfl rfl (by first | rfl | simp) ?_)
          intro d σ1 hR
          obtain ⟨s', j, l', e, p, rfl, rfl, hst⟩ := rq_out hR
          have hb1 : (acc.length + 1) * 200 ≤ 140737488355328 := by omega
          have hb2 : acc.length + 1 ≤ 140737488355328 := by omega
          ((try refine W.a ?_); simp only [go_sem, seval, reduceCtorEq, rsA D, sent_v, hb1, hb2])
          rcases hst with ⟨rfl, rfl, hs'⟩ | ⟨he1, hs'⟩
          · rw [hs'] at h5
            have hf := sentS_far hs'
            have hop := sent_ops h3 h4 hs'
            refine .inv ⟨(⟨acc ++ [s'], j, l'⟩, 0, 0), .inl ⟨rfl, rfl, by simp; omega, hf.2, hop.1, hop.2, h5⟩, by simp only [if_true]; omega, ?_⟩
            simp only [go_sem, seval, reduceCtorEq, qd, List.map_append, List.length_append, sent_cs]
            (refine Lew.cutL (hokz (j : Nat) l' 0 0) ?_ (by simp; omega) (by simp) ?_ ?_ ?_; exact lee_here; ((try simp only [okB, wkB, go_sem, seval, reduceCtorEq, rs_len]) <;> omega); (simp only [List.length_cons, List.length_nil, Nat.reduceAdd, List.take_succ_cons, List.take_zero, wkB, and_true]; (repeat' (refine And.intro ?_ ?_)) <;> (first | exact Blk.wk.rfl _ | (refine Blk.wk_cells ?_ rfl; (exact wk_here)))); (repeat' (first | exact LowE.base _ | (refine LowE.put ?_ (by first | exact .c _ | ((try simp only [okB, wkB, go_sem, seval, reduceCtorEq, rs_len]) <;> omega))))))
          · rw [hs'] at h5
            have hne : ¬ e = 0 := by simpa using he1
            refine .inv ⟨(⟨acc ++ [s'], j, l'⟩, e, p), .inr ⟨he1, h5⟩, by simp only [if_neg hne, if_true]; omega, ?_⟩
            simp only [go_sem, seval, reduceCtorEq, qd, List.map_append, List.length_append, sent_cs]
            (refine Lew.cutL (hokz (j : Nat) l' e p) ?_ (by simp; omega) (by simp) ?_ ?_ ?_; exact lee_here; ((try simp only [okB, wkB, go_sem, seval, reduceCtorEq, rs_len]) <;> omega); (simp only [List.length_cons, List.length_nil, Nat.reduceAdd, List.take_succ_cons, List.take_zero, wkB, and_true]; (repeat' (refine And.intro ?_ ?_)) <;> (first | exact Blk.wk.rfl _ | (refine Blk.wk_cells ?_ rfl; (exact wk_here)))); (repeat' (first | exact LowE.base _ | (refine LowE.put ?_ (by first | exact .c _ | ((try simp only [okB, wkB, go_sem, seval, reduceCtorEq, rs_len]) <;> omega))))))
      · subst h1
        have hb1 : (e != 0) = true := by rw [bne, he1]; rfl
        ((try refine W.a ?_); simp only [go_sem, seval, reduceCtorEq, rsA D, he1])
        refine W.no rfl ?_
        ((try refine W.a ?_); simp only [go_sem, seval, reduceCtorEq, rsA D, hb1])
        refine W.yes rfl ?_
        ((try refine W.a ?_); simp only [go_sem, seval, reduceCtorEq, rsA D])
        (apply W.dregE (List.cons_ne_nil _ _); case hc => ((apply CanonE.advPO; simp only [go_sem, seval, reduceCtorEq, rsA D]); exact CanonE.nil))
        ((try refine W.a ?_); simp only [go_sem, seval, reduceCtorEq, rsA D])
        rw [← hrz]
        (refine W.fs (hok) (by simp only [r48, go_sem, seval, reduceCtorEq, srcV]; rfl) ?_ (hl := by (first | exact .c _ | (simp only [go_sem, seval, reduceCtorEq, srcV]; done))); simp only [resV, srcV]; try exact V.wk.rfl _)
        (all_goals exact wk_here)
  · have hb : ((lexL s).err != 0) = true := by simpa using he
    rw [if_neg he] at hr
    subst hr
    ((try refine W.a ?_); simp only [go_sem, seval, reduceCtorEq, hb])
    refine W.yes rfl ?_
    ((try refine W.a ?_); simp only [go_sem, seval, reduceCtorEq])
    (refine W.fs (hok) (by simp only [r48, go_sem, seval, reduceCtorEq, srcV]; rfl) ?_ (hl := by (first | exact .c _ | (simp only [go_sem, seval, reduceCtorEq, srcV]; done))); simp only [resV, srcV]; try exact V.wk.rfl _)
    (all_goals exact wk_here)
end
end Go.Proofs.YtlogjjnimlnpkaaGreatDoor
namespace Go.Proofs.YtlogjjnimlnpkaaGreatDoor
open Go.RowKit Go.Lamb

theorem sentS_pos {t : List Tok} {l l' : List OpT} {i j : Nat} {s : Sent} (h : sentS t l i = .ok (s, j, l')) : s.pos = (tokL t i).pos := by
  rw [sentS_dot] at h
  unfold dotP at h
  split at h
  · cases h
  · split at h
    · injection h with h; injection h with h _; subst h; rfl
    · unfold endS at h
      split at h
      · injection h with h; injection h with h _; subst h; rfl
      · cases h
theorem allS_ok {t : List Tok} {P : Int → Prop} (hP : ∀ i, P (tokL t i).pos) : ∀ (n : Nat) (l : List OpT) (i : Nat) (acc : List Sent) (xs : List Sent) (l' : List OpT), t.length - i ≤ n → i ≤ t.length → (∀ x ∈ acc, P x.pos) → allS t l i acc = .ok (xs, l') → xs.length + i ≤ acc.length + t.length ∧ ∀ x ∈ xs, P x.pos
  | n, l, i, acc, xs, l', hn, hi, ha, h => by
    rw [allS_eq] at h
    split at h
    · injection h with h; injection h with h _; subst h
      exact ⟨by omega, ha⟩
    · rename_i h0
      have := tokL_lt h0
      split at h
      · cases h
      · rename_i s j l2 hs
        have hf := sentS_far hs
        cases n with
        | zero => omega
        | succ n =>
          have := allS_ok hP n l2 j (acc ++ [s]) xs l' (by omega) hf.2 (fun x hx => by
            rcases List.mem_append.1 hx with h' | h'
            · exact ha x h'
            · rw [List.mem_singleton.1 h', sentS_pos hs]; exact hP i) h
          rw [List.length_append] at this
          simp only [List.length_cons, List.length_nil] at this
          exact ⟨by omega, this.2⟩
theorem tok_place {s : List UInt8} (hs : s.length ≤ 65536) (he : (lexL s).err = 0) (i : Nat) : 0 ≤ (tokL (lexL s).toks i).pos ∧ (tokL (lexL s).toks i).pos ≤ s.length := by
  obtain ⟨hg, hne, _⟩ := good_lexL hs he
  have hp : 0 < (lexL s).toks.length := List.length_pos_iff.2 hne
  have hk : ∀ k (h : k < (lexL s).toks.length), 0 ≤ ((lexL s).toks[k]).pos ∧ ((lexL s).toks[k]).pos ≤ s.length := fun k h => by
    have := toAt_ok h hg
    have h1 := this.pos
    have h2 := this.le
    omega
  rcases Nat.lt_or_ge i (lexL s).toks.length with h | h
  · rw [tokL_in h]; exact hk i h
  · rw [tokL_out h]
    obtain ⟨x, h1, h2⟩ := lastPos_at hp
    have h3 := hk ((lexL s).toks.length - 1) (by omega)
    rw [List.getElem?_eq_getElem (by omega)] at h1
    injection h1 with h1
    show 0 ≤ lastPos (lexL s).toks ∧ lastPos (lexL s).toks ≤ s.length
    rw [h2, ← h1]; exact h3
theorem readS_k {s : List UInt8} {xs : List Sent} {l : List OpT} (hs : s.length ≤ 2048) (h : readS s = .ok (xs, l)) : (lexL s).err = 0 ∧ allS (lexL s).toks ops0 0 [] = .ok (xs, l) ∧ xs.length ≤ s.length + 1 ∧ ∀ x ∈ xs, 0 ≤ x.pos ∧ x.pos ≤ s.length := by
  unfold readS at h
  by_cases he : (lexL s).err = 0
  · rw [if_pos he] at h
    have := allS_ok (t := (lexL s).toks) (P := fun p => 0 ≤ p ∧ p ≤ s.length) (fun i => tok_place (by omega) he i) _ ops0 0 [] xs l (Nat.le_refl _) (Nat.zero_le _) (fun _ h => by cases h) h
    have hc := lexL_count s
    simp only [List.length_nil] at this
    exact ⟨he, h, by omega, this.2⟩
  · rw [if_neg he] at h; cases h
end Go.Proofs.YtlogjjnimlnpkaaGreatDoor
namespace Go.Proofs.YtlogjjnimlnpkaaGreatDoor
open Go.RowKit Go.Lamb
attribute [local go_sem] advO_skip advO_reg advO_seq advO_block advO_exit advO_endb advO_opsNil advO_ops advG_yes advG_no advG_none advS_some advS_none advO_cond advO_loop advO_dreg advO_ret advO_bad advO_inv advO_nil advO_zero wantedV Lamb.step ev_t ev_k put_some put_none argEnv popTo cellsAt V.cellsV V.rows V.toC toCs fillV bytesC byteRows appV rowsV boundV boundL binV binInt binStr eqC eqL V.isNil leaves V.leaf Ins.quiet Ins.pure List.getD_cons_zero List.getD_cons_succ List.getD_nil List.all_cons List.all_nil List.length_cons List.length_nil List.take_succ_cons List.take_zero List.drop_succ_cons List.drop_zero List.cons_append List.nil_append List.append_nil List.append_assoc List.map_cons List.map_nil List.getElem?_cons_zero List.getElem?_cons_succ List.length_append List.length_set hget0 hget hset0 hset hsets hgs0 hgs hss0 hss List.set_cons_zero List.set_cons_succ List.forall_mem_cons List.not_mem_nil false_implies implies_true Option.map_some Bool.and_true Bool.true_and Bool.not_not Bool.not_true Bool.not_false Bool.and_self Bool.or_true Bool.true_or Bool.or_false Bool.false_or Bool.and_false Bool.false_and Bool.false_eq_true beq_self_eq_true and_self and_true true_and if_true if_false Nat.zero_add Nat.add_zero Nat.le_refl Int.toNat_natCast decide_true decide_false beq_t beq_f List.length_map List.getElem?_map I S B opsC toksC OpT.v OpT.cs OpT.zero Tok.v Tok.cs Pre.v Pre.cs_eq k_mk name_mk n_mk l_mk pos_mk Pre.app applyL natCast0 natCast1 natCast2 AOp.o AOp.m AOp.f AOp.l AOp.d AOp.n AOp.x AOp.s AOp.k AOp.y AOp.z EOp.q low_c low_void low_any low_csl low_nilf low_ptr low_osl low_agg low_tup low_fn resEval advPO_nil advPO_loud advPO_quiet pL_yes pL_no pLS_some pLS_none pQ_yes pQ_no pQS_some pQS_loud eq_self Nat.sub_zero

theorem ref10_SameAll (w0 : World) (xs : List Sent) (hlen : xs.length ≤ 1000000) (σ : H) : DC Tryz.prog w0 49 [.c (sentsC xs), .c (sentsC xs)] σ (Same (B true) σ) := by
  refine k49.go rfl (fun hok hsz => ?_)
  ((try refine W.a ?_); simp only [go_sem, seval, reduceCtorEq, c49, sentsC, bne_self_eq_false'])
  refine W.no rfl ?_
  ((try refine W.a ?_); simp only [go_sem, seval, reduceCtorEq])
  refine W.loopP (fun i => i ≤ xs.length) (fun i => ⟨((((base.put (some 0) (.c (sentsC xs))).put (some 1) (.c (sentsC xs))).put (some 4) (B false)).put (some 5) (I (i : Nat))), σ⟩) (fun i => xs.length - i) 0 (Nat.zero_le _) ?_ (fun i hi => ?_)
  · (refine Lew.env ?_; exact lee_here)
  · by_cases hlt : i < xs.length
    · have h1 : ((i : Int) < (xs.length : Int)) := by omega
      have hx : xs[i]? = some xs[i] := List.getElem?_eq_getElem hlt
      have hw : IntKind.i64.wrap ((i : Int) + 1) = ((i + 1 : Nat) : Int) := by rw [wrap_in] <;> omega
      ((try refine W.a ?_); simp only [go_sem, seval, reduceCtorEq, sentsC, h1])
      refine W.yes rfl ?_
      ((try refine W.a ?_); simp only [go_sem, seval, reduceCtorEq])
      apply W.dregE (List.cons_ne_nil _ _)
      case hc =>
        (apply CanonE.advPO; simp only [go_sem, seval, reduceCtorEq, sentsC, h1, nat0, hx, sent_cs])
        (apply CanonE.call (ref10_Same w0 xs[i] _); (case hg => rfl); (case hf => rfl); (case ha => first | rfl | simp))
        (apply CanonE.advPO; simp only [go_sem, seval, reduceCtorEq])
        exact CanonE.nil
      ((try refine W.a ?_); simp only [go_sem, seval, reduceCtorEq])
      refine W.no rfl ?_
      ((try refine W.a ?_); simp only [go_sem, seval, reduceCtorEq, hw])
      refine .inv ⟨i + 1, hlt, by omega, ?_⟩
      (refine Lew.env ?_; exact lee_here)
    · have h1 : ¬ ((i : Int) < (xs.length : Int)) := by omega
      ((try refine W.a ?_); simp only [go_sem, seval, reduceCtorEq, sentsC, h1])
      refine W.no rfl ?_
      ((try refine W.a ?_); simp only [go_sem, seval, reduceCtorEq])
      (refine W.fs (hok) (by simp only [r49, go_sem, seval, reduceCtorEq]; rfl) ?_; simp only [resV]; try exact V.wk.rfl _)
theorem law10_SourceReads {w0 : World} (hG : Glob w0) (s : List UInt8) (σ : H) : DC Tryz.prog w0 10 [S s] σ (Same (B true) σ) := by
  refine k10.go rfl (fun hok hsz => ?_)
  ((try refine W.a ?_); simp only [go_sem, seval, reduceCtorEq, c10])
  (refine W.c1 (law10_works hG _) ?_; simp only [go_sem, seval, reduceCtorEq])
  refine W.no rfl ?_
  by_cases hs : s.length > 600
  · have h1 : (s.length : Int) > 600 := by omega
    ((try refine W.a ?_); simp only [go_sem, seval, reduceCtorEq, h1])
    refine W.yes rfl ?_
    ((try refine W.a ?_); simp only [go_sem, seval, reduceCtorEq])
    (refine W.fs (hok) (by simp only [r10, go_sem, seval, reduceCtorEq]; rfl) ?_; simp only [resV]; try exact V.wk.rfl _)
  have h1 : ¬ (s.length : Int) > 600 := by omega
  ((try refine W.a ?_); simp only [go_sem, seval, reduceCtorEq, h1])
  refine W.no rfl ?_
  ((try refine W.a ?_); simp only [go_sem, seval, reduceCtorEq])
  have hr1 := source_Read hG s (by omega)
  have hr2 := ref10_Read w0 s (by omega)
  cases hq : readS s with
  | error x =>
    rw [hq] at hr1 hr2
    (refine W.c1 (hr1 _) ?_; simp only [go_sem, seval, reduceCtorEq, srcV])
    (refine W.c1 (hr2 _) ?_; simp only [go_sem, seval, reduceCtorEq, srcV])
    (refine W.c1 (ref10_SameAll w0 [] (by decide) _) ?_; simp only [go_sem, seval, reduceCtorEq])
    (refine W.c1 (ref02_Same w0 [] _) ?_; simp only [go_sem, seval, reduceCtorEq])
    (refine W.fs (hok) (by simp only [r10, go_sem, seval, reduceCtorEq]; rfl) ?_; simp only [resV]; try exact V.wk.rfl _)
  | ok y =>
    obtain ⟨xs, l⟩ := y
    obtain ⟨_, _, h3, _⟩ := readS_k (by omega) hq
    rw [hq] at hr1 hr2
    (refine W.c1 (hr1 _) ?_; simp only [go_sem, seval, reduceCtorEq, srcV])
    (refine W.c1 (hr2 _) ?_; simp only [go_sem, seval, reduceCtorEq, srcV])
    (refine W.c1 (ref10_SameAll w0 xs (by omega) _) ?_; simp only [go_sem, seval, reduceCtorEq])
    (refine W.c1 (ref02_Same w0 l _) ?_; simp only [go_sem, seval, reduceCtorEq])
    (refine W.fs (hok) (by simp only [r10, go_sem, seval, reduceCtorEq]; rfl) ?_; simp only [resV]; try exact V.wk.rfl _)
end Go.Proofs.YtlogjjnimlnpkaaGreatDoor

/-
  Walks: rows of constants, one behind the other.
  Walks: the first signature.
  Walks: the document's first signature; a signature is the same as itself.
  Walks: numbers as texts; texts joined; a text in brackets.
  Walks: a type's text.
  Walks: the document's examples of signatures; which are more than is looked at.
  Walks: the document's examples of signatures, reckoned; the statements SigAdds and SigFinds.
  The code of some functions, without addresses.
  Plain: what else is known of sentences that are read: errors, places, how many there are.
  Walks: the signature of sentences; the statement SigAll.
-/
import Derived.Test.YtapnncbenhkicaaGreatDoorQJ30
import Derived.Test.YtapnncbenhkicaaGreatDoorQTyA2
import Derived.Test.YtapnncbenhkicaaGreatDoorQJ29
import Derived.Test.YtapnncbenhkicaaGreatDoorQLexG
import Derived.Test.YtapnncbenhkicaaGreatDoorQJ11
import Derived.Lib.ItoaLen
import Derived.Lib.Join
import Derived.Test.YtapnncbenhkicaaGreatDoorChecked
set_option linter.unusedSimpArgs false
set_option linter.unusedVariables false
set_option maxHeartbeats 8000000
set_option maxRecDepth 20000
namespace Go.Proofs.YtapnncbenhkicaaGreatDoor
open Go.RowKit Go.Lamb
attribute [local go_sem] advO_skip advO_reg advO_seq advO_block advO_exit advO_endb advO_opsNil advO_ops advG_yes advG_no advG_none advS_some advS_none advO_cond advO_loop advO_dreg advO_ret advO_bad advO_inv advO_nil advO_zero wantedV Lamb.step ev_t ev_k put_some put_none argEnv popTo cellsAt V.cellsV V.rows V.toC toCs fillV bytesC byteRows appV rowsV boundV boundL binV binInt binStr eqC eqL V.isNil leaves V.leaf Ins.quiet Ins.pure List.getD_cons_zero List.getD_cons_succ List.getD_nil List.all_cons List.all_nil List.length_cons List.length_nil List.take_succ_cons List.take_zero List.drop_succ_cons List.drop_zero List.cons_append List.nil_append List.append_nil List.append_assoc List.map_cons List.map_nil List.getElem?_cons_zero List.getElem?_cons_succ List.length_append List.length_set hget0 hget hset0 hset hsets hgs0 hgs hss0 hss List.set_cons_zero List.set_cons_succ List.forall_mem_cons List.not_mem_nil false_implies implies_true Option.map_some Bool.and_true Bool.true_and Bool.not_not Bool.not_true Bool.not_false Bool.and_self Bool.or_true Bool.true_or Bool.or_false Bool.false_or Bool.and_false Bool.false_and Bool.false_eq_true beq_self_eq_true and_self and_true true_and if_true if_false Nat.zero_add Nat.add_zero Nat.le_refl Int.toNat_natCast decide_true decide_false beq_t beq_f List.length_map List.getElem?_map I S B opsC toksC OpT.v OpT.cs OpT.zero Tok.v Tok.cs Pre.v Pre.cs_eq k_mk name_mk n_mk l_mk pos_mk Pre.app applyL natCast0 natCast1 natCast2 AOp.o AOp.m AOp.f AOp.l AOp.d AOp.n AOp.x AOp.s AOp.k AOp.y AOp.z EOp.q low_c low_void low_any low_csl low_nilf low_ptr low_osl low_agg low_tup low_fn resEval advPO_nil advPO_loud advPO_quiet pL_yes pL_no pLS_some pLS_none pQ_yes pQ_no pQS_some pQS_loud eq_self Nat.sub_zero
section
attribute [local go_sem] Typ.v Typ.cs_eq tk_mk tname_mk tn_mk tl_mk tysC KdT.v KdT.cs NmT.v NmT.cs kdsC nmsC Sg.v Sent.v strsC

theorem nmInfo : (Tryz.prog.info? 75).map (fun i => (i.zero, i.size, i.bytes)) = some (some (.agg #[.string ⟨#[]⟩, .int .i64 0, .string ⟨#[]⟩, .int .i64 0, .slice none 0 0]), 5, 72) := by kernel_rfl
theorem made_rowN (w : World) (n : Nat) (hn : n ≤ 1000000) (zc : Array Value) (hz : zc.size = 5) :
    (w.alloc (.cells (Builtin.zeroCells zc n ++ Builtin.zeroCells zc (grownCap w n 0 75 - n)) 75)).drew.ownsRow w.heap.size 75 5 (.slice (some ⟨w.heap.size, 0, none⟩) 0 (grownCap w n 0 75)) 0 [] := by
  have hge := grownCap_ge w n 0 75
  refine ⟨by simp, .inr ⟨w.heap.size, _, _, rfl, Nat.le_refl _, heap_alloc_new w _, Nat.zero_le _, grownCap_le_maxLen w n 0 75 (by unfold maxLen; omega), ?_, by simp⟩⟩
  simp only [Array.size_append, size_zeroCells, hz]
  omega
set_option maxHeartbeats 4000000 in
set_option maxRecDepth 100000 in
theorem grow_nm (A : Option Addr) (n : Nat) (w : World) (hn : n ≤ 1000000) : Calls Tryz.prog 53 #[.slice A 0 0, .int .i64 n] w (fun e w' => ∃ v, e = .returned v ∧ Below w.heap.size w w' ∧ Roomy w w' 75 5 v) := by
  by_cases h0 : n = 0
  · subst h0
    cases A
    · go_enter Tryz.func53, Tryz.ntmps53
      go_wp2_with fail
      go_ret
      exact ⟨_, rfl, Below.refl _ _, .inl ⟨_, rfl⟩⟩
    · go_enter Tryz.func53, Tryz.ntmps53
      go_wp2_with fail
      go_ret
      exact ⟨_, rfl, Below.refl _ _, .inl ⟨_, rfl⟩⟩
  · obtain ⟨i0, hi0, hz0, hz1, hz2⟩ := info_parts nmInfo
    have h1 : ¬ ((n : Int) < 0) := by omega
    have h2 : (n : Int) > 0 := by omega
    have hw : IntKind.i64.wrap (n : Int) = n := by rw [wrap_in] <;> omega
    cases A
    case none =>
      have hr := Lib.run_append_grow_zeros (P := Tryz.prog) w 29 3 29 75 i0 _ .i64 .i64 Tryz.underlying29 Tryz.underlying3 hi0 hz0 none 0 0 [] (run_firstCells (by simp) (by simp)) n (by omega) (by rw [hz1]; decide) (by omega) (by omega) (by rw [hz2]; omega) (growslice_fits (by omega) (by rw [hz2]; omega))
      go_enter Tryz.func53, Tryz.ntmps53
      go_wp2_with (first
        | (at_builtin; refine Lib.wpList_append_run w rfl (.tmp 20) (.tmp 21) 29 3 rfl _ _ rfl rfl _ _ hr ?_))
      go_ret
      exact ⟨_, rfl, made_below w _, .inr (made_rowN w n hn _ rfl)⟩
    case some a =>
      have hr := Lib.run_append_grow_zeros (P := Tryz.prog) w 29 3 29 75 i0 _ .i64 .i64 Tryz.underlying29 Tryz.underlying3 hi0 hz0 (some a) 0 0 [] (run_firstCells (by simp) (by simp)) n (by omega) (by rw [hz1]; decide) (by omega) (by omega) (by rw [hz2]; omega) (growslice_fits (by omega) (by rw [hz2]; omega))
      go_enter Tryz.func53, Tryz.ntmps53
      go_wp2_with (first
        | (at_builtin; refine Lib.wpList_append_run w rfl (.tmp 20) (.tmp 21) 29 3 rfl _ _ rfl rfl _ _ hr ?_))
      go_ret
      exact ⟨_, rfl, made_below w _, .inr (made_rowN w n hn _ rfl)⟩
theorem slices_GrowN (w0 : World) (n : Nat) (hn : n ≤ 1000000) (σ : H) : DC Tryz.prog w0 53 [.csl [], I n] σ (Same (.osl σ.length []) (σ ++ [.spare 75 5 0])) := by
  refine DC.of_room (enters_fn Tryz.func53 (by kernel_rfl) rfl) fun κ w vs hrep hfit => ?_
  obtain ⟨v, ys, rfl, hv, hfit⟩ := hfit.cons_inv
  obtain ⟨u, zs, rfl, hu, hfit⟩ := hfit.cons_inv
  have := hfit.nil_inv
  subst this
  cases hv with
  | csl h1 =>
    rename_i A
    cases hu with
    | c hu =>
      cases hu with
      | int => exact grow_nm A n w hn
theorem slices_ConcatN (w0 : World) (ls : List (List NmT)) (hn : ls.flatten.length ≤ 100000) (hls : ls.length ≤ 100000) (σ : H) :
    DC Tryz.prog w0 21 [.csl (ls.map fun r => [nmsC r])] σ (Same (.c (nmsC ls.flatten)) σ) := by
  refine k21.go rfl (fun hok hsz => ?_)
  ((try refine W.a ?_); simp only [go_sem, seval, reduceCtorEq, c21])
  refine W.loopP (fun i => i ≤ ls.length) (fun i => ⟨(((((base.put (some 0) (.csl (ls.map fun r => [nmsC r]))).put (some 3) (I (ls.take i).flatten.length)).put (some 9) (.csl (ls.map fun r => [nmsC r]))).put (some 10) (I ls.length)).put (some 11) (I i)), σ⟩) (fun i => ls.length - i) 0 (Nat.zero_le _) ?_ (fun i hi => ?_)
  · (refine Lew.env ?_; exact lee_here)
  · by_cases hlt : i < ls.length
    · have h1 : ((i : Int) < (ls.length : Int)) := by omega
      have hx : ls[i]? = some ls[i] := List.getElem?_eq_getElem hlt
      have hft := flat_take hlt
      have hfl : (ls.take (i + 1)).flatten.length = (ls.take i).flatten.length + ls[i].length := by rw [hft, List.length_append]
      have hle := flat_le (ls := ls) (i + 1)
      have hw : IntKind.i64.wrap ((i : Int) + 1) = ((i + 1 : Nat) : Int) := by rw [wrap_in] <;> omega
      have hw2 : IntKind.i64.wrap (((ls.take i).flatten.length : Int) + (ls[i].length : Int)) = (((ls.take (i + 1)).flatten.length : Nat) : Int) := by rw [wrap_in] <;> omega
      have hneg : ¬ ((((ls.take (i + 1)).flatten.length : Nat) : Int) < 0) := by omega
      ((try refine W.a ?_); simp only [go_sem, seval, reduceCtorEq, h1])
      refine W.yes rfl ?_
      ((try refine W.a ?_); simp only [go_sem, seval, reduceCtorEq, h1, nat0, hx, hw2, hneg])
      refine W.no rfl ?_
      ((try refine W.a ?_); simp only [go_sem, seval, reduceCtorEq, hw])
      refine .inv ⟨i + 1, hlt, by omega, ?_⟩
      (refine Lew.env ?_; exact lee_here)
    · have h1 : ¬ ((i : Int) < (ls.length : Int)) := by omega
      have hi' : i = ls.length := by omega
      subst hi'
      ((try refine W.a ?_); simp only [go_sem, seval, reduceCtorEq, h1])
      refine W.no rfl ?_
      ((try refine W.a ?_); simp only [go_sem, seval, reduceCtorEq, List.take_length])
      (refine W.c1 (slices_GrowN w0 ls.flatten.length (by omega) _) ?_; simp only [go_sem, seval, reduceCtorEq])
      refine W.loopP (fun i => i ≤ ls.length) (fun i => ⟨((((base.put (some 6) (.osl σ.length ((ls.take i).flatten.map NmT.cs))).put (some 25) (.csl (ls.map fun r => [nmsC r]))).put (some 26) (I ls.length)).put (some 27) (I i)), σ ++ [.spare 75 5 (ls.take i).flatten.length]⟩) (fun i => ls.length - i) 0 (Nat.zero_le _) ?_ (fun i hi => ?_)
      · (refine Lew.env ?_; exact lee_here)
      · by_cases hlt : i < ls.length
        · have h1 : ((i : Int) < (ls.length : Int)) := by omega
          have hx : ls[i]? = some ls[i] := List.getElem?_eq_getElem hlt
          have hft := flat_take hlt
          have hfl : (ls.take (i + 1)).flatten.length = (ls.take i).flatten.length + ls[i].length := by rw [hft, List.length_append]
          have hle := flat_le (ls := ls) (i + 1)
          have hb1 : ((ls.take i).flatten.length + ls[i].length) * 72 ≤ 140737488355328 := by omega
          have hb2 : (ls.take i).flatten.length + ls[i].length ≤ 140737488355328 := by omega
          have hb3 : ∀ r ∈ ls[i].map NmT.cs, r.length = 5 := fun r hr => by obtain ⟨o, _, rfl⟩ := List.mem_map.1 hr; rfl
          have hta : (ls.take (i + 1)).flatten.map NmT.cs = (ls.take i).flatten.map NmT.cs ++ ls[i].map NmT.cs := by rw [hft, List.map_append]
          have hw : IntKind.i64.wrap ((i : Int) + 1) = ((i + 1 : Nat) : Int) := by rw [wrap_in] <;> omega
          ((try refine W.a ?_); simp only [go_sem, seval, reduceCtorEq, h1])
          refine W.yes rfl ?_
          ((try refine W.a ?_); simp only [go_sem, seval, reduceCtorEq, h1, nat0, hx, hb1, hb2, eq_self, hw, eq_true hb3])
          refine .inv ⟨i + 1, hlt, by omega, ?_⟩
          simp only [go_sem, seval, reduceCtorEq, hta, hfl]
          (refine Lew.env ?_; exact lee_here)
        · have h1 : ¬ ((i : Int) < (ls.length : Int)) := by omega
          have hi' : i = ls.length := by omega
          subst hi'
          ((try refine W.a ?_); simp only [go_sem, seval, reduceCtorEq, h1])
          refine W.no rfl ?_
          ((try refine W.a ?_); simp only [go_sem, seval, reduceCtorEq, List.take_length])
          (refine W.fs (hok) (by simp only [r21, go_sem, seval, reduceCtorEq]; rfl) ?_; simp only [resV]; try exact V.wk.rfl _)
          (all_goals exact wk_here)
theorem sig_con (w0 : World) (s : Str) (σ : H) : DC Tryz.prog w0 20 [S s] σ (Same (Typ.con s).v σ) := by
  refine k20.go rfl (fun hok hsz => ?_)
  ((try refine W.a ?_); simp only [go_sem, seval, reduceCtorEq, c20])
  (refine W.fg (hok) (d := (Typ.con s).v) (by simp only [r20, go_sem, seval, reduceCtorEq, Typ.con]; rfl) (by simp only [resV, go_sem, seval, reduceCtorEq, Typ.con]; exact wk_here) ?_ (hl := by (first | exact .c _ | (simp only [go_sem, seval, reduceCtorEq, Typ.con]; done))))
  exact ⟨rfl, rfl⟩
theorem ref11_con (w0 : World) (s : Str) (σ : H) : DC Tryz.prog w0 33 [S s] σ (Same (Typ.con s).v σ) := by
  refine k33.go rfl (fun hok hsz => ?_)
  ((try refine W.a ?_); simp only [go_sem, seval, reduceCtorEq, c33])
  (refine W.fg (hok) (d := (Typ.con s).v) (by simp only [r33, go_sem, seval, reduceCtorEq, Typ.con]; rfl) (by simp only [resV, go_sem, seval, reduceCtorEq, Typ.con]; exact wk_here) ?_ (hl := by (first | exact .c _ | (simp only [go_sem, seval, reduceCtorEq, Typ.con]; done))))
  exact ⟨rfl, rfl⟩
theorem ref11_v (w0 : World) (σ : H) : DC Tryz.prog w0 36 [] σ (Same (Typ.var 0).v σ) := by
  refine k36.go rfl (fun hok hsz => ?_)
  ((try refine W.a ?_); simp only [go_sem, seval, reduceCtorEq, c36])
  (refine W.fg (hok) (d := (Typ.var 0).v) (by simp only [r36, go_sem, seval, reduceCtorEq, Typ.var]; rfl) (by simp only [resV, go_sem, seval, reduceCtorEq, Typ.var]; exact wk_here) ?_ (hl := by (first | exact .c _ | (simp only [go_sem, seval, reduceCtorEq, Typ.var]; done))))
  exact ⟨rfl, rfl⟩
theorem ref11_to (w0 : World) (a b : Typ) (σ : H) : DC Tryz.prog w0 35 [a.v, b.v] σ (Same (Typ.arr a b).v σ) := by
  refine k35.go rfl (fun hok hsz => ?_)
  ((try refine W.a ?_); simp only [go_sem, seval, reduceCtorEq, c35])
  (refine W.fg (hok) (d := (Typ.arr a b).v) (by simp only [r35, go_sem, seval, reduceCtorEq, Typ.arr, List.map_cons, List.map_nil]; rfl) (by simp only [resV, go_sem, seval, reduceCtorEq, Typ.arr, List.map_cons, List.map_nil]; exact wk_here) ?_ (hl := by (first | exact .c _ | (simp only [go_sem, seval, reduceCtorEq, Typ.arr, List.map_cons, List.map_nil]; done))))
  exact ⟨rfl, rfl⟩
def rowN (t : Typ) (names : List Str) : List NmT := names.map fun n => ⟨n, t⟩
theorem row_step (t : Typ) {names : List Str} {i : Nat} (h : i < names.length) : (rowN t (names.take (i + 1))).map NmT.cs = (rowN t (names.take i)).map NmT.cs ++ [NmT.cs ⟨names[i], t⟩] := by
  unfold rowN
  rw [List.take_succ_eq_append_getElem h, List.map_append, List.map_append]; rfl
theorem sig_row (w0 : World) (t : Typ) (names : List Str) (hn : names.length ≤ 1000) (σ : H) : DC Tryz.prog w0 22 [t.v, .csl (strsR names)] σ (Same (.c (nmsC (rowN t names))) σ) := by
  refine k22.go rfl (fun hok hsz => ?_)
  have hlr : (strsR names).length = names.length := by simp [strsR]
  ((try refine W.a ?_); simp only [go_sem, seval, reduceCtorEq, c22])
  refine W.own 5 75 5 rfl ?_
  refine W.loopP (fun i => i ≤ names.length) (fun i => ⟨(((((base.put (some 2) (.ptr σ.length 0)).put (some 5) (.osl (σ.length + 1) ((rowN t (names.take i)).map NmT.cs))).put (some 8) (.csl (strsR names))).put (some 9) (I names.length)).put (some 10) (I i)), σ ++ [.cells t.v.cellsV, .spare 75 5 i]⟩) (fun i => names.length - i) 0 (Nat.zero_le _) ?_ (fun i hi => ?_)
  · simp only [go_sem, seval, reduceCtorEq, hlr]
    (refine Lew.env ?_; exact lee_here)
  · by_cases hlt : i < names.length
    · have h1 : ((i : Int) < (names.length : Int)) := by omega
      have hx : (strsR names)[i]? = some [C.str names[i]] := by simp [strsR, hlt]
      have hl : (rowN t (names.take i)).length = i := by simp [rowN, hi]
      have hb1 : (i + 1) * 72 ≤ 140737488355328 := by omega
      have hb2 : i + 1 ≤ 140737488355328 := by omega
      have hta := row_step t hlt
      have hw : IntKind.i64.wrap ((i : Int) + 1) = ((i + 1 : Nat) : Int) := by rw [wrap_in] <;> omega
      ((try refine W.a ?_); simp only [go_sem, seval, reduceCtorEq, h1])
      refine W.yes rfl ?_
      ((try refine W.a ?_); simp only [go_sem, seval, reduceCtorEq, h1, hlr, nat0, hx, hl, hb1, hb2, eq_self, hw])
      refine .inv ⟨i + 1, hlt, by omega, ?_⟩
      simp only [go_sem, seval, reduceCtorEq, hta]
      (refine Lew.env ?_; exact lee_here)
    · have h1 : ¬ ((i : Int) < (names.length : Int)) := by omega
      have htk : names.take i = names := List.take_of_length_le (by omega)
      ((try refine W.a ?_); simp only [go_sem, seval, reduceCtorEq, h1])
      refine W.no rfl ?_
      rw [htk]
      ((try refine W.a ?_); simp only [go_sem, seval, reduceCtorEq])
      (refine W.fs (hok) (by simp only [r22, go_sem, seval, reduceCtorEq]; rfl) ?_; simp only [resV]; try exact V.wk.rfl _)
      (all_goals exact wk_here)
theorem ref11_all (w0 : World) (l : List NmT) (v : Nat) (t : Typ) (names : List Str) (hn : names.length ≤ 1000) (hl : l.length ≤ 1000) (σ : H) (hv : σ[v]? = some (.spare 75 5 l.length)) :
    DC Tryz.prog w0 34 [.osl v (l.map NmT.cs), .csl (strsR names), t.v] σ (Same (.osl v ((l ++ rowN t names).map NmT.cs)) (rz σ v (.spare 75 5 (l ++ rowN t names).length))) := by
  have D : v < σ.length := (List.getElem?_eq_some_iff.1 hv).1
  rw [← rz_here hv]
  refine k34.go rfl (fun hok hsz => ?_)
  have hlr : (strsR names).length = names.length := by simp [strsR]
  have hokX : ∀ k, H.ok (rz σ v (.spare 75 5 k)) := fun k => rz_ok D hok (fun cs tg hc => by cases hc)
  have hzz : ∀ X Y, rz (rz σ v X) v Y = rz σ v Y := fun X Y => by unfold rz; rw [List.set_set]
  rw [hzz]
  have hD := rzA D
  ((try refine W.a ?_); simp only [go_sem, seval, reduceCtorEq, c34, hD, rz_len])
  refine W.loopP (fun i => i ≤ names.length) (fun i => ⟨((((base.put (some 0) (.osl v (l.map NmT.cs ++ (rowN t (names.take i)).map NmT.cs))).put (some 1) (.csl (strsR names))).put (some 5) (.ptr σ.length 0)).put (some 7) (I i)), rz σ v (.spare 75 5 (l.length + i)) ++ [.cells t.v.cellsV]⟩) (fun i => names.length - i) 0 (Nat.zero_le _) ?_ (fun i hi => ?_)
  · simp only [go_sem, seval, reduceCtorEq, List.take_zero, rowN]
    (refine Lew.env ?_; exact lee_here)
  · by_cases hlt : i < names.length
    · have h1 : ((i : Int) < (names.length : Int)) := by omega
      have hx : (strsR names)[i]? = some [C.str names[i]] := by simp [strsR, hlt]
      have hll : (rowN t (names.take i)).length = i := by simp [rowN, hi]
      have hb1 : (l.length + i + 1) * 72 ≤ 140737488355328 := by omega
      have hb2 : l.length + i + 1 ≤ 140737488355328 := by omega
      have hta := row_step t hlt
      have hw : IntKind.i64.wrap ((i : Int) + 1) = ((i + 1 : Nat) : Int) := by rw [wrap_in] <;> omega
      ((try refine W.a ?_); simp only [go_sem, seval, reduceCtorEq, h1, hlr])
      refine W.yes rfl ?_
      ((try refine W.a ?_); simp only [go_sem, seval, reduceCtorEq])
      apply W.dregE (List.cons_ne_nil _ _)
      case hc =>
        (apply CanonE.advPO; simp only [go_sem, seval, reduceCtorEq, h1, hlr, nat0, hx, hll, hb1, hb2, hD, rz_len, rz_g0])
        exact CanonE.nil
      ((try refine W.a ?_); simp only [go_sem, seval, reduceCtorEq, hw])
      refine .inv ⟨i + 1, hlt, by omega, ?_⟩
      simp only [go_sem, seval, reduceCtorEq, hta, Nat.add_assoc]
      (refine Lew.env ?_; exact lee_here)
    · have h1 : ¬ ((i : Int) < (names.length : Int)) := by omega
      have htk : names.take i = names := List.take_of_length_le (by omega)
      have hi' : i = names.length := by omega
      have hlen2 : (rowN t names).length = i := by simp [rowN, hi']
      ((try refine W.a ?_); simp only [go_sem, seval, reduceCtorEq, h1, hlr])
      refine W.no rfl ?_
      rw [htk]
      ((try refine W.a ?_); simp only [go_sem, seval, reduceCtorEq])
      rw [hlen2]
      (refine W.fg (hokX (l.length + i)) (d := .osl v ((l ++ rowN t names).map NmT.cs)) (by simp only [r34, go_sem, seval, reduceCtorEq, List.map_append, rz_len, D]; rfl) (by simp only [resV, go_sem, seval, reduceCtorEq, List.map_append, rz_len, D]; exact wk_here) ?_ (hl := by (first | exact .c _ | (simp only [go_sem, seval, reduceCtorEq, List.map_append, rz_len, D]; done))))
      refine ⟨?_, rfl⟩
      simp only [List.map_append]
end
section
attribute [local go_sem] Typ.v Typ.cs_eq tk_mk tname_mk tn_mk tl_mk tysC KdT.v KdT.cs NmT.v NmT.cs kdsC nmsC Sg.v Sent.v strsC

def tO : Typ := .con [111]
def tN : Typ := .con [105, 110, 116]
def tA : Typ := .var 0
def nm1 : List Str := [[58, 45], [44], [59], [61, 62]]
def nm2 : List Str := [[61]]
def nm3 : List Str := [[105, 115], [60], [61, 60], [62], [62, 61]]
def nm4 : List Str := [[43], [45], [42], [100, 105, 118], [109, 111, 100]]
def nm5 : List Str := [[126]]
def nm6 : List Str := [[116, 114, 117, 101], [102, 97, 105, 108], [33]]
def nm7 : List Str := [[112, 105], [115, 105, 103, 109, 97]]
def startL : List (List NmT) := [rowN (.arr tO (.arr tO tO)) nm1, rowN (.arr tA (.arr tA tO)) nm2, rowN (.arr tN (.arr tN tO)) nm3, rowN (.arr tN (.arr tN tN)) nm4, rowN (.arr tN tN) nm5, rowN tO nm6, rowN (.arr (.arr tA tO) tO) nm7]
def start0 : Sg := ⟨[⟨[111], 0⟩, ⟨[105, 110, 116], 0⟩], startL.flatten, firstRows.flatten⟩
theorem arrow2 (w0 : World) (t a b : Typ) (σ : H) : DC Tryz.prog w0 12 [t.v, .c (.sl [[.int .i64 a.k, .str a.name, .int .i64 a.n, .sl (a.l.map Typ.cs)], [.int .i64 b.k, .str b.name, .int .i64 b.n, .sl (b.l.map Typ.cs)]])] σ (Same (Typ.arr a (.arr b t)).v σ) := by
  have := ty_Arrow w0 t [a, b] (by simp) σ
  simp only [tysC, List.map_cons, List.map_nil, Typ.cs_eq] at this
  exact this
theorem arrow1 (w0 : World) (t a : Typ) (σ : H) : DC Tryz.prog w0 12 [t.v, .c (.sl [[.int .i64 a.k, .str a.name, .int .i64 a.n, .sl (a.l.map Typ.cs)]])] σ (Same (Typ.arr a t).v σ) := by
  have := ty_Arrow w0 t [a] (by simp) σ
  simp only [tysC, List.map_cons, List.map_nil, Typ.cs_eq] at this
  exact this
theorem sig_Start (w0 : World) (σ : H) : DC Tryz.prog w0 7 [] σ (Same start0.v σ) := by
  refine k7.go rfl (fun hok hsz => ?_)
  have c1 : ∀ σ, DC Tryz.prog w0 20 [S [111]] σ (Same tO.v σ) := fun σ => sig_con w0 [111] σ
  have c2 : ∀ σ, DC Tryz.prog w0 20 [S [105, 110, 116]] σ (Same tN.v σ) := fun σ => sig_con w0 [105, 110, 116] σ
  have ha : tA.k = 1 ∧ tA.name = [] ∧ tA.n = 0 ∧ tA.l = [] := ⟨rfl, rfl, rfl, rfl⟩
  have r1 : ∀ t σ, DC Tryz.prog w0 22 [Typ.v t, .csl (strsR nm1)] σ (Same (.c (nmsC (rowN t nm1))) σ) := fun t σ => sig_row w0 t nm1 (by decide) σ
  have r2 : ∀ t σ, DC Tryz.prog w0 22 [Typ.v t, .csl (strsR nm2)] σ (Same (.c (nmsC (rowN t nm2))) σ) := fun t σ => sig_row w0 t nm2 (by decide) σ
  have r3 : ∀ t σ, DC Tryz.prog w0 22 [Typ.v t, .csl (strsR nm3)] σ (Same (.c (nmsC (rowN t nm3))) σ) := fun t σ => sig_row w0 t nm3 (by decide) σ
  have r4' : ∀ t σ, DC Tryz.prog w0 22 [Typ.v t, .csl (strsR nm4)] σ (Same (.c (nmsC (rowN t nm4))) σ) := fun t σ => sig_row w0 t nm4 (by decide) σ
  have r5' : ∀ t σ, DC Tryz.prog w0 22 [Typ.v t, .csl (strsR nm5)] σ (Same (.c (nmsC (rowN t nm5))) σ) := fun t σ => sig_row w0 t nm5 (by decide) σ
  have r6' : ∀ t σ, DC Tryz.prog w0 22 [Typ.v t, .csl (strsR nm6)] σ (Same (.c (nmsC (rowN t nm6))) σ) := fun t σ => sig_row w0 t nm6 (by decide) σ
  have r7' : ∀ t σ, DC Tryz.prog w0 22 [Typ.v t, .csl (strsR nm7)] σ (Same (.c (nmsC (rowN t nm7))) σ) := fun t σ => sig_row w0 t nm7 (by decide) σ
  have hcat : ∀ σ, DC Tryz.prog w0 21 [.csl [[nmsC (rowN (.arr tO (.arr tO tO)) nm1)], [nmsC (rowN (.arr tA (.arr tA tO)) nm2)], [nmsC (rowN (.arr tN (.arr tN tO)) nm3)], [nmsC (rowN (.arr tN (.arr tN tN)) nm4)], [nmsC (rowN (.arr tN tN) nm5)], [nmsC (rowN tO nm6)], [nmsC (rowN (.arr (.arr tA tO) tO) nm7)]]] σ (Same (.c (nmsC startL.flatten)) σ) := fun σ => slices_ConcatN w0 startL (by decide) (by decide) σ
  have a1 : ∀ σ, DC Tryz.prog w0 12 _ σ (Same (Typ.arr tO (.arr tO tO)).v σ) := arrow2 w0 tO tO tO
  have a2 : ∀ σ, DC Tryz.prog w0 12 _ σ (Same (Typ.arr tA (.arr tA tO)).v σ) := arrow2 w0 tO tA tA
  have a3 : ∀ σ, DC Tryz.prog w0 12 _ σ (Same (Typ.arr tN (.arr tN tO)).v σ) := arrow2 w0 tO tN tN
  have a4 : ∀ σ, DC Tryz.prog w0 12 _ σ (Same (Typ.arr tN (.arr tN tN)).v σ) := arrow2 w0 tN tN tN
  have a5 : ∀ σ, DC Tryz.prog w0 12 _ σ (Same (Typ.arr tN tN).v σ) := arrow1 w0 tN tN
  have a6 : ∀ σ, DC Tryz.prog w0 12 _ σ (Same (Typ.arr tA tO).v σ) := arrow1 w0 tO tA
  have a7 : ∀ σ, DC Tryz.prog w0 12 _ σ (Same (Typ.arr (.arr tA tO) tO).v σ) := arrow1 w0 tO (.arr tA tO)
  rw [ha.1, ha.2.1, ha.2.2.1, ha.2.2.2, List.map_nil] at a2 a6
  unfold start0
  generalize startL.flatten = st at hcat ⊢
  generalize Typ.arr (Typ.arr tA tO) tO = t7 at *
  generalize Typ.arr tA (.arr tA tO) = t2 at *
  generalize Typ.arr tA tO = t6 at *
  generalize Typ.arr tO (.arr tO tO) = t1 at *
  generalize Typ.arr tN (.arr tN tO) = t3 at *
  generalize Typ.arr tN (.arr tN tN) = t4 at *
  generalize Typ.arr tN tN = t5 at *
  generalize tO = o at *
  generalize tN = n at *
  ((try refine W.a ?_); simp only [go_sem, seval, reduceCtorEq, c7])
  (refine W.c1 (c1 _) ?_; simp only [go_sem, seval, reduceCtorEq])
  (refine W.c1 (c2 _) ?_; simp only [go_sem, seval, reduceCtorEq])
  apply W.dregE (List.cons_ne_nil _ _)
  case hc =>
    (apply CanonE.advPO; simp only [go_sem, seval, reduceCtorEq])
    (apply CanonE.callw (a1 _); (case hg => rfl); (case hf => rfl); (case ha => rfl); (case hw => ((exact wk_here))))
    (apply CanonE.advPO; simp only [go_sem, seval, reduceCtorEq])
    (apply CanonE.call (r1 t1 _); (case hg => rfl); (case hf => rfl); (case ha => first | rfl | simp))
    (apply CanonE.advPO; simp only [go_sem, seval, reduceCtorEq])
    (apply CanonE.callw (a2 _); (case hg => rfl); (case hf => rfl); (case ha => rfl); (case hw => ((exact wk_here))))
    (apply CanonE.advPO; simp only [go_sem, seval, reduceCtorEq])
    (apply CanonE.call (r2 t2 _); (case hg => rfl); (case hf => rfl); (case ha => first | rfl | simp))
    (apply CanonE.advPO; simp only [go_sem, seval, reduceCtorEq])
    (apply CanonE.callw (a3 _); (case hg => rfl); (case hf => rfl); (case ha => rfl); (case hw => ((exact wk_here))))
    (apply CanonE.advPO; simp only [go_sem, seval, reduceCtorEq])
    (apply CanonE.call (r3 t3 _); (case hg => rfl); (case hf => rfl); (case ha => first | rfl | simp))
    (apply CanonE.advPO; simp only [go_sem, seval, reduceCtorEq])
    (apply CanonE.callw (a4 _); (case hg => rfl); (case hf => rfl); (case ha => rfl); (case hw => ((exact wk_here))))
    (apply CanonE.advPO; simp only [go_sem, seval, reduceCtorEq])
    (apply CanonE.call (r4' t4 _); (case hg => rfl); (case hf => rfl); (case ha => first | rfl | simp))
    (apply CanonE.advPO; simp only [go_sem, seval, reduceCtorEq])
    (apply CanonE.callw (a5 _); (case hg => rfl); (case hf => rfl); (case ha => rfl); (case hw => ((exact wk_here))))
    (apply CanonE.advPO; simp only [go_sem, seval, reduceCtorEq])
    (apply CanonE.call (r5' t5 _); (case hg => rfl); (case hf => rfl); (case ha => first | rfl | simp))
    (apply CanonE.advPO; simp only [go_sem, seval, reduceCtorEq])
    (apply CanonE.call (r6' o _); (case hg => rfl); (case hf => rfl); (case ha => first | rfl | simp))
    (apply CanonE.advPO; simp only [go_sem, seval, reduceCtorEq])
    (apply CanonE.callw (a6 _); (case hg => rfl); (case hf => rfl); (case ha => rfl); (case hw => ((exact wk_here))))
    (apply CanonE.advPO; simp only [go_sem, seval, reduceCtorEq])
    (apply CanonE.callw (a7 _); (case hg => rfl); (case hf => rfl); (case ha => rfl); (case hw => ((exact wk_here))))
    (apply CanonE.advPO; simp only [go_sem, seval, reduceCtorEq])
    (apply CanonE.call (r7' t7 _); (case hg => rfl); (case hf => rfl); (case ha => first | rfl | simp))
    (apply CanonE.advPO; simp only [go_sem, seval, reduceCtorEq])
    (apply CanonE.call (hcat _); (case hg => rfl); (case hf => rfl); (case ha => first | rfl | simp))
    (apply CanonE.advPO; simp only [go_sem, seval, reduceCtorEq])
    exact CanonE.nil
  ((try refine W.a ?_); simp only [go_sem, seval, reduceCtorEq])
  (refine W.c1 (ops_Default w0 _) ?_; simp only [go_sem, seval, reduceCtorEq])
  (refine W.fg (hok) (d := Sg.v ⟨[⟨[111], 0⟩, ⟨[105, 110, 116], 0⟩], st, firstRows.flatten⟩) (by simp only [r7, go_sem, seval, reduceCtorEq]; rfl) (by simp only [resV, go_sem, seval, reduceCtorEq]; exact wk_here) ?_)
  exact ⟨rfl, rfl⟩
end
section
attribute [local go_sem] Typ.v Typ.cs_eq tk_mk tname_mk tn_mk tl_mk tysC KdT.v KdT.cs NmT.v NmT.cs kdsC nmsC Sg.v Sent.v strsC

theorem rz_new (σ : H) (A B C X Y : Blk) : rz (σ ++ [A, B, C, X]) (σ.length + 3) Y = σ ++ [A, B, C, Y] := by
  unfold rz
  rw [List.set_append_right _ _ (by omega)]
  simp [Nat.add_sub_cancel_left]
theorem ref11_allAt (w0 : World) (σ : H) (A B C : Blk) (l l' : List NmT) (t : Typ) (names : List Str) (hn : names.length ≤ 1000) (hl : l.length ≤ 1000) (h : l' = l ++ rowN t names) :
    DC Tryz.prog w0 34 [.osl (σ.length + 3) (l.map NmT.cs), .csl (strsR names), t.v] (σ ++ [A, B, C, .spare 75 5 l.length]) (Same (.osl (σ.length + 3) (l'.map NmT.cs)) (σ ++ [A, B, C, .spare 75 5 l'.length])) := by
  subst h
  have := ref11_all w0 l (σ.length + 3) t names hn hl (σ ++ [A, B, C, .spare 75 5 l.length]) (by simp)
  rwa [rz_new] at this
theorem ref11_Start (w0 : World) (σ : H) : DC Tryz.prog w0 13 [] σ (Same start0.v σ) := by
  refine k13.go rfl (fun hok hsz => ?_)
  have c1 : ∀ σ, DC Tryz.prog w0 33 [S [111]] σ (Same tO.v σ) := fun σ => ref11_con w0 [111] σ
  have c2 : ∀ σ, DC Tryz.prog w0 33 [S [105, 110, 116]] σ (Same tN.v σ) := fun σ => ref11_con w0 [105, 110, 116] σ
  have cv : ∀ σ, DC Tryz.prog w0 36 [] σ (Same tA.v σ) := fun σ => ref11_v w0 σ
  have to : ∀ a b σ, DC Tryz.prog w0 35 [Typ.v a, Typ.v b] σ (Same (Typ.arr a b).v σ) := fun a b σ => ref11_to w0 a b σ
  have hst : startL.flatten = rowN (.arr tO (.arr tO tO)) nm1 ++ (rowN (.arr tA (.arr tA tO)) nm2 ++ (rowN (.arr tN (.arr tN tO)) nm3 ++ (rowN (.arr tN (.arr tN tN)) nm4 ++ (rowN (.arr tN tN) nm5 ++ (rowN tO nm6 ++ rowN (.arr (.arr tA tO) tO) nm7))))) := rfl
  obtain ⟨l1, e1⟩ : ∃ l, l = ([] : List NmT) ++ rowN (.arr tO (.arr tO tO)) nm1 := ⟨_, rfl⟩
  obtain ⟨l2, e2⟩ : ∃ l, l = l1 ++ rowN (.arr tA (.arr tA tO)) nm2 := ⟨_, rfl⟩
  obtain ⟨l3, e3⟩ : ∃ l, l = l2 ++ rowN (.arr tN (.arr tN tO)) nm3 := ⟨_, rfl⟩
  obtain ⟨l4, e4⟩ : ∃ l, l = l3 ++ rowN (.arr tN (.arr tN tN)) nm4 := ⟨_, rfl⟩
  obtain ⟨l5, e5⟩ : ∃ l, l = l4 ++ rowN (.arr tN tN) nm5 := ⟨_, rfl⟩
  obtain ⟨l6, e6⟩ : ∃ l, l = l5 ++ rowN tO nm6 := ⟨_, rfl⟩
  obtain ⟨l7, e7⟩ : ∃ l, l = l6 ++ rowN (.arr (.arr tA tO) tO) nm7 := ⟨_, rfl⟩
  have hl1 : l1.length = 4 := by rw [e1]; rfl
  have hl2 : l2.length = 5 := by rw [e2, List.length_append, hl1]; rfl
  have hl3 : l3.length = 10 := by rw [e3, List.length_append, hl2]; rfl
  have hl4 : l4.length = 15 := by rw [e4, List.length_append, hl3]; rfl
  have hl5 : l5.length = 16 := by rw [e5, List.length_append, hl4]; rfl
  have hl6 : l6.length = 19 := by rw [e6, List.length_append, hl5]; rfl
  have h7 : startL.flatten = l7 := by rw [hst, e7, e6, e5, e4, e3, e2, e1]; simp only [List.append_assoc, List.nil_append]
  have n1 : nm1.length ≤ 1000 := by decide
  have n2 : nm2.length ≤ 1000 := by decide
  have n3 : nm3.length ≤ 1000 := by decide
  have n4 : nm4.length ≤ 1000 := by decide
  have n5 : nm5.length ≤ 1000 := by decide
  have n6 : nm6.length ≤ 1000 := by decide
  have n7 : nm7.length ≤ 1000 := by decide
  have x1 := fun A B C => ref11_allAt w0 σ A B C [] l1 _ nm1 n1 (by simp) e1
  have x2 := fun A B C => ref11_allAt w0 σ A B C l1 l2 _ nm2 n2 (by omega) e2
  have x3 := fun A B C => ref11_allAt w0 σ A B C l2 l3 _ nm3 n3 (by omega) e3
  have x4 := fun A B C => ref11_allAt w0 σ A B C l3 l4 _ nm4 n4 (by omega) e4
  have x5 := fun A B C => ref11_allAt w0 σ A B C l4 l5 _ nm5 n5 (by omega) e5
  have x6 := fun A B C => ref11_allAt w0 σ A B C l5 l6 _ nm6 n6 (by omega) e6
  have x7 := fun A B C => ref11_allAt w0 σ A B C l6 l7 _ nm7 n7 (by omega) e7
  unfold start0
  rw [h7]
  clear hst h7 e1 e2 e3 e4 e5 e6 e7 hl1 hl2 hl3 hl4 hl5 hl6
  generalize tO = o at *
  generalize tN = n at *
  generalize tA = a at *
  ((try refine W.a ?_); simp only [go_sem, seval, reduceCtorEq, c13])
  (refine W.c1 (c1 _) ?_; simp only [go_sem, seval, reduceCtorEq])
  (refine W.c1 (c2 _) ?_; simp only [go_sem, seval, reduceCtorEq])
  refine W.own 3 75 5 rfl ?_
  ((try refine W.a ?_); simp only [go_sem, seval, reduceCtorEq])
  apply W.dregE (List.cons_ne_nil _ _)
  case hc =>
    (apply CanonE.advPO; simp only [go_sem, seval, reduceCtorEq])
    (apply CanonE.call (to o o _); (case hg => rfl); (case hf => rfl); (case ha => first | rfl | simp))
    (apply CanonE.advPO; simp only [go_sem, seval, reduceCtorEq])
    (apply CanonE.call (to o (.arr o o) _); (case hg => rfl); (case hf => rfl); (case ha => first | rfl | simp))
    (apply CanonE.advPO; simp only [go_sem, seval, reduceCtorEq])
    (apply CanonE.call (x1 _ _ _); (case hg => rfl); (case hf => rfl); (case ha => first | rfl | simp))
    (apply CanonE.advPO; simp only [go_sem, seval, reduceCtorEq])
    exact CanonE.nil
  ((try refine W.a ?_); simp only [go_sem, seval, reduceCtorEq])
  apply W.dregE (List.cons_ne_nil _ _)
  case hc =>
    (apply CanonE.advPO; simp only [go_sem, seval, reduceCtorEq])
    (apply CanonE.call (cv _); (case hg => rfl); (case hf => rfl); (case ha => first | rfl | simp))
    (apply CanonE.advPO; simp only [go_sem, seval, reduceCtorEq])
    (apply CanonE.call (cv _); (case hg => rfl); (case hf => rfl); (case ha => first | rfl | simp))
    (apply CanonE.advPO; simp only [go_sem, seval, reduceCtorEq])
    (apply CanonE.call (to a o _); (case hg => rfl); (case hf => rfl); (case ha => first | rfl | simp))
    (apply CanonE.advPO; simp only [go_sem, seval, reduceCtorEq])
    (apply CanonE.call (to a (.arr a o) _); (case hg => rfl); (case hf => rfl); (case ha => first | rfl | simp))
    (apply CanonE.advPO; simp only [go_sem, seval, reduceCtorEq])
    (apply CanonE.call (x2 _ _ _); (case hg => rfl); (case hf => rfl); (case ha => first | rfl | simp))
    (apply CanonE.advPO; simp only [go_sem, seval, reduceCtorEq])
    exact CanonE.nil
  ((try refine W.a ?_); simp only [go_sem, seval, reduceCtorEq])
  apply W.dregE (List.cons_ne_nil _ _)
  case hc =>
    (apply CanonE.advPO; simp only [go_sem, seval, reduceCtorEq])
    (apply CanonE.call (to n o _); (case hg => rfl); (case hf => rfl); (case ha => first | rfl | simp))
    (apply CanonE.advPO; simp only [go_sem, seval, reduceCtorEq])
    (apply CanonE.call (to n (.arr n o) _); (case hg => rfl); (case hf => rfl); (case ha => first | rfl | simp))
    (apply CanonE.advPO; simp only [go_sem, seval, reduceCtorEq])
    (apply CanonE.call (x3 _ _ _); (case hg => rfl); (case hf => rfl); (case ha => first | rfl | simp))
    (apply CanonE.advPO; simp only [go_sem, seval, reduceCtorEq])
    exact CanonE.nil
  ((try refine W.a ?_); simp only [go_sem, seval, reduceCtorEq])
  apply W.dregE (List.cons_ne_nil _ _)
  case hc =>
    (apply CanonE.advPO; simp only [go_sem, seval, reduceCtorEq])
    (apply CanonE.call (to n n _); (case hg => rfl); (case hf => rfl); (case ha => first | rfl | simp))
    (apply CanonE.advPO; simp only [go_sem, seval, reduceCtorEq])
    (apply CanonE.call (to n (.arr n n) _); (case hg => rfl); (case hf => rfl); (case ha => first | rfl | simp))
    (apply CanonE.advPO; simp only [go_sem, seval, reduceCtorEq])
    (apply CanonE.call (x4 _ _ _); (case hg => rfl); (case hf => rfl); (case ha => first | rfl | simp))
    (apply CanonE.advPO; simp only [go_sem, seval, reduceCtorEq])
    exact CanonE.nil
  ((try refine W.a ?_); simp only [go_sem, seval, reduceCtorEq])
  (refine W.c1 (to n n _) ?_; simp only [go_sem, seval, reduceCtorEq])
  (refine W.c1 (x5 _ _ _) ?_; simp only [go_sem, seval, reduceCtorEq])
  (refine W.c1 (x6 _ _ _) ?_; simp only [go_sem, seval, reduceCtorEq])
  apply W.dregE (List.cons_ne_nil _ _)
  case hc =>
    (apply CanonE.advPO; simp only [go_sem, seval, reduceCtorEq])
    (apply CanonE.call (cv _); (case hg => rfl); (case hf => rfl); (case ha => first | rfl | simp))
    (apply CanonE.advPO; simp only [go_sem, seval, reduceCtorEq])
    (apply CanonE.call (to a o _); (case hg => rfl); (case hf => rfl); (case ha => first | rfl | simp))
    (apply CanonE.advPO; simp only [go_sem, seval, reduceCtorEq])
    (apply CanonE.call (to (.arr a o) o _); (case hg => rfl); (case hf => rfl); (case ha => first | rfl | simp))
    (apply CanonE.advPO; simp only [go_sem, seval, reduceCtorEq])
    (apply CanonE.call (x7 _ _ _); (case hg => rfl); (case hf => rfl); (case ha => first | rfl | simp))
    (apply CanonE.advPO; simp only [go_sem, seval, reduceCtorEq])
    exact CanonE.nil
  ((try refine W.a ?_); simp only [go_sem, seval, reduceCtorEq])
  (refine W.c1 (ref02_Default w0 _) ?_; simp only [go_sem, seval, reduceCtorEq])
  (refine W.fg (hok) (d := Sg.v ⟨[⟨[111], 0⟩, ⟨[105, 110, 116], 0⟩], l7, firstRows.flatten⟩) (by simp only [r13, go_sem, seval, reduceCtorEq, ops0]; rfl) (by simp only [resV, go_sem, seval, reduceCtorEq, ops0]; exact wk_here) ?_ (hl := by (first | exact .c _ | (simp only [go_sem, seval, reduceCtorEq, ops0]; done))))
  exact ⟨rfl, rfl⟩
theorem ref02_SameA (w0 : World) (l : List OpT) (σ : H) : DC Tryz.prog w0 27 [.c (opsC l), .c (opsC l)] σ (Same (B true) σ) := by
  refine k27.go rfl (fun hok hsz => ?_)
  have hlen : l.length ≤ 9223372036854775807 := sz_rows (hsz _ (List.mem_cons_self ..))
  have hll : ((l.length : Int) != (l.length : Int)) = false := by simp
  ((try refine W.a ?_); simp only [go_sem, seval, reduceCtorEq, c27, hll])
  refine W.no rfl ?_
  ((try refine W.a ?_); simp only [go_sem, seval, reduceCtorEq])
  refine W.loopP (fun i => i ≤ l.length) (fun i => ⟨(((base.put (some 0) (.c (opsC l))).put (some 1) (.c (opsC l))).put (some 5) (I (i : Nat))), σ⟩) (fun i => l.length - i) 0 (Nat.zero_le _) ?_ (fun i hi => ?_)
  · (refine Lew.env ?_; exact lee_here)
  · by_cases hlt : i < l.length
    · have h1 : ((i : Int) < (l.length : Int)) := by omega
      have hx : l[i]? = some l[i] := List.getElem?_eq_getElem hlt
      have hw : IntKind.i64.wrap ((i : Int) + 1) = ((i + 1 : Nat) : Int) := wrap_next hlt hlen
      ((try refine W.a ?_); simp only [go_sem, seval, reduceCtorEq, h1])
      refine W.yes rfl ?_
      ((try refine W.a ?_); simp only [go_sem, seval, reduceCtorEq])
      (apply W.dregE (List.cons_ne_nil _ _); case hc => ((apply CanonE.advPO; simp only [go_sem, seval, reduceCtorEq, h1, nat0, hx]); exact CanonE.nil))
      ((try refine W.a ?_); simp only [go_sem, seval, reduceCtorEq])
      refine W.no rfl ?_
      ((try refine W.a ?_); simp only [go_sem, seval, reduceCtorEq, hw])
      refine .inv ⟨i + 1, hlt, by omega, ?_⟩
      (refine Lew.env ?_; exact lee_here)
    · have h1 : ¬ ((i : Int) < (l.length : Int)) := by omega
      ((try refine W.a ?_); simp only [go_sem, seval, reduceCtorEq, h1])
      refine W.no rfl ?_
      ((try refine W.a ?_); simp only [go_sem, seval, reduceCtorEq])
      (refine W.fs (hok) (by simp only [r27, go_sem, seval, reduceCtorEq]; rfl) ?_; simp only [resV]; try exact V.wk.rfl _)
theorem ref11_Same (w0 : World) (s : Sg) (hs : SgLe s 90000) (σ : H) : DC Tryz.prog w0 9 [s.v, s.v] σ (Same (B true) σ) := by
  refine k9.go rfl (fun hok hsz => ?_)
  obtain ⟨hs1, hs2, hs3⟩ := hs
  have hk : ((s.kinds.length : Int) != (s.kinds.length : Int)) = false := by simp
  have ht : ((s.types.length : Int) != (s.types.length : Int)) = false := by simp
  ((try refine W.a ?_); simp only [go_sem, seval, reduceCtorEq, c9, hk, ht])
  refine W.no rfl ?_
  ((try refine W.a ?_); simp only [go_sem, seval, reduceCtorEq])
  refine W.loopP (fun i => i ≤ s.kinds.length) (fun i => ⟨((((base.put (some 2) (.ptr σ.length 0)).put (some 3) (.ptr (σ.length + 1) 0)).put (some 4) (B false)).put (some 5) (I (i : Nat))), σ ++ [.cells s.v.cellsV, .cells s.v.cellsV]⟩) (fun i => s.kinds.length - i) 0 (Nat.zero_le _) ?_ (fun i hi => ?_)
  · (refine Lew.env ?_; exact lee_here)
  · by_cases hlt : i < s.kinds.length
    · have h1 : ((i : Int) < (s.kinds.length : Int)) := by omega
      have hx : s.kinds[i]? = some s.kinds[i] := List.getElem?_eq_getElem hlt
      have hw : IntKind.i64.wrap ((i : Int) + 1) = ((i + 1 : Nat) : Int) := wrap_next hlt (by omega)
      ((try refine W.a ?_); simp only [go_sem, seval, reduceCtorEq, h1])
      refine W.yes rfl ?_
      ((try refine W.a ?_); simp only [go_sem, seval, reduceCtorEq])
      (apply W.dregE (List.cons_ne_nil _ _); case hc => ((apply CanonE.advPO; simp only [go_sem, seval, reduceCtorEq, h1, nat0, hx]); exact CanonE.nil))
      ((try refine W.a ?_); simp only [go_sem, seval, reduceCtorEq])
      refine W.no rfl ?_
      ((try refine W.a ?_); simp only [go_sem, seval, reduceCtorEq, hw])
      refine .inv ⟨i + 1, hlt, by omega, ?_⟩
      (refine Lew.env ?_; exact lee_here)
    · have h1 : ¬ ((i : Int) < (s.kinds.length : Int)) := by omega
      ((try refine W.a ?_); simp only [go_sem, seval, reduceCtorEq, h1])
      refine W.no rfl ?_
      ((try refine W.a ?_); simp only [go_sem, seval, reduceCtorEq])
      refine W.loopP (fun i => i ≤ s.types.length) (fun i => ⟨((((base.put (some 2) (.ptr σ.length 0)).put (some 3) (.ptr (σ.length + 1) 0)).put (some 4) (B false)).put (some 6) (I (i : Nat))), σ ++ [.cells s.v.cellsV, .cells s.v.cellsV]⟩) (fun i => s.types.length - i) 0 (Nat.zero_le _) ?_ (fun i hi => ?_)
      · (refine Lew.env ?_; exact lee_here)
      · by_cases hlt : i < s.types.length
        · have h1 : ((i : Int) < (s.types.length : Int)) := by omega
          have hx : s.types[i]? = some s.types[i] := List.getElem?_eq_getElem hlt
          have hw : IntKind.i64.wrap ((i : Int) + 1) = ((i + 1 : Nat) : Int) := wrap_next hlt (by omega)
          ((try refine W.a ?_); simp only [go_sem, seval, reduceCtorEq, h1])
          refine W.yes rfl ?_
          ((try refine W.a ?_); simp only [go_sem, seval, reduceCtorEq])
          apply W.dregE (List.cons_ne_nil _ _)
          case hc =>
            (apply CanonE.advPO; simp only [go_sem, seval, reduceCtorEq, h1, nat0, hx])
            (apply CanonE.call (ref05_Same w0 s.types[i].ty s.types[i].ty _); (case hg => rfl); (case hf => rfl); (case ha => first | rfl | simp))
            (apply CanonE.advPO; simp only [go_sem, seval, reduceCtorEq, sameTy_refl])
            exact CanonE.nil
          ((try refine W.a ?_); simp only [go_sem, seval, reduceCtorEq])
          (apply W.dregE (List.cons_ne_nil _ _); case hc => ((apply CanonE.advPO; simp only [go_sem, seval, reduceCtorEq, h1, nat0, hx]); exact CanonE.nil))
          ((try refine W.a ?_); simp only [go_sem, seval, reduceCtorEq])
          refine W.no rfl ?_
          ((try refine W.a ?_); simp only [go_sem, seval, reduceCtorEq, hw])
          refine .inv ⟨i + 1, hlt, by omega, ?_⟩
          (refine Lew.env ?_; exact lee_here)
        · have h1 : ¬ ((i : Int) < (s.types.length : Int)) := by omega
          ((try refine W.a ?_); simp only [go_sem, seval, reduceCtorEq, h1])
          refine W.no rfl ?_
          ((try refine W.a ?_); simp only [go_sem, seval, reduceCtorEq])
          (refine W.c1 (ref02_SameA w0 s.ops _) ?_; simp only [go_sem, seval, reduceCtorEq])
          (refine W.fs (hok) (by simp only [r9, go_sem, seval, reduceCtorEq]; rfl) ?_; simp only [resV]; try exact V.wk.rfl _)
end
section

theorem strings_JoinD {w0 : World} (l : List Str) (sep : Str) (hj : (Lib.join l sep).length ≤ 100000000) (hn : l.length ≤ 100000000) (σ : H) : DC Tryz.prog w0 41 [.c (.sl (strsR l)), S sep] σ (Same (S (Lib.join l sep)) σ) := by
  refine DC.of_calls (enters_fn Tryz.func41 (by kernel_rfl) rfl) fun κ w vs hrep hfit => ?_
  obtain ⟨v, ys, rfl, hv, hfit⟩ := hfit.cons_inv
  obtain ⟨u, zs, rfl, hu, hfit⟩ := hfit.cons_inv
  have := hfit.nil_inv
  subst this
  cases hu with
  | c hu =>
    cases hu with
    | str _ hls =>
      cases hv with
      | c hv =>
        generalize hr : strsR l = rows at hv
        cases hv with
        | sl rows s A cap xs h0 h1 h2 h3 h4 h5 =>
          subst hr
          have hlen : (strsR l).length = l.length := by simp [strsR]
          rw [hlen] at h1 h3 ⊢
          cases l with
          | nil =>
            refine ⟨_, .c (.str _ (by rw [Lib.join_nil]; decide)), (Tryz.strings_Join_none A cap (bs sep) w).mono ?_⟩
            rintro e w' ⟨rfl, rfl⟩
            exact ⟨rfl, Below.refl _ _⟩
          | cons a r =>
            obtain ⟨b, o, rfl, hm⟩ := h4 (by simp [strsR])
            have hs : s = 1 := by
              have := h0 [C.str a] (by simp [strsR])
              simpa using this.symm
            subst hs
            have hc : ∀ (j : Nat) x, ((a :: r).map bs)[j]? = some x → w.cell? ⟨b, o + j, none⟩ = some (.string x) := fun j x hx => by
              rw [List.getElem?_map] at hx
              have hj' : j < (a :: r).length := by
                rcases Nat.lt_or_ge j (a :: r).length with h | h
                · exact h
                · rw [List.getElem?_eq_none h] at hx; cases hx
              rw [List.getElem?_eq_getElem hj'] at hx
              injection hx with hx
              subst hx
              have hx1 : j < xs.length := by rw [h3]; omega
              have e1 : (strsR (a :: r))[j]'(by rw [hlen]; exact hj') = [C.str (a :: r)[j]] := by simp only [strsR, List.getElem_map]
              have h6 := h5 j (by rw [hlen]; exact hj') 0 (by rw [e1]; exact Nat.zero_lt_one)
              have h7 := hm j hx1
              rw [List.getElem?_eq_getElem hx1] at h7
              have h8 := hrep.mem _ _ _ h7
              rw [h8]
              have e2 : xs.getD (j * 1 + 0) undef = xs[j] := by simp [List.getD, hx1]
              rw [e2] at h6
              simp only [e1, List.getElem_cons_zero] at h6
              generalize xs[j] = y at h6
              cases h6
              rfl
            have hbk : b < w.heap.size := by
              have := hc 0 (bs a) rfl
              exact cell_lt this
            have hmap : ((a :: r).map bs).map (fun x => x.data.toList) = a :: r := by
              rw [List.map_map]
              have : (fun x : ByteArray => x.data.toList) ∘ bs = id := by funext x; rfl
              rw [this, List.map_id]
            have hJ := Tryz.strings_Join b o cap ((a :: r).map bs) (bs sep) w hc hbk (by simp only [List.length_map]; simp only [List.length_cons] at hn ⊢; omega) (by rw [List.length_map]; exact h1) (by rw [hmap]; show (Lib.join (a :: r) sep).length ≤ _; omega)
            rw [hmap, List.length_map] at hJ
            refine ⟨_, .c (.str _ (by unfold maxLen; omega)), hJ.mono ?_⟩
            rintro e w' ⟨rfl, hb⟩
            exact ⟨rfl, hb⟩
theorem ty_put (w0 : World) (s : Str) (b : Bool) (hs : s.length ≤ 100000000) (σ : H) : DC Tryz.prog w0 40 [S s, B b] σ (Same (S (putL s b)) σ) := by
  refine k40.go rfl (fun hok hsz => ?_)
  have h1 : 1 + s.length ≤ 9223372036854775807 := by omega
  have h2 : s.length + 1 + 1 ≤ 9223372036854775807 := by omega
  have h3 : s.length + 1 ≤ 9223372036854775806 := by omega
  have h4 : s.length ≤ 9223372036854775805 := by omega
  ((try refine W.a ?_); simp only [go_sem, seval, reduceCtorEq, c40])
  cases b
  · refine W.no rfl ?_
    ((try refine W.a ?_); simp only [go_sem, seval, reduceCtorEq])
    (refine W.fs (hok) (by simp only [r40, go_sem, seval, reduceCtorEq]; rfl) ?_; simp only [resV]; try exact V.wk.rfl _)
  · refine W.yes rfl ?_
    ((try refine W.a ?_); simp only [go_sem, seval, reduceCtorEq, h1, h2, h3, h4])
    (refine W.fs (hok) (by simp only [r40, go_sem, seval, reduceCtorEq]; rfl) ?_; simp only [resV]; try exact V.wk.rfl _)
end
section
attribute [local go_sem] Typ.v Typ.cs_eq tk_mk tname_mk tn_mk tl_mk tysC

theorem ty_TextArr {w0 : World} (p a b : Typ) (hA : arrowT p = true) (hl : p.l = [a, b]) (hn : (textT p).length ≤ 1000000) (σ : H)
    (ha : ∀ σ, DC Tryz.prog w0 14 [a.v] σ (Same (S (textT a)) σ)) (hb : ∀ σ, DC Tryz.prog w0 14 [b.v] σ (Same (S (textT b)) σ)) : DC Tryz.prog w0 14 [p.v] σ (Same (S (textT p)) σ) := by
  refine k14.go rfl (fun hok hsz => ?_)
  have hA' := hA
  simp only [arrowT, Bool.and_eq_true, beq_iff_eq] at hA'
  have nk : (p.k == 1) = false := by rw [hA'.1]; rfl
  obtain ⟨hn1, hn2⟩ := text_arr_len hA hl
  rw [text_arr hA hl]
  have h1 : (putL (textT a) (arrowT a)).length + 4 ≤ 9223372036854775807 := by omega
  have h2 : (putL (textT a) (arrowT a)).length + 4 + (textT b).length ≤ 9223372036854775807 := by omega
  have h3 : (putL (textT a) (arrowT a)).length + (4 + (textT b).length) ≤ 9223372036854775807 := by omega
  have h4 : (putL (textT a) (arrowT a)).length ≤ 9223372036854775803 := by omega
  ((try refine W.a ?_); simp only [go_sem, seval, reduceCtorEq, c14, nk])
  refine W.no rfl ?_
  ((try refine W.a ?_); simp only [go_sem, seval, reduceCtorEq, nk])
  refine W.no rfl ?_
  ((try refine W.a ?_); simp only [go_sem, seval, reduceCtorEq])
  (refine W.c1 (ty_arrow w0 p _) ?_; simp only [go_sem, seval, reduceCtorEq, hA])
  refine W.yes rfl ?_
  ((try refine W.a ?_); simp only [go_sem, seval, reduceCtorEq])
  apply W.dregE (List.cons_ne_nil _ _)
  case hc =>
    (apply CanonE.advPO; simp only [go_sem, seval, reduceCtorEq, hl])
    (apply CanonE.call (ha _); (case hg => rfl); (case hf => rfl); (case ha => first | rfl | simp))
    (apply CanonE.advPO; simp only [go_sem, seval, reduceCtorEq, hl])
    (apply CanonE.call (ty_arrow w0 a _); (case hg => rfl); (case hf => rfl); (case ha => first | rfl | simp))
    (apply CanonE.advPO; simp only [go_sem, seval, reduceCtorEq])
    (apply CanonE.call (ty_put w0 (textT a) (arrowT a) (by omega) _); (case hg => rfl); (case hf => rfl); (case ha => first | rfl | simp))
    (apply CanonE.advPO; simp only [go_sem, seval, reduceCtorEq, hl])
    (apply CanonE.call (hb _); (case hg => rfl); (case hf => rfl); (case ha => first | rfl | simp))
    (apply CanonE.advPO; simp only [go_sem, seval, reduceCtorEq, h1, h2, h3, h4])
    exact CanonE.nil
  ((try refine W.a ?_); simp only [go_sem, seval, reduceCtorEq])
  (refine W.fs (hok) (by simp only [r14, go_sem, seval, reduceCtorEq]; rfl) ?_; simp only [resV]; try exact V.wk.rfl _)
theorem many_of {x : Typ} (h : (x.k != 1) = true) : decide ((x.l.length : Int) > 0) = manyT x := by
  unfold manyT
  rw [h, Bool.true_and]
  apply decide_eq_decide.2
  omega
theorem many_no {x : Typ} (h : (x.k != 1) = false) : manyT x = false := by
  unfold manyT
  rw [h, Bool.false_and]
def txtL (l : List Typ) : List Str := l.map fun x => putL (textT x) (manyT x)
theorem ty_TextCon {w0 : World} (p : Typ) (hk : p.k ≠ 1) (hA : arrowT p = false) (hn : (textT p).length ≤ 1000000) (σ : H)
    (ih : ∀ x ∈ p.l, ∀ σ, DC Tryz.prog w0 14 [x.v] σ (Same (S (textT x)) σ)) : DC Tryz.prog w0 14 [p.v] σ (Same (S (textT p)) σ) := by
  refine k14.go rfl (fun hok hsz => ?_)
  have nk : (p.k == 1) = false := by simpa using hk
  obtain ⟨hn1, hn2⟩ := text_con_len hk hA
  have hlen : p.l.length ≤ 9223372036854775807 := by omega
  have hj : (Lib.join (p.name :: txtL p.l) [32]).length ≤ 100000000 := by
    have := text_con hk hA
    unfold txtL
    rw [← this]; omega
  have hj2 : (p.name :: txtL p.l).length ≤ 100000000 := by simp [txtL]; omega
  rw [text_con hk hA]
  ((try refine W.a ?_); simp only [go_sem, seval, reduceCtorEq, c14, nk])
  refine W.no rfl ?_
  ((try refine W.a ?_); simp only [go_sem, seval, reduceCtorEq, nk])
  refine W.no rfl ?_
  ((try refine W.a ?_); simp only [go_sem, seval, reduceCtorEq])
  (refine W.c1 (ty_arrow w0 p _) ?_; simp only [go_sem, seval, reduceCtorEq, hA])
  refine W.no rfl ?_
  ((try refine W.a ?_); simp only [go_sem, seval, reduceCtorEq])
  refine W.loopP (fun i => i ≤ p.l.length) (fun i => match i with
    | 0 => ⟨(((((base.put (some 1) (.ptr σ.length 0)).put (some 5) (.csl [[C.str p.name]])).put (some 63) (.c (tysC p.l))).put (some 64) (I p.l.length)).put (some 65) (I 0)), σ ++ [.cells p.v.cellsV]⟩
    | i + 1 => ⟨(((((base.put (some 1) (.ptr σ.length 0)).put (some 5) (.osl (σ.length + 2) ([C.str p.name] :: strsR (txtL (p.l.take (i + 1)))))).put (some 63) (.c (tysC p.l))).put (some 64) (I p.l.length)).put (some 65) (I ((i + 1 : Nat) : Int))), σ ++ [.cells p.v.cellsV, .gone, .spare 9 1 (i + 2)]⟩) (fun i => p.l.length - i) 0 (Nat.zero_le _) ?_ (fun i hi => ?_)
  · (refine Lew.env ?_; exact lee_here)
  · by_cases hlt : i < p.l.length
    · have hx : p.l[i]? = some p.l[i] := List.getElem?_eq_getElem hlt
      have hw := wrap_next hlt hlen
      have hmem : p.l[i] ∈ p.l := List.getElem_mem hlt
      have hc := ih _ hmem
      obtain ⟨hn3, hn4⟩ := hn2 _ hmem
      have hm : ∀ q, (p.l[i].k != 1) = q → q = (p.l[i].k != 1) := fun q h => h.symm
      have htk : txtL (p.l.take (i + 1)) = txtL (p.l.take i) ++ [putL (textT p.l[i]) (manyT p.l[i])] := by
        unfold txtL
        rw [List.take_succ_eq_append_getElem hlt, List.map_append]; rfl
      generalize p.l[i] = x at hx hc hn3 hn4 hm htk hmem
      rcases i with _ | i
      · have h1 : ((0 : Int) < (p.l.length : Int)) := by omega
        ((try refine W.a ?_); simp only [go_sem, seval, reduceCtorEq, h1])
        refine W.yes rfl ?_
        ((try refine W.a ?_); simp only [go_sem, seval, reduceCtorEq, h1, hx])
        cases hq : (x.k != 1)
        · have hmm := many_no hq
          rw [hmm] at htk
          apply W.dregE (List.cons_ne_nil _ _)
          case hc =>
            (apply CanonE.advPO; simp only [go_sem, seval, reduceCtorEq])
            (apply CanonE.call (hc _); (case hg => rfl); (case hf => rfl); (case ha => first | rfl | simp))
            (apply CanonE.advPO; simp only [go_sem, seval, reduceCtorEq, hq])
            (apply CanonE.call (ty_put w0 (textT x) false (by omega) _); (case hg => rfl); (case hf => rfl); (case ha => first | rfl | simp))
            (apply CanonE.advPO; simp only [go_sem, seval, reduceCtorEq, hq, ne_eq, not_false_eq_true, or_true])
            exact CanonE.nil
          ((try refine W.a ?_); simp only [go_sem, seval, reduceCtorEq, hw])
          refine .inv ⟨1, by omega, by omega, ?_⟩
          simp only [htk, strsR, List.map_append, List.map_cons, List.map_nil]
          (refine Lew.cutL (hok) ?_ (by simp) (by simp) ?_ ?_ ?_; exact lee_here; ((try simp only [okB, wkB, go_sem, seval, reduceCtorEq]) <;> omega); (simp only [List.length_cons, List.length_nil, Nat.reduceAdd, List.take_succ_cons, List.take_zero, wkB, and_true]; (repeat' (refine And.intro ?_ ?_)) <;> (first | exact Blk.wk.rfl _ | exact Blk.wk.gone _ | (refine Blk.wk_cells ?_ rfl; (exact wk_here)))); (repeat' (first | exact LowE.base _ | (refine LowE.put ?_ (by first | exact .c _ | ((try simp only [okB, wkB, go_sem, seval, reduceCtorEq]) <;> omega))))))
        · have hmm := many_of hq
          apply W.dregE (List.cons_ne_nil _ _)
          case hc =>
            (apply CanonE.advPO; simp only [go_sem, seval, reduceCtorEq])
            (apply CanonE.call (hc _); (case hg => rfl); (case hf => rfl); (case ha => first | rfl | simp))
            (apply CanonE.advPO; simp only [go_sem, seval, reduceCtorEq, hq, hmm])
            (apply CanonE.call (ty_put w0 (textT x) (manyT x) (by omega) _); (case hg => rfl); (case hf => rfl); (case ha => first | rfl | simp))
            (apply CanonE.advPO; simp only [go_sem, seval, reduceCtorEq, hq, ne_eq, not_false_eq_true, or_true])
            exact CanonE.nil
          ((try refine W.a ?_); simp only [go_sem, seval, reduceCtorEq, hw])
          refine .inv ⟨1, by omega, by omega, ?_⟩
          simp only [htk, strsR, List.map_append, List.map_cons, List.map_nil]
          (refine Lew.cutL (hok) ?_ (by simp) (by simp) ?_ ?_ ?_; exact lee_here; ((try simp only [okB, wkB, go_sem, seval, reduceCtorEq]) <;> omega); (simp only [List.length_cons, List.length_nil, Nat.reduceAdd, List.take_succ_cons, List.take_zero, wkB, and_true]; (repeat' (refine And.intro ?_ ?_)) <;> (first | exact Blk.wk.rfl _ | exact Blk.wk.gone _ | (refine Blk.wk_cells ?_ rfl; (exact wk_here)))); (repeat' (first | exact LowE.base _ | (refine LowE.put ?_ (by first | exact .c _ | ((try simp only [okB, wkB, go_sem, seval, reduceCtorEq]) <;> omega))))))
      · have h1 : (((i + 1 : Nat) : Int) < (p.l.length : Int)) := by omega
        have hlk : (strsR (txtL (p.l.take (i + 1)))).length = i + 1 := by
          simp only [strsR, txtL, List.length_map, List.length_take]
          omega
        have hb1 : (i + 2 + 1) * 16 ≤ 140737488355328 := by omega
        have hb2 : i + 2 + 1 ≤ 140737488355328 := by omega
        ((try refine W.a ?_); simp only [go_sem, seval, reduceCtorEq, h1])
        refine W.yes rfl ?_
        ((try refine W.a ?_); simp only [go_sem, seval, reduceCtorEq, h1, nat0, hx])
        cases hq : (x.k != 1)
        · have hmm := many_no hq
          rw [hmm] at htk
          apply W.dregE (List.cons_ne_nil _ _)
          case hc =>
            (apply CanonE.advPO; simp only [go_sem, seval, reduceCtorEq])
            (apply CanonE.call (hc _); (case hg => rfl); (case hf => rfl); (case ha => first | rfl | simp))
            (apply CanonE.advPO; simp only [go_sem, seval, reduceCtorEq, hq])
            (apply CanonE.call (ty_put w0 (textT x) false (by omega) _); (case hg => rfl); (case hf => rfl); (case ha => first | rfl | simp))
            (apply CanonE.advPO; simp only [go_sem, seval, reduceCtorEq, hq, hb1, hb2, hlk])
            exact CanonE.nil
          ((try refine W.a ?_); simp only [go_sem, seval, reduceCtorEq, hw])
          refine .inv ⟨i + 2, hlt, by omega, ?_⟩
          simp only [htk, strsR, List.map_append, List.map_cons, List.map_nil]
          (refine Lew.cutL (hok) ?_ (by simp) (by simp) ?_ ?_ ?_; exact lee_here; ((try simp only [okB, wkB, go_sem, seval, reduceCtorEq]) <;> omega); (simp only [List.length_cons, List.length_nil, Nat.reduceAdd, List.take_succ_cons, List.take_zero, wkB, and_true]; (repeat' (refine And.intro ?_ ?_)) <;> (first | exact Blk.wk.rfl _ | exact Blk.wk.gone _ | (refine Blk.wk_cells ?_ rfl; (exact wk_here)))); (repeat' (first | exact LowE.base _ | (refine LowE.put ?_ (by first | exact .c _ | ((try simp only [okB, wkB, go_sem, seval, reduceCtorEq]) <;> omega))))))
        · have hmm := many_of hq
          apply W.dregE (List.cons_ne_nil _ _)
          case hc =>
            (apply CanonE.advPO; simp only [go_sem, seval, reduceCtorEq])
            (apply CanonE.call (hc _); (case hg => rfl); (case hf => rfl); (case ha => first | rfl | simp))
            (apply CanonE.advPO; simp only [go_sem, seval, reduceCtorEq, hq, hmm])
            (apply CanonE.call (ty_put w0 (textT x) (manyT x) (by omega) _); (case hg => rfl); (case hf => rfl); (case ha => first | rfl | simp))
            (apply CanonE.advPO; simp only [go_sem, seval, reduceCtorEq, hq, hb1, hb2, hlk])
            exact CanonE.nil
          ((try refine W.a ?_); simp only [go_sem, seval, reduceCtorEq, hw])
          refine .inv ⟨i + 2, hlt, by omega, ?_⟩
          simp only [htk, strsR, List.map_append, List.map_cons, List.map_nil]
          (refine Lew.cutL (hok) ?_ (by simp) (by simp) ?_ ?_ ?_; exact lee_here; ((try simp only [okB, wkB, go_sem, seval, reduceCtorEq]) <;> omega); (simp only [List.length_cons, List.length_nil, Nat.reduceAdd, List.take_succ_cons, List.take_zero, wkB, and_true]; (repeat' (refine And.intro ?_ ?_)) <;> (first | exact Blk.wk.rfl _ | exact Blk.wk.gone _ | (refine Blk.wk_cells ?_ rfl; (exact wk_here)))); (repeat' (first | exact LowE.base _ | (refine LowE.put ?_ (by first | exact .c _ | ((try simp only [okB, wkB, go_sem, seval, reduceCtorEq]) <;> omega))))))
    · have htk : p.l.take i = p.l := List.take_of_length_le (by omega)
      rcases i with _ | i
      · have h1 : ¬ ((0 : Int) < (p.l.length : Int)) := by omega
        have hnil : p.l = [] := List.eq_nil_of_length_eq_zero (by omega)
        have hJ := strings_JoinD (w0 := w0) (p.name :: txtL p.l) [32] hj hj2
        rw [hnil] at hJ
        ((try refine W.a ?_); simp only [go_sem, seval, reduceCtorEq, h1])
        refine W.no rfl ?_
        ((try refine W.a ?_); simp only [go_sem, seval, reduceCtorEq])
        (refine W.c1w (hJ _) ?_; simp only [go_sem, seval, reduceCtorEq])
        rw [hnil]
        (refine W.fs (hok) (by simp only [r14, go_sem, seval, reduceCtorEq]; rfl) ?_; simp only [resV]; try exact V.wk.rfl _)
      · have h1 : ¬ (((i + 1 : Nat) : Int) < (p.l.length : Int)) := by omega
        have hJ := strings_JoinD (w0 := w0) (p.name :: txtL p.l) [32] hj hj2
        ((try refine W.a ?_); simp only [go_sem, seval, reduceCtorEq, h1])
        refine W.no rfl ?_
        rw [htk]
        ((try refine W.a ?_); simp only [go_sem, seval, reduceCtorEq])
        (refine W.c1w (hJ _) ?_; simp only [go_sem, seval, reduceCtorEq])
        (refine W.fs (hok) (by simp only [r14, go_sem, seval, reduceCtorEq]; rfl) ?_; simp only [resV]; try exact V.wk.rfl _)
end
end Go.Proofs.YtapnncbenhkicaaGreatDoor
namespace Go.Lamb
open Go Go.RowKit
/-- Types whose variables are letters. -/
inductive Lets : Typ → Prop where
  | mk {k : Int} {s : Str} {n : Int} {l : List Typ} (hn : 0 ≤ n ∧ n < 26) (h : ∀ x ∈ l, Lets x) : Lets (.mk k s n l)
theorem Lets.n {p : Typ} (h : Lets p) : 0 ≤ p.n ∧ p.n < 26 := by cases h; assumption
theorem Lets.mem {p x : Typ} (h : Lets p) (hx : x ∈ p.l) : Lets x := by cases h with | mk _ h => exact h x hx
theorem lets_arr {a b : Typ} (ha : Lets a) (hb : Lets b) : Lets (.arr a b) := .mk (by decide) fun x hx => by
  simp only [List.mem_cons, List.not_mem_nil, or_false] at hx
  rcases hx with rfl | rfl
  · exact ha
  · exact hb
theorem lets_con (s : Str) : Lets (.con s) := .mk (by decide) fun x hx => by cases hx
end Go.Lamb
namespace Go.Proofs.YtapnncbenhkicaaGreatDoor
open Go.RowKit Go.Lamb
attribute [local go_sem] advO_skip advO_reg advO_seq advO_block advO_exit advO_endb advO_opsNil advO_ops advG_yes advG_no advG_none advS_some advS_none advO_cond advO_loop advO_dreg advO_ret advO_bad advO_inv advO_nil advO_zero wantedV Lamb.step ev_t ev_k put_some put_none argEnv popTo cellsAt V.cellsV V.rows V.toC toCs fillV bytesC byteRows appV rowsV boundV boundL binV binInt binStr eqC eqL V.isNil leaves V.leaf Ins.quiet Ins.pure List.getD_cons_zero List.getD_cons_succ List.getD_nil List.all_cons List.all_nil List.length_cons List.length_nil List.take_succ_cons List.take_zero List.drop_succ_cons List.drop_zero List.cons_append List.nil_append List.append_nil List.append_assoc List.map_cons List.map_nil List.getElem?_cons_zero List.getElem?_cons_succ List.length_append List.length_set hget0 hget hset0 hset hsets hgs0 hgs hss0 hss List.set_cons_zero List.set_cons_succ List.forall_mem_cons List.not_mem_nil false_implies implies_true Option.map_some Bool.and_true Bool.true_and Bool.not_not Bool.not_true Bool.not_false Bool.and_self Bool.or_true Bool.true_or Bool.or_false Bool.false_or Bool.and_false Bool.false_and Bool.false_eq_true beq_self_eq_true and_self and_true true_and if_true if_false Nat.zero_add Nat.add_zero Nat.le_refl Int.toNat_natCast decide_true decide_false beq_t beq_f List.length_map List.getElem?_map I S B opsC toksC OpT.v OpT.cs OpT.zero Tok.v Tok.cs Pre.v Pre.cs_eq k_mk name_mk n_mk l_mk pos_mk Pre.app applyL natCast0 natCast1 natCast2 AOp.o AOp.m AOp.f AOp.l AOp.d AOp.n AOp.x AOp.s AOp.k AOp.y AOp.z EOp.q low_c low_void low_any low_csl low_nilf low_ptr low_osl low_agg low_tup low_fn resEval advPO_nil advPO_loud advPO_quiet pL_yes pL_no pLS_some pLS_none pQ_yes pQ_no pQS_some pQS_loud eq_self Nat.sub_zero
attribute [local go_sem] Typ.v Typ.cs_eq tk_mk tname_mk tn_mk tl_mk tysC KdT.v KdT.cs NmT.v NmT.cs kdsC nmsC Sg.v Sent.v strsC

theorem ty_TextVarS {w0 : World} (p : Typ) (hk : p.k = 1) (h0 : 0 ≤ p.n) (h26 : p.n < 26) (σ : H) : DC Tryz.prog w0 14 [p.v] σ (Same (S (textT p)) σ) := by
  refine k14.go rfl (fun hok hsz => ?_)
  have hn0 : ¬ p.n < 0 := by omega
  rw [text_var hk, if_neg hn0]
  have e1 : p.n.tmod 26 = p.n % 26 := Int.tmod_eq_emod_of_nonneg (by omega)
  have e2 : p.n.tdiv 26 = p.n / 26 := Int.tdiv_eq_ediv_of_nonneg (by omega)
  have w1 : IntKind.i64.wrap (65 + p.n % 26) = 65 + p.n % 26 := by rw [wrap_in] <;> omega
  have w2 : IntKind.u8.wrap (65 + p.n % 26) = 65 + p.n % 26 := by
    unfold IntKind.wrap IntKind.bits IntKind.signed
    simp
    omega
  have w3 : IntKind.i64.wrap (p.n / 26) = p.n / 26 := by rw [wrap_in] <;> omega
  have h1 : ¬ 0 < p.n / 26 := by omega
  have h2 : ¬ p.n / 26 > 0 := h1
  ((try refine W.a ?_); simp only [go_sem, seval, reduceCtorEq, c14, hk, hn0])
  refine W.no rfl ?_
  ((try refine W.a ?_); simp only [go_sem, seval, reduceCtorEq])
  refine W.yes rfl ?_
  ((try refine W.a ?_); simp only [go_sem, seval, reduceCtorEq, e1, e2, w1, w2, w3])
  unfold varL
  rw [if_neg h1]
  ((try refine W.a ?_); simp only [go_sem, seval, reduceCtorEq, h2])
  refine W.no rfl ?_
  ((try refine W.a ?_); simp only [go_sem, seval, reduceCtorEq])
  (refine W.fs (hok) (by simp only [r14, go_sem, seval, reduceCtorEq]; rfl) ?_; simp only [resV]; try exact V.wk.rfl _)
theorem ty_TextS {w0 : World} (p : Typ) : Lets p → (textT p).length ≤ 1000000 → ∀ (σ : H), DC Tryz.prog w0 14 [p.v] σ (Same (S (textT p)) σ) := by
  induction p using Typ.ind with
  | h p ih =>
    intro hO hn σ
    by_cases hk : p.k = 1
    · exact ty_TextVarS p hk hO.n.1 hO.n.2 σ
    · cases hA : arrowT p
      · exact ty_TextCon p hk hA hn σ fun x hx => ih x hx (hO.mem hx) (by have := ((text_con_len hk hA).2 x hx).2; omega)
      · obtain ⟨a, b, hl⟩ := arrow_parts hA
        have ha : a ∈ p.l := by rw [hl]; simp
        have hb : b ∈ p.l := by rw [hl]; simp
        obtain ⟨hn1, hn2⟩ := text_arr_len hA hl
        exact ty_TextArr p a b hA hl hn σ (ih a ha (hO.mem ha) (by omega)) (ih b hb (hO.mem hb) (by omega))
end Go.Proofs.YtapnncbenhkicaaGreatDoor
namespace Go.Proofs.YtapnncbenhkicaaGreatDoor
open Go.RowKit Go.Lamb
attribute [local go_sem] advO_skip advO_reg advO_seq advO_block advO_exit advO_endb advO_opsNil advO_ops advG_yes advG_no advG_none advS_some advS_none advO_cond advO_loop advO_dreg advO_ret advO_bad advO_inv advO_nil advO_zero wantedV Lamb.step ev_t ev_k put_some put_none argEnv popTo cellsAt V.cellsV V.rows V.toC toCs fillV bytesC byteRows appV rowsV boundV boundL binV binInt binStr eqC eqL V.isNil leaves V.leaf Ins.quiet Ins.pure List.getD_cons_zero List.getD_cons_succ List.getD_nil List.all_cons List.all_nil List.length_cons List.length_nil List.take_succ_cons List.take_zero List.drop_succ_cons List.drop_zero List.cons_append List.nil_append List.append_nil List.append_assoc List.map_cons List.map_nil List.getElem?_cons_zero List.getElem?_cons_succ List.length_append List.length_set hget0 hget hset0 hset hsets hgs0 hgs hss0 hss List.set_cons_zero List.set_cons_succ List.forall_mem_cons List.not_mem_nil false_implies implies_true Option.map_some Bool.and_true Bool.true_and Bool.not_not Bool.not_true Bool.not_false Bool.and_self Bool.or_true Bool.true_or Bool.or_false Bool.false_or Bool.and_false Bool.false_and Bool.false_eq_true beq_self_eq_true and_self and_true true_and if_true if_false Nat.zero_add Nat.add_zero Nat.le_refl Int.toNat_natCast decide_true decide_false beq_t beq_f List.length_map List.getElem?_map I S B opsC toksC OpT.v OpT.cs OpT.zero Tok.v Tok.cs Pre.v Pre.cs_eq k_mk name_mk n_mk l_mk pos_mk Pre.app applyL natCast0 natCast1 natCast2 AOp.o AOp.m AOp.f AOp.l AOp.d AOp.n AOp.x AOp.s AOp.k AOp.y AOp.z EOp.q low_c low_void low_any low_csl low_nilf low_ptr low_osl low_agg low_tup low_fn resEval advPO_nil advPO_loud advPO_quiet pL_yes pL_no pLS_some pLS_none pQ_yes pQ_no pQS_some pQS_loud eq_self Nat.sub_zero
attribute [local go_sem] Typ.v Typ.cs_eq tk_mk tname_mk tn_mk tl_mk tysC KdT.v KdT.cs NmT.v NmT.cs kdsC nmsC Sg.v Sent.v strsC

def nat0S : Str := [110, 97, 116]
def typP : Typ := .arr (.con nat0S) tO
def sentP (q : Typ) : Sent := ⟨1, [[112]], 0, q, .zero, .none, 0⟩
def sentN : Sent := ⟨0, [nat0S], 0, .none, .zero, .none, 0⟩
def start1 : Sg := ⟨start0.kinds ++ [⟨nat0S, 0⟩], start0.types, start0.ops⟩
def start2 : Sg := ⟨start1.kinds, start0.types ++ [⟨[112], typP⟩], start0.ops⟩
def typPi : Typ := .arr (.arr tA tO) tO
theorem w_find1 : findN start0.types [112, 105] = some ⟨[112, 105], typPi⟩ := by kernel_rfl
theorem w_kind1 : kindL start0.kinds [105, 110, 116] = some ⟨[105, 110, 116], 0⟩ := by kernel_rfl
theorem w_add1 : addS start0 (sentP typP) = (start0, 111) := by kernel_rfl
theorem w_add2 : addS start0 sentN = (start1, 0) := by kernel_rfl
theorem w_add3 : addS start1 (sentP typP) = (start2, 0) := by kernel_rfl
theorem w_find2 : findN start2.types [112] = some ⟨[112], typP⟩ := by kernel_rfl
theorem w_text1 : textT typPi = [40, 65, 32, 45, 62, 32, 111, 41, 32, 45, 62, 32, 111] := by kernel_rfl
theorem w_text2 : textT typP = [110, 97, 116, 32, 45, 62, 32, 111] := by kernel_rfl
theorem w_log1 : logicalB [115, 105, 103, 109, 97] = true := by kernel_rfl
theorem w_log2 : logicalB [112] = false := by kernel_rfl
theorem sg0_le : SgLe start0 2000 := ⟨of_decide_eq_true (by kernel_rfl), of_decide_eq_true (by kernel_rfl), of_decide_eq_true (by kernel_rfl)⟩
theorem sg1_le : SgLe start1 2000 := ⟨of_decide_eq_true (by kernel_rfl), of_decide_eq_true (by kernel_rfl), of_decide_eq_true (by kernel_rfl)⟩
theorem letsA : Lets tA := .mk (by decide) fun x hx => by cases hx
theorem law11_works (w0 : World) (σ : H) : DC Tryz.prog w0 4 [] σ (Same (B true) σ) := by
  refine k4.go rfl (fun hok hsz => ?_)
  have e1 := fun σ => sig_Start w0 σ
  have e2 := fun σ => sig_Find w0 start0 [112, 105] σ
  have e3 := fun σ => sig_Kind w0 start0 [105, 110, 116] σ
  have e4 := fun σ => arrow1 w0 tO (.con nat0S) σ
  have e5 := fun σ => sig_Add w0 start0 sg0_le (sentP typP) (by decide) σ
  have e6 := fun σ => sig_Add w0 start0 sg0_le sentN (by decide) σ
  have e7 := fun σ => sig_Add w0 start1 sg1_le (sentP typP) (by decide) σ
  have e8 := fun σ => sig_Find w0 start2 [112] σ
  have e9 := fun σ => ref11_Start w0 σ
  have e10 := fun σ => ref11_Same w0 start0 ⟨by have := sg0_le.k; omega, by have := sg0_le.t; omega, by have := sg0_le.o; omega⟩ σ
  have e11 : ∀ σ, DC Tryz.prog w0 14 [typPi.v] σ (Same (S (textT typPi)) σ) := ty_TextS typPi (lets_arr (lets_arr letsA (lets_con _)) (lets_con _)) (by rw [w_text1]; decide)
  have e12 : ∀ σ, DC Tryz.prog w0 14 [typP.v] σ (Same (S (textT typP)) σ) := ty_TextS typP (lets_arr (lets_con _) (lets_con _)) (by rw [w_text2]; decide)
  have e13 := fun σ => sig_Logical w0 [115, 105, 103, 109, 97] σ
  have e14 := fun σ => sig_Logical w0 [112] σ
  rw [w_find1] at e2
  rw [w_kind1] at e3
  rw [w_add1] at e5
  rw [w_add2] at e6
  rw [w_add3] at e7
  rw [w_find2] at e8
  rw [w_text1] at e11
  rw [w_text2] at e12
  rw [w_log1] at e13
  rw [w_log2] at e14
  have hq : Typ.arr (.con nat0S) tO = typP := rfl
  rw [hq] at e4
  clear hq
  have ho : tO.v = .agg [I 0, S [111], I 0, .c (.sl [])] := rfl
  rw [ho] at e4
  generalize start2 = s2 at *
  generalize start1 = s1 at *
  generalize start0 = s0 at *
  generalize typPi = t1 at *
  generalize typP = q at *
  unfold sentP at e5 e7
  unfold sentN at e6
  ((try refine W.a ?_); simp only [go_sem, seval, reduceCtorEq, c4])
  (refine W.c1 (e1 _) ?_; simp only [go_sem, seval, reduceCtorEq])
  (refine W.c1 (e2 _) ?_; simp only [go_sem, seval, reduceCtorEq, findV, Option.getD_some, Option.isSome_some])
  (refine W.c1 (e3 _) ?_; simp only [go_sem, seval, reduceCtorEq, kindV, Option.getD_some, Option.isSome_some])
  (refine W.c1w (e4 _) ?_; simp only [go_sem, seval, reduceCtorEq])
  (refine W.c1w (e5 _) ?_; simp only [go_sem, seval, reduceCtorEq])
  (refine W.c1w (e6 _) ?_; simp only [go_sem, seval, reduceCtorEq])
  (refine W.c1w (e7 _) ?_; simp only [go_sem, seval, reduceCtorEq])
  (refine W.c1 (e8 _) ?_; simp only [go_sem, seval, reduceCtorEq, findV, Option.getD_some, Option.isSome_some])
  apply W.dregE (List.cons_ne_nil _ _)
  case hc =>
    (apply CanonE.advPO; simp only [go_sem, seval, reduceCtorEq])
    (apply CanonE.call (e9 _); (case hg => rfl); (case hf => rfl); (case ha => first | rfl | simp))
    (apply CanonE.advPO; simp only [go_sem, seval, reduceCtorEq])
    (apply CanonE.call (e10 _); (case hg => rfl); (case hf => rfl); (case ha => first | rfl | simp))
    (apply CanonE.advPO; simp only [go_sem, seval, reduceCtorEq])
    exact CanonE.nil
  ((try refine W.a ?_); simp only [go_sem, seval, reduceCtorEq])
  (refine W.c1 (e11 _) ?_; simp only [go_sem, seval, reduceCtorEq])
  (refine W.c1 (e12 _) ?_; simp only [go_sem, seval, reduceCtorEq])
  (refine W.c1 (e13 _) ?_; simp only [go_sem, seval, reduceCtorEq])
  (refine W.c1 (e14 _) ?_; simp only [go_sem, seval, reduceCtorEq])
  (refine W.fs (hok) (by simp only [r4, go_sem, seval, reduceCtorEq]; rfl) ?_; simp only [resV]; try exact V.wk.rfl _)
end Go.Proofs.YtapnncbenhkicaaGreatDoor
namespace Go.Proofs.YtapnncbenhkicaaGreatDoor
open Go.RowKit Go.Lamb
/-- sig.All -/
def c6 : AC :=
  .seq (.reg [.o 2 (.box (.k (.agg [.csl [], .csl [], .csl []]))), .o 3 (.mov (.k (.c (.int .i64 0)))), .o 4 (.mov (.k (.c (.int .i64 0))))])
  (.seq (.reg [.k 10 7 [], .o 5 (.box (.k (.agg [.csl [], .csl [], .csl []]))), .s 3 5 10])
  (.seq (.seq (.reg [.m 11 0, .o 12 (.lenr (.t 11)), .o 13 (.mov (.k (.c (.int .i64 0))))])
  (.block 0 (.loop (.seq (.reg [.o 14 (.bin .lss (.t 13) (.t 12))])
  (.seq (.cond (.t 14)
  (.skip)
  (.exit 0))
  (.seq (.block 1 (.seq (.reg [.m 15 13, .o 16 (.iadd 16 (.t 11) (.t 13)), .d 17 16 16, .o 7 (.box (.k (.agg [.c (.int .i64 0), .csl [], .c (.int .i64 0), .c (.int .i64 0), .c (.str []), .c (.int .i64 0), .csl [], .c (.str []), .c (.int .i64 0), .c (.int .i64 0), .c (.int .i64 0), .c (.str []), .c (.int .i64 0), .csl [], .c (.int .i64 0), .c (.int .i64 0)]))), .m 6 15, .s 16 7 17])
  (.seq (.reg [.d 19 3 5, .d 20 16 7, .k 21 8 [(.t 19), (.t 20)], .m 18 21, .x 22 18 0, .x 23 18 1, .o 8 (.box (.k (.agg [.csl [], .csl [], .csl []]))), .s 3 8 22, .m 9 23])
  (.seq (.seq (.reg [.m 24 9, .o 25 (.bin .neq (.t 24) (.k (.c (.int .i64 0))))])
  (.cond (.t 25)
  (.seq (.reg [.o 26 (.build [.csl [], .csl [], .csl []] []), .m 27 9, .m 28 6, .s 3 2 26, .m 3 27, .m 4 28])
  (.ret))
  (.skip)))
  (.reg [.d 29 3 8, .s 3 5 29])))))
  (.reg [.o 30 (.bin .add (.t 13) (.k (.c (.int .i64 1)))), .m 13 30])))))))
  (.seq (.reg [.d 31 3 5, .s 3 2 31, .o 3 (.mov (.k (.c (.int .i64 0)))), .o 4 (.mov (.k (.c (.int .i64 0))))])
  (.ret))))
def r6 : List ResV := [.celln 3 2, .tmp 3, .tmp 4]
theorem k6 : CodeIs Tryz.prog 6 1 Tryz.f6 c6 r6 := ⟨by kernel_rfl, Tryz.func6, rfl, by kernel_rfl, by kernel_rfl, by decide, enters_fn Tryz.func6 (by kernel_rfl) rfl⟩
/-- lambentlaw11.SigAll -/
def c3 : AC :=
  .seq (.reg [.o 2 (.mov (.k (.c (.bool false))))])
  (.seq (.reg [.k 18 4 [], .m 3 18])
  (.seq (.seq (.reg [.m 19 3, .o 20 (.un .not (.t 19))])
  (.cond (.t 20)
  (.seq (.reg [.o 2 (.mov (.k (.c (.bool false))))])
  (.ret))
  (.skip)))
  (.seq (.seq (.reg [.m 21 0, .o 22 (.lens (.t 21)), .o 23 (.bin .gtr (.t 22) (.k (.c (.int .i64 600))))])
  (.cond (.t 23)
  (.seq (.reg [.m 24 3, .m 2 24])
  (.ret))
  (.skip)))
  (.seq (.reg [.m 26 0, .k 27 5 [(.t 26)], .m 25 27, .x 28 25 0, .x 29 25 1, .x 30 25 2, .x 31 25 3, .m 4 28, .m 5 29, .m 6 30, .m 7 31])
  (.seq (.seq (.reg [.m 32 6, .o 33 (.bin .neq (.t 32) (.k (.c (.int .i64 0))))])
  (.cond (.t 33)
  (.seq (.reg [.m 34 3, .m 2 34])
  (.ret))
  (.skip)))
  (.seq (.reg [.m 36 4, .k 37 6 [(.t 36)], .m 35 37, .x 38 35 0, .x 39 35 1, .x 40 35 2, .o 8 (.box (.k (.agg [.csl [], .csl [], .csl []]))), .s 3 8 38, .m 9 39, .m 10 40])
  (.seq (.reg [.k 41 7 [], .o 11 (.box (.k (.agg [.csl [], .csl [], .csl []]))), .s 3 11 41])
  (.seq (.seq (.reg [.o 12 (.mov (.k (.c (.int .i64 0))))])
  (.block 0 (.loop (.seq (.seq (.reg [.m 42 12, .m 43 4, .o 44 (.lenr (.t 43)), .o 45 (.bin .lss (.t 42) (.t 44))])
  (.cond (.t 45)
  (.skip)
  (.exit 0)))
  (.seq (.block 1 (.seq (.dreg [.d 49 3 11, .m 50 4, .m 51 12, .o 52 (.iadd 16 (.t 50) (.t 51)), .d 53 16 52, .k 54 8 [(.t 49), (.t 53)], .m 48 54, .x 55 48 0, .x 56 48 1, .o 13 (.box (.k (.agg [.csl [], .csl [], .csl []]))), .s 3 13 55, .m 14 56]
    [⟨.o 13 (.box (.k (.agg [.csl [], .csl [], .csl []]))), true, 0⟩, .q (.d 49 3 11), .q (.m 50 4), .q (.m 51 12), .q (.o 52 (.iadd 16 (.t 50) (.t 51))), .q (.d 53 16 52), .q (.k 54 8 [(.t 49), (.t 53)]), .q (.m 48 54), .q (.x 55 48 0), ⟨.s 3 13 55, true, 1⟩, .q (.x 56 48 1), ⟨.m 14 56, false, 2⟩])
  (.seq (.seq (.reg [.m 57 14, .o 58 (.bin .neq (.t 57) (.k (.c (.int .i64 0))))])
  (.cond (.t 58)
  (.seq (.reg [.d 59 3 8, .o 60 (.build [.csl [], .csl [], .csl []] []), .k 61 9 [(.t 59), (.t 60)], .m 15 61])
  (.seq (.reg [.m 62 3, .m 63 62, .y 64 (.mov (.t 9)) 63, .y 65 (.mov (.t 14)) 63, .y 66 (.bin .eql (.t 64) (.t 65)) 63, .o 67 (.pick (.t 63) (.t 66) (.k (.c (.bool false)))), .m 68 67, .y 69 (.mov (.t 10)) 68, .y 70 (.mov (.t 12)) 68, .y 71 (.bin .eql (.t 69) (.t 70)) 68, .o 72 (.pick (.t 68) (.t 71) (.k (.c (.bool false)))), .m 73 72, .y 74 (.mov (.t 15)) 73, .o 75 (.pick (.t 73) (.t 74) (.k (.c (.bool false)))), .m 2 75])
  (.ret)))
  (.skip)))
  (.reg [.d 76 3 13, .s 3 11 76]))))
  (.reg [.m 46 12, .o 47 (.bin .add (.t 46) (.k (.c (.int .i64 1)))), .m 12 47]))))))
  (.seq (.reg [.d 77 3 8, .d 78 3 11, .k 79 9 [(.t 77), (.t 78)], .m 16 79])
  (.seq (.seq (.reg [.m 80 16, .o 81 (.un .not (.t 80)), .m 82 81, .z 83 (.mov (.t 9)) 82, .z 84 (.bin .neq (.t 83) (.k (.c (.int .i64 0)))) 82, .o 85 (.pick (.t 82) (.k (.c (.bool true))) (.t 84)), .m 86 85, .z 87 (.mov (.t 10)) 86, .z 88 (.bin .neq (.t 87) (.k (.c (.int .i64 0)))) 86, .o 89 (.pick (.t 86) (.k (.c (.bool true))) (.t 88)), .m 90 89, .z 91 (.mov (.t 5)) 90, .z 92 (.lenr (.t 91)) 90, .z 93 (.fadd 2 (.t 8)) 90, .z 94 (.load1 (.t 93)) 90, .z 95 (.lenr (.t 94)) 90, .z 96 (.bin .neq (.t 92) (.t 95)) 90, .o 97 (.pick (.t 90) (.k (.c (.bool true))) (.t 96))])
  (.cond (.t 97)
  (.seq (.reg [.o 2 (.mov (.k (.c (.bool false))))])
  (.ret))
  (.skip)))
  (.seq (.seq (.reg [.o 17 (.mov (.k (.c (.int .i64 0))))])
  (.block 2 (.loop (.seq (.seq (.reg [.m 98 17, .m 99 5, .o 100 (.lenr (.t 99)), .o 101 (.bin .lss (.t 98) (.t 100))])
  (.cond (.t 101)
  (.skip)
  (.exit 2)))
  (.seq (.block 3 (.seq (.dreg [.m 104 5, .m 105 17, .o 106 (.iadd 3 (.t 104) (.t 105)), .d 107 3 106, .f 108 2 8, .l 109 108, .m 110 17, .o 111 (.iadd 3 (.t 109) (.t 110)), .d 112 3 111, .o 113 (.eqs true [2, 1, 1] (.t 107) (.t 112))]
    [.q (.m 104 5), .q (.m 105 17), .q (.o 106 (.iadd 3 (.t 104) (.t 105))), .q (.d 107 3 106), .q (.f 108 2 8), .q (.l 109 108), .q (.m 110 17), .q (.o 111 (.iadd 3 (.t 109) (.t 110))), .q (.d 112 3 111), .q (.o 113 (.eqs true [2, 1, 1] (.t 107) (.t 112)))])
  (.cond (.t 113)
  (.seq (.reg [.o 2 (.mov (.k (.c (.bool false))))])
  (.ret))
  (.skip))))
  (.reg [.m 102 17, .o 103 (.bin .add (.t 102) (.k (.c (.int .i64 1)))), .m 17 103]))))))
  (.seq (.reg [.m 114 3, .m 2 114])
  (.ret)))))))))))))
def r3 : List ResV := [.tmp 2]
theorem k3 : CodeIs Tryz.prog 3 1 Tryz.f3 c3 r3 := ⟨by kernel_rfl, Tryz.func3, rfl, by kernel_rfl, by kernel_rfl, by decide, enters_fn Tryz.func3 (by kernel_rfl) rfl⟩
end Go.Proofs.YtapnncbenhkicaaGreatDoor
namespace Go.Proofs.YtapnncbenhkicaaGreatDoor
open Go.RowKit Go.Lamb

theorem namesS_e {t : List Tok} {s : Bool} : ∀ (n i : Nat) (acc : List Tok) (x : Bad), t.length - i ≤ n → namesS t s i acc = .error x → x.e ≠ 0
  | n, i, acc, x, hn, h => by
    rw [namesS_eq] at h
    split at h
    · rename_i hh
      split at h
      · cases n with
        | zero => rw [nameHere_far s (by omega)] at hh; cases hh
        | succ n => exact namesS_e n (i + 2) _ x (by omega) h
      · cases h
    · injection h with h; subst h; simp
theorem kindS_e {t : List Tok} : ∀ (n i m : Nat) (x : Bad), t.length - i ≤ n → kindS t i m = .error x → x.e ≠ 0
  | n, i, m, x, hn, h => by
    rw [kindS_eq] at h
    split at h
    · rename_i hh
      split at h
      · cases n with
        | zero => rw [typeHere_far (by omega)] at hh; cases hh
        | succ n => exact kindS_e n (i + 2) _ x (by omega) h
      · cases h
    · injection h with h; subst h; simp
theorem declL_e {prec fix : Int} : ∀ (ns : List Tok) (l : List OpT) (x : Bad), declL prec fix l ns = .error x → x.e ≠ 0
  | [], _, _, h => by cases h
  | y :: ns, l, x, h => by
    rw [declL] at h
    split at h
    · exact declL_e ns _ x h
    · rename_i hh
      injection h with h; subst h; exact hh
theorem endS_e {t : List Tok} {s : Sent} {i : Nat} {l : List OpT} {x : Bad} (h : endS t s i l = .error x) : x.e ≠ 0 := by
  unfold endS at h
  split at h
  · cases h
  · injection h with h; subst h; simp
theorem sentS_e {t : List Tok} {l : List OpT} {i : Nat} {x : Bad} (ht : t.length ≤ 1000000) (h : sentS t l i = .error x) : x.e ≠ 0 := by
  have hop : ∀ fix, opSent t (i + 1) (tokL t i).pos fix l = .error x → x.e ≠ 0 := fun fix h => by
    unfold opSent at h
    split at h
    · rename_i hn
      injection h with h; subst h
      exact namesS_e _ _ _ _ (Nat.le_refl _) hn
    · split at h
      · split at h
        · split at h
          · rename_i hd
            injection h with h; subst h
            exact declL_e _ _ _ hd
          · cases h
        · injection h with h; subst h; simp
      · injection h with h; subst h; simp
  unfold sentS at h
  simp only at h
  split at h
  · unfold kindSent at h
    split at h
    · rename_i hn
      injection h with h; subst h
      exact namesS_e _ _ _ _ (Nat.le_refl _) hn
    · split at h
      · rename_i hk
        injection h with h; subst h
        exact kindS_e _ _ _ _ (Nat.le_refl _) hk
      · exact endS_e h
  · split at h
    · unfold typeSent at h
      split at h
      · rename_i hn
        injection h with h; subst h
        exact namesS_e _ _ _ _ (Nat.le_refl _) hn
      · split at h
        · rename_i hk
          injection h with h; subst h
          have := tyT_err ht hk
          simpa using this
        · exact endS_e h
    · split at h
      · exact hop _ h
      · split at h
        · exact hop _ h
        · split at h
          · exact hop _ h
          · unfold clauseSent at h
            split at h
            · rename_i hk
              injection h with h; subst h
              have hE := exprT_is l t i
              rw [hk] at hE
              have := Lamb.Expr.err hE
              simpa using this
            · exact endS_e h
theorem sentS_pos {t : List Tok} {l l' : List OpT} {i j : Nat} {s : Sent} (h : sentS t l i = .ok (s, j, l')) : s.pos = (tokL t i).pos := by
  rw [sentS_dot] at h
  unfold dotP at h
  split at h
  · cases h
  · split at h
    · injection h with h; injection h with h _; subst h; rfl
    · unfold endS at h
      split at h
      · injection h with h; injection h with h _; subst h; rfl
      · cases h
theorem allS_e {t : List Tok} (ht : t.length ≤ 1000000) : ∀ (n : Nat) (l : List OpT) (i : Nat) (acc : List Sent) (x : Bad), t.length - i ≤ n → allS t l i acc = .error x → x.e ≠ 0
  | n, l, i, acc, x, hn, h => by
    rw [allS_eq] at h
    split at h
    · cases h
    · rename_i h0
      have := tokL_lt h0
      split at h
      · rename_i hs
        injection h with h; subst h
        exact sentS_e ht hs
      · rename_i s j l' hs
        have hf := sentS_far hs
        cases n with
        | zero => omega
        | succ n => exact allS_e ht n l' j _ x (by omega) h
theorem allS_ok {t : List Tok} {P : Int → Prop} (hP : ∀ i, P (tokL t i).pos) : ∀ (n : Nat) (l : List OpT) (i : Nat) (acc : List Sent) (xs : List Sent) (l' : List OpT), t.length - i ≤ n → i ≤ t.length → (∀ x ∈ acc, P x.pos) → allS t l i acc = .ok (xs, l') → xs.length + i ≤ acc.length + t.length ∧ ∀ x ∈ xs, P x.pos
  | n, l, i, acc, xs, l', hn, hi, ha, h => by
    rw [allS_eq] at h
    split at h
    · injection h with h; injection h with h _; subst h
      exact ⟨by omega, ha⟩
    · rename_i h0
      have := tokL_lt h0
      split at h
      · cases h
      · rename_i s j l2 hs
        have hf := sentS_far hs
        cases n with
        | zero => omega
        | succ n =>
          have := allS_ok hP n l2 j (acc ++ [s]) xs l' (by omega) hf.2 (fun x hx => by
            rcases List.mem_append.1 hx with h' | h'
            · exact ha x h'
            · rw [List.mem_singleton.1 h', sentS_pos hs]; exact hP i) h
          rw [List.length_append] at this
          simp only [List.length_cons, List.length_nil] at this
          exact ⟨by omega, this.2⟩
theorem tok_place {s : List UInt8} (hs : s.length ≤ 65536) (he : (lexL s).err = 0) (i : Nat) : 0 ≤ (tokL (lexL s).toks i).pos ∧ (tokL (lexL s).toks i).pos ≤ s.length := by
  obtain ⟨hg, hne, _⟩ := good_lexL hs he
  have hp : 0 < (lexL s).toks.length := List.length_pos_iff.2 hne
  have hk : ∀ k (h : k < (lexL s).toks.length), 0 ≤ ((lexL s).toks[k]).pos ∧ ((lexL s).toks[k]).pos ≤ s.length := fun k h => by
    have := toAt_ok h hg
    have h1 := this.pos
    have h2 := this.le
    omega
  rcases Nat.lt_or_ge i (lexL s).toks.length with h | h
  · rw [tokL_in h]; exact hk i h
  · rw [tokL_out h]
    obtain ⟨x, h1, h2⟩ := lastPos_at hp
    have h3 := hk ((lexL s).toks.length - 1) (by omega)
    rw [List.getElem?_eq_getElem (by omega)] at h1
    injection h1 with h1
    show 0 ≤ lastPos (lexL s).toks ∧ lastPos (lexL s).toks ≤ s.length
    rw [h2, ← h1]; exact h3
theorem readS_e {s : List UInt8} {x : Bad} (hs : s.length ≤ 2048) (h : readS s = .error x) : (x.e != 0) = true := by
  have : x.e ≠ 0 := by
    unfold readS at h
    by_cases he : (lexL s).err = 0
    · rw [if_pos he] at h
      exact allS_e (by have := lexL_count s; omega) _ _ _ _ _ (Nat.le_refl _) h
    · rw [if_neg he] at h
      injection h with h; subst h; exact he
  simpa using this
theorem readS_k {s : List UInt8} {xs : List Sent} {l : List OpT} (hs : s.length ≤ 2048) (h : readS s = .ok (xs, l)) : (lexL s).err = 0 ∧ allS (lexL s).toks ops0 0 [] = .ok (xs, l) ∧ xs.length ≤ s.length + 1 ∧ ∀ x ∈ xs, 0 ≤ x.pos ∧ x.pos ≤ s.length := by
  unfold readS at h
  by_cases he : (lexL s).err = 0
  · rw [if_pos he] at h
    have := allS_ok (t := (lexL s).toks) (P := fun p => 0 ≤ p ∧ p ≤ s.length) (fun i => tok_place (by omega) he i) _ ops0 0 [] xs l (Nat.le_refl _) (Nat.zero_le _) (fun _ h => by cases h) h
    have hc := lexL_count s
    simp only [List.length_nil] at this
    exact ⟨he, h, by omega, this.2⟩
  · rw [if_neg he] at h; cases h
end Go.Proofs.YtapnncbenhkicaaGreatDoor
namespace Go.Proofs.YtapnncbenhkicaaGreatDoor
open Go.RowKit Go.Lamb
attribute [local go_sem] advO_skip advO_reg advO_seq advO_block advO_exit advO_endb advO_opsNil advO_ops advG_yes advG_no advG_none advS_some advS_none advO_cond advO_loop advO_dreg advO_ret advO_bad advO_inv advO_nil advO_zero wantedV Lamb.step ev_t ev_k put_some put_none argEnv popTo cellsAt V.cellsV V.rows V.toC toCs fillV bytesC byteRows appV rowsV boundV boundL binV binInt binStr eqC eqL V.isNil leaves V.leaf Ins.quiet Ins.pure List.getD_cons_zero List.getD_cons_succ List.getD_nil List.all_cons List.all_nil List.length_cons List.length_nil List.take_succ_cons List.take_zero List.drop_succ_cons List.drop_zero List.cons_append List.nil_append List.append_nil List.append_assoc List.map_cons List.map_nil List.getElem?_cons_zero List.getElem?_cons_succ List.length_append List.length_set hget0 hget hset0 hset hsets hgs0 hgs hss0 hss List.set_cons_zero List.set_cons_succ List.forall_mem_cons List.not_mem_nil false_implies implies_true Option.map_some Bool.and_true Bool.true_and Bool.not_not Bool.not_true Bool.not_false Bool.and_self Bool.or_true Bool.true_or Bool.or_false Bool.false_or Bool.and_false Bool.false_and Bool.false_eq_true beq_self_eq_true and_self and_true true_and if_true if_false Nat.zero_add Nat.add_zero Nat.le_refl Int.toNat_natCast decide_true decide_false beq_t beq_f List.length_map List.getElem?_map I S B opsC toksC OpT.v OpT.cs OpT.zero Tok.v Tok.cs Pre.v Pre.cs_eq k_mk name_mk n_mk l_mk pos_mk Pre.app applyL natCast0 natCast1 natCast2 AOp.o AOp.m AOp.f AOp.l AOp.d AOp.n AOp.x AOp.s AOp.k AOp.y AOp.z EOp.q low_c low_void low_any low_csl low_nilf low_ptr low_osl low_agg low_tup low_fn resEval advPO_nil advPO_loud advPO_quiet pL_yes pL_no pLS_some pLS_none pQ_yes pQ_no pQS_some pQS_loud eq_self Nat.sub_zero
attribute [local go_sem] Typ.v Typ.cs_eq tk_mk tname_mk tn_mk tl_mk tysC KdT.v KdT.cs NmT.v NmT.cs kdsC nmsC Sg.v Sent.v strsC sentsC Sent.cs

/-- What stands after the first i. -/
structure AllInv (xs : List Sent) (i : Nat) (s : Sg) : Prop where
  n : i ≤ xs.length
  k : s.kinds.length ≤ 1024 ∧ s.types.length ≤ 1024 ∧ s.ops.length ≤ 1024
  e : sigAll start0 xs 0 = sigAll s (xs.drop i) i
theorem AllInv.le {xs : List Sent} {i : Nat} {s : Sg} (h : AllInv xs i s) : SgLe s 2000 := ⟨by have := h.k; omega, by have := h.k; omega, by have := h.k; omega⟩
theorem AllInv.zero (xs : List Sent) : AllInv xs 0 start0 := ⟨Nat.zero_le _, ⟨of_decide_eq_true (by kernel_rfl), of_decide_eq_true (by kernel_rfl), of_decide_eq_true (by kernel_rfl)⟩, rfl⟩
theorem AllInv.next {xs : List Sent} {i : Nat} {s : Sg} (h : AllInv xs i s) (hi : i < xs.length) (he : (addS s xs[i]).2 = 0) : AllInv xs (i + 1) (addS s xs[i]).1 := ⟨hi, addS_most h.k he, by rw [h.e, sigAll_go hi he]⟩
theorem sig_All (w0 : World) (xs : List Sent) (hx : ∀ x ∈ xs, x.names.length ≤ 1000) (hlen : xs.length ≤ 1000000) (σ : H) : DC Tryz.prog w0 6 [.c (sentsC xs)] σ (Same (.tup [(sigAll start0 xs 0).1.v, I (sigAll start0 xs 0).2.1, I ((sigAll start0 xs 0).2.2 : Nat)]) σ) := by
  refine k6.go rfl (fun hok hsz => ?_)
  have h0 := AllInv.zero xs
  have a1 := fun σ => sig_Start w0 σ
  generalize hr : sigAll start0 xs 0 = r
  have hE : ∀ {i s}, AllInv xs i s → r = sigAll s (xs.drop i) i := fun h => hr.symm.trans h.e
  clear hr
  generalize hs0 : start0 = s0 at a1 h0
  clear hs0
  ((try refine W.a ?_); simp only [go_sem, seval, reduceCtorEq, c6])
  (refine W.c1 (a1 _) ?_; simp only [go_sem, seval, reduceCtorEq])
  refine W.loopP (fun x => AllInv xs x.1 x.2) (fun x => ⟨(((((((base.put (some 2) (.ptr σ.length 0)).put (some 3) (I 0)).put (some 4) (I 0)).put (some 5) (.ptr (σ.length + 1) 0)).put (some 11) (.c (sentsC xs))).put (some 12) (I xs.length)).put (some 13) (I (x.1 : Nat))), σ ++ [.cells [.csl [], .csl [], .csl []], .cells x.2.v.cellsV]⟩) (fun x => xs.length - x.1) (0, s0) h0 ?_ (fun x hinv => ?_)
  · (refine Lew.env ?_; exact lee_here)
  obtain ⟨i, s⟩ := x
  replace hinv : AllInv xs i s := hinv
  by_cases hlt : i < xs.length
  · have h1 : ((i : Int) < (xs.length : Int)) := by omega
    have hx' : xs[i]? = some xs[i] := List.getElem?_eq_getElem hlt
    have hw : IntKind.i64.wrap ((i : Int) + 1) = ((i + 1 : Nat) : Int) := wrap_next hlt (by omega)
    have a2 := fun σ => sig_Add w0 s hinv.le xs[i] (hx _ (List.getElem_mem hlt)) σ
    ((try refine W.a ?_); simp only [go_sem, seval, reduceCtorEq, h1])
    refine W.yes rfl ?_
    ((try refine W.a ?_); simp only [go_sem, seval, reduceCtorEq, h1, nat0, hx'])
    (refine W.c1 (a2 _) ?_; simp only [go_sem, seval, reduceCtorEq])
    by_cases he : (addS s xs[i]).2 = 0
    · have h2 : ((addS s xs[i]).2 != 0) = false := by simpa using he
      ((try refine W.a ?_); simp only [go_sem, seval, reduceCtorEq, h2])
      refine W.no rfl ?_
      ((try refine W.a ?_); simp only [go_sem, seval, reduceCtorEq, hw])
      refine .inv ⟨(i + 1, (addS s xs[i]).1), hinv.next hlt he, by show xs.length - (i + 1) < xs.length - i; omega, ?_⟩
      (refine Lew.cutL (hok) ?_ (by simp) (by simp) ?_ ?_ ?_; exact lee_here; ((try simp only [okB, wkB, go_sem, seval, reduceCtorEq]) <;> omega); (simp only [List.length_cons, List.length_nil, Nat.reduceAdd, List.take_succ_cons, List.take_zero, wkB, and_true]; (repeat' (refine And.intro ?_ ?_)) <;> (first | exact Blk.wk.rfl _ | exact Blk.wk.gone _ | (refine Blk.wk_cells ?_ rfl; (exact wk_here)))); (repeat' (first | exact LowE.base _ | (refine LowE.put ?_ (by first | exact .c _ | ((try simp only [okB, wkB, go_sem, seval, reduceCtorEq]) <;> omega))))))
    · have h2 : ((addS s xs[i]).2 != 0) = true := by simpa using he
      have hre := hE hinv
      rw [sigAll_stop hlt he] at hre
      subst hre
      ((try refine W.a ?_); simp only [go_sem, seval, reduceCtorEq, h2])
      refine W.yes rfl ?_
      ((try refine W.a ?_); simp only [go_sem, seval, reduceCtorEq])
      (refine W.fg (hok) (d := .tup [Sg.none.v, I (addS s xs[i]).2, I (i : Nat)]) (by simp only [r6, go_sem, seval, reduceCtorEq, Sg.none]; rfl) (by simp only [resV, go_sem, seval, reduceCtorEq, Sg.none]; exact wk_here) ?_ (hl := by (first | exact .c _ | (simp only [go_sem, seval, reduceCtorEq, Sg.none]; done))))
      exact ⟨rfl, rfl⟩
  · have h1 : ¬ ((i : Int) < (xs.length : Int)) := by omega
    have hre := hE hinv
    rw [sigAll_end (by omega)] at hre
    subst hre
    ((try refine W.a ?_); simp only [go_sem, seval, reduceCtorEq, h1])
    refine W.no rfl ?_
    ((try refine W.a ?_); simp only [go_sem, seval, reduceCtorEq])
    (refine W.fg (hok) (d := .tup [s.v, I 0, I ((0 : Nat) : Int)]) (by simp only [r6, go_sem, seval, reduceCtorEq]; rfl) (by simp only [resV, go_sem, seval, reduceCtorEq]; exact wk_here) ?_)
    exact ⟨rfl, rfl⟩
theorem start_ops : start0.ops = ops0 := by kernel_rfl
theorem law11_SigAll {w0 : World} (hG : Glob w0) (src : List UInt8) (σ : H) : DC Tryz.prog w0 3 [S src] σ (Same (B true) σ) := by
  refine k3.go rfl (fun hok hsz => ?_)
  ((try refine W.a ?_); simp only [go_sem, seval, reduceCtorEq, c3])
  (refine W.c1 (law11_works w0 _) ?_; simp only [go_sem, seval, reduceCtorEq])
  refine W.no rfl ?_
  by_cases h1 : (src.length : Int) > 600
  · ((try refine W.a ?_); simp only [go_sem, seval, reduceCtorEq, h1])
    refine W.yes rfl ?_
    ((try refine W.a ?_); simp only [go_sem, seval, reduceCtorEq])
    (refine W.fs (hok) (by simp only [r3, go_sem, seval, reduceCtorEq]; rfl) ?_; simp only [resV]; try exact V.wk.rfl _)
  ((try refine W.a ?_); simp only [go_sem, seval, reduceCtorEq, h1])
  refine W.no rfl ?_
  have a1 := fun σ => source_Read hG src (by omega) σ
  cases hr : readS src with
  | error x =>
    rw [hr] at a1
    have hx := readS_e (by omega) hr
    ((try refine W.a ?_); simp only [go_sem, seval, reduceCtorEq])
    (refine W.c1 (a1 _) ?_; simp only [go_sem, seval, reduceCtorEq, srcV])
    ((try refine W.a ?_); simp only [go_sem, seval, reduceCtorEq, hx])
    refine W.yes rfl ?_
    ((try refine W.a ?_); simp only [go_sem, seval, reduceCtorEq])
    (refine W.fs (hok) (by simp only [r3, go_sem, seval, reduceCtorEq]; rfl) ?_; simp only [resV]; try exact V.wk.rfl _)
  | ok y =>
  obtain ⟨xs, l⟩ := y
  rw [hr] at a1
  obtain ⟨he, hall, hxs, _⟩ := readS_k (by omega) hr
  obtain ⟨xs', hxx, hrun⟩ := allS_run _ _ _ _ _ _ (Nat.le_refl _) hall
  rw [List.nil_append] at hxx
  subst hxx
  have hnames := run_names hrun
  have hcount := lexL_count src
  have hn : ∀ x ∈ xs, x.names.length ≤ 1000 := fun x hx => by have := hnames x hx; omega
  have hops := run_ops hrun start0 0 start_ops
  clear hnames hcount hrun hall he hr
  have a2 := fun σ => sig_All w0 xs hn (by omega) σ
  have h0 := AllInv.zero xs
  have a3 := fun σ => sig_Start w0 σ
  have hE : ∀ {i s}, AllInv xs i s → sigAll start0 xs 0 = sigAll s (xs.drop i) i := fun h => h.e
  generalize sigAll start0 xs 0 = r at *
  generalize start0 = s0 at a3 h0
  ((try refine W.a ?_); simp only [go_sem, seval, reduceCtorEq])
  (refine W.c1 (a1 _) ?_; simp only [go_sem, seval, reduceCtorEq, srcV])
  refine W.no rfl ?_
  ((try refine W.a ?_); simp only [go_sem, seval, reduceCtorEq])
  (refine W.c1 (a2 _) ?_; simp only [go_sem, seval, reduceCtorEq])
  (refine W.c1 (a3 _) ?_; simp only [go_sem, seval, reduceCtorEq])
  --STOP
  refine W.loopP (fun x => AllInv xs x.1 x.2) (fun x => ⟨((((((((base.put (some 3) (B true)).put (some 4) (.c (sentsC xs))).put (some 5) (.c (opsC l))).put (some 8) (.ptr σ.length 0)).put (some 9) (I r.2.1)).put (some 10) (I (r.2.2 : Nat))).put (some 11) (.ptr (σ.length + 1) 0)).put (some 12) (I (x.1 : Nat))), σ ++ [.cells r.1.v.cellsV, .cells x.2.v.cellsV]⟩) (fun x => xs.length - x.1) (0, s0) h0 ?_ (fun x hinv => ?_)
  · (refine Lew.env ?_; exact lee_here)
  obtain ⟨i, s⟩ := x
  replace hinv : AllInv xs i s := hinv
  by_cases hlt : i < xs.length
  · have h1 : ((i : Int) < (xs.length : Int)) := by omega
    have hx' : xs[i]? = some xs[i] := List.getElem?_eq_getElem hlt
    have hw : IntKind.i64.wrap ((i : Int) + 1) = ((i + 1 : Nat) : Int) := wrap_next hlt (by omega)
    have a4 := fun σ => sig_Add w0 s hinv.le xs[i] (hn _ (List.getElem_mem hlt)) σ
    ((try refine W.a ?_); simp only [go_sem, seval, reduceCtorEq, h1])
    refine W.yes rfl ?_
    ((try refine W.a ?_); simp only [go_sem, seval, reduceCtorEq])
    apply W.dregE (List.cons_ne_nil _ _)
    case hc =>
      (apply CanonE.advPO; simp only [go_sem, seval, reduceCtorEq, h1, nat0, hx'])
      (apply CanonE.pcall (fun τ => a4 τ); (case hg => rfl); (case hf => rfl); (case ha => first | rfl | simp))
      (apply CanonE.advPO; simp only [go_sem, seval, reduceCtorEq])
      exact CanonE.nil
    ((try refine W.a ?_); simp only [go_sem, seval, reduceCtorEq])
    by_cases he : (addS s xs[i]).2 = 0
    · have h2 : ((addS s xs[i]).2 != 0) = false := by simpa using he
      ((try refine W.a ?_); simp only [go_sem, seval, reduceCtorEq, h2])
      refine W.no rfl ?_
      ((try refine W.a ?_); simp only [go_sem, seval, reduceCtorEq, hw])
      refine .inv ⟨(i + 1, (addS s xs[i]).1), hinv.next hlt he, by show xs.length - (i + 1) < xs.length - i; omega, ?_⟩
      (refine Lew.cutL (hok) ?_ (by simp) (by simp) ?_ ?_ ?_; exact lee_here; ((try simp only [okB, wkB, go_sem, seval, reduceCtorEq]) <;> omega); (simp only [List.length_cons, List.length_nil, Nat.reduceAdd, List.take_succ_cons, List.take_zero, wkB, and_true]; (repeat' (refine And.intro ?_ ?_)) <;> (first | exact Blk.wk.rfl _ | exact Blk.wk.gone _ | (refine Blk.wk_cells ?_ rfl; (exact wk_here)))); (repeat' (first | exact LowE.base _ | (refine LowE.put ?_ (by first | exact .c _ | ((try simp only [okB, wkB, go_sem, seval, reduceCtorEq]) <;> omega))))))
    · have h2 : ((addS s xs[i]).2 != 0) = true := by simpa using he
      have hre := hE hinv
      rw [sigAll_stop hlt he] at hre
      subst hre
      have a5 := fun σ => ref11_Same w0 Sg.none ⟨Nat.zero_le _, Nat.zero_le _, Nat.zero_le _⟩ σ
      unfold Sg.none at a5
      ((try refine W.a ?_); simp only [go_sem, seval, reduceCtorEq, h2, Sg.none])
      refine W.yes rfl ?_
      ((try refine W.a ?_); simp only [go_sem, seval, reduceCtorEq])
      (refine W.c1w (a5 _) ?_; simp only [go_sem, seval, reduceCtorEq])
      ((try refine W.a ?_); simp only [go_sem, seval, reduceCtorEq, beq_self_eq_true])
      (refine W.fs (hok) (by simp only [r3, go_sem, seval, reduceCtorEq]; rfl) ?_; simp only [resV]; try exact V.wk.rfl _)
  have h1 : ¬ ((i : Int) < (xs.length : Int)) := by omega
  have hre := hE hinv
  rw [sigAll_end (by omega)] at hre
  subst hre
  obtain rfl : s.ops = l := hops rfl
  have hk := hinv.k
  have a5 := fun σ => ref11_Same w0 s ⟨by omega, by omega, by omega⟩ σ
  ((try refine W.a ?_); simp only [go_sem, seval, reduceCtorEq, h1])
  refine W.no rfl ?_
  ((try refine W.a ?_); simp only [go_sem, seval, reduceCtorEq])
  (refine W.c1 (a5 _) ?_; simp only [go_sem, seval, reduceCtorEq, bne_self_eq_false])
  refine W.no rfl ?_
  ((try refine W.a ?_); simp only [go_sem, seval, reduceCtorEq])
  refine W.loopP (fun i => i ≤ s.ops.length) (fun i => ⟨((((base.put (some 3) (B true)).put (some 5) (.c (opsC s.ops))).put (some 8) (.ptr σ.length 0)).put (some 17) (I (i : Nat))), σ ++ [.cells s.v.cellsV, .cells s.v.cellsV]⟩) (fun i => s.ops.length - i) 0 (Nat.zero_le _) ?_ (fun i hi => ?_)
  · (refine Lew.env ?_; exact lee_here)
  by_cases hlt : i < s.ops.length
  · have h1 : ((i : Int) < (s.ops.length : Int)) := by omega
    have hx : s.ops[i]? = some s.ops[i] := List.getElem?_eq_getElem hlt
    have hw : IntKind.i64.wrap ((i : Int) + 1) = ((i + 1 : Nat) : Int) := wrap_next hlt (by omega)
    ((try refine W.a ?_); simp only [go_sem, seval, reduceCtorEq, h1])
    refine W.yes rfl ?_
    ((try refine W.a ?_); simp only [go_sem, seval, reduceCtorEq])
    (apply W.dregE (List.cons_ne_nil _ _); case hc => ((apply CanonE.advPO; simp only [go_sem, seval, reduceCtorEq, h1, nat0, hx]); exact CanonE.nil))
    ((try refine W.a ?_); simp only [go_sem, seval, reduceCtorEq])
    refine W.no rfl ?_
    ((try refine W.a ?_); simp only [go_sem, seval, reduceCtorEq, hw])
    refine .inv ⟨i + 1, hlt, by omega, ?_⟩
    (refine Lew.env ?_; exact lee_here)
  have h1 : ¬ ((i : Int) < (s.ops.length : Int)) := by omega
  ((try refine W.a ?_); simp only [go_sem, seval, reduceCtorEq, h1])
  refine W.no rfl ?_
  ((try refine W.a ?_); simp only [go_sem, seval, reduceCtorEq])
  (refine W.fs (hok) (by simp only [r3, go_sem, seval, reduceCtorEq]; rfl) ?_; simp only [resV]; try exact V.wk.rfl _)
end Go.Proofs.YtapnncbenhkicaaGreatDoor

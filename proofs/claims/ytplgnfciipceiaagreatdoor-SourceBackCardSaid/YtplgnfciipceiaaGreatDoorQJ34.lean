/-
  Walks: a tree that is written in brackets, or not (show.part).
  The code of some functions, without addresses.
  Walks: the document's answer: what a tree is; brackets.
  Walks: a tree to one side of an operator (show.side); trees written (show.tree).
  Walks: trees written (show.tree).
  Walks: trees written (show.tree): those that an operator makes; all.
  Walks: strings.Builder's String at a writer's block.
  Walks: trees as texts (show.Text).
  The code of some functions, without addresses.
  Walks: how long a tree's text is (show.Width); trees as lines (show.Lines).
  Walks: trees as lines (show.Lines): none; any.
  The code of some functions, without addresses.
  Walks: when types are the same, which may be; what a type takes; how many types and variables there are in one.
  Walks: numbers as texts; texts joined; a text in brackets.
  Walks: a type's text.
  Walks: how an operator is declared; a sentence as a text; does a text begin as a declaration?
  Walks: a sentence as a text.
  The code of some functions, without addresses.
  Walks: which trees could have been read, which are the same, and how large they are.
  Walks: which trees could have been read, which are the same, and how large they are.
  Walks: which trees could have been read, by both.
  Walks: which trees could have been read, and which are the same, in the document's words; how large they are.
  Walks: the statement SourceBack.
-/
import Derived.Test.YtplgnfciipceiaaGreatDoorQJ33
import Derived.Test.YtplgnfciipceiaaGreatDoorQJ14
import Derived.OwnWalk
import Derived.Handy
import Derived.Test.YtplgnfciipceiaaGreatDoorChecked
import Derived.Test.YtplgnfciipceiaaGreatDoorQJ11
import Derived.Test.YtplgnfciipceiaaGreatDoorQJ13
import Derived.BigRegion
import Derived.Lib.ItoaMem
import Derived.Test.YtplgnfciipceiaaGreatDoorQJ31
import Derived.Test.YtplgnfciipceiaaGreatDoorQLexG
import Derived.Test.YtplgnfciipceiaaGreatDoorQTyA2
import Derived.Lib.ItoaLen
import Derived.Lib.Join
import Derived.Test.YtplgnfciipceiaaGreatDoorQLexC
import Derived.Test.YtplgnfciipceiaaGreatDoorQRefH
import Derived.Test.YtplgnfciipceiaaGreatDoorQRefI
set_option linter.unusedSimpArgs false
set_option linter.unusedVariables false
set_option maxHeartbeats 8000000
set_option maxRecDepth 20000
namespace Go.Proofs.YtplgnfciipceiaaGreatDoor
open Go.RowKit Go.Lamb
attribute [local go_sem] advO_skip advO_reg advO_seq advO_block advO_exit advO_endb advO_opsNil advO_ops advG_yes advG_no advG_none advS_some advS_none advO_cond advO_loop advO_dreg advO_ret advO_bad advO_inv advO_nil advO_zero wantedV Lamb.step ev_t ev_k put_some put_none argEnv popTo cellsAt V.cellsV V.rows V.toC toCs fillV bytesC byteRows appV rowsV boundV boundL binV binInt binStr eqC eqL V.isNil leaves V.leaf Ins.quiet Ins.pure List.getD_cons_zero List.getD_cons_succ List.getD_nil List.all_cons List.all_nil List.length_cons List.length_nil List.take_succ_cons List.take_zero List.drop_succ_cons List.drop_zero List.cons_append List.nil_append List.append_nil List.append_assoc List.map_cons List.map_nil List.getElem?_cons_zero List.getElem?_cons_succ List.length_append List.length_set hget0 hget hset0 hset hsets hgs0 hgs hss0 hss List.set_cons_zero List.set_cons_succ List.forall_mem_cons List.not_mem_nil false_implies implies_true Option.map_some Bool.and_true Bool.true_and Bool.not_not Bool.not_true Bool.not_false Bool.and_self Bool.or_true Bool.true_or Bool.or_false Bool.false_or Bool.and_false Bool.false_and Bool.false_eq_true beq_self_eq_true and_self and_true true_and if_true if_false Nat.zero_add Nat.add_zero Nat.le_refl Int.toNat_natCast decide_true decide_false beq_t beq_f List.length_map List.getElem?_map I S B opsC toksC OpT.v OpT.cs OpT.zero Tok.v Tok.cs Pre.v Pre.cs_eq k_mk name_mk n_mk l_mk pos_mk Pre.app applyL natCast0 natCast1 natCast2 AOp.o AOp.m AOp.f AOp.l AOp.d AOp.n AOp.x AOp.s AOp.k AOp.y AOp.z EOp.q low_c low_void low_any low_csl low_nilf low_ptr low_osl low_agg low_tup low_fn resEval advPO_nil advPO_loud advPO_quiet pL_yes pL_no pLS_some pLS_none pQ_yes pQ_no pQS_some pQS_loud eq_self Nat.sub_zero
attribute [local go_sem] wrC wrY rs_len rs_g0 rs_g rs_s0 rs_s rs_sv
theorem builder_WriteByteD (w0 : World) (σ : H) (b v : Nat) (D : Two σ b v) (l : List OpT) (A : V) (hA : A = .c .nilp ∨ A = .ptr b 1) (s : List UInt8) (t : UInt8) (hn : s.length + 1 ≤ 100000000) :
    DCD Tryz.prog w0 157 [.ptr b 1, .c (.int .u8 t.toNat)] (wrs σ b v l A s) (Same (.c .nili) (wrs σ b v l (.ptr b 1) (s ++ [t]))) := by
  refine (k157).goD rfl (fun hok hsz => ?_)
  have hok2 := wrs_ok D hok l (s ++ [t])
  rw [wrs_push] at hok2 ⊢
  have hl1 : (byteRows s).length = s.length := by simp [byteRows]
  have hb1 : (s.length + 1) * 1 ≤ 140737488355328 := by omega
  have hb2 : s.length + 1 ≤ 140737488355328 := by omega
  ((try refine W.a ?_); simp only [go_sem, seval, reduceCtorEq, c157, rsA D])
  (refine W.c1 (copyCheckW w0 σ b v D l A hA s) ?_; simp only [go_sem, seval, reduceCtorEq])
  ((try refine W.a ?_); simp only [go_sem, seval, reduceCtorEq, rsA D, hl1, hb1, hb2])
  (refine W.fs (hok2) (by simp only [r157, go_sem, seval, reduceCtorEq]; rfl) ?_; simp only [resV]; try exact V.wk.rfl _)
def TreeD (w0 : World) (l : List OpT) (p : Pre) (t : List UInt8) : Prop :=
  ∀ (σ : H) (b v : Nat) (D : Two σ b v) (A : V) (hA : A = .c .nilp ∨ A = .ptr b 1) (s : List UInt8), s.length + t.length ≤ 100000000 →
    DC Tryz.prog w0 93 [.ptr b 0, p.v] (wrs σ b v l A s) (Same (.tup []) (wrs σ b v l (.ptr b 1) (s ++ t)))
theorem pre_value {κ : K} {p : Pre} {v : Value} (h : RV κ p.v v) : ∃ A c, v = .agg #[.int .i64 p.k, .string (bs p.name), .int .i64 p.n, .slice A p.l.length c, .int .i64 p.pos] := by
  unfold Pre.v at h
  cases h with
  | agg hl h1 =>
    rename_i xs
    match xs, hl, h1 with
    | [y0, y1, y2, y3, y4], _, h1 =>
      have r0 := h1 0 (by simp)
      have r1 := h1 1 (by simp)
      have r2 := h1 2 (by simp)
      have r3 := h1 3 (by simp)
      have r4 := h1 4 (by simp)
      simp only [List.getElem_cons_zero, List.getElem_cons_succ, List.getD_cons_zero, List.getD_cons_succ] at r0 r1 r2 r3 r4
      cases r0 with | c r0 => cases r0 with | int =>
      cases r1 with | c r1 => cases r1 with | str =>
      cases r2 with | c r2 => cases r2 with | int =>
      cases r4 with | c r4 => cases r4 with | int =>
      cases r3 with | c r3 =>
        cases r3 with
        | sl _ _ A cap =>
          rw [List.length_map]
          exact ⟨A, cap, rfl⟩
theorem pre_cells {w0 w : World} {κ : K} {σ : H} (h : Rep w0 κ σ w) {i : Nat} {p : Pre} (hi : σ[i]? = some (.cells p.v.cellsV none)) :
    ∃ y0 y1 y2 y3 y4, (∃ T, w.heap[κ.pos i]? = some (.cells #[y0, y1, y2, y3, y4] T (0, 0))) ∧ RV κ p.v (.agg #[y0, y1, y2, y3, y4]) := by
  obtain ⟨hlt, hie⟩ := List.getElem?_eq_some_iff.1 hi
  have hb := h.blk i hlt
  rw [hie] at hb
  obtain ⟨vs, t, k1, k2, k3⟩ := hb.row
  have k2 : vs.size = 5 := k2
  refine ⟨vs[0], vs[1], vs[2], vs[3], vs[4], ⟨t, ?_⟩, ?_⟩
  · rw [k1]
    congr 1
    congr 1
    apply Array.ext
    · simp [k2]
    · intro j h1 h2
      match j, h1 with
      | 0, _ => rfl
      | 1, _ => rfl
      | 2, _ => rfl
      | 3, _ => rfl
      | 4, _ => rfl
      | j + 5, h1 => omega
  · have e : ∀ j (hj : j < 5), vs.getD j undef = vs[j] := fun j hj => by simp [Array.getD, k2, hj]
    refine RV.agg (xs := [vs[0], vs[1], vs[2], vs[3], vs[4]]) rfl (fun j hj => ?_)
    have hj : j < 5 := hj
    have := (k3 j hj).2
    rw [e j hj] at this
    match j, hj, this with
    | 0, _, this => exact this
    | 1, _, this => exact this
    | 2, _, this => exact this
    | 3, _, this => exact this
    | 4, _, this => exact this
theorem part_brackets (w0 : World) (l : List OpT) (p : Pre) (t : List UInt8) (hT : TreeD w0 l p t) (σ : H) (b v : Nat) (D : Two σ b v) (A : V) (hA : A = .c .nilp ∨ A = .ptr b 1) (s : List UInt8) (hn : s.length + t.length + 2 ≤ 100000000) :
    DC Tryz.prog w0 156 [.ptr b 0, p.v, B true] (wrs σ b v l A s) (Same (.tup []) (wrs σ b v l (.ptr b 1) (s ++ (40 :: t ++ [41])))) := by
  refine ⟨enters_fn Tryz.func156 (by kernel_rfl) rfl, fun κ w vs hrep hfit => ?_⟩
  obtain ⟨x, ys, rfl, hx, hfit⟩ := hfit.cons_inv
  obtain ⟨y, zs, rfl, hy, hfit⟩ := hfit.cons_inv
  obtain ⟨z, us, rfl, hz, hfit⟩ := hfit.cons_inv
  have := hfit.nil_inv
  subst this
  have ez : z = .bool true := by cases hz with | c h => cases h; rfl
  have ex : x = .pointer (some ⟨κ.pos b, 0, none⟩) := by cases hx; rfl
  subst ez ex
  obtain ⟨vA, vc, ey⟩ := pre_value hy
  subst ey
  have hn0 : (wrs σ b v l A s).length = σ.length := rs_len _ _
  have hxn : b < κ.n ∧ κ.fr b = none := by cases hx with | ptr h1 h2 => exact ⟨h1, h2⟩
  have hbox := hrep.box (cs := p.v.cellsV) (vs := [.int .i64 p.k, .string (bs p.name), .int .i64 p.n, .slice vA p.l.length vc, .int .i64 p.pos]) 42 (tg := none) (fun T h => by cases h) rfl rfl (by
    have := cells_ok hy rfl
    exact this.2)
  obtain ⟨hb1, hb2⟩ := hbox
  rw [← rs_app D] at hb1
  have hle0 : κ.le (κ.more w.heap.size) := K.more_le
  rw [hn0] at hb2
  have hpn : b < (κ.more w.heap.size).n ∧ (κ.more w.heap.size).fr b = none ∧ (κ.more w.heap.size).pos b = κ.pos b := ⟨by have := hle0.n; omega, hle0.cells b hxn.1 hxn.2⟩
  have hqn : σ.length < (κ.more w.heap.size).n ∧ (κ.more w.heap.size).fr σ.length = none ∧ (κ.more w.heap.size).pos σ.length = w.heap.size := by
    generalize hg : Value.pointer (some ⟨w.heap.size, 0, none⟩) = g at hb2
    cases hb2 with
    | ptr h1 h2 => injection hg with hg; injection hg with hg; injection hg with hg; exact ⟨h1, h2, hg.symm⟩
  generalize κ.more w.heap.size = κ0 at *
  have hx2 : RV κ0 (.ptr b 1) (.pointer (some ⟨κ.pos b, 1, none⟩)) := by rw [← hpn.2.2]; exact .ptr hpn.1 hpn.2.1
  have hat : ∀ (X Y : Blk), (rs (σ ++ [Blk.cells p.v.cellsV]) b v X Y)[σ.length]? = some (.cells p.v.cellsV none) := fun X Y => by rw [rs_app D, rs_g0]
  go_enter_defers Tryz.func156, Tryz.ntmps156
  go_wp2_with (fail)
  refine ((builder_WriteByte w0 (σ ++ [.cells p.v.cellsV]) b v (D.app _) l A hA s 40 (by omega)).run _ _ [.pointer (some ⟨κ.pos b, 1, none⟩), .int .u8 40] hb1 (Fits.cons hx2 (Fits.cons (.c (.int _ _)) Fits.nil))).mono ?_
  rintro e w1 ⟨v1, d1, σ1, κ1, rfl, ⟨rfl, rfl⟩, hle1, hrep1, hv1⟩
  have hpn1 : b < κ1.n ∧ κ1.fr b = none ∧ κ1.pos b = κ.pos b := ⟨by have := hle1.n; omega, (hle1.cells b hpn.1 hpn.2.1).1, (hle1.cells b hpn.1 hpn.2.1).2.trans hpn.2.2⟩
  have hqn1 : κ1.pos σ.length = w.heap.size := (hle1.cells _ hqn.1 hqn.2.1).2.trans hqn.2.2
  obtain ⟨y0, y1, y2, y3, y4, ⟨T, hT1⟩, hy1⟩ := pre_cells hrep1 (hat _ _)
  obtain ⟨vA1, vc1, ey⟩ := pre_value hy1
  injection ey with ey
  injection ey with ey
  injection ey with e0 ey
  injection ey with e1 ey
  injection ey with e2 ey
  injection ey with e3 ey
  injection ey with e4 ey
  subst e0 e1 e2 e3 e4
  rw [hqn1] at hT1
  have c0 : w1.cell? ⟨w.heap.size, 0, none⟩ = _ := Lib.cell_of_heap hT1 0
  have c1 : w1.cell? ⟨w.heap.size, 1, none⟩ = _ := Lib.cell_of_heap hT1 1
  have c2 : w1.cell? ⟨w.heap.size, 2, none⟩ = _ := Lib.cell_of_heap hT1 2
  have c3 : w1.cell? ⟨w.heap.size, 3, none⟩ = _ := Lib.cell_of_heap hT1 3
  have c4 : w1.cell? ⟨w.heap.size, 4, none⟩ = _ := Lib.cell_of_heap hT1 4
  simp only [List.getElem?_toArray, List.getElem?_cons_zero, List.getElem?_cons_succ] at c0 c1 c2 c3 c4
  go_wp2_with (fail)
  have hx3 : RV κ1 (.ptr b 0) (.pointer (some ⟨κ.pos b, 0, none⟩)) := by rw [← hpn1.2.2]; exact .ptr hpn1.1 hpn1.2.1
  refine ((hT (σ ++ [.cells p.v.cellsV]) b v (D.app _) (.ptr b 1) (.inr rfl) (s ++ [40]) (by simp; omega)).run _ _ [.pointer (some ⟨κ.pos b, 0, none⟩), _] hrep1 (Fits.cons hx3 (Fits.cons hy1 Fits.nil))).mono ?_
  rintro e w2 ⟨v2, d2, σ2, κ2, rfl, ⟨rfl, rfl⟩, hle2, hrep2, hv2⟩
  have hpn2 : b < κ2.n ∧ κ2.fr b = none ∧ κ2.pos b = κ.pos b := ⟨by have := hle2.n; omega, (hle2.cells b hpn1.1 hpn1.2.1).1, (hle2.cells b hpn1.1 hpn1.2.1).2.trans hpn1.2.2⟩
  have hx4 : RV κ2 (.ptr b 1) (.pointer (some ⟨κ.pos b, 1, none⟩)) := by rw [← hpn2.2.2]; exact .ptr hpn2.1 hpn2.2.1
  go_wp2_with (fail)
  refine leaves_cons (f := 157) (args := #[.pointer (some ⟨κ.pos b, 1, none⟩), .int .u8 41]) (by simp) (by
    have hen := (builder_WriteByte w0 (σ ++ [.cells p.v.cellsV]) b v (D.app _) l A hA s 40 (by omega)).enters
    first | exact hen _ _ | simpa [invoke] using hen _ _ | simpa [go_sem] using hen _ _) ?_
  refine (builder_WriteByteD w0 (σ ++ [.cells p.v.cellsV]) b v (D.app _) l (.ptr b 1) (.inr rfl) (s ++ [40] ++ t) 41 (by simp; omega) κ2 w2 [.pointer (some ⟨κ.pos b, 1, none⟩), .int .u8 41] .returning hrep2 (Fits.cons hx4 (Fits.cons (.c (.int _ _)) Fits.nil))).mono ?_
  rintro e u' w3 ⟨rfl, v3, d3, σ3, κ3, rfl, ⟨rfl, rfl⟩, hle3, hrep3, hv3⟩
  refine ⟨_, by first | exact results_none rfl _ _ _ | (simp [results]; rfl), ?_⟩
  have hle : κ.le κ3 := K.le_trans hle0 (K.le_trans hle1 (K.le_trans hle2 hle3))
  have hs : s ++ [40] ++ t ++ [41] = s ++ 40 :: (t ++ [41]) := by simp
  rw [hs] at hrep3
  have hok2 := wrs_ok D hrep.ok l (s ++ 40 :: (t ++ [41]))
  have hr3 : Rep w0 κ3 (wrs σ b v l (.ptr b 1) (s ++ 40 :: (t ++ [41])) ++ [.cells p.v.cellsV]) w3 := by rw [← rs_app D]; exact hrep3
  have ht : (wrs σ b v l (.ptr b 1) (s ++ 40 :: (t ++ [41])) ++ [Blk.cells p.v.cellsV]).take σ.length = wrs σ b v l (.ptr b 1) (s ++ 40 :: (t ++ [41])) := List.take_left' (rs_len _ _)
  have hcut := hr3.cut σ.length (by simp) (by rw [ht]; exact hok2)
  rw [ht] at hcut
  exact ⟨_, .tup [], _, κ3.cut σ.length, rfl, ⟨rfl, rfl⟩, K.cut_le hle (by rw [hrep.n, hn0]; exact Nat.le_refl _), hcut, .tup rfl (fun j hj => absurd hj (Nat.not_lt_zero _))⟩
theorem writer_part (w0 : World) (l : List OpT) (p : Pre) (t : List UInt8) (hT : TreeD w0 l p t) (br : Bool) (σ : H) (b v : Nat) (D : Two σ b v) (A : V) (hA : A = .c .nilp ∨ A = .ptr b 1) (s : List UInt8) (hn : s.length + (putP t br).length ≤ 100000000) :
    DC Tryz.prog w0 156 [.ptr b 0, p.v, B br] (wrs σ b v l A s) (Same (.tup []) (wrs σ b v l (.ptr b 1) (s ++ putP t br))) := by
  cases br
  · rw [show putP t false = t from rfl] at hn ⊢
    refine k156.go rfl (fun hok hsz => ?_)
    have hok2 := wrs_ok D hok l (s ++ t)
    have hT := fun σ D => hT σ b v D A hA s hn
    rw [wrs_put] at hok2 ⊢
    ((try refine W.a ?_); simp only [go_sem, seval, reduceCtorEq, c156, rsA D, Pre.v])
    refine W.no rfl ?_
    ((try refine W.a ?_); simp only [go_sem, seval, reduceCtorEq, rsA D])
    have hT2 : ∀ (L : H), DC Tryz.prog w0 93 [.ptr b 0, p.v] (rs σ b v (wrC l A v s) (wrY s) ++ L) (Same (.tup []) (rs σ b v (.cells [.c (opsC l), .ptr b 1, .osl v (byteRows (s ++ t))] (some 150)) (.spare 5 1 (s.length + t.length)) ++ L)) := fun L => DC.lift D (fun D' => by have := hT _ D'; rwa [wrs_put] at this)
    (refine W.c1 (hT2 _) ?_; simp only [go_sem, seval, reduceCtorEq, rsA D])
    (refine W.done (Fin.sameW (hok2) (by (first | rfl | exact List.length_set .. | simp)) (by simp only [r156, go_sem, seval, reduceCtorEq]; rfl) ?_ (by (first | exact .c _ | (simp only [go_sem, seval, reduceCtorEq]; done))) (by (first | rfl | exact (List.append_nil _).symm))); simp only [resV]; try exact V.wk.rfl _)
  · exact part_brackets w0 l p t hT σ b v D A hA s (by simp [putP] at hn; omega)
end Go.Proofs.YtplgnfciipceiaaGreatDoor
namespace Go.Proofs.YtplgnfciipceiaaGreatDoor
open Go.RowKit Go.Lamb
end Go.Proofs.YtplgnfciipceiaaGreatDoor
namespace Go.Proofs.YtplgnfciipceiaaGreatDoor
open Go.RowKit Go.Lamb
attribute [local go_sem] advO_skip advO_reg advO_seq advO_block advO_exit advO_endb advO_opsNil advO_ops advG_yes advG_no advG_none advS_some advS_none advO_cond advO_loop advO_dreg advO_ret advO_bad advO_inv advO_nil advO_zero wantedV Lamb.step ev_t ev_k put_some put_none argEnv popTo cellsAt V.cellsV V.rows V.toC toCs fillV bytesC byteRows appV rowsV boundV boundL binV binInt binStr eqC eqL V.isNil leaves V.leaf Ins.quiet Ins.pure List.getD_cons_zero List.getD_cons_succ List.getD_nil List.all_cons List.all_nil List.length_cons List.length_nil List.take_succ_cons List.take_zero List.drop_succ_cons List.drop_zero List.cons_append List.nil_append List.append_nil List.append_assoc List.map_cons List.map_nil List.getElem?_cons_zero List.getElem?_cons_succ List.length_append List.length_set hget0 hget hset0 hset hsets hgs0 hgs hss0 hss List.set_cons_zero List.set_cons_succ List.forall_mem_cons List.not_mem_nil false_implies implies_true Option.map_some Bool.and_true Bool.true_and Bool.not_not Bool.not_true Bool.not_false Bool.and_self Bool.or_true Bool.true_or Bool.or_false Bool.false_or Bool.and_false Bool.false_and Bool.false_eq_true beq_self_eq_true and_self and_true true_and if_true if_false Nat.zero_add Nat.add_zero Nat.le_refl Int.toNat_natCast decide_true decide_false beq_t beq_f List.length_map List.getElem?_map I S B opsC toksC OpT.v OpT.cs OpT.zero Tok.v Tok.cs Pre.v Pre.cs_eq k_mk name_mk n_mk l_mk pos_mk Pre.app applyL natCast0 natCast1 natCast2 AOp.o AOp.m AOp.f AOp.l AOp.d AOp.n AOp.x AOp.s AOp.k AOp.y AOp.z EOp.q low_c low_void low_any low_csl low_nilf low_ptr low_osl low_agg low_tup low_fn resEval advPO_nil advPO_loud advPO_quiet pL_yes pL_no pLS_some pLS_none pQ_yes pQ_no pQS_some pQS_loud eq_self Nat.sub_zero
section
attribute [local go_sem] Pre.v Pre.cs_eq
theorem infP_R (l : List OpT) (p : Pre) : infP l p = if (infR l p).2.2.2 = true then some ((infR l p).1, (infR l p).2.1, (infR l p).2.2.1) else none := by
  cases h1 : appP p
  · have h0 : infP l p = none := by
      cases e : infP l p with
      | none => rfl
      | some x =>
        have := infP_app (l := l) (p := p) (by rw [e]; rfl)
        rw [h1] at this
        cases this
    rw [h0]
    unfold infR
    rw [h1]
    rfl
  · obtain ⟨f, t, hl⟩ := app_two h1
    have hk : p.k = 3 := by unfold appP at h1; simp only [Bool.and_eq_true, beq_iff_eq] at h1; exact h1.1
    unfold infP infR
    rw [h1, if_pos rfl, if_pos hk, hl]
    simp only []
    cases h2 : appP f
    · by_cases hf : f.k = 3
      · rw [if_pos hf]
        have hlen : ¬ f.l.length = 2 := fun e => by simp [appP, hf, e] at h2
        split
        · rename_i e
          rw [e] at hlen
          exact absurd rfl hlen
        · rfl
      · rw [if_neg hf]
        rfl
    · obtain ⟨c, a, hl2⟩ := app_two h2
      have hf : f.k = 3 := by unfold appP at h2; simp only [Bool.and_eq_true, beq_iff_eq] at h2; exact h2.1
      rw [if_pos hf, hl2]
      simp only [if_true]
      by_cases h3 : c.k = 0
      · rw [if_pos h3, if_pos h3]
        cases findL l c.name <;> rfl
      · rw [if_neg h3, if_neg h3]
        rfl
end
section
attribute [local go_sem] wrC wrY rs_len rs_g0 rs_g rs_s0 rs_s rs_sv
theorem tree_left (w0 : World) (σ : H) (q : Nat) (o x : OpT) (hq : ∀ L, (σ ++ L)[q]? = some (.cells o.v.cellsV none)) : DC Tryz.prog w0 150 [x.v, .ptr q 0] σ (Same (B (besideL o x 1)) σ) := by
  refine k150.go rfl (fun hok hsz => ?_)
  ((try refine W.a ?_); simp only [go_sem, seval, reduceCtorEq, c150, hq])
  (refine W.c1 (ops_Left w0 o x _) ?_; simp only [go_sem, seval, reduceCtorEq])
  (refine W.fs (hok) (by simp only [r150, go_sem, seval, reduceCtorEq]; rfl) ?_; simp only [resV]; try exact V.wk.rfl _)
theorem tree_right (w0 : World) (σ : H) (q : Nat) (o x : OpT) (hq : ∀ L, (σ ++ L)[q]? = some (.cells o.v.cellsV none)) : DC Tryz.prog w0 152 [x.v, .ptr q 0] σ (Same (B (besideL o x 2)) σ) := by
  refine k152.go rfl (fun hok hsz => ?_)
  ((try refine W.a ?_); simp only [go_sem, seval, reduceCtorEq, c152, hq])
  (refine W.c1 (ops_Right w0 o x _) ?_; simp only [go_sem, seval, reduceCtorEq])
  (refine W.fs (hok) (by simp only [r152, go_sem, seval, reduceCtorEq]; rfl) ?_; simp only [resV]; try exact V.wk.rfl _)
def sideG (l : List OpT) (g : OpT → Bool) (p : Pre) : Bool := lamP p || (match infP l p with | some (x, _, _) => !g x | none => false)
theorem writer_side (w0 : World) (l : List OpT) (p : Pre) (t : List UInt8) (hT : TreeD w0 l p t) (f : FuncId) (caps : List V) (g : OpT → Bool) (σ : H) (b v : Nat) (D : Two σ b v) (A : V) (hA : A = .c .nilp ∨ A = .ptr b 1) (s : List UInt8)
    (hF : ∀ L x, DC Tryz.prog w0 f (x.v :: caps) (wrs σ b v l A s ++ L) (Same (B (g x)) (wrs σ b v l A s ++ L))) (hn : s.length + (putP t (sideG l g p)).length ≤ 100000000) :
    DC Tryz.prog w0 149 [.ptr b 0, p.v, .fn f caps] (wrs σ b v l A s) (Same (.tup []) (wrs σ b v l (.ptr b 1) (s ++ putP t (sideG l g p)))) := by
  refine k149.go rfl (fun hok hsz => ?_)
  have hok2 := wrs_ok D hok l (s ++ putP t (sideG l g p))
  have hi := fun L => DC.lift (L := L) D (fun D' => writer_infix w0 (σ ++ L) b v D' l A s p)
  have hl := fun σ => show_lambda w0 p σ
  have hsd : sideG l g p = (lamP p || (match infP l p with | some (x, _, _) => !g x | none => false)) := rfl
  have hp := fun L (br : Bool) hn => DC.lift (L := L) D (fun D' => writer_part w0 l p t hT br (σ ++ L) b v D' A hA s hn)
  unfold infV at hi
  rw [infP_R] at hsd
  have hR : infR l p = ((infR l p).1, (infR l p).2.1, (infR l p).2.2.1, (infR l p).2.2.2) := rfl
  generalize (infR l p).1 = o at *
  generalize (infR l p).2.1 = x at *
  generalize (infR l p).2.2.1 = y at *
  generalize (infR l p).2.2.2 = is at *
  generalize lamP p = lm at *
  generalize sideG l g p = br at *
  have hpb := fun L => hp L br hn
  rw [wrs_put] at hok2 ⊢
  cases lm
  · cases is
    · have e : br = false := by rw [hsd]; rfl
      subst e
      ((try refine W.a ?_); simp only [go_sem, seval, reduceCtorEq, c149, rsA D, Pre.v])
      (refine W.c1 (hi _) ?_; simp only [go_sem, seval, reduceCtorEq, rsA D, Pre.v])
      apply W.dregE (List.cons_ne_nil _ _)
      case hc =>
        (apply CanonE.advPO; simp only [go_sem, seval, reduceCtorEq, rsA D, Pre.v])
        (apply CanonE.call (hl _); (case hg => rfl); (case hf => rfl); (case ha => first | rfl | simp))
        (apply CanonE.advPO; simp only [go_sem, seval, reduceCtorEq, rsA D, Pre.v])
        (apply CanonE.call (hpb _); (case hg => rfl); (case hf => rfl); (case ha => first | rfl | simp))
        (apply CanonE.advPO; simp only [go_sem, seval, reduceCtorEq, rsA D, Pre.v])
        exact CanonE.nil
      ((try refine W.a ?_); simp only [go_sem, seval, reduceCtorEq, rsA D])
      (refine W.done (Fin.sameW (hok2) (by (first | rfl | exact List.length_set .. | simp)) (by simp only [r149, go_sem, seval, reduceCtorEq]; rfl) ?_ (by (first | exact .c _ | (simp only [go_sem, seval, reduceCtorEq]; done))) (by (first | rfl | exact (List.append_nil _).symm))); simp only [resV]; try exact V.wk.rfl _)
    · have e : br = !g o := by rw [hsd]; rfl
      subst e
      ((try refine W.a ?_); simp only [go_sem, seval, reduceCtorEq, c149, rsA D, Pre.v])
      (refine W.c1 (hi _) ?_; simp only [go_sem, seval, reduceCtorEq, rsA D, Pre.v])
      apply W.dregE (List.cons_ne_nil _ _)
      case hc =>
        (apply CanonE.advPO; simp only [go_sem, seval, reduceCtorEq, rsA D, Pre.v])
        (apply CanonE.call (hl _); (case hg => rfl); (case hf => rfl); (case ha => first | rfl | simp))
        (apply CanonE.advPO; simp only [go_sem, seval, reduceCtorEq, rsA D, Pre.v])
        (apply CanonE.call (hF _ o); (case hg => rfl); (case hf => rfl); (case ha => first | rfl | simp))
        (apply CanonE.advPO; simp only [go_sem, seval, reduceCtorEq, rsA D, Pre.v])
        (apply CanonE.call (hpb _); (case hg => rfl); (case hf => rfl); (case ha => first | rfl | simp))
        (apply CanonE.advPO; simp only [go_sem, seval, reduceCtorEq, rsA D, Pre.v])
        exact CanonE.nil
      ((try refine W.a ?_); simp only [go_sem, seval, reduceCtorEq, rsA D])
      (refine W.done (Fin.sameW (hok2) (by (first | rfl | exact List.length_set .. | simp)) (by simp only [r149, go_sem, seval, reduceCtorEq]; rfl) ?_ (by (first | exact .c _ | (simp only [go_sem, seval, reduceCtorEq]; done))) (by (first | rfl | exact (List.append_nil _).symm))); simp only [resV]; try exact V.wk.rfl _)
  · have e : br = true := by rw [hsd]; rfl
    subst e
    ((try refine W.a ?_); simp only [go_sem, seval, reduceCtorEq, c149, rsA D, Pre.v])
    (refine W.c1 (hi _) ?_; simp only [go_sem, seval, reduceCtorEq, rsA D, Pre.v])
    apply W.dregE (List.cons_ne_nil _ _)
    case hc =>
      (apply CanonE.advPO; simp only [go_sem, seval, reduceCtorEq, rsA D, Pre.v])
      (apply CanonE.call (hl _); (case hg => rfl); (case hf => rfl); (case ha => first | rfl | simp))
      (apply CanonE.advPO; simp only [go_sem, seval, reduceCtorEq, rsA D, Pre.v])
      (apply CanonE.call (hpb _); (case hg => rfl); (case hf => rfl); (case ha => first | rfl | simp))
      (apply CanonE.advPO; simp only [go_sem, seval, reduceCtorEq, rsA D, Pre.v])
      exact CanonE.nil
    ((try refine W.a ?_); simp only [go_sem, seval, reduceCtorEq, rsA D])
    (refine W.done (Fin.sameW (hok2) (by (first | rfl | exact List.length_set .. | simp)) (by simp only [r149, go_sem, seval, reduceCtorEq]; rfl) ?_ (by (first | exact .c _ | (simp only [go_sem, seval, reduceCtorEq]; done))) (by (first | rfl | exact (List.append_nil _).symm))); simp only [resV]; try exact V.wk.rfl _)
end
section
attribute [local go_sem] wrC wrY rs_len rs_g0 rs_g rs_s0 rs_s rs_sv
theorem sideG_sideB (l : List OpT) (o : OpT) (fix : Int) (p : Pre) : sideG l (fun x => besideL o x fix) p = sideB l o fix p := rfl
theorem tree_word {w0 : World} (hG : Glob w0) (l : List OpT) (p : Pre) (hO : OkP p) (h1 : lamP p = false) (h2 : appP p = false) : TreeD w0 l p (showL l p) := by
  intro σ b v D A hA s hn
  rw [showL_word h1 h2] at hn ⊢
  refine k93.go rfl (fun hok hsz => ?_)
  have hok2 := wrs_ok D hok l (s ++ wordP l p)
  have hi := fun L => DC.lift (L := L) D (fun D' => writer_infix w0 (σ ++ L) b v D' l A s p)
  have hl := fun σ => show_lambda w0 p σ
  have ha := fun σ => show_application w0 p σ
  have hw := fun L => DC.lift (L := L) D (fun D' => writer_word hG (σ ++ L) b v D' l A hA s p hO.n hn)
  have hR : (infR l p).2.2.2 = false := by unfold infR; rw [h2]; rfl
  unfold infV at hi
  rw [hR] at hi
  rw [h1] at hl
  rw [h2] at ha
  generalize (infR l p).1 = o at *
  generalize (infR l p).2.1 = x at *
  generalize (infR l p).2.2.1 = y at *
  rw [wrs_put] at hok2 ⊢
  ((try refine W.a ?_); simp only [go_sem, seval, reduceCtorEq, c93, rsA D, Pre.v])
  (refine W.c1 (hi _) ?_; simp only [go_sem, seval, reduceCtorEq, rsA D, Pre.v])
  refine W.no rfl ?_
  ((try refine W.a ?_); simp only [go_sem, seval, reduceCtorEq, rsA D, Pre.v])
  (refine W.c1 (hl _) ?_; simp only [go_sem, seval, reduceCtorEq, rsA D, Pre.v])
  refine W.no rfl ?_
  ((try refine W.a ?_); simp only [go_sem, seval, reduceCtorEq, rsA D, Pre.v])
  (refine W.c1 (ha _) ?_; simp only [go_sem, seval, reduceCtorEq, rsA D, Pre.v])
  refine W.no rfl ?_
  ((try refine W.a ?_); simp only [go_sem, seval, reduceCtorEq, rsA D, Pre.v])
  (refine W.c1 (hw _) ?_; simp only [go_sem, seval, reduceCtorEq, rsA D, Pre.v])
  (refine W.done (Fin.sameW (hok2) (by (first | rfl | exact List.length_set .. | simp)) (by simp only [r93, go_sem, seval, reduceCtorEq]; rfl) ?_ (by (first | exact .c _ | (simp only [go_sem, seval, reduceCtorEq]; done))) (by (first | rfl | exact (List.append_nil _).symm))); simp only [resV]; try exact V.wk.rfl _)
theorem tree_lam {w0 : World} (l : List OpT) (p q : Pre) (h1 : p.k = 4) (h2 : p.l = [q]) (hT : TreeD w0 l q (showL l q)) : TreeD w0 l p (showL l p) := by
  intro σ b v D A hA s hn
  rw [showL_lam h1 h2] at hn ⊢
  rw [List.append_assoc] at hn ⊢
  refine k93.go rfl (fun hok hsz => ?_)
  have hok2 := wrs_ok D hok l (s ++ (p.name ++ ([92, 32] ++ showL l q)))
  have hi := fun L => DC.lift (L := L) D (fun D' => writer_infix w0 (σ ++ L) b v D' l A s p)
  have hl := fun σ => show_lambda w0 p σ
  have hw := fun L => DC.lift (L := L) D (fun D' => builder_WriteString w0 (σ ++ L) b v D' l A hA s (p.name ++ [92, 32]) (by simp at hn ⊢; omega))
  have ht := fun L => DC.lift (L := L) D (fun D' => hT (σ ++ L) b v D' (.ptr b 1) (.inr rfl) (s ++ (p.name ++ [92, 32])) (by simp at hn ⊢; omega))
  have hR : (infR l p).2.2.2 = false := by unfold infR appP; simp [h1]
  have hlm : lamP p = true := by simp [lamP, h1, h2]
  have es : s ++ (p.name ++ [92, 32]) ++ showL l q = s ++ (p.name ++ ([92, 32] ++ showL l q)) := by simp
  unfold infV at hi
  rw [hR] at hi
  rw [hlm] at hl
  rw [es] at ht
  have k1 : p.name.length + 2 ≤ 9223372036854775807 := by simp at hn; omega
  have k2 : p.name.length + 1 + 1 ≤ 9223372036854775807 := by simp at hn; omega
  generalize p.name ++ ([92, 32] ++ showL l q) = u at *
  generalize s ++ u = s3 at *
  generalize s ++ (p.name ++ [92, 32]) = s1 at hw ht
  generalize (infR l p).1 = o at *
  generalize (infR l p).2.1 = x at *
  generalize (infR l p).2.2.1 = y at *
  ((try refine W.a ?_); simp only [go_sem, seval, reduceCtorEq, c93, rsA D, Pre.v])
  (refine W.c1 (hi _) ?_; simp only [go_sem, seval, reduceCtorEq, rsA D, Pre.v])
  refine W.no rfl ?_
  ((try refine W.a ?_); simp only [go_sem, seval, reduceCtorEq, rsA D, Pre.v])
  (refine W.c1 (hl _) ?_; simp only [go_sem, seval, reduceCtorEq, rsA D, Pre.v])
  refine W.yes rfl ?_
  ((try refine W.a ?_); simp only [go_sem, seval, reduceCtorEq, rsA D, Pre.v])
  apply W.dregE (List.cons_ne_nil _ _)
  case hc =>
    (apply CanonE.advPO; simp only [go_sem, seval, reduceCtorEq, rsA D, Pre.v, k1, k2])
    (apply CanonE.call (hw _); (case hg => rfl); (case hf => rfl); (case ha => first | rfl | simp))
    (apply CanonE.advPO; simp only [go_sem, seval, reduceCtorEq, rsA D, Pre.v])
    exact CanonE.nil
  ((try refine W.a ?_); simp only [go_sem, seval, reduceCtorEq, rsA D, h2, nat0])
  (refine W.c1 (ht _) ?_; simp only [go_sem, seval, reduceCtorEq, rsA D, Pre.v])
  (refine W.done (Fin.sameW (hok2) (by (first | rfl | exact List.length_set .. | simp)) (by simp only [r93, go_sem, seval, reduceCtorEq]; rfl) ?_ (by (first | exact .c _ | (simp only [go_sem, seval, reduceCtorEq]; done))) (by (first | rfl | exact (List.append_nil _).symm))); simp only [resV]; try exact V.wk.rfl _)
theorem tree_app {w0 : World} (l : List OpT) (p f c : Pre) (hi0 : infP l p = none) (h1 : p.k = 3) (h2 : p.l = [f, c]) (hf : TreeD w0 l f (showL l f)) (hc : TreeD w0 l c (showL l c)) : TreeD w0 l p (showL l p) := by
  intro σ b v D A hA s hn
  rw [showL_app hi0 h1 h2] at hn ⊢
  refine k93.go rfl (fun hok hsz => ?_)
  have hlf : ((infP l f).isSome || lamP f) = ((infR l f).2.2.2 || lamP f) := by rw [infP_R]; cases (infR l f).2.2.2 <;> rfl
  rw [hlf] at hn ⊢
  have hi := fun L => DC.lift (L := L) D (fun D' => writer_infix w0 (σ ++ L) b v D' l A s p)
  have hif := fun L => DC.lift (L := L) D (fun D' => writer_infix w0 (σ ++ L) b v D' l A s f)
  have hl := fun σ => show_lambda w0 p σ
  have ha := fun σ => show_application w0 p σ
  have hlF := fun σ => show_lambda w0 f σ
  have hlC := fun σ => show_lambda w0 c σ
  have haC := fun σ => show_application w0 c σ
  have hlm : lamP p = false := by simp [lamP, h1]
  have hap : appP p = true := by simp [appP, h1, h2]
  have hR : (infR l p).2.2.2 = false := by
    rw [infP_R] at hi0
    cases e : (infR l p).2.2.2
    · rfl
    · rw [e, if_pos rfl] at hi0; cases hi0
  unfold infV at hi hif
  rw [hR] at hi
  rw [hlm] at hl
  rw [hap] at ha
  generalize (infR l p).1 = o at *
  generalize (infR l p).2.1 = x at *
  generalize (infR l p).2.2.1 = y at *
  generalize (infR l f).1 = of at *
  generalize (infR l f).2.1 = xf at *
  generalize (infR l f).2.2.1 = yf at *
  generalize (infR l f).2.2.2 = isf at *
  have hp1 := fun L => DC.lift (L := L) D (fun D' => writer_part w0 l f _ hf (isf || lamP f) (σ ++ L) b v D' A hA s (by simp at hn ⊢; omega))
  have hw := fun L => DC.lift (L := L) D (fun D' => builder_WriteByte w0 (σ ++ L) b v D' l (.ptr b 1) (.inr rfl) (s ++ putP (showL l f) (isf || lamP f)) 32 (by simp at hn ⊢; omega))
  have hp2 := fun L => DC.lift (L := L) D (fun D' => writer_part w0 l c _ hc (lamP c || appP c) (σ ++ L) b v D' (.ptr b 1) (.inr rfl) (s ++ putP (showL l f) (isf || lamP f) ++ [32]) (by simp at hn ⊢; omega))
  have es : s ++ putP (showL l f) (isf || lamP f) ++ [32] ++ putP (showL l c) (lamP c || appP c) = s ++ (putP (showL l f) (isf || lamP f) ++ 32 :: putP (showL l c) (lamP c || appP c)) := by simp
  rw [es] at hp2
  generalize putP (showL l f) (isf || lamP f) ++ 32 :: putP (showL l c) (lamP c || appP c) = u at *
  have hok2 := wrs_ok D hok l (s ++ u)
  have hu8 : ((32 : UInt8).toNat : Int) = 32 := rfl
  rw [hu8] at hw
  generalize putP (showL l f) (isf || lamP f) = u1 at *
  generalize hb1 : (isf || lamP f) = b1 at *
  generalize hb2 : (lamP c || appP c) = b2 at *
  generalize s ++ u = s3 at *
  generalize s ++ u1 = s1 at hp1 hw hp2
  generalize s1 ++ [32] = s2 at hw hp2
  have hif2 : isf = true → b1 = true := fun e => by rw [← hb1, e]; rfl
  have hif3 : isf = false → ∀ σ, DC Tryz.prog w0 154 [f.v] σ (Same (B b1) σ) := fun e σ => by rw [← hb1, e]; exact hlF σ
  have hc2 : lamP c = true → b2 = true := fun e => by rw [← hb2, e]; rfl
  have hc3 : lamP c = false → ∀ σ, DC Tryz.prog w0 155 [c.v] σ (Same (B b2) σ) := fun e σ => by rw [← hb2, e]; exact haC σ
  clear hb1 hb2
  generalize lamP c = lc at *
  cases isf <;> cases lc <;> (
    (try (have e := hif2 rfl; subst e))
    (try (have e := hc2 rfl; subst e))
    ((try refine W.a ?_); simp only [go_sem, seval, reduceCtorEq, c93, rsA D, Pre.v])
    (refine W.c1 (hi _) ?_; simp only [go_sem, seval, reduceCtorEq, rsA D, Pre.v])
    refine W.no rfl ?_
    ((try refine W.a ?_); simp only [go_sem, seval, reduceCtorEq, rsA D, Pre.v])
    (refine W.c1 (hl _) ?_; simp only [go_sem, seval, reduceCtorEq, rsA D, Pre.v])
    refine W.no rfl ?_
    ((try refine W.a ?_); simp only [go_sem, seval, reduceCtorEq, rsA D, Pre.v])
    (refine W.c1 (ha _) ?_; simp only [go_sem, seval, reduceCtorEq, rsA D, Pre.v])
    refine W.yes rfl ?_
    ((try refine W.a ?_); simp only [go_sem, seval, reduceCtorEq, rsA D, h2, nat0])
    (refine W.c1 (hif _) ?_; simp only [go_sem, seval, reduceCtorEq, rsA D, Pre.v, h2, nat0])
    apply W.dregE (List.cons_ne_nil _ _)
    case hc =>
      (apply CanonE.advPO; simp only [go_sem, seval, reduceCtorEq, rsA D, h2, nat0])
      (try ((apply CanonE.call (hif3 rfl _); (case hg => rfl); (case hf => rfl); (case ha => first | rfl | simp)); (apply CanonE.advPO; simp only [go_sem, seval, reduceCtorEq, rsA D, h2, nat0])))
      (apply CanonE.call (hp1 _); (case hg => rfl); (case hf => rfl); (case ha => first | rfl | simp))
      (apply CanonE.advPO; simp only [go_sem, seval, reduceCtorEq, rsA D])
      exact CanonE.nil
    ((try refine W.a ?_); simp only [go_sem, seval, reduceCtorEq, rsA D, h2, nat0])
    (refine W.c1 (hw _) ?_; simp only [go_sem, seval, reduceCtorEq, rsA D])
    apply W.dregE (List.cons_ne_nil _ _)
    case hc =>
      (apply CanonE.advPO; simp only [go_sem, seval, reduceCtorEq, rsA D, h2, nat0])
      (apply CanonE.call (hlC _); (case hg => rfl); (case hf => rfl); (case ha => first | rfl | simp))
      (apply CanonE.advPO; simp only [go_sem, seval, reduceCtorEq, rsA D, h2, nat0])
      (try ((apply CanonE.call (hc3 rfl _); (case hg => rfl); (case hf => rfl); (case ha => first | rfl | simp)); (apply CanonE.advPO; simp only [go_sem, seval, reduceCtorEq, rsA D, h2, nat0])))
      (apply CanonE.call (hp2 _); (case hg => rfl); (case hf => rfl); (case ha => first | rfl | simp))
      (apply CanonE.advPO; simp only [go_sem, seval, reduceCtorEq, rsA D])
      exact CanonE.nil
    ((try refine W.a ?_); simp only [go_sem, seval, reduceCtorEq, rsA D])
    (refine W.done (Fin.sameW (hok2) (by (first | rfl | exact List.length_set .. | simp)) (by simp only [r93, go_sem, seval, reduceCtorEq]; rfl) ?_ (by (first | exact .c _ | (simp only [go_sem, seval, reduceCtorEq]; done))) (by (first | rfl | exact (List.append_nil _).symm))); simp only [resV]; try exact V.wk.rfl _))
end
section
attribute [local go_sem] wrC wrY rs_len rs_g0 rs_g rs_s0 rs_s rs_sv
theorem tree_inf {w0 : World} (l : List OpT) (p : Pre) (o : OpT) (a c : Pre) (hi0 : infP l p = some (o, a, c)) (ha : TreeD w0 l a (showL l a)) (hc : TreeD w0 l c (showL l c)) : TreeD w0 l p (showL l p) := by
  intro σ b v D A hA s hn
  rw [showL_inf hi0] at hn ⊢
  refine k93.go rfl (fun hok hsz => ?_)
  have hi := fun L => DC.lift (L := L) D (fun D' => writer_infix w0 (σ ++ L) b v D' l A s p)
  have hR : infR l p = (o, a, c, true) := by
    rw [infP_R] at hi0
    cases e : (infR l p).2.2.2
    · rw [e, if_neg (by decide)] at hi0; cases hi0
    · rw [e, if_pos rfl] at hi0
      injection hi0 with hi0
      injection hi0 with e1 e2
      injection e2 with e2 e3
      rw [← e1, ← e2, ← e3, ← e]
  unfold infV at hi
  rw [hR] at hi
  have hn1 : s.length + (putP (showL l a) (sideB l o 1 a)).length ≤ 100000000 := by simp at hn ⊢; omega
  have hn2 : (s ++ putP (showL l a) (sideB l o 1 a)).length + (32 :: (o.name ++ [32])).length ≤ 100000000 := by simp at hn ⊢; omega
  have hn3 : (s ++ putP (showL l a) (sideB l o 1 a) ++ (32 :: (o.name ++ [32]))).length + (putP (showL l c) (sideB l o 2 c)).length ≤ 100000000 := by simp at hn ⊢; omega
  have k1 : 1 + o.name.length ≤ 9223372036854775807 := by simp at hn; omega
  have k2 : o.name.length + 1 + 1 ≤ 9223372036854775807 := by simp at hn; omega
  have k3 : o.name.length + 1 ≤ 9223372036854775806 := by simp at hn; omega
  have k4 : o.name.length + 1 ≤ 9223372036854775807 := by omega
  have es : s ++ (putP (showL l a) (sideB l o 1 a) ++ (32 :: o.name ++ [32]) ++ putP (showL l c) (sideB l o 2 c)) = s ++ putP (showL l a) (sideB l o 1 a) ++ (32 :: (o.name ++ [32])) ++ putP (showL l c) (sideB l o 2 c) := by simp
  rw [es]
  have hok2 := wrs_ok D hok l (s ++ putP (showL l a) (sideB l o 1 a) ++ (32 :: (o.name ++ [32])) ++ putP (showL l c) (sideB l o 2 c))
  have h1 := fun (x y1 y2 : Blk) => DC.lift (L := [x, .cells o.v.cellsV, y1, y2]) D (fun D' => writer_side w0 l a _ ha 150 [.ptr (σ.length + 1) 0] (fun x => besideL o x 1) (σ ++ [x, .cells o.v.cellsV, y1, y2]) b v D' A hA s (fun L x => by
    exact tree_left w0 _ (σ.length + 1) o x (fun M => by
      show (rs (σ ++ _) b v _ _ ++ L ++ M)[_]? = _
      rw [rs_app D, List.append_assoc, List.append_assoc, rs_g]
      rfl)) hn1)
  have h2 := fun (x y1 y2 : Blk) => DC.lift (L := [x, .cells o.v.cellsV, y1, y2]) D (fun D' => builder_WriteString w0 (σ ++ [x, .cells o.v.cellsV, y1, y2]) b v D' l (.ptr b 1) (.inr rfl) (s ++ putP (showL l a) (sideB l o 1 a)) (32 :: (o.name ++ [32])) hn2)
  have h3 := fun (x y1 y2 : Blk) => DC.lift (L := [x, .cells o.v.cellsV, y1, y2]) D (fun D' => writer_side w0 l c _ hc 152 [.ptr (σ.length + 1) 0] (fun x => besideL o x 2) (σ ++ [x, .cells o.v.cellsV, y1, y2]) b v D' (.ptr b 1) (.inr rfl) (s ++ putP (showL l a) (sideB l o 1 a) ++ (32 :: (o.name ++ [32]))) (fun L x => by
    exact tree_right w0 _ (σ.length + 1) o x (fun M => by
      show (rs (σ ++ _) b v _ _ ++ L ++ M)[_]? = _
      rw [rs_app D, List.append_assoc, List.append_assoc, rs_g]
      rfl)) hn3)
  rw [sideG_sideB] at h1 h3
  generalize putP (showL l a) (sideB l o 1 a) = u1 at *
  generalize putP (showL l c) (sideB l o 2 c) = u2 at *
  generalize s ++ u1 ++ (32 :: (o.name ++ [32])) ++ u2 = s3 at *
  generalize s ++ u1 ++ (32 :: (o.name ++ [32])) = s2 at *
  generalize s ++ u1 = s1 at *
  ((try refine W.a ?_); simp only [go_sem, seval, reduceCtorEq, c93, rsA D, Pre.v])
  (refine W.c1 (hi _) ?_; simp only [go_sem, seval, reduceCtorEq, rsA D, Pre.v])
  refine W.yes rfl ?_
  ((try refine W.a ?_); simp only [go_sem, seval, reduceCtorEq, rsA D, Pre.v])
  (refine W.c1 (h1 _ _ _) ?_; simp only [go_sem, seval, reduceCtorEq, rsA D, Pre.v])
  apply W.dregE (List.cons_ne_nil _ _)
  case hc =>
    (apply CanonE.advPO; simp only [go_sem, seval, reduceCtorEq, rsA D, k1, k2, k3, k4])
    (apply CanonE.call (h2 _ _ _); (case hg => rfl); (case hf => rfl); (case ha => first | rfl | simp))
    (apply CanonE.advPO; simp only [go_sem, seval, reduceCtorEq, rsA D])
    exact CanonE.nil
  ((try refine W.a ?_); simp only [go_sem, seval, reduceCtorEq, rsA D, Pre.v])
  (refine W.c1 (h3 _ _ _) ?_; simp only [go_sem, seval, reduceCtorEq, rsA D, Pre.v])
  (refine W.done (Fin.sameW (hok2) (by (first | rfl | exact List.length_set .. | simp)) (by simp only [r93, go_sem, seval, reduceCtorEq]; rfl) ?_ (by (first | exact .c _ | (simp only [go_sem, seval, reduceCtorEq]; done))) (by (first | rfl | exact (List.append_nil _).symm))); simp only [resV]; try exact V.wk.rfl _)
theorem writer_tree {w0 : World} (hG : Glob w0) (l : List OpT) (p : Pre) (hO : OkP p) : TreeD w0 l p (showL l p) := by
  refine (Pre.ind (P := fun p => OkP p → TreeD w0 l p (showL l p) ∧ ∀ q ∈ p.l, TreeD w0 l q (showL l q)) (fun p ih hO => ⟨?_, fun q hq => (ih q hq (hO.mem hq)).1⟩) p hO).1
  cases hi : infP l p with
  | some x =>
    obtain ⟨o, a, c⟩ := x
    obtain ⟨_, f, _, h2, _, h3, _⟩ := infP_some hi
    have hf : f ∈ p.l := by rw [h2]; simp
    exact tree_inf l p o a c hi ((ih f hf (hO.mem hf)).2 a (by rw [h3]; simp)) (ih c (by rw [h2]; simp) (hO.mem (by rw [h2]; simp))).1
  | none =>
    by_cases h1 : lamP p = true
    · have h1' := h1
      unfold lamP at h1'
      simp only [Bool.and_eq_true, beq_iff_eq] at h1'
      obtain ⟨q, hq⟩ := List.length_eq_one_iff.1 h1'.2
      have hqm : q ∈ p.l := by rw [hq]; simp
      exact tree_lam l p q h1'.1 hq (ih q hqm (hO.mem hqm)).1
    · have h1 : lamP p = false := by simpa using h1
      by_cases h2 : appP p = true
      · obtain ⟨f, c, hq⟩ := app_two h2
        have hk : p.k = 3 := by unfold appP at h2; simp only [Bool.and_eq_true, beq_iff_eq] at h2; exact h2.1
        have hf : f ∈ p.l := by rw [hq]; simp
        have hc : c ∈ p.l := by rw [hq]; simp
        exact tree_app l p f c hi hk hq (ih f hf (hO.mem hf)).1 (ih c hc (hO.mem hc)).1
      · have h2 : appP p = false := by simpa using h2
        exact tree_word hG l p hO h1 h2
end
end Go.Proofs.YtplgnfciipceiaaGreatDoor
namespace Go.Proofs.YtplgnfciipceiaaGreatDoor
open Go.RowKit Go.Lamb
theorem cells_byte : Tryz.prog.cellsOf 5 = 1 := by kernel_rfl
set_option maxHeartbeats 1000000 in
set_option maxRecDepth 100000 in
theorem string_row (w : World) (p g cap cells : Nat) (s : List UInt8) (h0 : s ≠ []) (hc : cap ≠ 0) (hn : s.length ≤ cells) (h63 : s.length ≤ 9223372036854775807)
    (h2 : w.cell? ⟨p, 2, none⟩ = some (.slice (some ⟨g, 0, none⟩) s.length cap)) (hsh : w.shape? g = some (5, cells)) (hcell : ∀ j x, s[j]? = some x → w.cell? ((⟨g, 0, none⟩ : Addr).add j) = some (.int .u8 x.toNat)) :
    Calls Tryz.prog 80 #[.pointer (some ⟨p, 1, none⟩)] w fun e w' => e = .returned (.string ⟨s.toArray⟩) ∧ w' = w.drew.freeze ⟨g, 0, none⟩ s.length := by
  have c1 : w.drew.cell? ⟨p, 2, none⟩ = some (.slice (some ⟨g, 0, none⟩) s.length cap) := h2
  have hSD : (Builtin.unsafeSliceData_ #[128] 177 #[.slice (some ⟨g, 0, none⟩) s.length cap]).run Tryz.prog w.drew = .ok (.pointer (some ⟨g, 0, none⟩)) w.drew :=
    Lib.run_unsafeSliceData_row _ _ _ _ _ _ hc
  have hUS : (Builtin.unsafeString_ #[177, 3] 9 #[.pointer (some ⟨g, 0, none⟩), .int .i64 s.length]).run Tryz.prog w.drew = .ok (.string ⟨s.toArray⟩) (w.drew.freeze ⟨g, 0, none⟩ s.length) :=
    Lib.run_unsafeString_row w.drew 177 3 9 5 Tryz.underlying177 cells_byte g cells hsh s h0 hn h63 hcell
  go_enter Tryz.func80, Tryz.ntmps80
  go_wp2
  go_region
  all_goals (go_wp2; go_ret; exact ⟨rfl, rfl⟩)
theorem rc_sl {m : Mem} {rows : List (List C)} {B : Option Addr} {n cap : Nat} (h : RC m (.sl rows) (.slice B n cap)) : n = rows.length ∧ ∃ (sz : Nat) (xs : List Value), (∀ r ∈ rows, r.length = sz) ∧ xs.length = rows.length * sz ∧ (rows ≠ [] → ∃ b o, B = some ⟨b, o, none⟩ ∧ ∀ k, k < xs.length → m b (o + k) = xs[k]?) ∧ ∀ i (hi : i < rows.length) j (hj : j < rows[i].length), RC m rows[i][j] (xs.getD (i * sz + j) undef) := by
  cases h with
  | sl _ sz _ _ xs z0 z1 z2 z3 z4 z5 => exact ⟨rfl, sz, xs, z0, z3, z4, z5⟩
theorem builder_String (w0 : World) (σ : H) (b v : Nat) (D : Two σ b v) (l : List OpT) (A : V) (s : List UInt8) (h0 : s ≠ []) :
    DC Tryz.prog w0 80 [.ptr b 1] (wrs σ b v l A s) (fun d σ' => d = S s ∧ σ' = rs σ b v (wrC l A v s) .gone) := by
  refine ⟨enters_fn Tryz.func80 (by kernel_rfl) rfl, fun κ w vs hrep hfit => ?_⟩
  obtain ⟨p, ys, rfl, hp, hfit⟩ := hfit.cons_inv
  have := hfit.nil_inv
  subst this
  have hvp : p = .pointer (some ⟨κ.pos b, 1, none⟩) := by cases hp; rfl
  subst hvp
  have hgb := rs_b D (wrC l A v s) (wrY s)
  have hgv := rs_v D (wrC l A v s) (wrY s)
  obtain ⟨hltb, hb'⟩ := List.getElem?_eq_some_iff.1 hgb
  obtain ⟨hltv, hv'⟩ := List.getElem?_eq_some_iff.1 hgv
  have hB := hrep.blk b hltb
  have hV := hrep.blk v hltv
  rw [hb'] at hB
  rw [hv'] at hV
  obtain ⟨us, T, k1, k2, k3⟩ := hB.row
  have k2 : us.size = 3 := k2
  have r2 := (k3 2 (by simp)).2
  have hlr : (byteRows s).length = s.length := by simp [byteRows]
  have hpos : 0 < s.length := List.length_pos_iff.2 h0
  have hu2 : us[2]? = some (us.getD 2 undef) := by rw [Array.getElem?_eq_getElem (by omega)]; simp [Array.getD, k2]
  have hc2 : w.cell? ⟨κ.pos b, 2, none⟩ = us[2]? := Lib.cell_of_heap k1 2
  generalize us.getD 2 undef = u at r2 hu2
  cases r2 with
  | osl hr q1 q2 q3 q4 q5 =>
    have hfr : κ.fr v = some s.length := hV.fr
    rw [hfr] at q2
    injection q2 with q2
    subst q2
    have hu := q4 hlr
    rcases hV.row with ⟨hz, _⟩ | ⟨xs, hown⟩
    · omega
    rcases hown.2 with ⟨_, hz⟩ | ⟨g, cap, cur, hsv, hbg, hg, hnc, hcm, hcs, htake⟩
    · omega
    rw [hsv] at hu
    subst hu
    have hcap : cap ≠ 0 := by omega
    have hcell : ∀ j x, s[j]? = some x → w.cell? ((⟨g, 0, none⟩ : Addr).add j) = some (.int .u8 x.toNat) := fun j x hx => by
      obtain ⟨hj, hx⟩ := List.getElem?_eq_some_iff.1 hx
      rw [Lib.add_plain, Nat.zero_add]
      obtain ⟨_, sz, ws, z0, z3, z4, z5⟩ := rc_sl hr
      obtain ⟨b', o', hA', hm⟩ := z4 (fun e => by rw [e] at hlr; simp at hlr; omega)
      injection hA' with hA'
      injection hA' with e1 e2
      subst e1 e2
      have hrj : (byteRows s)[j]'(by omega) = [C.int .u8 x.toNat] := by simp only [byteRows, List.getElem_map, hx]
      have hsz : sz = 1 := by
        have := z0 _ (List.getElem_mem (show j < (byteRows s).length by omega))
        rw [hrj] at this
        exact this.symm
      subst hsz
      have hjw : j < ws.length := by rw [z3]; omega
      have h5 := z5 j (by omega) 0 (by rw [hrj]; exact Nat.zero_lt_one)
      have h7 := hm j hjw
      rw [List.getElem?_eq_getElem hjw, Nat.zero_add] at h7
      rw [hrep.mem _ _ _ h7]
      have e3 : ws.getD (j * 1 + 0) undef = ws[j] := by simp [List.getD, hjw]
      rw [e3] at h5
      simp only [hrj, List.getElem_cons_zero] at h5
      generalize ws[j] = y at h5
      cases h5
      rfl
    unfold maxLen at hcm
    refine (string_row w (κ.pos b) g cap cur.size s h0 hcap (by omega) (by omega) (by rw [hc2, hu2]) (by simp [World.shape?, hg]) hcell).mono ?_
    rintro e w' ⟨rfl, rfl⟩
    have hd : Rep w0 κ (wrs σ b v l A s) w.drew := hrep.drew
    have hgone := hd.gone (n := s.length) hgv (show heldBy (κ.sv v) = some g from by rw [hsv]; cases cap with | zero => exact absurd rfl hcap | succ c => rfl) hbg
    rw [rs_sv] at hgone
    exact ⟨_, S s, _, κ, rfl, ⟨rfl, rfl⟩, K.le_refl κ, hgone, .c (.str s (by unfold maxLen; omega))⟩
set_option maxHeartbeats 1000000 in
set_option maxRecDepth 100000 in
theorem string_nil (w : World) (p : Nat) (h2 : w.cell? ⟨p, 2, none⟩ = some (.slice none 0 0)) :
    Calls Tryz.prog 80 #[.pointer (some ⟨p, 1, none⟩)] w fun e w' => e = .returned (.string .empty) ∧ w' = w.drew := by
  have c1 : w.drew.cell? ⟨p, 2, none⟩ = some (.slice none 0 0) := h2
  have hSD : (Builtin.unsafeSliceData_ #[128] 177 #[.slice none 0 0]).run Tryz.prog w.drew = .ok (.pointer none) w.drew := rfl
  have hUS : (Builtin.unsafeString_ #[177, 3] 9 #[.pointer none, .int .i64 0]).run Tryz.prog w.drew = .ok (.string .empty) w.drew := Lib.run_unsafeString_none w.drew _ _ _ none
  go_enter Tryz.func80, Tryz.ntmps80
  go_wp2
  go_region
  all_goals (go_wp2; go_ret; exact ⟨rfl, rfl⟩)
end Go.Proofs.YtplgnfciipceiaaGreatDoor
namespace Go.Proofs.YtplgnfciipceiaaGreatDoor
open Go.RowKit Go.Lamb
theorem string_end {w0 w : World} {κ : K} {σ : H} {b v : Nat} (D : Two σ b v) (l : List OpT) (A : V) (s : List UInt8) (hrep : Rep w0 κ (wrs σ b v l A s) w) (hnil : s = [] → κ.sv v = .slice none 0 0) :
    Calls Tryz.prog 80 #[.pointer (some ⟨κ.pos b, 1, none⟩)] w fun e w' => e = .returned (.string (bs s)) ∧ s.length ≤ maxLen ∧ ∃ κ' Y, κ.le κ' ∧ Rep w0 κ' (rs σ b v (wrC l A v s) Y) w' ∧ (∀ cs tg, Y = .cells cs tg → False) := by
  have hgb := rs_b D (wrC l A v s) (wrY s)
  have hgv := rs_v D (wrC l A v s) (wrY s)
  obtain ⟨hltb, hb'⟩ := List.getElem?_eq_some_iff.1 hgb
  obtain ⟨hltv, hv'⟩ := List.getElem?_eq_some_iff.1 hgv
  have hB := hrep.blk b hltb
  have hV := hrep.blk v hltv
  rw [hb'] at hB
  rw [hv'] at hV
  obtain ⟨us, T, k1, k2, k3⟩ := hB.row
  have k2 : us.size = 3 := k2
  have r2 := (k3 2 (by simp)).2
  have hu2 : us[2]? = some (us.getD 2 undef) := by rw [Array.getElem?_eq_getElem (by omega)]; simp [Array.getD, k2]
  have hc2 : w.cell? ⟨κ.pos b, 2, none⟩ = us[2]? := Lib.cell_of_heap k1 2
  generalize us.getD 2 undef = u at r2 hu2
  have hptr : RV κ (.ptr b 1) (.pointer (some ⟨κ.pos b, 1, none⟩)) := .ptr (by rw [hrep.n]; exact hltb) hB.fr
  by_cases h0 : s = []
  · subst h0
    have hu : u = .slice none 0 0 := by
      cases r2 with
      | osl hr q1 q2 q3 q4 q5 =>
        have hfr : κ.fr v = some 0 := hV.fr
        rw [hfr] at q2
        injection q2 with q2
        exact (q4 q2).trans (hnil rfl)
    subst hu
    refine (string_nil w (κ.pos b) (by rw [hc2, hu2])).mono ?_
    rintro e w' ⟨rfl, rfl⟩
    exact ⟨rfl, Nat.zero_le _, κ, wrY [], K.le_refl κ, hrep.drew, fun cs tg h => by cases h⟩
  · refine ((builder_String w0 σ b v D l A s h0).run κ w [.pointer (some ⟨κ.pos b, 1, none⟩)] hrep (Fits.cons hptr Fits.nil)).mono ?_
    rintro e w' ⟨v', d, σ', κ', rfl, ⟨rfl, rfl⟩, hle, hrep', hv⟩
    cases hv with
    | c hv =>
      cases hv with
      | str _ hlen => exact ⟨rfl, hlen, κ', .gone, hle, hrep', fun cs tg h => by cases h⟩
theorem writer_new {w0 w : World} {κ : K} {σ : H} {l : List OpT} {x : Value} (hrep : Rep w0 κ σ w) (hx : RV κ (.c (opsC l)) x) :
    ∃ κ3, κ.le κ3 ∧ Rep w0 κ3 (wrs (σ ++ [Blk.gone, Blk.gone]) σ.length (σ.length + 1) l (.c .nilp) []) (w.alloc (.cells #[x, .pointer none, .slice none 0 0] 150)) ∧ κ3.pos σ.length = w.heap.size ∧ κ3.sv (σ.length + 1) = .slice none 0 0 ∧ κ3.fr (σ.length + 1) = some 0 := by
  obtain ⟨h1, h2⟩ := hrep.box (cs := [.c (opsC l), .c .nilp, .csl []]) (vs := [x, .pointer none, .slice none 0 0]) 150 (tg := some 150) (fun T h => by injection h with h; exact h.symm) rfl rfl (fun j hj => by
    match j, hj with
    | 0, _ => exact hx
    | 1, _ => exact .c .nilp
    | 2, _ => exact .csl (A := none) (RC.nil _))
  have hle : κ.le (κ.more w.heap.size) := K.more_le
  have hp : (κ.more w.heap.size).pos σ.length = w.heap.size := by
    generalize hg : Value.pointer (some ⟨w.heap.size, 0, none⟩) = g at h2
    cases h2 with
    | ptr h1 h2 => injection hg with hg; injection hg with hg; injection hg with hg; exact hg.symm
  obtain ⟨κ3, k1, k2, k3, k4⟩ := turnNil h1 (b := σ.length) (j := 2) 5 1 (cs := [.c (opsC l), .c .nilp, .csl []]) (tg := some 150) (by simp) (by simp) (by rw [hp]; exact heap_alloc_new w _) rfl
  rw [show (σ ++ [Blk.cells [.c (opsC l), .c .nilp, .csl []] (some 150)]).length = σ.length + 1 from by simp] at k2 k3 k4
  refine ⟨κ3, K.le_trans hle k1, ?_, ?_, k3, k4⟩
  · have e : wrs (σ ++ [Blk.gone, Blk.gone]) σ.length (σ.length + 1) l (.c .nilp) [] = (σ ++ [Blk.cells [.c (opsC l), .c .nilp, .csl []] (some 150)] ++ [Blk.spare 5 1 0]).set σ.length (.cells ([V.c (opsC l), .c .nilp, .csl []].set 2 (.osl (σ.length + 1) [])) (some 150)) := by
      unfold wrs rs
      rw [List.append_assoc, hset0, hset0, hset]
      rfl
    rw [e]
    exact k2
  · have hB := h1.blk σ.length (by simp)
    rw [show (σ ++ [Blk.cells [.c (opsC l), .c .nilp, .csl []] (some 150)])[σ.length]'(by simp) = Blk.cells [.c (opsC l), .c .nilp, .csl []] (some 150) from by simp] at hB
    exact (k1.cells σ.length (by rw [h1.n]; simp) hB.fr).2.trans hp
theorem show_Text {w0 : World} (hG : Glob w0) (l : List OpT) (p : Pre) (hO : OkP p) (hn : (showL l p).length ≤ 100000000) (σ : H) :
    DC Tryz.prog w0 41 [.c (opsC l), p.v] σ (Same (S (showL l p)) σ) := by
  refine ⟨enters_fn Tryz.func41 (by kernel_rfl) rfl, fun κ w vs hrep hfit => ?_⟩
  obtain ⟨x, ys, rfl, hx, hfit⟩ := hfit.cons_inv
  obtain ⟨y, zs, rfl, hy, hfit⟩ := hfit.cons_inv
  have := hfit.nil_inv
  subst this
  obtain ⟨vA, vc, ey⟩ := pre_value hy
  subst ey
  obtain ⟨xA, xn, xc, ex⟩ : ∃ A n c, x = .slice A n c := by
    unfold opsC at hx
    cases hx with | c h => cases h; exact ⟨_, _, _, rfl⟩
  subst ex
  have hs1 : (w.alloc (.cells #[.int .i64 p.k, .string (bs p.name), .int .i64 p.n, .slice vA p.l.length vc, .int .i64 p.pos] 42)).heap.size = w.heap.size + 1 := Array.size_push ..
  obtain ⟨κ3, hle3, hr3, hp3, hnil, hfr3⟩ := writer_new (hrep.alloc (.cells #[.int .i64 p.k, .string (bs p.name), .int .i64 p.n, .slice vA p.l.length vc, .int .i64 p.pos] 42)) hx
  rw [hs1] at hp3
  have D : Two (σ ++ [Blk.gone, Blk.gone]) σ.length (σ.length + 1) := ⟨by omega, by simp, by simp⟩
  have hq3 : σ.length < κ3.n ∧ κ3.fr σ.length = none := by
    refine ⟨by rw [hr3.n]; simp, ?_⟩
    have e := rs_b D (wrC l (.c .nilp) (σ.length + 1) []) (wrY [])
    obtain ⟨hlt, e⟩ := List.getElem?_eq_some_iff.1 e
    have hB := hr3.blk σ.length hlt
    rw [e] at hB
    exact hB.fr
  have hx3 : RV κ3 (.ptr σ.length 0) (.pointer (some ⟨w.heap.size + 1, 0, none⟩)) := by
    rw [← hp3]
    exact .ptr hq3.1 hq3.2
  go_enter Tryz.func41, Tryz.ntmps41
  go_wp2_with (fail)
  refine ((writer_tree hG l p hO _ _ _ D (.c .nilp) (.inl rfl) [] (by simpa using hn)).run κ3 _ [.pointer (some ⟨w.heap.size + 1, 0, none⟩), _] hr3 (Fits.cons hx3 (Fits.cons (hy.mono hle3) Fits.nil))).mono ?_
  rintro e w1 ⟨v1, d1, σ1, κ4, rfl, ⟨rfl, rfl⟩, hle4, hr4, hv4⟩
  rw [List.nil_append] at hr4
  have hp4 : κ4.pos σ.length = w.heap.size + 1 := (hle4.cells _ hq3.1 hq3.2).2.trans hp3
  go_wp2_with (fail)
  rw [← hp4]
  refine (string_end D l _ _ hr4 (fun e => ?_)).mono ?_
  · obtain ⟨f', q1, q2, q3, q4⟩ := hle4.spare (σ.length + 1) 0 (by rw [hr3.n]; simp) hfr3
    have e2 := rs_v D (wrC l (.ptr σ.length 1) (σ.length + 1) (showL l p)) (wrY (showL l p))
    obtain ⟨hlt, e2⟩ := List.getElem?_eq_some_iff.1 e2
    have hV := hr4.blk _ hlt
    rw [e2] at hV
    have hf : κ4.fr (σ.length + 1) = some (showL l p).length := hV.fr
    rw [hf, e] at q1
    injection q1 with q1
    rw [q3 q1.symm, hnil]
  · rintro e w2 ⟨rfl, hlen, κ5, Y, hle5, hr5, hY⟩
    go_wp2
    go_ret
    have hfin : Rep w0 (κ5.cut σ.length) σ w2 := by
      have e3 : (rs (σ ++ [Blk.gone, Blk.gone]) σ.length (σ.length + 1) (wrC l (.ptr σ.length 1) (σ.length + 1) (showL l p)) Y).take σ.length = σ := by
        unfold rs
        rw [List.take_set_of_le (by omega), List.take_set_of_le (by omega), List.take_left' rfl]
      have := hr5.cut σ.length (by simp) (by rw [e3]; exact hrep.ok)
      rwa [e3] at this
    exact ⟨_, S (showL l p), σ, κ5.cut σ.length, rfl, ⟨rfl, rfl⟩, K.cut_le (K.le_trans hle3 (K.le_trans hle4 hle5)) (by rw [hrep.n]; exact Nat.le_refl _), hfin, .c (.str _ hlen)⟩
end Go.Proofs.YtplgnfciipceiaaGreatDoor
namespace Go.Proofs.YtplgnfciipceiaaGreatDoor
open Go.RowKit Go.Lamb
--absent /-- show.Width -/
--absent /-- show.Lines -/
end Go.Proofs.YtplgnfciipceiaaGreatDoor
namespace Go.Lamb
end Go.Lamb
namespace Go.Proofs.YtplgnfciipceiaaGreatDoor
open Go.RowKit Go.Lamb
end Go.Proofs.YtplgnfciipceiaaGreatDoor
namespace Go.Proofs.YtplgnfciipceiaaGreatDoor
open Go.RowKit Go.Lamb
end Go.Proofs.YtplgnfciipceiaaGreatDoor
namespace Go.Proofs.YtplgnfciipceiaaGreatDoor
open Go.RowKit Go.Lamb
def c39 : AC :=
  .seq (.reg [.o 1 (.box (.t 0)), .o 2 (.mov (.k (.c (.str []))))])
  (.seq (.block 0 (.seq (.reg [.f 9 0 1, .l 10 9, .o 11 (.bin .eql (.t 10) (.k (.c (.int .i64 1)))), .m 12 11, .y 13 (.fadd 2 (.t 1)) 12, .y 14 (.load1 (.t 13)) 12, .y 15 (.bin .lss (.t 14) (.k (.c (.int .i64 0)))) 12, .o 16 (.pick (.t 12) (.t 15) (.k (.c (.bool false)))), .m 8 16])
  (.cond (.t 8)
  (.seq (.reg [.o 2 (.mov (.k (.c (.str [63]))))])
  (.ret))
  (.seq (.reg [.f 18 0 1, .l 19 18, .o 20 (.bin .eql (.t 19) (.k (.c (.int .i64 1)))), .m 17 20])
  (.cond (.t 17)
  (.seq (.reg [.f 21 2 1, .l 22 21, .o 23 (.bin .rem (.t 22) (.k (.c (.int .i64 26)))), .o 24 (.bin .add (.k (.c (.int .i64 65))) (.t 23)), .o 25 (.conv .u8 (.t 24)), .o 26 (.bsl 1 [(.t 25)]), .o 27 (.b2s (.t 26)), .m 3 27])
  (.seq (.seq (.reg [.f 28 2 1, .l 29 28, .o 30 (.bin .quo (.t 29) (.k (.c (.int .i64 26)))), .m 4 30])
  (.seq (.reg [.m 31 4, .o 32 (.bin .gtr (.t 31) (.k (.c (.int .i64 0))))])
  (.cond (.t 32)
  (.reg [.m 33 3, .m 34 4, .k 35 62 [(.t 34)], .o 36 (.bin .add (.t 33) (.t 35)), .m 3 36])
  (.skip))))
  (.seq (.reg [.m 37 3, .m 2 37])
  (.ret))))
  (.seq (.reg [.d 39 4 1, .k 40 90 [(.t 39)], .m 38 40])
  (.cond (.t 38)
  (.seq (.dreg [.f 41 3 1, .l 42 41, .o 43 (.iadd 4 (.t 42) (.k (.c (.int .i64 0)))), .d 44 4 43, .k 45 39 [(.t 44)], .f 46 3 1, .l 47 46, .o 48 (.iadd 4 (.t 47) (.k (.c (.int .i64 0)))), .d 49 4 48, .k 50 90 [(.t 49)], .k 51 91 [(.t 45), (.t 50)], .o 52 (.bin .add (.t 51) (.k (.c (.str [32, 45, 62, 32])))), .f 53 3 1, .l 54 53, .o 55 (.iadd 4 (.t 54) (.k (.c (.int .i64 1)))), .d 56 4 55, .k 57 39 [(.t 56)], .o 58 (.bin .add (.t 52) (.t 57)), .m 2 58]
    [.q (.f 41 3 1), .q (.l 42 41), .q (.o 43 (.iadd 4 (.t 42) (.k (.c (.int .i64 0))))), .q (.d 44 4 43), ⟨.k 45 39 [(.t 44)], true, 0⟩, .q (.f 46 3 1), .q (.l 47 46), .q (.o 48 (.iadd 4 (.t 47) (.k (.c (.int .i64 0))))), .q (.d 49 4 48), ⟨.k 50 90 [(.t 49)], true, 1⟩, ⟨.k 51 91 [(.t 45), (.t 50)], true, 2⟩, .q (.f 53 3 1), .q (.l 54 53), .q (.o 55 (.iadd 4 (.t 54) (.k (.c (.int .i64 1))))), .q (.d 56 4 55), ⟨.k 57 39 [(.t 56)], true, 3⟩, ⟨.o 52 (.bin .add (.t 51) (.k (.c (.str [32, 45, 62, 32])))), false, 3⟩, ⟨.o 58 (.bin .add (.t 52) (.t 57)), false, 4⟩, ⟨.m 2 58, false, 4⟩])
  (.ret))
  (.skip))))))))
  (.seq (.reg [.f 59 1 1, .l 60 59, .o 61 (.bsl 1 [(.t 60)]), .m 5 61])
  (.seq (.seq (.reg [.f 62 3 1, .l 63 62, .o 64 (.lenr (.t 63)), .o 65 (.mov (.k (.c (.int .i64 0))))])
  (.block 1 (.loop (.seq (.reg [.o 66 (.bin .lss (.t 65) (.t 64))])
  (.seq (.cond (.t 66)
  (.skip)
  (.exit 1))
  (.seq (.block 2 (.seq (.reg [.o 67 (.iadd 4 (.t 63) (.t 65)), .d 68 4 67, .o 7 (.box (.k (.agg [.c (.int .i64 0), .c (.str []), .c (.int .i64 0), .csl []]))), .s 4 7 68])
  (.dreg [.m 69 5, .d 70 4 7, .k 71 39 [(.t 70)], .f 72 0 7, .l 73 72, .o 74 (.bin .neq (.t 73) (.k (.c (.int .i64 1)))), .m 75 74, .y 76 (.fadd 3 (.t 7)) 75, .y 77 (.load1 (.t 76)) 75, .y 78 (.lenr (.t 77)) 75, .y 79 (.bin .gtr (.t 78) (.k (.c (.int .i64 0)))) 75, .o 80 (.pick (.t 75) (.t 79) (.k (.c (.bool false)))), .k 81 91 [(.t 71), (.t 80)], .o 82 (.bsl 1 [(.t 81)]), .o 83 (.app 9 1 16 (.t 69) (.t 82)), .m 5 83]
    [.q (.d 70 4 7), ⟨.k 71 39 [(.t 70)], true, 0⟩, .q (.f 72 0 7), .q (.l 73 72), .q (.o 74 (.bin .neq (.t 73) (.k (.c (.int .i64 1))))), ⟨.m 75 74, false, 1⟩, ⟨.y 76 (.fadd 3 (.t 7)) 75, false, 1⟩, ⟨.y 77 (.load1 (.t 76)) 75, false, 1⟩, ⟨.y 78 (.lenr (.t 77)) 75, false, 1⟩, ⟨.y 79 (.bin .gtr (.t 78) (.k (.c (.int .i64 0)))) 75, false, 1⟩, ⟨.o 80 (.pick (.t 75) (.t 79) (.k (.c (.bool false)))), false, 1⟩, ⟨.k 81 91 [(.t 71), (.t 80)], true, 1⟩, .q (.m 69 5), ⟨.o 82 (.bsl 1 [(.t 81)]), false, 2⟩, ⟨.o 83 (.app 9 1 16 (.t 69) (.t 82)), true, 2⟩, ⟨.m 5 83, false, 3⟩])))
  (.reg [.o 84 (.bin .add (.t 65) (.k (.c (.int .i64 1)))), .m 65 84])))))))
  (.seq (.reg [.m 85 5, .k 86 92 [(.t 85), (.k (.c (.str [32])))], .m 2 86])
  (.ret)))))
def r39 : List ResV := [.tmp 2]
theorem k39 : CodeIs Tryz.prog 39 1 Tryz.f39 c39 r39 := ⟨by kernel_rfl, Tryz.func39, rfl, by kernel_rfl, by kernel_rfl, by decide, enters_fn Tryz.func39 (by kernel_rfl) rfl⟩
def c91 : AC :=
  .seq (.reg [.o 4 (.mov (.k (.c (.str []))))])
  (.seq (.seq (.reg [.m 5 1])
  (.cond (.t 5)
  (.seq (.reg [.m 6 0, .o 7 (.bin .add (.k (.c (.str [40]))) (.t 6)), .o 8 (.bin .add (.t 7) (.k (.c (.str [41])))), .m 4 8])
  (.ret))
  (.skip)))
  (.seq (.reg [.m 9 0, .m 4 9])
  (.ret)))
def r91 : List ResV := [.tmp 4]
theorem k91 : CodeIs Tryz.prog 91 2 Tryz.f91 c91 r91 := ⟨by kernel_rfl, Tryz.func91, rfl, by kernel_rfl, by kernel_rfl, by decide, enters_fn Tryz.func91 (by kernel_rfl) rfl⟩
def c90 : AC :=
  .seq (.reg [.o 1 (.box (.t 0)), .o 2 (.mov (.k (.c (.bool false))))])
  (.seq (.reg [.f 3 0 1, .l 4 3, .o 5 (.bin .eql (.t 4) (.k (.c (.int .i64 2)))), .m 6 5, .y 7 (.fadd 3 (.t 1)) 6, .y 8 (.load1 (.t 7)) 6, .y 9 (.lenr (.t 8)) 6, .y 10 (.bin .eql (.t 9) (.k (.c (.int .i64 2)))) 6, .o 11 (.pick (.t 6) (.t 10) (.k (.c (.bool false)))), .m 2 11])
  (.ret))
def r90 : List ResV := [.tmp 2]
theorem k90 : CodeIs Tryz.prog 90 1 Tryz.f90 c90 r90 := ⟨by kernel_rfl, Tryz.func90, rfl, by kernel_rfl, by kernel_rfl, by decide, enters_fn Tryz.func90 (by kernel_rfl) rfl⟩
end Go.Proofs.YtplgnfciipceiaaGreatDoor
namespace Go.Lamb
theorem namesW_take {l : List Str} {i : Nat} (h : i < l.length) : namesW (l.take (i + 1)) = (if i = 0 then [] else namesW (l.take i) ++ [32, 44, 32]) ++ l[i] := by
  rw [List.take_succ_eq_append_getElem h, namesW_snoc]
  congr 1
  by_cases h0 : i = 0
  · subst h0; simp
  · rw [if_neg h0, if_neg]
    intro e
    rcases List.take_eq_nil_iff.1 e with e | e
    · exact h0 e
    · rw [e] at h; simp at h
def accW (N : Str) (m : Nat) : Str := [107, 105, 110, 100, 32] ++ N ++ [32, 116, 121, 112, 101] ++ repsW m
theorem accW_zero (N : Str) : accW N 0 = 107 :: 105 :: 110 :: 100 :: 32 :: (N ++ [32, 116, 121, 112, 101]) := by simp [accW, repsW]
theorem accW_succ (N : Str) (m : Nat) : accW N (m + 1) = accW N m ++ [32, 45, 62, 32, 116, 121, 112, 101] := by
  unfold accW
  rw [repsW_succ]
  simp only [List.append_assoc]
theorem accW_len (N : Str) (m : Nat) : (accW N m).length = 10 + N.length + 8 * m := by
  unfold accW
  simp only [List.length_append, List.length_cons, List.length_nil, repsW_len]
  omega
theorem okT_valid (p : Typ) : validT p = true → OkT p := by
  induction p using Typ.ind with
  | h p ih =>
    intro hv
    have hkids : ∀ x ∈ p.l, OkT x := fun x hx => ih x hx (valid_mem hv hx)
    have hn : inI p.k ∧ inI p.n := by
      rw [validT_eq, Bool.and_eq_true] at hv
      have h1 := hv.1
      unfold nodeT at h1
      unfold inI
      split at h1
      · simp only [Bool.and_eq_true, beq_iff_eq] at h1; omega
      · split at h1
        · simp only [Bool.and_eq_true, beq_iff_eq, decide_eq_true_eq] at h1; omega
        · split at h1
          · simp only [Bool.and_eq_true, beq_iff_eq] at h1; omega
          · cases h1
    cases p
    exact .mk hn.1 hn.2 hkids
end Go.Lamb
namespace Go.Proofs.YtplgnfciipceiaaGreatDoor
open Go.RowKit Go.Lamb
attribute [local go_sem] advO_skip advO_reg advO_seq advO_block advO_exit advO_endb advO_opsNil advO_ops advG_yes advG_no advG_none advS_some advS_none advO_cond advO_loop advO_dreg advO_ret advO_bad advO_inv advO_nil advO_zero wantedV Lamb.step ev_t ev_k put_some put_none argEnv popTo cellsAt V.cellsV V.rows V.toC toCs fillV bytesC byteRows appV rowsV boundV boundL binV binInt binStr eqC eqL V.isNil leaves V.leaf Ins.quiet Ins.pure List.getD_cons_zero List.getD_cons_succ List.getD_nil List.all_cons List.all_nil List.length_cons List.length_nil List.take_succ_cons List.take_zero List.drop_succ_cons List.drop_zero List.cons_append List.nil_append List.append_nil List.append_assoc List.map_cons List.map_nil List.getElem?_cons_zero List.getElem?_cons_succ List.length_append List.length_set hget0 hget hset0 hset hsets hgs0 hgs hss0 hss List.set_cons_zero List.set_cons_succ List.forall_mem_cons List.not_mem_nil false_implies implies_true Option.map_some Bool.and_true Bool.true_and Bool.not_not Bool.not_true Bool.not_false Bool.and_self Bool.or_true Bool.true_or Bool.or_false Bool.false_or Bool.and_false Bool.false_and Bool.false_eq_true beq_self_eq_true and_self and_true true_and if_true if_false Nat.zero_add Nat.add_zero Nat.le_refl Int.toNat_natCast decide_true decide_false beq_t beq_f List.length_map List.getElem?_map I S B opsC toksC OpT.v OpT.cs OpT.zero Tok.v Tok.cs Pre.v Pre.cs_eq k_mk name_mk n_mk l_mk pos_mk Pre.app applyL natCast0 natCast1 natCast2 AOp.o AOp.m AOp.f AOp.l AOp.d AOp.n AOp.x AOp.s AOp.k AOp.y AOp.z EOp.q low_c low_void low_any low_csl low_nilf low_ptr low_osl low_agg low_tup low_fn resEval advPO_nil advPO_loud advPO_quiet pL_yes pL_no pLS_some pLS_none pQ_yes pQ_no pQS_some pQS_loud eq_self Nat.sub_zero
section
attribute [local go_sem] Typ.v Typ.cs_eq tk_mk tname_mk tn_mk tl_mk tysC

theorem sz_row_len {α : Type} {f : α → List C} {l : List α} {x : V} {args : List V} (h : ∀ y ∈ args, V.Sz y) (hx : x ∈ args) (e : x = .c (.sl (l.map f))) : l.length ≤ 9223372036854775807 := by
  subst e
  exact sz_rows (h _ hx)
theorem idxI_geq {α : Type} (p : α → Bool) (l : List α) : decide (idxI p l ≥ 0) = l.any p := by
  rcases idxI_cases p l with ⟨h, h'⟩ | ⟨i, hi, h, h'⟩
  · rw [h]
    rw [idxI_none_iff] at h
    have : l.any p = false := by simpa using h
    rw [this]; decide
  · rw [h]
    have : l.any p = true := by
      rw [List.any_eq_true]
      rw [List.find?_eq_some_iff_getElem] at h'
      exact ⟨l[i], List.getElem_mem hi, h'.1⟩
    rw [this]; simp
theorem any_all {α : Type} (l : List α) (p : α → Bool) : (l.any fun q => !p q) = !l.all p := by
  induction l with
  | nil => rfl
  | cons x l ih => simp only [List.any_cons, List.all_cons, ih]; cases p x <;> simp
theorem len_ne {n : Nat} (k : Nat) : ((n : Int) == (k : Int)) = (n == k) := by
  rw [Bool.eq_iff_iff]; simp; omega
theorem ty_arrow (w0 : World) (p : Typ) (σ : H) : DC Tryz.prog w0 90 [p.v] σ (Same (B (arrowT p)) σ) := by
  refine k90.go rfl (fun hok hsz => ?_)
  have l2 := len_ne (n := p.l.length) 2
  simp only [natCast2] at l2
  unfold arrowT
  (((try refine W.a ?_); (try simp only [bne, go_sem, seval, reduceCtorEq, c90, l2, *])); (repeat' (first | (refine W.yes rfl ?_; (refine W.a ?_; simp only [bne, go_sem, seval, reduceCtorEq, c90, l2, *])) | (refine W.no rfl ?_; (refine W.a ?_; simp only [bne, go_sem, seval, reduceCtorEq, c90, l2, *])) | (refine W.testn rfl (fun hT => ?_) (fun hT => ?_) <;> (refine W.a ?_; simp only [bne, go_sem, seval, reduceCtorEq, c90, l2, *])) | (refine W.test rfl (fun hT => ?_) (fun hT => ?_) <;> (refine W.a ?_; simp only [bne, go_sem, seval, reduceCtorEq, c90, l2, *])) | (refine advG_ifn _ _ _ _ (fun hT => ?_) (fun hT => ?_) <;> simp only [bne, go_sem, seval, reduceCtorEq, c90, l2, *]) | (refine advG_if _ _ _ _ (fun hT => ?_) (fun hT => ?_) <;> simp only [bne, go_sem, seval, reduceCtorEq, c90, l2, *]))))
  all_goals (refine W.fs (hok) (by simp only [r90, go_sem, seval, reduceCtorEq]; rfl) ?_; simp only [resV]; (first | exact V.wk.rfl _ | (refine wk_bool ?_; clear hsz hok; ((try simp only [beq_iff_eq, beq_eq_false_iff_ne, ne_eq, decide_eq_true_eq, decide_eq_false_iff_not] at *); first | (exfalso; omega) | (simp [*]; done) | (simp [*]; omega) | (simp [*])))))
end
section

theorem strconv_ItoaD {w0 : World} (hG : Glob w0) (n : Int) (h0 : -9223372036854775808 ≤ n) (h1 : n ≤ 9223372036854775807) (σ : H) : DC Tryz.prog w0 62 [I n] σ (Same (S (Lib.itoa n)) σ) := by
  refine DC.of_calls (enters_fn Tryz.func62 (by kernel_rfl) rfl) fun κ w vs hrep hfit => ?_
  obtain ⟨v, ys, rfl, hv, hfit⟩ := hfit.cons_inv
  have := hfit.nil_inv
  subst this
  cases hv with
  | c hv =>
    cases hv with
    | int _ _ =>
      refine ⟨_, .c (.str _ (by have := Lib.itoa_length_le n h0 h1; unfold maxLen; omega)), (itoaC n w h0 h1 (hG.ext hrep.ext)).mono ?_⟩
      rintro e w' ⟨rfl, hb⟩
      exact ⟨rfl, hb⟩
theorem strings_JoinD {w0 : World} (l : List Str) (sep : Str) (hj : (Lib.join l sep).length ≤ 100000000) (hn : l.length ≤ 100000000) (σ : H) : DC Tryz.prog w0 92 [.c (.sl (strsR l)), S sep] σ (Same (S (Lib.join l sep)) σ) := by
  refine DC.of_calls (enters_fn Tryz.func92 (by kernel_rfl) rfl) fun κ w vs hrep hfit => ?_
  obtain ⟨v, ys, rfl, hv, hfit⟩ := hfit.cons_inv
  obtain ⟨u, zs, rfl, hu, hfit⟩ := hfit.cons_inv
  have := hfit.nil_inv
  subst this
  cases hu with
  | c hu =>
    cases hu with
    | str _ hls =>
      cases hv with
      | c hv =>
        generalize hr : strsR l = rows at hv
        cases hv with
        | sl rows s A cap xs h0 h1 h2 h3 h4 h5 =>
          subst hr
          have hlen : (strsR l).length = l.length := by simp [strsR]
          rw [hlen] at h1 h3 ⊢
          cases l with
          | nil =>
            refine ⟨_, .c (.str _ (by rw [Lib.join_nil]; decide)), (Tryz.strings_Join_none A cap (bs sep) w).mono ?_⟩
            rintro e w' ⟨rfl, rfl⟩
            exact ⟨rfl, Below.refl _ _⟩
          | cons a r =>
            obtain ⟨b, o, rfl, hm⟩ := h4 (by simp [strsR])
            have hs : s = 1 := by
              have := h0 [C.str a] (by simp [strsR])
              simpa using this.symm
            subst hs
            have hc : ∀ (j : Nat) x, ((a :: r).map bs)[j]? = some x → w.cell? ⟨b, o + j, none⟩ = some (.string x) := fun j x hx => by
              rw [List.getElem?_map] at hx
              have hj' : j < (a :: r).length := by
                rcases Nat.lt_or_ge j (a :: r).length with h | h
                · exact h
                · rw [List.getElem?_eq_none h] at hx; cases hx
              rw [List.getElem?_eq_getElem hj'] at hx
              injection hx with hx
              subst hx
              have hx1 : j < xs.length := by rw [h3]; omega
              have e1 : (strsR (a :: r))[j]'(by rw [hlen]; exact hj') = [C.str (a :: r)[j]] := by simp only [strsR, List.getElem_map]
              have h6 := h5 j (by rw [hlen]; exact hj') 0 (by rw [e1]; exact Nat.zero_lt_one)
              have h7 := hm j hx1
              rw [List.getElem?_eq_getElem hx1] at h7
              have h8 := hrep.mem _ _ _ h7
              rw [h8]
              have e2 : xs.getD (j * 1 + 0) undef = xs[j] := by simp [List.getD, hx1]
              rw [e2] at h6
              simp only [e1, List.getElem_cons_zero] at h6
              generalize xs[j] = y at h6
              cases h6
              rfl
            have hbk : b < w.heap.size := by
              have := hc 0 (bs a) rfl
              exact cell_lt this
            have hmap : ((a :: r).map bs).map (fun x => x.data.toList) = a :: r := by
              rw [List.map_map]
              have : (fun x : ByteArray => x.data.toList) ∘ bs = id := by funext x; rfl
              rw [this, List.map_id]
            have hJ := Tryz.strings_Join b o cap ((a :: r).map bs) (bs sep) w hc hbk (by simp only [List.length_map]; simp only [List.length_cons] at hn ⊢; omega) (by rw [List.length_map]; exact h1) (by rw [hmap]; show (Lib.join (a :: r) sep).length ≤ _; omega)
            rw [hmap, List.length_map] at hJ
            refine ⟨_, .c (.str _ (by unfold maxLen; omega)), hJ.mono ?_⟩
            rintro e w' ⟨rfl, hb⟩
            exact ⟨rfl, hb⟩
theorem ty_put (w0 : World) (s : Str) (b : Bool) (hs : s.length ≤ 100000000) (σ : H) : DC Tryz.prog w0 91 [S s, B b] σ (Same (S (putL s b)) σ) := by
  refine k91.go rfl (fun hok hsz => ?_)
  have h1 : 1 + s.length ≤ 9223372036854775807 := by omega
  have h2 : s.length + 1 + 1 ≤ 9223372036854775807 := by omega
  have h3 : s.length + 1 ≤ 9223372036854775806 := by omega
  have h4 : s.length ≤ 9223372036854775805 := by omega
  ((try refine W.a ?_); simp only [go_sem, seval, reduceCtorEq, c91])
  cases b
  · refine W.no rfl ?_
    ((try refine W.a ?_); simp only [go_sem, seval, reduceCtorEq])
    (refine W.fs (hok) (by simp only [r91, go_sem, seval, reduceCtorEq]; rfl) ?_; simp only [resV]; try exact V.wk.rfl _)
  · refine W.yes rfl ?_
    ((try refine W.a ?_); simp only [go_sem, seval, reduceCtorEq, h1, h2, h3, h4])
    (refine W.fs (hok) (by simp only [r91, go_sem, seval, reduceCtorEq]; rfl) ?_; simp only [resV]; try exact V.wk.rfl _)
end
section
attribute [local go_sem] Typ.v Typ.cs_eq tk_mk tname_mk tn_mk tl_mk tysC

theorem ty_TextVar {w0 : World} (hG : Glob w0) (p : Typ) (hk : p.k = 1) (hn : inI p.n) (σ : H) : DC Tryz.prog w0 39 [p.v] σ (Same (S (textT p)) σ) := by
  refine k39.go rfl (fun hok hsz => ?_)
  rw [text_var hk]
  by_cases h0 : p.n < 0
  · rw [if_pos h0]
    ((try refine W.a ?_); simp only [go_sem, seval, reduceCtorEq, c39, hk, h0])
    refine W.yes rfl ?_
    ((try refine W.a ?_); simp only [go_sem, seval, reduceCtorEq])
    (refine W.fs (hok) (by simp only [r39, go_sem, seval, reduceCtorEq]; rfl) ?_; simp only [resV]; try exact V.wk.rfl _)
  · rw [if_neg h0]
    obtain ⟨_, hn⟩ := hn
    have e1 : p.n.tmod 26 = p.n % 26 := Int.tmod_eq_emod_of_nonneg (by omega)
    have e2 : p.n.tdiv 26 = p.n / 26 := Int.tdiv_eq_ediv_of_nonneg (by omega)
    have w1 : IntKind.i64.wrap (65 + p.n % 26) = 65 + p.n % 26 := by rw [wrap_in] <;> omega
    have w2 : IntKind.u8.wrap (65 + p.n % 26) = 65 + p.n % 26 := by
      unfold IntKind.wrap IntKind.bits IntKind.signed
      simp
      omega
    have w3 : IntKind.i64.wrap (p.n / 26) = p.n / 26 := by rw [wrap_in] <;> omega
    ((try refine W.a ?_); simp only [go_sem, seval, reduceCtorEq, c39, hk, h0])
    refine W.no rfl ?_
    ((try refine W.a ?_); simp only [go_sem, seval, reduceCtorEq])
    refine W.yes rfl ?_
    ((try refine W.a ?_); simp only [go_sem, seval, reduceCtorEq, e1, e2, w1, w2, w3])
    unfold varL
    by_cases h1 : 0 < p.n / 26
    · have h2 : p.n / 26 > 0 := h1
      have h3 := Lib.itoa_length_le (p.n / 26) (by omega) (by omega)
      have h4 : 1 + (Lib.itoa (p.n / 26)).length ≤ 9223372036854775807 := by omega
      rw [if_pos h1]
      ((try refine W.a ?_); simp only [go_sem, seval, reduceCtorEq, h2])
      refine W.yes rfl ?_
      ((try refine W.a ?_); simp only [go_sem, seval, reduceCtorEq])
      (refine W.c1 (strconv_ItoaD hG (p.n / 26) (by omega) (by omega) _) ?_; simp only [go_sem, seval, reduceCtorEq, h4])
      (refine W.fs (hok) (by simp only [r39, go_sem, seval, reduceCtorEq]; rfl) ?_; simp only [resV]; try exact V.wk.rfl _)
    · have h2 : ¬ p.n / 26 > 0 := h1
      rw [if_neg h1]
      ((try refine W.a ?_); simp only [go_sem, seval, reduceCtorEq, h2])
      refine W.no rfl ?_
      ((try refine W.a ?_); simp only [go_sem, seval, reduceCtorEq])
      (refine W.fs (hok) (by simp only [r39, go_sem, seval, reduceCtorEq]; rfl) ?_; simp only [resV]; try exact V.wk.rfl _)
theorem ty_TextArr {w0 : World} (p a b : Typ) (hA : arrowT p = true) (hl : p.l = [a, b]) (hn : (textT p).length ≤ 1000000) (σ : H)
    (ha : ∀ σ, DC Tryz.prog w0 39 [a.v] σ (Same (S (textT a)) σ)) (hb : ∀ σ, DC Tryz.prog w0 39 [b.v] σ (Same (S (textT b)) σ)) : DC Tryz.prog w0 39 [p.v] σ (Same (S (textT p)) σ) := by
  refine k39.go rfl (fun hok hsz => ?_)
  have hA' := hA
  simp only [arrowT, Bool.and_eq_true, beq_iff_eq] at hA'
  have nk : (p.k == 1) = false := by rw [hA'.1]; rfl
  obtain ⟨hn1, hn2⟩ := text_arr_len hA hl
  rw [text_arr hA hl]
  have h1 : (putL (textT a) (arrowT a)).length + 4 ≤ 9223372036854775807 := by omega
  have h2 : (putL (textT a) (arrowT a)).length + 4 + (textT b).length ≤ 9223372036854775807 := by omega
  have h3 : (putL (textT a) (arrowT a)).length + (4 + (textT b).length) ≤ 9223372036854775807 := by omega
  have h4 : (putL (textT a) (arrowT a)).length ≤ 9223372036854775803 := by omega
  ((try refine W.a ?_); simp only [go_sem, seval, reduceCtorEq, c39, nk])
  refine W.no rfl ?_
  ((try refine W.a ?_); simp only [go_sem, seval, reduceCtorEq, nk])
  refine W.no rfl ?_
  ((try refine W.a ?_); simp only [go_sem, seval, reduceCtorEq])
  (refine W.c1 (ty_arrow w0 p _) ?_; simp only [go_sem, seval, reduceCtorEq, hA])
  refine W.yes rfl ?_
  ((try refine W.a ?_); simp only [go_sem, seval, reduceCtorEq])
  apply W.dregE (List.cons_ne_nil _ _)
  case hc =>
    (apply CanonE.advPO; simp only [go_sem, seval, reduceCtorEq, hl])
    (apply CanonE.call (ha _); (case hg => rfl); (case hf => rfl); (case ha => first | rfl | simp))
    (apply CanonE.advPO; simp only [go_sem, seval, reduceCtorEq, hl])
    (apply CanonE.call (ty_arrow w0 a _); (case hg => rfl); (case hf => rfl); (case ha => first | rfl | simp))
    (apply CanonE.advPO; simp only [go_sem, seval, reduceCtorEq])
    (apply CanonE.call (ty_put w0 (textT a) (arrowT a) (by omega) _); (case hg => rfl); (case hf => rfl); (case ha => first | rfl | simp))
    (apply CanonE.advPO; simp only [go_sem, seval, reduceCtorEq, hl])
    (apply CanonE.call (hb _); (case hg => rfl); (case hf => rfl); (case ha => first | rfl | simp))
    (apply CanonE.advPO; simp only [go_sem, seval, reduceCtorEq, h1, h2, h3, h4])
    exact CanonE.nil
  ((try refine W.a ?_); simp only [go_sem, seval, reduceCtorEq])
  (refine W.fs (hok) (by simp only [r39, go_sem, seval, reduceCtorEq]; rfl) ?_; simp only [resV]; try exact V.wk.rfl _)
theorem many_of {x : Typ} (h : (x.k != 1) = true) : decide ((x.l.length : Int) > 0) = manyT x := by
  unfold manyT
  rw [h, Bool.true_and]
  apply decide_eq_decide.2
  omega
theorem many_no {x : Typ} (h : (x.k != 1) = false) : manyT x = false := by
  unfold manyT
  rw [h, Bool.false_and]
def txtL (l : List Typ) : List Str := l.map fun x => putL (textT x) (manyT x)
theorem ty_TextCon {w0 : World} (p : Typ) (hk : p.k ≠ 1) (hA : arrowT p = false) (hn : (textT p).length ≤ 1000000) (σ : H)
    (ih : ∀ x ∈ p.l, ∀ σ, DC Tryz.prog w0 39 [x.v] σ (Same (S (textT x)) σ)) : DC Tryz.prog w0 39 [p.v] σ (Same (S (textT p)) σ) := by
  refine k39.go rfl (fun hok hsz => ?_)
  have nk : (p.k == 1) = false := by simpa using hk
  obtain ⟨hn1, hn2⟩ := text_con_len hk hA
  have hlen : p.l.length ≤ 9223372036854775807 := by omega
  have hj : (Lib.join (p.name :: txtL p.l) [32]).length ≤ 100000000 := by
    have := text_con hk hA
    unfold txtL
    rw [← this]; omega
  have hj2 : (p.name :: txtL p.l).length ≤ 100000000 := by simp [txtL]; omega
  rw [text_con hk hA]
  ((try refine W.a ?_); simp only [go_sem, seval, reduceCtorEq, c39, nk])
  refine W.no rfl ?_
  ((try refine W.a ?_); simp only [go_sem, seval, reduceCtorEq, nk])
  refine W.no rfl ?_
  ((try refine W.a ?_); simp only [go_sem, seval, reduceCtorEq])
  (refine W.c1 (ty_arrow w0 p _) ?_; simp only [go_sem, seval, reduceCtorEq, hA])
  refine W.no rfl ?_
  ((try refine W.a ?_); simp only [go_sem, seval, reduceCtorEq])
  refine W.loopP (fun i => i ≤ p.l.length) (fun i => match i with
    | 0 => ⟨(((((base.put (some 1) (.ptr σ.length 0)).put (some 5) (.csl [[C.str p.name]])).put (some 63) (.c (tysC p.l))).put (some 64) (I p.l.length)).put (some 65) (I 0)), σ ++ [.cells p.v.cellsV]⟩
    | i + 1 => ⟨(((((base.put (some 1) (.ptr σ.length 0)).put (some 5) (.osl (σ.length + 2) ([C.str p.name] :: strsR (txtL (p.l.take (i + 1)))))).put (some 63) (.c (tysC p.l))).put (some 64) (I p.l.length)).put (some 65) (I ((i + 1 : Nat) : Int))), σ ++ [.cells p.v.cellsV, .gone, .spare 9 1 (i + 2)]⟩) (fun i => p.l.length - i) 0 (Nat.zero_le _) ?_ (fun i hi => ?_)
  · (refine Lew.env ?_; exact lee_here)
  · by_cases hlt : i < p.l.length
    · have hx : p.l[i]? = some p.l[i] := List.getElem?_eq_getElem hlt
      have hw := wrap_next hlt hlen
      have hmem : p.l[i] ∈ p.l := List.getElem_mem hlt
      have hc := ih _ hmem
      obtain ⟨hn3, hn4⟩ := hn2 _ hmem
      have hm : ∀ q, (p.l[i].k != 1) = q → q = (p.l[i].k != 1) := fun q h => h.symm
      have htk : txtL (p.l.take (i + 1)) = txtL (p.l.take i) ++ [putL (textT p.l[i]) (manyT p.l[i])] := by
        unfold txtL
        rw [List.take_succ_eq_append_getElem hlt, List.map_append]; rfl
      generalize p.l[i] = x at hx hc hn3 hn4 hm htk hmem
      rcases i with _ | i
      · have h1 : ((0 : Int) < (p.l.length : Int)) := by omega
        ((try refine W.a ?_); simp only [go_sem, seval, reduceCtorEq, h1])
        refine W.yes rfl ?_
        ((try refine W.a ?_); simp only [go_sem, seval, reduceCtorEq, h1, hx])
        cases hq : (x.k != 1)
        · have hmm := many_no hq
          rw [hmm] at htk
          apply W.dregE (List.cons_ne_nil _ _)
          case hc =>
            (apply CanonE.advPO; simp only [go_sem, seval, reduceCtorEq])
            (apply CanonE.call (hc _); (case hg => rfl); (case hf => rfl); (case ha => first | rfl | simp))
            (apply CanonE.advPO; simp only [go_sem, seval, reduceCtorEq, hq])
            (apply CanonE.call (ty_put w0 (textT x) false (by omega) _); (case hg => rfl); (case hf => rfl); (case ha => first | rfl | simp))
            (apply CanonE.advPO; simp only [go_sem, seval, reduceCtorEq, hq, ne_eq, not_false_eq_true, or_true])
            exact CanonE.nil
          ((try refine W.a ?_); simp only [go_sem, seval, reduceCtorEq, hw])
          refine .inv ⟨1, by omega, by omega, ?_⟩
          simp only [htk, strsR, List.map_append, List.map_cons, List.map_nil]
          (refine Lew.cutL (hok) ?_ (by simp) (by simp) ?_ ?_ ?_; exact lee_here; ((try simp only [okB, wkB, go_sem, seval, reduceCtorEq]) <;> omega); (simp only [List.length_cons, List.length_nil, Nat.reduceAdd, List.take_succ_cons, List.take_zero, wkB, and_true]; (repeat' (refine And.intro ?_ ?_)) <;> (first | exact Blk.wk.rfl _ | exact Blk.wk.gone _ | (refine Blk.wk_cells ?_ rfl; (exact wk_here)))); (repeat' (first | exact LowE.base _ | (refine LowE.put ?_ (by first | exact .c _ | ((try simp only [okB, wkB, go_sem, seval, reduceCtorEq]) <;> omega))))))
        · have hmm := many_of hq
          apply W.dregE (List.cons_ne_nil _ _)
          case hc =>
            (apply CanonE.advPO; simp only [go_sem, seval, reduceCtorEq])
            (apply CanonE.call (hc _); (case hg => rfl); (case hf => rfl); (case ha => first | rfl | simp))
            (apply CanonE.advPO; simp only [go_sem, seval, reduceCtorEq, hq, hmm])
            (apply CanonE.call (ty_put w0 (textT x) (manyT x) (by omega) _); (case hg => rfl); (case hf => rfl); (case ha => first | rfl | simp))
            (apply CanonE.advPO; simp only [go_sem, seval, reduceCtorEq, hq, ne_eq, not_false_eq_true, or_true])
            exact CanonE.nil
          ((try refine W.a ?_); simp only [go_sem, seval, reduceCtorEq, hw])
          refine .inv ⟨1, by omega, by omega, ?_⟩
          simp only [htk, strsR, List.map_append, List.map_cons, List.map_nil]
          (refine Lew.cutL (hok) ?_ (by simp) (by simp) ?_ ?_ ?_; exact lee_here; ((try simp only [okB, wkB, go_sem, seval, reduceCtorEq]) <;> omega); (simp only [List.length_cons, List.length_nil, Nat.reduceAdd, List.take_succ_cons, List.take_zero, wkB, and_true]; (repeat' (refine And.intro ?_ ?_)) <;> (first | exact Blk.wk.rfl _ | exact Blk.wk.gone _ | (refine Blk.wk_cells ?_ rfl; (exact wk_here)))); (repeat' (first | exact LowE.base _ | (refine LowE.put ?_ (by first | exact .c _ | ((try simp only [okB, wkB, go_sem, seval, reduceCtorEq]) <;> omega))))))
      · have h1 : (((i + 1 : Nat) : Int) < (p.l.length : Int)) := by omega
        have hlk : (strsR (txtL (p.l.take (i + 1)))).length = i + 1 := by
          simp only [strsR, txtL, List.length_map, List.length_take]
          omega
        have hb1 : (i + 2 + 1) * 16 ≤ 140737488355328 := by omega
        have hb2 : i + 2 + 1 ≤ 140737488355328 := by omega
        ((try refine W.a ?_); simp only [go_sem, seval, reduceCtorEq, h1])
        refine W.yes rfl ?_
        ((try refine W.a ?_); simp only [go_sem, seval, reduceCtorEq, h1, nat0, hx])
        cases hq : (x.k != 1)
        · have hmm := many_no hq
          rw [hmm] at htk
          apply W.dregE (List.cons_ne_nil _ _)
          case hc =>
            (apply CanonE.advPO; simp only [go_sem, seval, reduceCtorEq])
            (apply CanonE.call (hc _); (case hg => rfl); (case hf => rfl); (case ha => first | rfl | simp))
            (apply CanonE.advPO; simp only [go_sem, seval, reduceCtorEq, hq])
            (apply CanonE.call (ty_put w0 (textT x) false (by omega) _); (case hg => rfl); (case hf => rfl); (case ha => first | rfl | simp))
            (apply CanonE.advPO; simp only [go_sem, seval, reduceCtorEq, hq, hb1, hb2, hlk])
            exact CanonE.nil
          ((try refine W.a ?_); simp only [go_sem, seval, reduceCtorEq, hw])
          refine .inv ⟨i + 2, hlt, by omega, ?_⟩
          simp only [htk, strsR, List.map_append, List.map_cons, List.map_nil]
          (refine Lew.cutL (hok) ?_ (by simp) (by simp) ?_ ?_ ?_; exact lee_here; ((try simp only [okB, wkB, go_sem, seval, reduceCtorEq]) <;> omega); (simp only [List.length_cons, List.length_nil, Nat.reduceAdd, List.take_succ_cons, List.take_zero, wkB, and_true]; (repeat' (refine And.intro ?_ ?_)) <;> (first | exact Blk.wk.rfl _ | exact Blk.wk.gone _ | (refine Blk.wk_cells ?_ rfl; (exact wk_here)))); (repeat' (first | exact LowE.base _ | (refine LowE.put ?_ (by first | exact .c _ | ((try simp only [okB, wkB, go_sem, seval, reduceCtorEq]) <;> omega))))))
        · have hmm := many_of hq
          apply W.dregE (List.cons_ne_nil _ _)
          case hc =>
            (apply CanonE.advPO; simp only [go_sem, seval, reduceCtorEq])
            (apply CanonE.call (hc _); (case hg => rfl); (case hf => rfl); (case ha => first | rfl | simp))
            (apply CanonE.advPO; simp only [go_sem, seval, reduceCtorEq, hq, hmm])
            (apply CanonE.call (ty_put w0 (textT x) (manyT x) (by omega) _); (case hg => rfl); (case hf => rfl); (case ha => first | rfl | simp))
            (apply CanonE.advPO; simp only [go_sem, seval, reduceCtorEq, hq, hb1, hb2, hlk])
            exact CanonE.nil
          ((try refine W.a ?_); simp only [go_sem, seval, reduceCtorEq, hw])
          refine .inv ⟨i + 2, hlt, by omega, ?_⟩
          simp only [htk, strsR, List.map_append, List.map_cons, List.map_nil]
          (refine Lew.cutL (hok) ?_ (by simp) (by simp) ?_ ?_ ?_; exact lee_here; ((try simp only [okB, wkB, go_sem, seval, reduceCtorEq]) <;> omega); (simp only [List.length_cons, List.length_nil, Nat.reduceAdd, List.take_succ_cons, List.take_zero, wkB, and_true]; (repeat' (refine And.intro ?_ ?_)) <;> (first | exact Blk.wk.rfl _ | exact Blk.wk.gone _ | (refine Blk.wk_cells ?_ rfl; (exact wk_here)))); (repeat' (first | exact LowE.base _ | (refine LowE.put ?_ (by first | exact .c _ | ((try simp only [okB, wkB, go_sem, seval, reduceCtorEq]) <;> omega))))))
    · have htk : p.l.take i = p.l := List.take_of_length_le (by omega)
      rcases i with _ | i
      · have h1 : ¬ ((0 : Int) < (p.l.length : Int)) := by omega
        have hnil : p.l = [] := List.eq_nil_of_length_eq_zero (by omega)
        have hJ := strings_JoinD (w0 := w0) (p.name :: txtL p.l) [32] hj hj2
        rw [hnil] at hJ
        ((try refine W.a ?_); simp only [go_sem, seval, reduceCtorEq, h1])
        refine W.no rfl ?_
        ((try refine W.a ?_); simp only [go_sem, seval, reduceCtorEq])
        (refine W.c1w (hJ _) ?_; simp only [go_sem, seval, reduceCtorEq])
        rw [hnil]
        (refine W.fs (hok) (by simp only [r39, go_sem, seval, reduceCtorEq]; rfl) ?_; simp only [resV]; try exact V.wk.rfl _)
      · have h1 : ¬ (((i + 1 : Nat) : Int) < (p.l.length : Int)) := by omega
        have hJ := strings_JoinD (w0 := w0) (p.name :: txtL p.l) [32] hj hj2
        ((try refine W.a ?_); simp only [go_sem, seval, reduceCtorEq, h1])
        refine W.no rfl ?_
        rw [htk]
        ((try refine W.a ?_); simp only [go_sem, seval, reduceCtorEq])
        (refine W.c1w (hJ _) ?_; simp only [go_sem, seval, reduceCtorEq])
        (refine W.fs (hok) (by simp only [r39, go_sem, seval, reduceCtorEq]; rfl) ?_; simp only [resV]; try exact V.wk.rfl _)
theorem ty_Text {w0 : World} (hG : Glob w0) (p : Typ) : OkT p → (textT p).length ≤ 1000000 → ∀ (σ : H), DC Tryz.prog w0 39 [p.v] σ (Same (S (textT p)) σ) := by
  induction p using Typ.ind with
  | h p ih =>
    intro hO hn σ
    by_cases hk : p.k = 1
    · exact ty_TextVar hG p hk hO.n σ
    · cases hA : arrowT p
      · exact ty_TextCon p hk hA hn σ fun x hx => ih x hx (hO.mem hx) (by have := ((text_con_len hk hA).2 x hx).2; omega)
      · obtain ⟨a, b, hl⟩ := arrow_parts hA
        have ha : a ∈ p.l := by rw [hl]; simp
        have hb : b ∈ p.l := by rw [hl]; simp
        obtain ⟨hn1, hn2⟩ := text_arr_len hA hl
        exact ty_TextArr p a b hA hl hn σ (ih a ha (hO.mem ha) (by omega)) (ih b hb (hO.mem hb) (by omega))
end
section
theorem ops_Text {w0 : World} (hG : Glob w0) (o : OpT) (h0 : -9223372036854775808 ≤ o.prec) (h1 : o.prec ≤ 9223372036854775807) (hn : o.name.length ≤ 1000000) (σ : H) :
    DC Tryz.prog w0 40 [o.v] σ (Same (S (fixW o.fix ++ [32] ++ o.name ++ [32] ++ Lib.itoa (max o.prec 0) ++ [46])) σ) := by
  refine k40.go rfl (fun hok hsz => ?_)
  have hm : (if o.prec < 0 then 0 else o.prec) = max o.prec 0 := by split <;> omega
  have hi := fun σ => strconv_ItoaS hG (max o.prec 0) (by omega) (by omega) σ
  have hl := Lib.itoa_length_le (max o.prec 0) (by omega) (by omega)
  generalize Lib.itoa (max o.prec 0) = ds at *
  have k3 : o.name.length + 1 + 1 + 1 + 1 + 1 + 1 + 1 + 1 + ds.length ≤ 9223372036854775807 := by omega
  have k2 : o.name.length ≤ 9223372036854775799 := by omega
  have k4 : o.name.length + (ds.length + 1) ≤ 9223372036854775799 := by omega
  have k5 : o.name.length ≤ 9223372036854775800 := by omega
  have k6 : o.name.length + (ds.length + 1) ≤ 9223372036854775800 := by omega
  have k8 : o.name.length + 1 + 1 + 1 + 1 + 1 + 1 + 1 + ds.length ≤ 9223372036854775807 := by omega
  have k7 : 6 + o.name.length ≤ 9223372036854775807 := by omega
  have k1 : 7 + o.name.length ≤ 9223372036854775807 := by omega
  by_cases e1 : o.fix = 1
  · have b1 : (o.fix == 1) = true := by simpa using e1
    have hw : fixW o.fix = [105, 110, 102, 105, 120, 108] := by unfold fixW; rw [if_pos e1]
    rw [hw]
    ((try refine W.a ?_); simp only [go_sem, seval, reduceCtorEq, c40, b1])
    refine W.yes rfl ?_
    ((try refine W.a ?_); simp only [go_sem, seval, reduceCtorEq])
    apply W.dreg
    case hc =>
      (apply Canon.advCO; simp only [advCO_nil, advCO_cons, cG_yes, cG_no, cS_some, cS_loud, go_sem, seval, reduceCtorEq, hm, k1, k2, k3, k4, k5, k6, k7, k8])
      (apply Canon.call (hi _); (case hg => rfl); (case hf => rfl); (case ha => first | rfl | simp))
      (apply Canon.advCO; simp only [advCO_nil, advCO_cons, cG_yes, cG_no, cS_some, cS_loud, go_sem, seval, reduceCtorEq, hm, k1, k2, k3, k4, k5, k6, k7, k8])
      exact Canon.nil
    ((try refine W.a ?_); simp only [go_sem, seval, reduceCtorEq])
    (refine W.fs (hok) (by simp only [r40, go_sem, seval, reduceCtorEq]; rfl) ?_; simp only [resV]; try exact V.wk.rfl _)
  · have b1 : (o.fix == 1) = false := by simpa using e1
    by_cases e2 : o.fix = 2
    · have b2 : (o.fix == 2) = true := by simpa using e2
      have hw : fixW o.fix = [105, 110, 102, 105, 120, 114] := by unfold fixW; rw [if_neg e1, if_pos e2]
      rw [hw]
      ((try refine W.a ?_); simp only [go_sem, seval, reduceCtorEq, c40, b1])
      refine W.no rfl ?_
      ((try refine W.a ?_); simp only [go_sem, seval, reduceCtorEq, b2])
      refine W.yes rfl ?_
      ((try refine W.a ?_); simp only [go_sem, seval, reduceCtorEq])
      apply W.dreg
      case hc =>
        (apply Canon.advCO; simp only [advCO_nil, advCO_cons, cG_yes, cG_no, cS_some, cS_loud, go_sem, seval, reduceCtorEq, hm, k1, k2, k3, k4, k5, k6, k7, k8])
        (apply Canon.call (hi _); (case hg => rfl); (case hf => rfl); (case ha => first | rfl | simp))
        (apply Canon.advCO; simp only [advCO_nil, advCO_cons, cG_yes, cG_no, cS_some, cS_loud, go_sem, seval, reduceCtorEq, hm, k1, k2, k3, k4, k5, k6, k7, k8])
        exact Canon.nil
      ((try refine W.a ?_); simp only [go_sem, seval, reduceCtorEq])
      (refine W.fs (hok) (by simp only [r40, go_sem, seval, reduceCtorEq]; rfl) ?_; simp only [resV]; try exact V.wk.rfl _)
    · have b2 : (o.fix == 2) = false := by simpa using e2
      have hw : fixW o.fix = [105, 110, 102, 105, 120] := by unfold fixW; rw [if_neg e1, if_neg e2]
      rw [hw]
      ((try refine W.a ?_); simp only [go_sem, seval, reduceCtorEq, c40, b1])
      refine W.no rfl ?_
      ((try refine W.a ?_); simp only [go_sem, seval, reduceCtorEq, b2])
      refine W.no rfl ?_
      ((try refine W.a ?_); simp only [go_sem, seval, reduceCtorEq])
      apply W.dreg
      case hc =>
        (apply Canon.advCO; simp only [advCO_nil, advCO_cons, cG_yes, cG_no, cS_some, cS_loud, go_sem, seval, reduceCtorEq, hm, k1, k2, k3, k4, k5, k6, k7, k8])
        (apply Canon.call (hi _); (case hg => rfl); (case hf => rfl); (case ha => first | rfl | simp))
        (apply Canon.advCO; simp only [advCO_nil, advCO_cons, cG_yes, cG_no, cS_some, cS_loud, go_sem, seval, reduceCtorEq, hm, k1, k2, k3, k4, k5, k6, k7, k8])
        exact Canon.nil
      ((try refine W.a ?_); simp only [go_sem, seval, reduceCtorEq])
      (refine W.fs (hok) (by simp only [r40, go_sem, seval, reduceCtorEq]; rfl) ?_; simp only [resV]; try exact V.wk.rfl _)
theorem declB_words (x : Tok) : (x.kind == 1 && (x.text == [107, 105, 110, 100] || x.text == [116, 121, 112, 101] || x.text == [105, 110, 102, 105, 120] || x.text == [105, 110, 102, 105, 120, 108] || x.text == [105, 110, 102, 105, 120, 114])) = (x.kind == 1 && words5.any (x.text == ·)) := by
  simp [words5, Bool.or_assoc]
theorem law10_declares {w0 : World} (hG : Glob w0) (w : List UInt8) (hw : w.length ≤ 65536) (σ : H) : DC Tryz.prog w0 12 [S w] σ (Same (B (declB w)) σ) := by
  refine k12.go rfl (fun hok hsz => ?_)
  have hL := fun σ => lex_Lex hG w (by omega) σ
  have hd : declB w = match (lexL w).toks with | [] => false | x :: _ => (x.kind == 1 && words5.any (x.text == ·)) := by
    unfold declB
    cases (lexL w).toks with
    | nil => rfl
    | cons x r => exact declB_words x
  rw [hd]
  generalize (lexL w).toks = t at *
  generalize (lexL w).err = er at *
  generalize (lexL w).pos = ps at *
  have hlen : words5.length = 5 := rfl
  cases t with
  | nil =>
    ((try refine W.a ?_); simp only [go_sem, seval, reduceCtorEq, c12])
    (refine W.c1 (hL _) ?_; simp only [go_sem, seval, reduceCtorEq])
    (refine W.c1 (source_Words w0 _) ?_; simp only [go_sem, seval, reduceCtorEq, strsR])
    refine W.loopP (fun i => i = 0) (fun i => ⟨(((base.put (some 3) (.c (toksC []))).put (some 6) (.csl (strsR words5))).put (some 7) (I (i : Nat))), σ⟩) (fun i => 0) 0 rfl ?_ (fun i hi => ?_)
    · (refine Lew.env ?_; exact lee_here)
    · subst hi
      ((try refine W.a ?_); simp only [go_sem, seval, reduceCtorEq, strsR, List.length_map, hlen])
      refine W.no rfl ?_
      ((try refine W.a ?_); simp only [go_sem, seval, reduceCtorEq])
      (refine W.fs (hok) (by simp only [r12, go_sem, seval, reduceCtorEq]; rfl) ?_; simp only [resV]; try exact V.wk.rfl _)
  | cons x r =>
    have hpos : (((x :: r).length : Nat) : Int) > 0 := by simp
    have hp0 : ((r.length + 1 : Nat) : Int) > 0 := by omega
    have hp1 : 0 < ((r.length + 1 : Nat) : Int) := by omega
    simp only
    ((try refine W.a ?_); simp only [go_sem, seval, reduceCtorEq, c12])
    (refine W.c1 (hL _) ?_; simp only [go_sem, seval, reduceCtorEq])
    (refine W.c1 (source_Words w0 _) ?_; simp only [go_sem, seval, reduceCtorEq])
    refine W.loopP (fun i => i ≤ 5 ∧ (x.kind == 1 && (words5.take i).any (x.text == ·)) = false) (fun i => ⟨(((base.put (some 3) (.c (toksC (x :: r)))).put (some 6) (.csl (strsR words5))).put (some 7) (I (i : Nat))), σ⟩) (fun i => 5 - i) 0 ⟨Nat.zero_le _, by simp⟩ ?_ (fun i hi => ?_)
    · (refine Lew.env ?_; exact lee_here)
    · obtain ⟨hi, hinv⟩ := hi
      by_cases hlt : i < 5
      · have h1 : ((i : Int) < 5) := by omega
        have hil : i < words5.length := by rw [hlen]; exact hlt
        have hx : (strsR words5)[i]? = some [C.str words5[i]] := by simp [strsR, hil]
        have hw1 : IntKind.i64.wrap ((i : Int) + 1) = ((i + 1 : Nat) : Int) := by rw [wrap_in] <;> omega
        have hln : (strsR words5).length = 5 := by simp [strsR, hlen]
        have htk : (words5.take (i + 1)).any (x.text == ·) = ((words5.take i).any (x.text == ·) || (x.text == words5[i])) := by
          rw [List.take_succ_eq_append_getElem hil, List.any_append]
          simp
        have hyes : (x.kind == 1) = true → (x.text == words5[i]) = true → (x.kind == 1 && words5.any (x.text == ·)) = true := fun e1 e2 => by
          rw [e1, Bool.true_and, List.any_eq_true]
          exact ⟨_, List.getElem_mem hil, e2⟩
        have hnx : (x.kind == 1 && (x.text == words5[i])) = false → (x.kind == 1 && (words5.take (i + 1)).any (x.text == ·)) = false := fun e => by
          rw [htk]
          cases hk : (x.kind == 1)
          · rfl
          · rw [hk, Bool.true_and] at e hinv
            rw [hinv, e]; rfl
        generalize words5[i] = wd at *
        generalize strsR words5 = rows at *
        by_cases hk : (x.kind == 1) = true
        · by_cases hwd : (x.text == wd) = true
          · have hy := hyes hk hwd
            ((try refine W.a ?_); simp only [go_sem, seval, reduceCtorEq, h1, hln, hp0])
            refine W.yes rfl ?_
            ((try refine W.a ?_); simp only [go_sem, seval, reduceCtorEq])
            (apply W.dregE (List.cons_ne_nil _ _); case hc => ((apply CanonE.advPO; simp only [go_sem, seval, reduceCtorEq, h1, hln, hp1, hx, hk, hwd, nat0]); exact CanonE.nil))
            ((try refine W.a ?_); simp only [go_sem, seval, reduceCtorEq])
            refine W.yes rfl ?_
            ((try refine W.a ?_); simp only [go_sem, seval, reduceCtorEq])
            rw [hy]
            (refine W.fs (hok) (by simp only [r12, go_sem, seval, reduceCtorEq]; rfl) ?_; simp only [resV]; try exact V.wk.rfl _)
          · have hwd : (x.text == wd) = false := by simpa using hwd
            ((try refine W.a ?_); simp only [go_sem, seval, reduceCtorEq, h1, hln, hp0])
            refine W.yes rfl ?_
            ((try refine W.a ?_); simp only [go_sem, seval, reduceCtorEq])
            (apply W.dregE (List.cons_ne_nil _ _); case hc => ((apply CanonE.advPO; simp only [go_sem, seval, reduceCtorEq, h1, hln, hp1, hx, hk, hwd, nat0]); exact CanonE.nil))
            ((try refine W.a ?_); simp only [go_sem, seval, reduceCtorEq])
            refine W.no rfl ?_
            ((try refine W.a ?_); simp only [go_sem, seval, reduceCtorEq, hw1])
            refine .inv ⟨i + 1, ⟨hlt, hnx (by rw [hwd, Bool.and_false])⟩, by omega, ?_⟩
            (refine Lew.env ?_; exact lee_here)
        · have hk : (x.kind == 1) = false := by simpa using hk
          ((try refine W.a ?_); simp only [go_sem, seval, reduceCtorEq, h1, hln, hp0])
          refine W.yes rfl ?_
          ((try refine W.a ?_); simp only [go_sem, seval, reduceCtorEq])
          (apply W.dregE (List.cons_ne_nil _ _); case hc => ((apply CanonE.advPO; simp only [go_sem, seval, reduceCtorEq, h1, hln, hp1, hx, hk, nat0]); exact CanonE.nil))
          ((try refine W.a ?_); simp only [go_sem, seval, reduceCtorEq])
          refine W.no rfl ?_
          ((try refine W.a ?_); simp only [go_sem, seval, reduceCtorEq, hw1])
          refine .inv ⟨i + 1, ⟨hlt, hnx (by rw [hk]; rfl)⟩, by omega, ?_⟩
          (refine Lew.env ?_; exact lee_here)
      · have h1 : ¬ ((i : Int) < 5) := by omega
        have hln : (strsR words5).length = 5 := by simp [strsR, hlen]
        have hi5 : i = 5 := by omega
        subst hi5
        have : words5.take 5 = words5 := rfl
        rw [this] at hinv
        ((try refine W.a ?_); simp only [go_sem, seval, reduceCtorEq, h1, hln])
        refine W.no rfl ?_
        ((try refine W.a ?_); simp only [go_sem, seval, reduceCtorEq])
        rw [hinv]
        (refine W.fs (hok) (by simp only [r12, go_sem, seval, reduceCtorEq]; rfl) ?_; simp only [resV]; try exact V.wk.rfl _)
end
section
theorem law10_written {w0 : World} (hG : Glob w0) (l : List OpT) (x : Sent) (hx : SG l x) (σ : H) : DC Tryz.prog w0 11 [.c (opsC l), x.v] σ (Same (S (writtenS l x)) σ) := by
  refine k11.go rfl (fun hok hsz => ?_)
  have hcount := hx.count
  have hshort := hx.names
  have hlw := hx.len
  ((try refine W.a ?_); simp only [go_sem, seval, reduceCtorEq, c11, Sent.v, strsC])
  refine W.loopP (fun i => i ≤ x.names.length) (fun i => ⟨((((base.put (some 0) (.c (opsC l))).put (some 3) (.ptr σ.length 0)).put (some 5) (S (namesW (x.names.take i)))).put (some 6) (I (i : Nat))), σ ++ [.cells x.v.cellsV]⟩) (fun i => x.names.length - i) 0 (Nat.zero_le _) ?_ (fun i hi => ?_)
  · (refine Lew.env ?_; exact lee_here)
  · by_cases hlt : i < x.names.length
    · have h1 : ((i : Int) < (x.names.length : Int)) := by omega
      have hxi : x.names[i]? = some x.names[i] := List.getElem?_eq_getElem hlt
      have hw : IntKind.i64.wrap ((i : Int) + 1) = ((i + 1 : Nat) : Int) := by rw [wrap_in] <;> omega
      have htk := namesW_take hlt
      have hl1 := namesW_len (x.names.take i) (fun s hs => hshort s (List.mem_of_mem_take hs))
      have hl2 := hshort _ (List.getElem_mem hlt)
      rw [List.length_take] at hl1
      have k1 : (namesW (x.names.take i)).length + 3 ≤ 9223372036854775807 := by omega
      have k2 : (namesW (x.names.take i)).length + 3 + x.names[i].length ≤ 9223372036854775807 := by omega
      have k3 : (namesW (x.names.take i)).length + 1 + 1 + 1 + x.names[i].length ≤ 9223372036854775807 := by omega
      have k4 : (namesW (x.names.take i)).length + (x.names[i].length + 1 + 1 + 1) ≤ 9223372036854775807 := by omega
      have k5 : (namesW (x.names.take i)).length + x.names[i].length ≤ 9223372036854775807 := by omega
      have k6 : (namesW (x.names.take i)).length ≤ 9223372036854775804 := by omega
      by_cases h0 : i = 0
      · rw [if_pos h0] at htk
        have hn0 : ¬ ((i : Nat) : Int) > 0 := by omega
        have he : namesW (x.names.take i) = [] := by rw [h0]; rfl
        rw [he] at k5 ⊢
        generalize x.names[i] = nm at *
        ((try refine W.a ?_); simp only [go_sem, seval, reduceCtorEq, Sent.v, strsC, h1])
        refine W.yes rfl ?_
        ((try refine W.a ?_); simp only [go_sem, seval, reduceCtorEq, hn0])
        refine W.no rfl ?_
        have k7 : nm.length ≤ 9223372036854775807 := by omega
        ((try refine W.a ?_); simp only [go_sem, seval, reduceCtorEq, Sent.v, strsC, h1, nat0, hxi, k7])
        ((try refine W.a ?_); simp only [go_sem, seval, reduceCtorEq, hw])
        refine .inv ⟨i + 1, hlt, by omega, ?_⟩
        rw [htk]
        simp only [go_sem, seval, reduceCtorEq]
        (refine Lew.env ?_; exact lee_here)
      · rw [if_neg h0] at htk
        have hn0 : ((i : Nat) : Int) > 0 := by omega
        generalize namesW (x.names.take i) = acc at *
        generalize x.names[i] = nm at *
        ((try refine W.a ?_); simp only [go_sem, seval, reduceCtorEq, Sent.v, strsC, h1])
        refine W.yes rfl ?_
        ((try refine W.a ?_); simp only [go_sem, seval, reduceCtorEq, hn0])
        refine W.yes rfl ?_
        ((try refine W.a ?_); simp only [go_sem, seval, reduceCtorEq, Sent.v, strsC, h1, nat0, hxi, k1, k2, k3, k4, k5, k6])
        ((try refine W.a ?_); simp only [go_sem, seval, reduceCtorEq, hw])
        refine .inv ⟨i + 1, hlt, by omega, ?_⟩
        rw [htk]
        simp only [go_sem, seval, reduceCtorEq]
        (refine Lew.env ?_; exact lee_here)
    · have h1 : ¬ ((i : Int) < (x.names.length : Int)) := by omega
      have htk : x.names.take i = x.names := List.take_of_length_le (by omega)
      rw [htk]
      have hl1 := namesW_len x.names hshort
      generalize hN : namesW x.names = N at *
      have hNl : N.length ≤ 35000 := by omega
      rcases hx.sf.k with k0 | k1 | k2 | k3
      · have b0 : (x.k == 0) = true := by simpa using k0
        have hwr : writtenS l x = [107, 105, 110, 100, 32] ++ N ++ [32, 116, 121, 112, 101] ++ repsW x.n.toNat ++ [46] := by
          unfold writtenS; rw [if_pos k0, hN]
        obtain ⟨n, hn⟩ : ∃ n : Nat, x.n = n := ⟨x.n.toNat, by have := hx.sf.n.1; omega⟩
        have hnle : n ≤ 1000 := by have := hx.sf.n.2; omega
        rw [hn, Int.toNat_natCast] at hwr
        have hwr : writtenS l x = accW N n ++ [46] := hwr
        rw [hwr] at hlw ⊢
        have e1 : 5 + N.length ≤ 9223372036854775807 := by omega
        have e2 : N.length ≤ 9223372036854775797 := by omega
        ((try refine W.a ?_); simp only [go_sem, seval, reduceCtorEq, Sent.v, strsC, h1])
        refine W.no rfl ?_
        ((try refine W.a ?_); simp only [go_sem, seval, reduceCtorEq, Sent.v, b0])
        refine W.yes rfl ?_
        ((try refine W.a ?_); simp only [go_sem, seval, reduceCtorEq, e1, e2])
        refine W.loopP (fun m => m ≤ n) (fun m => ⟨((((base.put (some 0) (.c (opsC l))).put (some 3) (.ptr σ.length 0)).put (some 7) (S (accW N m))).put (some 8) (I (m : Nat))), σ ++ [.cells x.v.cellsV]⟩) (fun m => n - m) 0 (Nat.zero_le _) ?_ (fun m hm => ?_)
        · simp only [go_sem, seval, reduceCtorEq, accW_zero]
          (refine Lew.env ?_; exact lee_here)
        · have hml := accW_len N m
          have hsuc := accW_succ N m
          by_cases hlt : m < n
          · have h2 : ((m : Int) < (n : Int)) := by omega
            have hw : IntKind.i64.wrap ((m : Int) + 1) = ((m + 1 : Nat) : Int) := by rw [wrap_in] <;> omega
            generalize accW N m = acc at *
            have e3 : acc.length + 8 ≤ 9223372036854775807 := by omega
            ((try refine W.a ?_); simp only [go_sem, seval, reduceCtorEq, Sent.v, hn, h2])
            refine W.yes rfl ?_
            ((try refine W.a ?_); simp only [go_sem, seval, reduceCtorEq, e3])
            ((try refine W.a ?_); simp only [go_sem, seval, reduceCtorEq, hw])
            refine .inv ⟨m + 1, hlt, by omega, ?_⟩
            rw [hsuc]
            (refine Lew.env ?_; exact lee_here)
          · have h2 : ¬ ((m : Int) < (n : Int)) := by omega
            have hmn : m = n := by omega
            subst hmn
            have hal : (accW N m).length ≤ 50000 := by omega
            generalize accW N m = acc at *
            have e3 : acc.length + 1 ≤ 9223372036854775807 := by omega
            ((try refine W.a ?_); simp only [go_sem, seval, reduceCtorEq, Sent.v, hn, h2])
            refine W.no rfl ?_
            ((try refine W.a ?_); simp only [go_sem, seval, reduceCtorEq, e3])
            (refine W.fs (hok) (by simp only [r11, go_sem, seval, reduceCtorEq]; rfl) ?_; simp only [resV]; try exact V.wk.rfl _)
      · have b0 : (x.k == 0) = false := by simp [k1]
        have b1 : (x.k == 1) = true := by simpa using k1
        have hwr : writtenS l x = [116, 121, 112, 101, 32] ++ N ++ [32] ++ textT x.ty ++ [46] := by
          unfold writtenS; rw [if_neg (by omega), if_pos k1, hN]
        rw [hwr] at hlw ⊢
        have hT := fun σ => ty_Text hG x.ty (okT_valid _ (hx.sf.ty k1)) (by simp at hlw; omega) σ
        have hTl : (textT x.ty).length ≤ 45000 := by simp at hlw; omega
        unfold Typ.v at hT
        generalize textT x.ty = tt at *
        have e1 : 5 + N.length ≤ 9223372036854775807 := by omega
        have e2 : N.length ≤ 9223372036854775801 := by omega
        have e3 : N.length + 1 + 1 + 1 + 1 + 1 + 1 + tt.length ≤ 9223372036854775807 := by omega
        have e4 : N.length + (tt.length + 1) ≤ 9223372036854775801 := by omega
        ((try refine W.a ?_); simp only [go_sem, seval, reduceCtorEq, Sent.v, strsC, h1])
        refine W.no rfl ?_
        ((try refine W.a ?_); simp only [go_sem, seval, reduceCtorEq, Sent.v, b0])
        refine W.no rfl ?_
        ((try refine W.a ?_); simp only [go_sem, seval, reduceCtorEq, b1])
        refine W.yes rfl ?_
        ((try refine W.a ?_); simp only [go_sem, seval, reduceCtorEq, Sent.v, e1, e2])
        (refine W.c1 (hT _) ?_; simp only [go_sem, seval, reduceCtorEq, e1, e2, e3, e4])
        (refine W.fs (hok) (by simp only [r11, go_sem, seval, reduceCtorEq]; rfl) ?_; simp only [resV]; try exact V.wk.rfl _)
      · have b0 : (x.k == 0) = false := by simp [k2]
        have b1 : (x.k == 1) = false := by simp [k2]
        have b2 : (x.k == 2) = true := by simpa using k2
        have hwr : writtenS l x = fixW x.op.fix ++ [32] ++ N ++ [32] ++ Lib.itoa (max x.op.prec 0) ++ [46] := by
          unfold writtenS; rw [if_neg (by omega), if_neg (by omega), if_pos k2, hN]
        have hp := hx.sf.prec k2
        have hT := fun σ => ops_Text hG ⟨N, x.op.prec, x.op.fix⟩ (by simp only; omega) (by simp only; omega) (by simp only; omega) σ
        simp only at hT
        rw [← hwr] at hT
        generalize writtenS l x = wr at *
        ((try refine W.a ?_); simp only [go_sem, seval, reduceCtorEq, Sent.v, strsC, h1])
        refine W.no rfl ?_
        ((try refine W.a ?_); simp only [go_sem, seval, reduceCtorEq, Sent.v, b0])
        refine W.no rfl ?_
        ((try refine W.a ?_); simp only [go_sem, seval, reduceCtorEq, b1])
        refine W.no rfl ?_
        ((try refine W.a ?_); simp only [go_sem, seval, reduceCtorEq, b2])
        refine W.yes rfl ?_
        ((try refine W.a ?_); simp only [go_sem, seval, reduceCtorEq, Sent.v])
        (refine W.c1 (hT _) ?_; simp only [go_sem, seval, reduceCtorEq])
        (refine W.fs (hok) (by simp only [r11, go_sem, seval, reduceCtorEq]; rfl) ?_; simp only [resV]; try exact V.wk.rfl _)
      · have b0 : (x.k == 0) = false := by simp [k3]
        have b1 : (x.k == 1) = false := by simp [k3]
        have b2 : (x.k == 2) = false := by simp [k3]
        have hwr : writtenS l x = showL l x.body ++ [32, 46] := by
          unfold writtenS; rw [if_neg (by omega), if_neg (by omega), if_neg (by omega)]
        rw [hwr] at hlw ⊢
        have hT := fun σ => show_Text hG l x.body hx.sf.body (by simp at hlw; omega) σ
        have hTl : (showL l x.body).length ≤ 45000 := by simp at hlw; omega
        generalize showL l x.body = tt at *
        unfold Pre.v at hT
        have e1 : tt.length + 2 ≤ 9223372036854775807 := by omega
        ((try refine W.a ?_); simp only [go_sem, seval, reduceCtorEq, Sent.v, strsC, h1])
        refine W.no rfl ?_
        ((try refine W.a ?_); simp only [go_sem, seval, reduceCtorEq, Sent.v, b0])
        refine W.no rfl ?_
        ((try refine W.a ?_); simp only [go_sem, seval, reduceCtorEq, b1])
        refine W.no rfl ?_
        ((try refine W.a ?_); simp only [go_sem, seval, reduceCtorEq, b2])
        refine W.no rfl ?_
        ((try refine W.a ?_); simp only [go_sem, seval, reduceCtorEq, Sent.v])
        (refine W.c1 (hT _) ?_; simp only [go_sem, seval, reduceCtorEq, e1])
        (refine W.fs (hok) (by simp only [r11, go_sem, seval, reduceCtorEq]; rfl) ?_; simp only [resV]; try exact V.wk.rfl _)
end
end Go.Proofs.YtplgnfciipceiaaGreatDoor
namespace Go.Proofs.YtplgnfciipceiaaGreatDoor
open Go.RowKit Go.Lamb
def c53 : AC :=
  .seq (.reg [.o 2 (.mov (.k (.c (.bool false))))])
  (.seq (.seq (.reg [.m 5 0, .o 6 (.lens (.t 5)), .o 7 (.bin .lss (.t 6) (.k (.c (.int .i64 1)))), .m 8 7, .z 9 (.mov (.t 0)) 8, .z 10 (.lens (.t 9)) 8, .z 11 (.bin .gtr (.t 10) (.k (.c (.int .i64 32)))) 8, .o 12 (.pick (.t 8) (.k (.c (.bool true))) (.t 11)), .m 13 12, .z 14 (.mov (.t 0)) 13, .z 15 (.index (.t 14) (.k (.c (.int .i64 0)))) 13, .z 16 (.call (.k (.fn 104 [])) [(.t 15)]) 13, .z 17 (.un .not (.t 16)) 13, .o 18 (.pick (.t 13) (.k (.c (.bool true))) (.t 17))])
  (.cond (.t 18)
  (.seq (.reg [.o 2 (.mov (.k (.c (.bool false))))])
  (.ret))
  (.skip)))
  (.seq (.seq (.reg [.o 3 (.mov (.k (.c (.int .i64 0))))])
  (.block 0 (.loop (.seq (.seq (.reg [.m 19 3, .m 20 0, .o 21 (.lens (.t 20)), .o 22 (.bin .lss (.t 19) (.t 21))])
  (.cond (.t 22)
  (.skip)
  (.exit 0)))
  (.seq (.block 1 (.seq (.reg [.m 25 0, .m 26 3, .o 27 (.index (.t 25) (.t 26)), .k 28 105 [(.t 27)], .m 4 28])
  (.seq (.reg [.m 29 4, .o 30 (.un .not (.t 29))])
  (.cond (.t 30)
  (.seq (.reg [.o 2 (.mov (.k (.c (.bool false))))])
  (.ret))
  (.skip)))))
  (.reg [.m 23 3, .o 24 (.bin .add (.t 23) (.k (.c (.int .i64 1)))), .m 3 24]))))))
  (.seq (.reg [.o 2 (.mov (.k (.c (.bool true))))])
  (.ret))))
end Go.Proofs.YtplgnfciipceiaaGreatDoor
namespace Go.Proofs.YtplgnfciipceiaaGreatDoor
open Go.RowKit Go.Lamb
attribute [local go_sem] advO_skip advO_reg advO_seq advO_block advO_exit advO_endb advO_opsNil advO_ops advG_yes advG_no advG_none advS_some advS_none advO_cond advO_loop advO_dreg advO_ret advO_bad advO_inv advO_nil advO_zero wantedV Lamb.step ev_t ev_k put_some put_none argEnv popTo cellsAt V.cellsV V.rows V.toC toCs fillV bytesC byteRows appV rowsV boundV boundL binV binInt binStr eqC eqL V.isNil leaves V.leaf Ins.quiet Ins.pure List.getD_cons_zero List.getD_cons_succ List.getD_nil List.all_cons List.all_nil List.length_cons List.length_nil List.take_succ_cons List.take_zero List.drop_succ_cons List.drop_zero List.cons_append List.nil_append List.append_nil List.append_assoc List.map_cons List.map_nil List.getElem?_cons_zero List.getElem?_cons_succ List.length_append List.length_set hget0 hget hset0 hset hsets hgs0 hgs hss0 hss List.set_cons_zero List.set_cons_succ List.forall_mem_cons List.not_mem_nil false_implies implies_true Option.map_some Bool.and_true Bool.true_and Bool.not_not Bool.not_true Bool.not_false Bool.and_self Bool.or_true Bool.true_or Bool.or_false Bool.false_or Bool.and_false Bool.false_and Bool.false_eq_true beq_self_eq_true and_self and_true true_and if_true if_false Nat.zero_add Nat.add_zero Nat.le_refl Int.toNat_natCast decide_true decide_false beq_t beq_f List.length_map List.getElem?_map I S B opsC toksC OpT.v OpT.cs OpT.zero Tok.v Tok.cs Pre.v Pre.cs_eq k_mk name_mk n_mk l_mk pos_mk Pre.app applyL natCast0 natCast1 natCast2 AOp.o AOp.m AOp.f AOp.l AOp.d AOp.n AOp.x AOp.s AOp.k AOp.y AOp.z EOp.q low_c low_void low_any low_csl low_nilf low_ptr low_osl low_agg low_tup low_fn resEval advPO_nil advPO_loud advPO_quiet pL_yes pL_no pLS_some pLS_none pQ_yes pQ_no pQS_some pQS_loud eq_self Nat.sub_zero

end Go.Proofs.YtplgnfciipceiaaGreatDoor
namespace Go.Proofs.YtplgnfciipceiaaGreatDoor
open Go.RowKit Go.Lamb

end Go.Proofs.YtplgnfciipceiaaGreatDoor
namespace Go.Proofs.YtplgnfciipceiaaGreatDoor
open Go.RowKit Go.Lamb

end Go.Proofs.YtplgnfciipceiaaGreatDoor
namespace Go.Lamb
theorem guardS_of : ∀ (xs : List Sent) (l : List OpT), (∀ j (hj : j < xs.length), nodesP xs[j].body ≤ 150 ∧ (xs[j].k = 3 → declB (writtenS (lastS l (xs.take j)) xs[j]) = false)) → guardS l xs
  | [], _, _ => trivial
  | x :: r, l, h => ⟨(h 0 (by simp)).1, (h 0 (by simp)).2, guardS_of r _ (fun j hj => h (j + 1) (by simpa using hj))⟩
theorem allSG_at : ∀ (xs : List Sent) (l : List OpT), allSG l xs → ∀ j (hj : j < xs.length), SG (lastS l (xs.take j)) xs[j]
  | x :: r, l, h, 0, _ => h.1
  | x :: r, l, h, j + 1, hj => allSG_at r _ h.2 j (by simpa using hj)
theorem alikeL_len : ∀ {xs ys : List Sent}, alikeL xs ys → xs.length = ys.length
  | [], [], _ => rfl
  | x :: r, y :: s, h => by rw [List.length_cons, List.length_cons, alikeL_len h.2]
theorem alikeL_at : ∀ {xs ys : List Sent}, alikeL xs ys → ∀ j (hj : j < xs.length) (hj' : j < ys.length), AlikeS xs[j] ys[j]
  | x :: r, y :: s, h, 0, _, _ => h.1
  | x :: r, y :: s, h, j + 1, hj, hj' => alikeL_at h.2 j (by simpa using hj) (by simpa using hj')
theorem lastS_take {xs : List Sent} {l : List OpT} {i : Nat} (h : i < xs.length) : lastS l (xs.take (i + 1)) = afterS (lastS l (xs.take i)) xs[i] := by
  rw [List.take_succ_eq_append_getElem h, lastS_snoc]
theorem textS_take {xs : List Sent} {l : List OpT} {i : Nat} (h : i < xs.length) : textS l (xs.take (i + 1)) = textS l (xs.take i) ++ (writtenS (lastS l (xs.take i)) xs[i] ++ [10]) := by
  rw [List.take_succ_eq_append_getElem h, textS_snoc]
theorem afterS_ne {l : List OpT} {x : Sent} (h : l ≠ []) : afterS l x ≠ [] := by
  unfold afterS
  split
  · intro e; exact h (List.append_eq_nil_iff.1 e).1
  · exact h
theorem lastS_ne : ∀ (xs : List Sent) {l : List OpT}, l ≠ [] → lastS l xs ≠ []
  | [], _, h => h
  | x :: r, _, h => lastS_ne r (afterS_ne h)
theorem textS_app : ∀ (xs ys : List Sent) (l : List OpT), textS l (xs ++ ys) = textS l xs ++ textS (lastS l xs) ys
  | [], ys, l => rfl
  | x :: r, ys, l => by rw [List.cons_append, textS, textS, lastS, textS_app r ys]; simp
theorem textS_le (xs : List Sent) (l : List OpT) (i : Nat) : (textS l (xs.take i)).length ≤ (textS l xs).length := by
  have := textS_app (xs.take i) (xs.drop i) l
  rw [List.take_append_drop] at this
  rw [this, List.length_append]
  omega
theorem wrong_len {l : List OpT} {o : OpT} (h : wrongL l o = 0) : l.length ≤ 99999 := by
  unfold wrongL at h
  split at h
  · omega
  · split at h
    · omega
    · split at h
      · omega
      · split at h
        · omega
        · split at h <;> omega
end Go.Lamb
namespace Go.Proofs.YtplgnfciipceiaaGreatDoor
open Go.RowKit Go.Lamb
attribute [local go_sem] advO_skip advO_reg advO_seq advO_block advO_exit advO_endb advO_opsNil advO_ops advG_yes advG_no advG_none advS_some advS_none advO_cond advO_loop advO_dreg advO_ret advO_bad advO_inv advO_nil advO_zero wantedV Lamb.step ev_t ev_k put_some put_none argEnv popTo cellsAt V.cellsV V.rows V.toC toCs fillV bytesC byteRows appV rowsV boundV boundL binV binInt binStr eqC eqL V.isNil leaves V.leaf Ins.quiet Ins.pure List.getD_cons_zero List.getD_cons_succ List.getD_nil List.all_cons List.all_nil List.length_cons List.length_nil List.take_succ_cons List.take_zero List.drop_succ_cons List.drop_zero List.cons_append List.nil_append List.append_nil List.append_assoc List.map_cons List.map_nil List.getElem?_cons_zero List.getElem?_cons_succ List.length_append List.length_set hget0 hget hset0 hset hsets hgs0 hgs hss0 hss List.set_cons_zero List.set_cons_succ List.forall_mem_cons List.not_mem_nil false_implies implies_true Option.map_some Bool.and_true Bool.true_and Bool.not_not Bool.not_true Bool.not_false Bool.and_self Bool.or_true Bool.true_or Bool.or_false Bool.false_or Bool.and_false Bool.false_and Bool.false_eq_true beq_self_eq_true and_self and_true true_and if_true if_false Nat.zero_add Nat.add_zero Nat.le_refl Int.toNat_natCast decide_true decide_false beq_t beq_f List.length_map List.getElem?_map I S B opsC toksC OpT.v OpT.cs OpT.zero Tok.v Tok.cs Pre.v Pre.cs_eq k_mk name_mk n_mk l_mk pos_mk Pre.app applyL natCast0 natCast1 natCast2 AOp.o AOp.m AOp.f AOp.l AOp.d AOp.n AOp.x AOp.s AOp.k AOp.y AOp.z EOp.q low_c low_void low_any low_csl low_nilf low_ptr low_osl low_agg low_tup low_fn resEval advPO_nil advPO_loud advPO_quiet pL_yes pL_no pLS_some pLS_none pQ_yes pQ_no pQS_some pQS_loud eq_self Nat.sub_zero
section

theorem ref03_left (w0 : World) (p : Pre) : ∀ (n : Int), 0 ≤ n → n ≤ 1000000 → ∀ (σ : H), DC Tryz.prog w0 38 [p.v, I n] σ (Same (I (leftP p n)) σ) := by
  refine Pre.ind (P := fun p => ∀ (n : Int), 0 ≤ n → n ≤ 1000000 → ∀ (σ : H), DC Tryz.prog w0 38 [p.v, I n] σ (Same (I (leftP p n)) σ)) (fun p ih n hn hn' σ => ?_) p
  refine k38.go rfl (fun hok hsz => ?_)
  have hlen := pre_len hsz (List.mem_cons_self ..)
  have hw0 : IntKind.i64.wrap (n - 1) = n - 1 := by rw [wrap_in] <;> omega
  ((try refine W.a ?_); simp only [go_sem, seval, reduceCtorEq, c38, hw0])
  refine W.loopP (α := Nat × Int) (fun x => x.1 ≤ p.l.length ∧ -1 ≤ x.2 ∧ x.2 ≤ 1000000 ∧ leftPs (p.l.drop x.1) x.2 = leftP p n) (fun x => ⟨((((base.put (some 2) (.ptr σ.length 0)).put (some 4) (I 0)).put (some 5) (I x.2)).put (some 6) (I (x.1 : Nat))), σ ++ [.cells p.v.cellsV]⟩) (fun x => p.l.length - x.1) (0, n - 1) ⟨Nat.zero_le _, by simp only; omega, by simp only; omega, by rw [leftP_eq]; rfl⟩ ?_ (fun x hi => ?_)
  · (refine Lew.env ?_; exact lee_here)
  · obtain ⟨i, m⟩ := x
    obtain ⟨hi, hm, hm', hinv⟩ := hi
    simp only at hi hm hm' hinv
    by_cases hlt : i < p.l.length
    · have h1 : ((i : Int) < (p.l.length : Int)) := by omega
      have hx : p.l[i]? = some p.l[i] := List.getElem?_eq_getElem hlt
      have hw : IntKind.i64.wrap ((i : Int) + 1) = ((i + 1 : Nat) : Int) := wrap_next hlt hlen
      by_cases h0 : 0 ≤ m
      · have h0' : m ≥ 0 := h0
        ((try refine W.a ?_); simp only [go_sem, seval, reduceCtorEq, h1, h0'])
        refine W.yes rfl ?_
        ((try refine W.a ?_); simp only [go_sem, seval, reduceCtorEq, h1, nat0, hx])
        (refine W.c1 (ih p.l[i] (List.getElem_mem hlt) m h0 hm' _) ?_; simp only [go_sem, seval, reduceCtorEq, hw])
        have := leftP_le p.l[i] m h0
        refine .inv ⟨(i + 1, leftP p.l[i] m), ⟨hlt, this.1, by simp only; omega, by rw [← hinv, leftPs_step hlt h0]⟩, by simp only; omega, ?_⟩
        (refine Lew.env ?_; exact lee_here)
      · have h0' : ¬ m ≥ 0 := h0
        ((try refine W.a ?_); simp only [go_sem, seval, reduceCtorEq, h1, h0'])
        refine W.no rfl ?_
        ((try refine W.a ?_); simp only [go_sem, seval, reduceCtorEq])
        (refine W.fs (hok) (by simp only [r38, go_sem, seval, reduceCtorEq]; rfl) ?_; simp only [resV]; try exact V.wk.rfl _)
        rw [← hinv, leftPs_neg h0]
        exact .rfl _
    · have h1 : ¬ ((i : Int) < (p.l.length : Int)) := by omega
      ((try refine W.a ?_); simp only [go_sem, seval, reduceCtorEq, h1])
      refine W.no rfl ?_
      ((try refine W.a ?_); simp only [go_sem, seval, reduceCtorEq])
      (refine W.fs (hok) (by simp only [r38, go_sem, seval, reduceCtorEq]; rfl) ?_; simp only [resV]; try exact V.wk.rfl _)
      rw [← hinv, leftPs_end (by omega)]
      exact .rfl _
theorem ref03_Deep (w0 : World) (p : Pre) (n : Int) (hn : 0 ≤ n) (hn' : n ≤ 1000000) (σ : H) : DC Tryz.prog w0 10 [p.v, I n] σ (Same (B (decide (leftP p n < 0))) σ) := by
  refine k10.go rfl (fun hok hsz => ?_)
  ((try refine W.a ?_); simp only [go_sem, seval, reduceCtorEq, c10])
  (refine W.c1 (ref03_left w0 p n hn hn' _) ?_; simp only [go_sem, seval, reduceCtorEq])
  (refine W.fs (hok) (by simp only [r10, go_sem, seval, reduceCtorEq]; rfl) ?_; simp only [resV]; try exact V.wk.rfl _)
end
section
theorem law10_alikeS (w0 : World) (x y : Sent) (h : AlikeS x y) (σ : H) : DC Tryz.prog w0 14 [x.v, y.v] σ (Same (B true) σ) := by
  obtain ⟨h1, h2, h3, h4, h5, h6⟩ := h
  obtain ⟨yk, yn, yN, yt, yo, yb, yp⟩ := y
  simp only at h1 h2 h3 h4 h5 h6
  subst h1 h2 h3 h4 h5
  refine k14.go rfl (fun hok hsz => ?_)
  have hlen : x.names.length ≤ 9223372036854775807 := names_len hsz
  ((try refine W.a ?_); simp only [go_sem, seval, reduceCtorEq, c14, Sent.v, strsC, bne_self_eq_false'])
  refine W.no rfl ?_
  ((try refine W.a ?_); simp only [go_sem, seval, reduceCtorEq])
  refine W.loopP (fun i => i ≤ x.names.length) (fun i => ⟨((((base.put (some 2) (.ptr σ.length 0)).put (some 3) (.ptr (σ.length + 1) 0)).put (some 4) (B false)).put (some 5) (I (i : Nat))), σ ++ [.cells x.v.cellsV, .cells (Sent.v ⟨x.k, x.names, x.n, x.ty, x.op, yb, yp⟩).cellsV]⟩) (fun i => x.names.length - i) 0 (Nat.zero_le _) ?_ (fun i hi => ?_)
  · (refine Lew.env ?_; exact lee_here)
  · by_cases hlt : i < x.names.length
    · have h1 : ((i : Int) < (x.names.length : Int)) := by omega
      have hx : x.names[i]? = some x.names[i] := List.getElem?_eq_getElem hlt
      have hw : IntKind.i64.wrap ((i : Int) + 1) = ((i + 1 : Nat) : Int) := wrap_next hlt hlen
      ((try refine W.a ?_); simp only [go_sem, seval, reduceCtorEq, Sent.v, strsC, h1])
      refine W.yes rfl ?_
      ((try refine W.a ?_); simp only [go_sem, seval, reduceCtorEq])
      (apply W.dregE (List.cons_ne_nil _ _); case hc => ((apply CanonE.advPO; simp only [go_sem, seval, reduceCtorEq, h1, nat0, hx, Sent.v, strsC]); exact CanonE.nil))
      ((try refine W.a ?_); simp only [go_sem, seval, reduceCtorEq, bne_self_eq_false'])
      refine W.no rfl ?_
      ((try refine W.a ?_); simp only [go_sem, seval, reduceCtorEq, hw])
      refine .inv ⟨i + 1, hlt, by omega, ?_⟩
      (refine Lew.env ?_; exact lee_here)
    · have h1 : ¬ ((i : Int) < (x.names.length : Int)) := by omega
      ((try refine W.a ?_); simp only [go_sem, seval, reduceCtorEq, Sent.v, strsC, h1])
      refine W.no rfl ?_
      ((try refine W.a ?_); simp only [go_sem, seval, reduceCtorEq])
      (refine W.c1 (ref05_Same w0 x.ty x.ty _) ?_; simp only [go_sem, seval, reduceCtorEq, sameTy_refl])
      (refine W.c1 (ref03_Same w0 x.body yb _) ?_; simp only [go_sem, seval, reduceCtorEq, h6])
      (refine W.fs (hok) (by simp only [r14, go_sem, seval, reduceCtorEq]; rfl) ?_; simp only [resV]; try exact V.wk.rfl _)
theorem law10_SourceBack {w0 : World} (hG : Glob w0) (s : List UInt8) (σ : H) : DC Tryz.prog w0 3 [S s] σ (Same (B true) σ) := by
  refine k3.go rfl (fun hok hsz => ?_)
  ((try refine W.a ?_); simp only [go_sem, seval, reduceCtorEq, c3])
  (refine W.c1 (law10_works hG _) ?_; simp only [go_sem, seval, reduceCtorEq])
  refine W.no rfl ?_
  by_cases hs : s.length > 600
  · have h1 : (s.length : Int) > 600 := by omega
    ((try refine W.a ?_); simp only [go_sem, seval, reduceCtorEq, h1])
    refine W.yes rfl ?_
    ((try refine W.a ?_); simp only [go_sem, seval, reduceCtorEq])
    (refine W.fs (hok) (by simp only [r3, go_sem, seval, reduceCtorEq]; rfl) ?_; simp only [resV]; try exact V.wk.rfl _)
  have h1 : ¬ (s.length : Int) > 600 := by omega
  ((try refine W.a ?_); simp only [go_sem, seval, reduceCtorEq, h1])
  refine W.no rfl ?_
  ((try refine W.a ?_); simp only [go_sem, seval, reduceCtorEq])
  have hrs := source_Read hG s (by omega)
  cases hse : readS s with
  | error x =>
    have hxe := readS_e (by omega) hse
    rw [hse] at hrs
    (refine W.c1 (hrs _) ?_; simp only [go_sem, seval, reduceCtorEq, srcV, hxe])
    refine W.yes rfl ?_
    ((try refine W.a ?_); simp only [go_sem, seval, reduceCtorEq])
    (refine W.fs (hok) (by simp only [r3, go_sem, seval, reduceCtorEq]; rfl) ?_; simp only [resV]; try exact V.wk.rfl _)
  | ok rs =>
  obtain ⟨xs, lf⟩ := rs
  rw [hse] at hrs
  obtain ⟨a1, a2, a3, a4⟩ := readS_k (by omega) hse
  have hops : OpsOk ops0 := by
    have hall : (ops0.all fun o => (isNameB o.name || isSymB o.name) && decide (1 ≤ o.prec) && decide (o.prec ≤ 200)) = true := by kernel_rfl
    rw [List.all_eq_true] at hall
    exact ⟨fun o ho => by have := hall o ho; simp only [Bool.and_eq_true, Bool.or_eq_true, decide_eq_true_eq] at this; exact this.1.1, fun o ho => by have := hall o ho; simp only [Bool.and_eq_true, decide_eq_true_eq] at this; exact ⟨this.1.2, this.2⟩⟩
  have hcnt := lexL_count s
  obtain ⟨xs', b1, b2, b3, b4, b5⟩ := all_back (T := (lexL s).toks) rfl (by omega) _ 0 ops0 [] xs lf (Nat.le_refl _) (Nat.zero_le _) hops a2
  rw [List.nil_append] at b1
  subst b1
  have hne0 : ops0 ≠ [] := by decide
  have htl : (textS ops0 xs).length ≤ 30000 := by omega
  clear b4
  have hsg := allSG_at xs ops0 b2
  (refine W.c1 (hrs _) ?_; simp only [go_sem, seval, reduceCtorEq, srcV, sentsC])
  refine W.no rfl ?_
  ((try refine W.a ?_); simp only [go_sem, seval, reduceCtorEq])
  (refine W.c1 (ops_Default w0 _) ?_; simp only [go_sem, seval, reduceCtorEq])
  refine W.loopP (fun i => i ≤ xs.length ∧ ∀ j (hj : j < xs.length), j < i → nodesP xs[j].body ≤ 150 ∧ (xs[j].k = 3 → declB (writtenS (lastS ops0 (xs.take j)) xs[j]) = false))
    (fun i => ⟨((((((base.put (some 3) (B true)).put (some 4) (.c (sentsC xs))).put (some 5) (.c (opsC lf))).put (some 8) (.c (opsC (lastS ops0 (xs.take i))))).put (some 9) (S (textS ops0 (xs.take i)))).put (some 10) (I (i : Nat))), σ⟩) (fun i => xs.length - i) 0 ⟨Nat.zero_le _, fun j _ h => absurd h (Nat.not_lt_zero _)⟩ ?_ (fun i hi => ?_)
  · (refine Lew.env ?_; exact lee_here)
  · obtain ⟨hi, hinv⟩ := hi
    by_cases hlt : i < xs.length
    · have h1 : ((i : Int) < (xs.length : Int)) := by omega
      have hx : xs[i]? = some xs[i] := List.getElem?_eq_getElem hlt
      have hw : IntKind.i64.wrap ((i : Int) + 1) = ((i + 1 : Nat) : Int) := by rw [wrap_in] <;> omega
      have hS := hsg i hlt
      have htk := textS_take (l := ops0) hlt
      have hlk := lastS_take (l := ops0) hlt
      have htle := textS_le xs ops0 (i + 1)
      have hLne := lastS_ne (xs.take i) hne0
      have hnext : nodesP xs[i].body ≤ 150 → (xs[i].k = 3 → declB (writtenS (lastS ops0 (xs.take i)) xs[i]) = false) → ∀ j (hj : j < xs.length), j < i + 1 → nodesP xs[j].body ≤ 150 ∧ (xs[j].k = 3 → declB (writtenS (lastS ops0 (xs.take j)) xs[j]) = false) := fun g1 g2 j hj hji => by
        rcases Nat.lt_succ_iff_lt_or_eq.1 hji with h2 | h2
        · exact hinv j hj h2
        · subst h2; exact ⟨g1, g2⟩
      have hdeep := fun σ => ref03_Deep w0 xs[i].body 150 (by omega) (by omega) σ
      have hwr := fun σ => law10_written hG (lastS ops0 (xs.take i)) xs[i] hS σ
      have hdc := fun σ => law10_declares hG (writtenS (lastS ops0 (xs.take i)) xs[i]) (by have := hS.len; omega) σ
      have hwl := hS.len
      rw [htk] at htle
      simp only [List.length_append, List.length_cons, List.length_nil] at htle
      generalize hL : lastS ops0 (xs.take i) = L at *
      generalize textS ops0 (xs.take i) = tx at *
      generalize xs[i] = x at *
      by_cases hdp : leftP x.body 150 < 0
      · rw [decide_eq_true hdp] at hdeep
        ((try refine W.a ?_); simp only [go_sem, seval, reduceCtorEq, sentsC, h1])
        refine W.yes rfl ?_
        ((try refine W.a ?_); simp only [go_sem, seval, reduceCtorEq, sentsC, h1, nat0, hx, sent_cs])
        (refine W.c1 (hdeep _) ?_; simp only [go_sem, seval, reduceCtorEq])
        refine W.yes rfl ?_
        ((try refine W.a ?_); simp only [go_sem, seval, reduceCtorEq])
        (refine W.fs (hok) (by simp only [r3, go_sem, seval, reduceCtorEq]; rfl) ?_; simp only [resV]; try exact V.wk.rfl _)
      rw [decide_eq_false hdp] at hdeep
      have hnd : nodesP x.body ≤ 150 := by have := leftP_nodes x.body 150 (by omega); omega
      have hnx2 := hnext hnd
      ((try refine W.a ?_); simp only [go_sem, seval, reduceCtorEq, sentsC, h1])
      refine W.yes rfl ?_
      ((try refine W.a ?_); simp only [go_sem, seval, reduceCtorEq, sentsC, h1, nat0, hx, sent_cs])
      (refine W.c1 (hdeep _) ?_; simp only [go_sem, seval, reduceCtorEq])
      refine W.no rfl ?_
      ((try refine W.a ?_); simp only [go_sem, seval, reduceCtorEq, sentsC, h1, nat0, hx, sent_cs])
      (refine W.c1 (hwr _) ?_; simp only [go_sem, seval, reduceCtorEq])
      have e1 : tx.length + (writtenS L x).length ≤ 9223372036854775807 := by omega
      have e2 : tx.length + (writtenS L x).length + 1 ≤ 9223372036854775807 := by omega
      have e3 : tx.length + (writtenS L x).length ≤ 9223372036854775806 := by omega
      by_cases hk3 : (x.k == 3) = true
      · by_cases hdB : declB (writtenS L x) = true
        · rw [hdB] at hdc
          ((try refine W.a ?_); simp only [go_sem, seval, reduceCtorEq, sentsC, h1, nat0, hx, sent_cs, hk3])
          (refine W.c1 (hdc _) ?_; simp only [go_sem, seval, reduceCtorEq])
          refine W.yes rfl ?_
          ((try refine W.a ?_); simp only [go_sem, seval, reduceCtorEq])
          (refine W.fs (hok) (by simp only [r3, go_sem, seval, reduceCtorEq]; rfl) ?_; simp only [resV]; try exact V.wk.rfl _)
        · have hdB : declB (writtenS L x) = false := by simpa using hdB
          rw [hdB] at hdc
          have hx3 : x.k = 3 := by simpa using hk3
          have haf : afterS L x = L := by unfold afterS; rw [if_neg (by omega)]
          have hk2 : (x.k != 2) = true := by simp [hx3]
          have hnx3 := hnx2 (fun _ => hdB)
          rw [haf] at hlk
          generalize writtenS L x = wr at *
          ((try refine W.a ?_); simp only [go_sem, seval, reduceCtorEq, sentsC, h1, nat0, hx, sent_cs, hk3])
          (refine W.c1 (hdc _) ?_; simp only [go_sem, seval, reduceCtorEq])
          refine W.no rfl ?_
          ((try refine W.a ?_); simp only [go_sem, seval, reduceCtorEq, sentsC, h1, nat0, hx, sent_cs, e1, e2, e3, hk2])
          refine W.yes rfl ?_
          ((try refine W.a ?_); simp only [go_sem, seval, reduceCtorEq, hw])
          refine .inv ⟨i + 1, ⟨hlt, hnx3⟩, by omega, ?_⟩
          rw [htk, hlk]
          (try simp only [go_sem, seval, reduceCtorEq])
          (refine Lew.env ?_; exact lee_here)
      · have hx3 : x.k ≠ 3 := by simpa using hk3
        have hk3 : (x.k == 3) = false := by simpa using hk3
        have hnx3 := hnx2 (fun e => absurd e hx3)
        by_cases hx2 : x.k = 2
        · have hk2 : (x.k != 2) = false := by simp [hx2]
          have haf : afterS L x = L ++ x.names.map (fun s => ⟨s, x.op.prec, x.op.fix⟩) := by unfold afterS; rw [if_pos hx2]
          rw [haf] at hlk
          have hdecl := hS.decl hx2
          have hcount := hS.count
          generalize writtenS L x = wr at *
          ((try refine W.a ?_); simp only [go_sem, seval, reduceCtorEq, sentsC, h1, nat0, hx, sent_cs, hk3])
          refine W.no rfl ?_
          ((try refine W.a ?_); simp only [go_sem, seval, reduceCtorEq, sentsC, h1, nat0, hx, sent_cs, e1, e2, e3, hk2])
          refine W.no rfl ?_
          ((try refine W.a ?_); simp only [go_sem, seval, reduceCtorEq])
          refine W.loopP (fun m => m ≤ x.names.length) (fun m => ⟨(((((((base.put (some 3) (B true)).put (some 4) (.c (sentsC xs))).put (some 5) (.c (opsC lf))).put (some 8) (.c (opsC (L ++ (x.names.take m).map (fun s => ⟨s, x.op.prec, x.op.fix⟩))))).put (some 9) (S (tx ++ (wr ++ [10])))).put (some 10) (I (i : Nat))).put (some 14) (I (m : Nat))), σ⟩) (fun m => x.names.length - m) 0 (Nat.zero_le _) ?_ (fun m hm => ?_)
          · (try simp only [go_sem, seval, reduceCtorEq, List.take_zero])
            (refine Lew.env ?_; exact lee_here)
          · by_cases hmlt : m < x.names.length
            · have m1 : ((m : Int) < (x.names.length : Int)) := by omega
              have hxm : x.names[m]? = some x.names[m] := List.getElem?_eq_getElem hmlt
              have hmw : IntKind.i64.wrap ((m : Int) + 1) = ((m + 1 : Nat) : Int) := by rw [wrap_in] <;> omega
              have hz := hdecl m hmlt
              have hne : L ++ (x.names.take m).map (fun s => (⟨s, x.op.prec, x.op.fix⟩ : OpT)) ≠ [] := fun e => hLne (List.append_eq_nil_iff.1 e).1
              have hD := fun σ => ops_Declare w0 _ ⟨x.names[m], x.op.prec, x.op.fix⟩ hne (wrong_len hz) σ
              have hmt : L ++ (x.names.take (m + 1)).map (fun s => (⟨s, x.op.prec, x.op.fix⟩ : OpT)) = (L ++ (x.names.take m).map (fun s => (⟨s, x.op.prec, x.op.fix⟩ : OpT))) ++ [⟨x.names[m], x.op.prec, x.op.fix⟩] := by
                rw [List.take_succ_eq_append_getElem hmlt, List.map_append, List.append_assoc]; rfl
              rw [hz, if_pos rfl] at hD
              generalize L ++ (x.names.take m).map (fun s => (⟨s, x.op.prec, x.op.fix⟩ : OpT)) = LL at *
              generalize x.names[m] = nm at *
              ((try refine W.a ?_); simp only [go_sem, seval, reduceCtorEq, sentsC, h1, nat0, hx, sent_cs, strsC, m1])
              refine W.yes rfl ?_
              ((try refine W.a ?_); simp only [go_sem, seval, reduceCtorEq, sentsC, h1, nat0, hx, sent_cs, strsC, m1, hxm])
              (refine W.c1 (hD _) ?_; simp only [go_sem, seval, reduceCtorEq])
              refine W.no rfl ?_
              ((try refine W.a ?_); simp only [go_sem, seval, reduceCtorEq, hmw])
              refine .inv ⟨m + 1, hmlt, by omega, ?_⟩
              rw [hmt]
              (try simp only [go_sem, seval, reduceCtorEq])
              (refine Lew.drop ?_ (Nat.le_refl _) (hok) ?_; exact lee_here; (repeat' (first | exact LowE.base _ | (refine LowE.put ?_ (by first | exact .c _ | (simp only [go_sem, seval, reduceCtorEq]; done) | exact V.low_fn_nil _ _)))))
            · have m1 : ¬ ((m : Int) < (x.names.length : Int)) := by omega
              have hmt : x.names.take m = x.names := List.take_of_length_le (by omega)
              ((try refine W.a ?_); simp only [go_sem, seval, reduceCtorEq, sentsC, h1, nat0, hx, sent_cs, strsC, m1])
              refine W.no rfl ?_
              ((try refine W.a ?_); simp only [go_sem, seval, reduceCtorEq, hw])
              refine .inv ⟨i + 1, ⟨hlt, hnx3⟩, by omega, ?_⟩
              rw [htk, hlk, hmt]
              (try simp only [go_sem, seval, reduceCtorEq])
              (refine Lew.env ?_; exact lee_here)
        · have hk2 : (x.k != 2) = true := by simpa using hx2
          have haf : afterS L x = L := by unfold afterS; rw [if_neg hx2]
          rw [haf] at hlk
          generalize writtenS L x = wr at *
          ((try refine W.a ?_); simp only [go_sem, seval, reduceCtorEq, sentsC, h1, nat0, hx, sent_cs, hk3])
          refine W.no rfl ?_
          ((try refine W.a ?_); simp only [go_sem, seval, reduceCtorEq, sentsC, h1, nat0, hx, sent_cs, e1, e2, e3, hk2])
          refine W.yes rfl ?_
          ((try refine W.a ?_); simp only [go_sem, seval, reduceCtorEq, hw])
          refine .inv ⟨i + 1, ⟨hlt, hnx3⟩, by omega, ?_⟩
          rw [htk, hlk]
          (try simp only [go_sem, seval, reduceCtorEq])
          (refine Lew.env ?_; exact lee_here)
    · have h1 : ¬ ((i : Int) < (xs.length : Int)) := by omega
      have htk : xs.take i = xs := List.take_of_length_le (by omega)
      obtain ⟨ks, c1, c2⟩ := b5 (guardS_of xs ops0 (fun j hj => hinv j hj (by omega)))
      have hLx : (lexL (textS ops0 xs)).err = 0 ∧ (lexL (textS ops0 xs)).toks.map Tok.key = ks ++ [(0, [], 0)] := by
        unfold lexL
        rw [if_neg (by omega)]
        exact c1 _
      obtain ⟨ys, d1, d2⟩ := c2 (lexL (textS ops0 xs)).toks 0 [] (KAt.of hLx.2)
      rw [List.nil_append] at d1
      have hrt := source_Read hG (textS ops0 xs) (by omega)
      have hre : readS (textS ops0 xs) = .ok (ys, lf) := by unfold readS; rw [if_pos hLx.1, d1]
      rw [hre] at hrt
      have hll := alikeL_len d2
      rw [htk, ← b3]
      generalize textS ops0 xs = tx at *
      have hli : ((xs.length : Int) != (ys.length : Int)) = false := by rw [hll]; simp
      ((try refine W.a ?_); simp only [go_sem, seval, reduceCtorEq, sentsC, h1])
      refine W.no rfl ?_
      ((try refine W.a ?_); simp only [go_sem, seval, reduceCtorEq])
      (refine W.c1 (hrt _) ?_; simp only [go_sem, seval, reduceCtorEq, srcV, sentsC, hli])
      refine W.no rfl ?_
      ((try refine W.a ?_); simp only [go_sem, seval, reduceCtorEq])
      refine W.loopP (fun k => k ≤ xs.length) (fun k => ⟨(((((((base.put (some 3) (B true)).put (some 4) (.c (sentsC xs))).put (some 5) (.c (opsC lf))).put (some 8) (.c (opsC lf))).put (some 18) (.c (sentsC ys))).put (some 19) (.c (opsC lf))).put (some 22) (I (k : Nat))), σ⟩) (fun k => xs.length - k) 0 (Nat.zero_le _) ?_ (fun k hk => ?_)
      · (refine Lew.env ?_; exact lee_here)
      · by_cases hkl : k < xs.length
        · have m1 : ((k : Int) < (xs.length : Int)) := by omega
          have m2 : ((k : Int) < (ys.length : Int)) := by omega
          have hxk : xs[k]? = some xs[k] := List.getElem?_eq_getElem hkl
          have hyk : ys[k]? = some ys[k] := List.getElem?_eq_getElem (by omega)
          have hw : IntKind.i64.wrap ((k : Int) + 1) = ((k + 1 : Nat) : Int) := by rw [wrap_in] <;> omega
          have hal := fun σ => law10_alikeS w0 _ _ (alikeL_at d2 k hkl (by omega)) σ
          generalize xs[k] = x at *
          generalize ys[k] = y at *
          ((try refine W.a ?_); simp only [go_sem, seval, reduceCtorEq, sentsC, m1])
          refine W.yes rfl ?_
          ((try refine W.a ?_); simp only [go_sem, seval, reduceCtorEq])
          apply W.dregE (List.cons_ne_nil _ _)
          case hc =>
            (apply CanonE.advPO; simp only [go_sem, seval, reduceCtorEq, sentsC, m1, m2, nat0, hxk, hyk, sent_cs])
            (apply CanonE.call (hal _); (case hg => rfl); (case hf => rfl); (case ha => first | rfl | simp))
            (apply CanonE.advPO; simp only [go_sem, seval, reduceCtorEq])
            exact CanonE.nil
          ((try refine W.a ?_); simp only [go_sem, seval, reduceCtorEq])
          refine W.no rfl ?_
          ((try refine W.a ?_); simp only [go_sem, seval, reduceCtorEq, hw])
          refine .inv ⟨k + 1, hkl, by omega, ?_⟩
          (refine Lew.env ?_; exact lee_here)
        · have m1 : ¬ ((k : Int) < (xs.length : Int)) := by omega
          ((try refine W.a ?_); simp only [go_sem, seval, reduceCtorEq, sentsC, m1])
          refine W.no rfl ?_
          ((try refine W.a ?_); simp only [go_sem, seval, reduceCtorEq])
          (refine W.c1 (ref02_Same w0 lf _) ?_; simp only [go_sem, seval, reduceCtorEq])
          (refine W.c1 (ref02_Same w0 lf _) ?_; simp only [go_sem, seval, reduceCtorEq])
          (refine W.fs (hok) (by simp only [r3, go_sem, seval, reduceCtorEq]; rfl) ?_; simp only [resV]; try exact V.wk.rfl _)
end
end Go.Proofs.YtplgnfciipceiaaGreatDoor

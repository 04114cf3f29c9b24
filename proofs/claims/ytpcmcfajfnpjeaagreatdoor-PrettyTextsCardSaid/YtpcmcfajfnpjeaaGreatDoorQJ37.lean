/-
  Walks: a tree that is written in brackets, or not (show.part).
  The code of some functions, without addresses.
  Walks: the document's answer: what a tree is; brackets.
  Walks: a tree to one side of an operator (show.side); trees written (show.tree).
  Walks: trees written (show.tree).
  Walks: trees written (show.tree): those that an operator makes; all.
  Walks: trees as texts (show.Text).
  The code of some functions, without addresses.
  Walks: how long a tree's text is (show.Width); trees as lines (show.Lines).
  Walks: trees as lines (show.Lines): none; any.
  Walks: the document's examples of trees; whatever text is lexed and read.
  Walks: the document's examples (layer 4).
  Plain: what some functions hand back, told at once (the run of the examples of layer 14).
  The code of some functions, without addresses.
  Codes of functions, by their numbers.
  Plain: what some functions hand back, told at once: all of them; the document's examples of layer 14.
  Walks: the names of binders, told one after the other.
  Walks: the next name of a binder.
  Walks: a term as a tree.
  Walks: how many types and variables there are in a type.
  Walks: a type with others in the place of variables (ty.replace), whatever the function that tells them.
  Walks: an abstraction as a tree.
  Walks: an application as a tree; a term as a tree.
  The code of some functions, without addresses.
  The code of some functions, without addresses.
  Walks: the document's answer: what is neither an abstraction nor an application.
  Walks: the document's answer: a tree as a text.
  Walks: a term as a tree and as a text, of the program and of the document.
  Walks: pretty.Tree, pretty.Text, and the document's text.
  Walks: is a signature, a term, or are names more than is looked at (law14.over)?
  Walks: the statement PrettyTexts.
  Walks: the statement PrettyNames.
  The document's examples of layer 14 hold; the statements PrettyTexts and PrettyNames.
  Plain: a program none of whose functions starts a goroutine: none of its calls does.
-/
import Derived.Test.YtpcmcfajfnpjeaaGreatDoorQJ36
import Derived.Test.YtpcmcfajfnpjeaaGreatDoorQJ14
import Derived.OwnWalk
import Derived.Handy
import Derived.Test.YtpcmcfajfnpjeaaGreatDoorChecked
import Derived.Test.YtpcmcfajfnpjeaaGreatDoorQJ35
import Derived.Test.YtpcmcfajfnpjeaaGreatDoorQLexGl
import Derived.Test.YtpcmcfajfnpjeaaGreatDoorQLxD
import Derived.Lib.ItoaMem
import Derived.Test.YtpcmcfajfnpjeaaGreatDoorQLexRow
set_option linter.unusedSimpArgs false
set_option linter.unusedVariables false
set_option maxHeartbeats 8000000
set_option maxRecDepth 20000
namespace Go.Proofs.YtpcmcfajfnpjeaaGreatDoor
open Go.RowKit Go.Lamb
attribute [local go_sem] advO_skip advO_reg advO_seq advO_block advO_exit advO_endb advO_opsNil advO_ops advG_yes advG_no advG_none advS_some advS_none advO_cond advO_loop advO_dreg advO_ret advO_bad advO_inv advO_nil advO_zero wantedV Lamb.step ev_t ev_k put_some put_none argEnv popTo cellsAt V.cellsV V.rows V.sub V.toC toCs fillV bytesC byteRows appV rowsV boundV boundL binV binInt binStr eqC eqL V.isNil leaves V.leaf Ins.quiet Ins.pure List.getD_cons_zero List.getD_cons_succ List.getD_nil List.all_cons List.all_nil List.length_cons List.length_nil List.take_succ_cons List.take_zero List.drop_succ_cons List.drop_zero List.cons_append List.nil_append List.append_nil List.append_assoc List.map_cons List.map_nil List.getElem?_cons_zero List.getElem?_cons_succ List.length_append List.length_set hget0 hget hset0 hset hsets hgs0 hgs hss0 hss List.set_cons_zero List.set_cons_succ List.forall_mem_cons List.not_mem_nil false_implies implies_true Option.map_some Bool.and_true Bool.true_and Bool.not_not Bool.not_true Bool.not_false Bool.and_self Bool.or_true Bool.true_or Bool.or_false Bool.false_or Bool.and_false Bool.false_and Bool.false_eq_true beq_self_eq_true and_self and_true true_and if_true if_false Nat.zero_add Nat.add_zero Nat.le_refl Int.toNat_natCast decide_true decide_false beq_t beq_f List.length_map List.getElem?_map I S B opsC toksC OpT.v OpT.cs OpT.zero Tok.v Tok.cs Pre.v Pre.cs_eq k_mk name_mk n_mk l_mk pos_mk Pre.app applyL natCast0 natCast1 natCast2 AOp.o AOp.m AOp.f AOp.l AOp.d AOp.n AOp.x AOp.s AOp.k AOp.y AOp.z EOp.q low_c low_void low_any low_csl low_nilf low_ptr low_osl low_agg low_tup low_fn resEval advPO_nil advPO_loud advPO_quiet pL_yes pL_no pLS_some pLS_none pQ_yes pQ_no pQS_some pQS_loud eq_self Nat.sub_zero
section
attribute [local go_sem] wrC wrY rs_len rs_g0 rs_g rs_s0 rs_s rs_sv
theorem builder_WriteByteD (w0 : World) (σ : H) (b v : Nat) (D : Two σ b v) (l : List OpT) (A : V) (hA : A = .c .nilp ∨ A = .ptr b 1) (s : List UInt8) (t : UInt8) (hn : s.length + 1 ≤ 100000000) :
    DCD Tryz.prog w0 242 [.ptr b 1, .c (.int .u8 t.toNat)] (wrs σ b v l A s) (Same (.c .nili) (wrs σ b v l (.ptr b 1) (s ++ [t]))) := by
  refine (k242).goD rfl (fun hok hsz => ?_)
  have hok2 := wrs_ok D hok l (s ++ [t])
  rw [wrs_push] at hok2 ⊢
  have hl1 : (byteRows s).length = s.length := by simp [byteRows]
  have hb1 : (s.length + 1) * 1 ≤ 140737488355328 := by omega
  have hb2 : s.length + 1 ≤ 140737488355328 := by omega
  ((try refine W.a ?_); simp only [go_sem, seval, reduceCtorEq, c242, rsA D])
  (refine W.c1 (copyCheckW w0 σ b v D l A hA s) ?_; simp only [go_sem, seval, reduceCtorEq])
  ((try refine W.a ?_); simp only [go_sem, seval, reduceCtorEq, rsA D, hl1, hb1, hb2])
  (refine W.fs (hok2) (by simp only [r242, go_sem, seval, reduceCtorEq]; rfl) ?_; simp only [resV]; try exact V.wk.rfl _)
def TreeD (w0 : World) (l : List OpT) (p : Pre) (t : List UInt8) : Prop :=
  ∀ (σ : H) (b v : Nat) (D : Two σ b v) (A : V) (hA : A = .c .nilp ∨ A = .ptr b 1) (s : List UInt8), s.length + t.length ≤ 100000000 →
    DC Tryz.prog w0 151 [.ptr b 0, p.v] (wrs σ b v l A s) (Same (.tup []) (wrs σ b v l (.ptr b 1) (s ++ t)))
theorem pre_value {κ : K} {p : Pre} {v : Value} (h : RV κ p.v v) : ∃ A c, v = .agg #[.int .i64 p.k, .string (bs p.name), .int .i64 p.n, .slice A p.l.length c, .int .i64 p.pos] := by
  unfold Pre.v at h
  cases h with
  | agg hl h1 =>
    rename_i xs
    match xs, hl, h1 with
    | [y0, y1, y2, y3, y4], _, h1 =>
      have r0 := h1 0 (by simp)
      have r1 := h1 1 (by simp)
      have r2 := h1 2 (by simp)
      have r3 := h1 3 (by simp)
      have r4 := h1 4 (by simp)
      simp only [List.getElem_cons_zero, List.getElem_cons_succ, List.getD_cons_zero, List.getD_cons_succ] at r0 r1 r2 r3 r4
      cases r0 with | c r0 => cases r0 with | int =>
      cases r1 with | c r1 => cases r1 with | str =>
      cases r2 with | c r2 => cases r2 with | int =>
      cases r4 with | c r4 => cases r4 with | int =>
      cases r3 with | c r3 =>
        cases r3 with
        | sl _ _ A cap =>
          rw [List.length_map]
          exact ⟨A, cap, rfl⟩
theorem pre_cells {w0 w : World} {κ : K} {σ : H} (h : Rep w0 κ σ w) {i : Nat} {p : Pre} (hi : σ[i]? = some (.cells p.v.cellsV none)) :
    ∃ y0 y1 y2 y3 y4, (∃ T, w.heap[κ.pos i]? = some (.cells #[y0, y1, y2, y3, y4] T (0, 0))) ∧ RV κ p.v (.agg #[y0, y1, y2, y3, y4]) := by
  obtain ⟨hlt, hie⟩ := List.getElem?_eq_some_iff.1 hi
  have hb := h.blk i hlt
  rw [hie] at hb
  obtain ⟨vs, t, k1, k2, k3⟩ := hb.row
  have k2 : vs.size = 5 := k2
  refine ⟨vs[0], vs[1], vs[2], vs[3], vs[4], ⟨t, ?_⟩, ?_⟩
  · rw [k1]
    congr 1
    congr 1
    apply Array.ext
    · simp [k2]
    · intro j h1 h2
      match j, h1 with
      | 0, _ => rfl
      | 1, _ => rfl
      | 2, _ => rfl
      | 3, _ => rfl
      | 4, _ => rfl
      | j + 5, h1 => omega
  · have e : ∀ j (hj : j < 5), vs.getD j undef = vs[j] := fun j hj => by simp [Array.getD, k2, hj]
    refine RV.agg (xs := [vs[0], vs[1], vs[2], vs[3], vs[4]]) rfl (fun j hj => ?_)
    have hj : j < 5 := hj
    have := (k3 j hj).2
    rw [e j hj] at this
    match j, hj, this with
    | 0, _, this => exact this
    | 1, _, this => exact this
    | 2, _, this => exact this
    | 3, _, this => exact this
    | 4, _, this => exact this
theorem part_brackets (w0 : World) (l : List OpT) (p : Pre) (t : List UInt8) (hT : TreeD w0 l p t) (σ : H) (b v : Nat) (D : Two σ b v) (A : V) (hA : A = .c .nilp ∨ A = .ptr b 1) (s : List UInt8) (hn : s.length + t.length + 2 ≤ 100000000) :
    DC Tryz.prog w0 241 [.ptr b 0, p.v, B true] (wrs σ b v l A s) (Same (.tup []) (wrs σ b v l (.ptr b 1) (s ++ (40 :: t ++ [41])))) := by
  refine ⟨enters_fn Tryz.func241 (by kernel_rfl) rfl, fun κ w vs hrep hfit => ?_⟩
  obtain ⟨x, ys, rfl, hx, hfit⟩ := hfit.cons_inv
  obtain ⟨y, zs, rfl, hy, hfit⟩ := hfit.cons_inv
  obtain ⟨z, us, rfl, hz, hfit⟩ := hfit.cons_inv
  have := hfit.nil_inv
  subst this
  have ez : z = .bool true := by cases hz with | c h => cases h; rfl
  have ex : x = .pointer (some ⟨κ.pos b, 0, none⟩) := by cases hx; rfl
  subst ez ex
  obtain ⟨vA, vc, ey⟩ := pre_value hy
  subst ey
  have hn0 : (wrs σ b v l A s).length = σ.length := rs_len _ _
  have hxn : b < κ.n ∧ κ.fr b = none := by cases hx with | ptr h1 h2 => exact ⟨h1, h2⟩
  have hbox := hrep.box (cs := p.v.cellsV) (vs := [.int .i64 p.k, .string (bs p.name), .int .i64 p.n, .slice vA p.l.length vc, .int .i64 p.pos]) 37 (tg := none) (fun T h => by cases h) rfl rfl (by
    have := cells_ok hy rfl
    exact this.2)
  obtain ⟨hb1, hb2⟩ := hbox
  rw [← rs_app D] at hb1
  have hle0 : κ.le (κ.more w.heap.size) := K.more_le
  rw [hn0] at hb2
  have hpn : b < (κ.more w.heap.size).n ∧ (κ.more w.heap.size).fr b = none ∧ (κ.more w.heap.size).pos b = κ.pos b := ⟨by have := hle0.n; omega, hle0.cells b hxn.1 hxn.2⟩
  have hqn : σ.length < (κ.more w.heap.size).n ∧ (κ.more w.heap.size).fr σ.length = none ∧ (κ.more w.heap.size).pos σ.length = w.heap.size := by
    generalize hg : Value.pointer (some ⟨w.heap.size, 0, none⟩) = g at hb2
    cases hb2 with
    | ptr h1 h2 => injection hg with hg; injection hg with hg; injection hg with hg; exact ⟨h1, h2, hg.symm⟩
  generalize κ.more w.heap.size = κ0 at *
  have hx2 : RV κ0 (.ptr b 1) (.pointer (some ⟨κ.pos b, 1, none⟩)) := by rw [← hpn.2.2]; exact .ptr hpn.1 hpn.2.1
  have hat : ∀ (X Y : Blk), (rs (σ ++ [Blk.cells p.v.cellsV]) b v X Y)[σ.length]? = some (.cells p.v.cellsV none) := fun X Y => by rw [rs_app D, rs_g0]
  go_enter_defers Tryz.func241, Tryz.ntmps241
  go_wp2_with (fail)
  refine ((builder_WriteByte w0 (σ ++ [.cells p.v.cellsV]) b v (D.app _) l A hA s 40 (by omega)).run _ _ [.pointer (some ⟨κ.pos b, 1, none⟩), .int .u8 40] hb1 (Fits.cons hx2 (Fits.cons (.c (.int _ _)) Fits.nil))).mono ?_
  rintro e w1 ⟨v1, d1, σ1, κ1, rfl, ⟨rfl, rfl⟩, hle1, hrep1, hv1⟩
  have hpn1 : b < κ1.n ∧ κ1.fr b = none ∧ κ1.pos b = κ.pos b := ⟨by have := hle1.n; omega, (hle1.cells b hpn.1 hpn.2.1).1, (hle1.cells b hpn.1 hpn.2.1).2.trans hpn.2.2⟩
  have hqn1 : κ1.pos σ.length = w.heap.size := (hle1.cells _ hqn.1 hqn.2.1).2.trans hqn.2.2
  obtain ⟨y0, y1, y2, y3, y4, ⟨T, hT1⟩, hy1⟩ := pre_cells hrep1 (hat _ _)
  obtain ⟨vA1, vc1, ey⟩ := pre_value hy1
  injection ey with ey
  injection ey with ey
  injection ey with e0 ey
  injection ey with e1 ey
  injection ey with e2 ey
  injection ey with e3 ey
  injection ey with e4 ey
  subst e0 e1 e2 e3 e4
  rw [hqn1] at hT1
  have c0 : w1.cell? ⟨w.heap.size, 0, none⟩ = _ := Lib.cell_of_heap hT1 0
  have c1 : w1.cell? ⟨w.heap.size, 1, none⟩ = _ := Lib.cell_of_heap hT1 1
  have c2 : w1.cell? ⟨w.heap.size, 2, none⟩ = _ := Lib.cell_of_heap hT1 2
  have c3 : w1.cell? ⟨w.heap.size, 3, none⟩ = _ := Lib.cell_of_heap hT1 3
  have c4 : w1.cell? ⟨w.heap.size, 4, none⟩ = _ := Lib.cell_of_heap hT1 4
  simp only [List.getElem?_toArray, List.getElem?_cons_zero, List.getElem?_cons_succ] at c0 c1 c2 c3 c4
  go_wp2_with (fail)
  have hx3 : RV κ1 (.ptr b 0) (.pointer (some ⟨κ.pos b, 0, none⟩)) := by rw [← hpn1.2.2]; exact .ptr hpn1.1 hpn1.2.1
  refine ((hT (σ ++ [.cells p.v.cellsV]) b v (D.app _) (.ptr b 1) (.inr rfl) (s ++ [40]) (by simp; omega)).run _ _ [.pointer (some ⟨κ.pos b, 0, none⟩), _] hrep1 (Fits.cons hx3 (Fits.cons hy1 Fits.nil))).mono ?_
  rintro e w2 ⟨v2, d2, σ2, κ2, rfl, ⟨rfl, rfl⟩, hle2, hrep2, hv2⟩
  have hpn2 : b < κ2.n ∧ κ2.fr b = none ∧ κ2.pos b = κ.pos b := ⟨by have := hle2.n; omega, (hle2.cells b hpn1.1 hpn1.2.1).1, (hle2.cells b hpn1.1 hpn1.2.1).2.trans hpn1.2.2⟩
  have hx4 : RV κ2 (.ptr b 1) (.pointer (some ⟨κ.pos b, 1, none⟩)) := by rw [← hpn2.2.2]; exact .ptr hpn2.1 hpn2.2.1
  go_wp2_with (fail)
  refine leaves_cons (f := 242) (args := #[.pointer (some ⟨κ.pos b, 1, none⟩), .int .u8 41]) (by simp) (by
    have hen := (builder_WriteByte w0 (σ ++ [.cells p.v.cellsV]) b v (D.app _) l A hA s 40 (by omega)).enters
    first | exact hen _ _ | simpa [invoke] using hen _ _ | simpa [go_sem] using hen _ _) ?_
  refine (builder_WriteByteD w0 (σ ++ [.cells p.v.cellsV]) b v (D.app _) l (.ptr b 1) (.inr rfl) (s ++ [40] ++ t) 41 (by simp; omega) κ2 w2 [.pointer (some ⟨κ.pos b, 1, none⟩), .int .u8 41] .returning hrep2 (Fits.cons hx4 (Fits.cons (.c (.int _ _)) Fits.nil))).mono ?_
  rintro e u' w3 ⟨rfl, v3, d3, σ3, κ3, rfl, ⟨rfl, rfl⟩, hle3, hrep3, hv3⟩
  refine ⟨_, by first | exact results_none rfl _ _ _ | (simp [results]; rfl), ?_⟩
  have hle : κ.le κ3 := K.le_trans hle0 (K.le_trans hle1 (K.le_trans hle2 hle3))
  have hs : s ++ [40] ++ t ++ [41] = s ++ 40 :: (t ++ [41]) := by simp
  rw [hs] at hrep3
  have hok2 := wrs_ok D hrep.ok l (s ++ 40 :: (t ++ [41]))
  have hr3 : Rep w0 κ3 (wrs σ b v l (.ptr b 1) (s ++ 40 :: (t ++ [41])) ++ [.cells p.v.cellsV]) w3 := by rw [← rs_app D]; exact hrep3
  have ht : (wrs σ b v l (.ptr b 1) (s ++ 40 :: (t ++ [41])) ++ [Blk.cells p.v.cellsV]).take σ.length = wrs σ b v l (.ptr b 1) (s ++ 40 :: (t ++ [41])) := List.take_left' (rs_len _ _)
  have hcut := hr3.cut σ.length (by simp) (by rw [ht]; exact hok2)
  rw [ht] at hcut
  exact ⟨_, .tup [], _, κ3.cut σ.length, rfl, ⟨rfl, rfl⟩, K.cut_le hle (by rw [hrep.n, hn0]; exact Nat.le_refl _), hcut, .tup rfl (fun j hj => absurd hj (Nat.not_lt_zero _))⟩
theorem writer_part (w0 : World) (l : List OpT) (p : Pre) (t : List UInt8) (hT : TreeD w0 l p t) (br : Bool) (σ : H) (b v : Nat) (D : Two σ b v) (A : V) (hA : A = .c .nilp ∨ A = .ptr b 1) (s : List UInt8) (hn : s.length + (putP t br).length ≤ 100000000) :
    DC Tryz.prog w0 241 [.ptr b 0, p.v, B br] (wrs σ b v l A s) (Same (.tup []) (wrs σ b v l (.ptr b 1) (s ++ putP t br))) := by
  cases br
  · rw [show putP t false = t from rfl] at hn ⊢
    refine k241.go rfl (fun hok hsz => ?_)
    have hok2 := wrs_ok D hok l (s ++ t)
    have hT := fun σ D => hT σ b v D A hA s hn
    rw [wrs_put] at hok2 ⊢
    ((try refine W.a ?_); simp only [go_sem, seval, reduceCtorEq, c241, rsA D, Pre.v])
    refine W.no rfl ?_
    ((try refine W.a ?_); simp only [go_sem, seval, reduceCtorEq, rsA D])
    have hT2 : ∀ (L : H), DC Tryz.prog w0 151 [.ptr b 0, p.v] (rs σ b v (wrC l A v s) (wrY s) ++ L) (Same (.tup []) (rs σ b v (.cells [.c (opsC l), .ptr b 1, .osl v (byteRows (s ++ t))] (some 196)) (.spare 5 1 (s.length + t.length)) ++ L)) := fun L => DC.lift D (fun D' => by have := hT _ D'; rwa [wrs_put] at this)
    (refine W.c1 (hT2 _) ?_; simp only [go_sem, seval, reduceCtorEq, rsA D])
    (refine W.done (Fin.sameW (hok2) (by (first | rfl | assumption | exact List.length_set .. | simp)) (by simp only [r241, go_sem, seval, reduceCtorEq]; rfl) ?_ (by (first | exact .c _ | (simp only [go_sem, seval, reduceCtorEq]; done))) (by (first | rfl | exact (List.append_nil _).symm))); simp only [resV]; try exact V.wk.rfl _)
  · exact part_brackets w0 l p t hT σ b v D A hA s (by simp [putP] at hn; omega)
end
section
def c152 : AC := .seq (.reg [.o 1 (.box (.t 0)), .o 2 (.mov (.k (.c (.bool false))))]) (.seq (.reg [.f 3 0 1, .l 4 3, .o 5 (.bin .eql (.t 4) (.k (.c (.int .i64 4)))), .m 6 5, .y 7 (.fadd 3 (.t 1)) 6, .y 8 (.load1 (.t 7)) 6, .y 9 (.lenr (.t 8)) 6, .y 10 (.bin .eql (.t 9) (.k (.c (.int .i64 1)))) 6, .o 11 (.pick (.t 6) (.t 10) (.k (.c (.bool false)))), .m 2 11]) (.ret))
def r152 : List ResV := [.tmp 2]
theorem k152 : CodeIs Tryz.prog 152 1 Tryz.f152 c152 r152 := .auto Tryz.func152
def c153 : AC := .seq (.reg [.o 1 (.box (.t 0)), .o 2 (.mov (.k (.c (.bool false))))]) (.seq (.reg [.f 3 0 1, .l 4 3, .o 5 (.bin .eql (.t 4) (.k (.c (.int .i64 3)))), .m 6 5, .y 7 (.fadd 3 (.t 1)) 6, .y 8 (.load1 (.t 7)) 6, .y 9 (.lenr (.t 8)) 6, .y 10 (.bin .eql (.t 9) (.k (.c (.int .i64 2)))) 6, .o 11 (.pick (.t 6) (.t 10) (.k (.c (.bool false)))), .m 2 11]) (.ret))
def r153 : List ResV := [.tmp 2]
theorem k153 : CodeIs Tryz.prog 153 1 Tryz.f153 c153 r153 := .auto Tryz.func153
def c156 : AC := .seq (.reg [.o 4 (.mov (.k (.c (.str []))))]) (.seq (.seq (.reg [.m 5 1]) (.cond (.t 5) (.seq (.reg [.m 6 0, .o 7 (.bin .add (.k (.c (.str [40]))) (.t 6)), .o 8 (.bin .add (.t 7) (.k (.c (.str [41])))), .m 4 8]) (.ret)) (.skip))) (.seq (.reg [.m 9 0, .m 4 9]) (.ret)))
def r156 : List ResV := [.tmp 4]
theorem k156 : CodeIs Tryz.prog 156 2 Tryz.f156 c156 r156 := .auto Tryz.func156
def c155 : AC := .seq (.reg [.o 3 (.box (.t 1)), .o 4 (.box (.k (.agg [.c (.str []), .c (.int .i64 0), .c (.int .i64 0)]))), .o 5 (.mov (.k (.c (.bool false))))]) (.seq (.seq (.reg [.f 7 0 3, .l 8 7, .o 9 (.bin .neq (.t 8) (.k (.c (.int .i64 3)))), .m 10 9, .z 11 (.fadd 3 (.t 3)) 10, .z 12 (.load1 (.t 11)) 10, .z 13 (.lenr (.t 12)) 10, .z 14 (.bin .neq (.t 13) (.k (.c (.int .i64 2)))) 10, .o 15 (.pick (.t 10) (.k (.c (.bool true))) (.t 14))]) (.cond (.t 15) (.seq (.reg [.o 16 (.build [.c (.str []), .c (.int .i64 0), .c (.int .i64 0)] []), .s 3 4 16, .o 5 (.mov (.k (.c (.bool false))))]) (.ret)) (.skip))) (.seq (.reg [.f 17 3 3, .l 18 17, .o 19 (.iadd 5 (.t 18) (.k (.c (.int .i64 0)))), .d 20 5 19, .o 6 (.box (.k (.agg [.c (.int .i64 0), .c (.str []), .c (.int .i64 0), .csl [], .c (.int .i64 0)]))), .s 5 6 20]) (.seq (.seq (.reg [.f 21 0 6, .l 22 21, .o 23 (.bin .neq (.t 22) (.k (.c (.int .i64 3)))), .m 24 23, .z 25 (.fadd 3 (.t 6)) 24, .z 26 (.load1 (.t 25)) 24, .z 27 (.lenr (.t 26)) 24, .z 28 (.bin .neq (.t 27) (.k (.c (.int .i64 2)))) 24, .o 29 (.pick (.t 24) (.k (.c (.bool true))) (.t 28)), .m 30 29, .z 31 (.fadd 3 (.t 6)) 30, .z 32 (.load1 (.t 31)) 30, .z 33 (.iadd 5 (.t 32) (.k (.c (.int .i64 0)))) 30, .z 34 (.fadd 0 (.t 33)) 30, .z 35 (.load1 (.t 34)) 30, .z 36 (.bin .neq (.t 35) (.k (.c (.int .i64 0)))) 30, .o 37 (.pick (.t 30) (.k (.c (.bool true))) (.t 36))]) (.cond (.t 37) (.seq (.reg [.o 38 (.build [.c (.str []), .c (.int .i64 0), .c (.int .i64 0)] []), .s 3 4 38, .o 5 (.mov (.k (.c (.bool false))))]) (.ret)) (.skip))) (.seq (.reg [.m 39 0, .f 40 3 6, .l 41 40, .o 42 (.iadd 5 (.t 41) (.k (.c (.int .i64 0)))), .f 43 1 42, .l 44 43, .k 45 73 [(.t 39), (.t 44)], .x 46 45 0, .x 47 45 1, .s 3 4 46, .m 5 47]) (.ret)))))
def r155 : List ResV := [.celln 3 4, .tmp 5]
theorem k155 : CodeIs Tryz.prog 155 2 Tryz.f155 c155 r155 := .auto Tryz.func155
end
section
theorem ref04_lambda (w0 : World) (p : Pre) (σ : H) : DC Tryz.prog w0 152 [p.v] σ (Same (B (lamP p)) σ) := by
  refine k152.go rfl (fun hok hsz => ?_)
  have hl : ((p.l.length : Int) == 1) = (p.l.length == 1) := by rw [Bool.eq_iff_iff]; simp; omega
  unfold lamP
  cases hk : p.k == 4
  · ((try refine W.a ?_); simp only [go_sem, seval, reduceCtorEq, c152, hk])
    (refine W.fs (hok) (by simp only [r152, go_sem, seval, reduceCtorEq]; rfl) ?_; simp only [resV]; try exact V.wk.rfl _)
  · ((try refine W.a ?_); simp only [go_sem, seval, reduceCtorEq, c152, hk, hl])
    (refine W.fs (hok) (by simp only [r152, go_sem, seval, reduceCtorEq]; rfl) ?_; simp only [resV]; try exact V.wk.rfl _)
theorem ref04_application (w0 : World) (p : Pre) (σ : H) : DC Tryz.prog w0 153 [p.v] σ (Same (B (appP p)) σ) := by
  refine k153.go rfl (fun hok hsz => ?_)
  have hl : ((p.l.length : Int) == 2) = (p.l.length == 2) := by rw [Bool.eq_iff_iff]; simp; omega
  unfold appP
  cases hk : p.k == 3
  · ((try refine W.a ?_); simp only [go_sem, seval, reduceCtorEq, c153, hk])
    (refine W.fs (hok) (by simp only [r153, go_sem, seval, reduceCtorEq]; rfl) ?_; simp only [resV]; try exact V.wk.rfl _)
  · ((try refine W.a ?_); simp only [go_sem, seval, reduceCtorEq, c153, hk, hl])
    (refine W.fs (hok) (by simp only [r153, go_sem, seval, reduceCtorEq]; rfl) ?_; simp only [resV]; try exact V.wk.rfl _)
theorem ref04_put (w0 : World) (s : List UInt8) (b : Bool) (hs : s.length ≤ 100000000) (σ : H) : DC Tryz.prog w0 156 [S s, B b] σ (Same (S (putP s b)) σ) := by
  refine k156.go rfl (fun hok hsz => ?_)
  have h1 : 1 + s.length ≤ 9223372036854775807 := by omega
  have h2 : s.length + 1 + 1 ≤ 9223372036854775807 := by omega
  have h3 : s.length + 1 ≤ 9223372036854775806 := by omega
  have h4 : s.length + 1 ≤ 9223372036854775807 := by omega
  cases b
  · ((try refine W.a ?_); simp only [go_sem, seval, reduceCtorEq, c156])
    refine W.no rfl ?_
    ((try refine W.a ?_); simp only [go_sem, seval, reduceCtorEq])
    (refine W.fs (hok) (by simp only [r156, go_sem, seval, reduceCtorEq]; rfl) ?_; simp only [resV]; try exact V.wk.rfl _)
  · ((try refine W.a ?_); simp only [go_sem, seval, reduceCtorEq, c156])
    refine W.yes rfl ?_
    ((try refine W.a ?_); simp only [go_sem, seval, reduceCtorEq, h1, h2, h3, h4])
    (refine W.fs (hok) (by simp only [r156, go_sem, seval, reduceCtorEq]; rfl) ?_; simp only [resV]; try exact V.wk.rfl _)
attribute [local go_sem] Pre.v Pre.cs_eq
theorem ref04_Infix (w0 : World) (l : List OpT) (p : Pre) (σ : H) : DC Tryz.prog w0 155 [.c (opsC l), p.v] σ (Same (.tup [(infR l p).1.v, B (infR l p).2.2.2]) σ) := by
  refine k155.go rfl (fun hok hsz => ?_)
  have e0 : infR l p = (.zero, .none, .none, false) → V.tup [(infR l p).1.v, B (infR l p).2.2.2] = .tup [.agg [S [], I 0, I 0], B false] := fun e => by
    rw [e]
    rfl
  generalize hR : V.tup [(infR l p).1.v, B (infR l p).2.2.2] = R at e0 ⊢
  cases h1 : appP p
  · rw [e0 (by unfold infR; rw [h1]; rfl)]
    by_cases hk : p.k = 3
    · have k1 : (p.k != 3) = false := by simpa using hk
      have k2 : ((p.l.length : Int) != 2) = true := by
        have : ¬ p.l.length = 2 := fun e => by simp [appP, hk, e] at h1
        simp; omega
      ((try refine W.a ?_); simp only [go_sem, seval, reduceCtorEq, c155, k1, k2])
      refine W.yes rfl ?_
      ((try refine W.a ?_); simp only [go_sem, seval, reduceCtorEq])
      (refine W.fs (hok) (by simp only [r155, go_sem, seval, reduceCtorEq]; rfl) ?_; simp only [resV]; try exact V.wk.rfl _)
    · have k1 : (p.k != 3) = true := by simpa using hk
      ((try refine W.a ?_); simp only [go_sem, seval, reduceCtorEq, c155, k1])
      refine W.yes rfl ?_
      ((try refine W.a ?_); simp only [go_sem, seval, reduceCtorEq])
      (refine W.fs (hok) (by simp only [r155, go_sem, seval, reduceCtorEq]; rfl) ?_; simp only [resV]; try exact V.wk.rfl _)
  obtain ⟨f, t, hl⟩ := app_two h1
  have k1 : (p.k != 3) = false := by unfold appP at h1; simp only [Bool.and_eq_true, beq_iff_eq] at h1; simpa using h1.1
  have k2 : ((p.l.length : Int) != 2) = false := by rw [hl]; rfl
  ((try refine W.a ?_); simp only [go_sem, seval, reduceCtorEq, c155, k1, k2])
  refine W.no rfl ?_
  ((try refine W.a ?_); simp only [go_sem, seval, reduceCtorEq, hl, nat0])
  cases h2 : appP f
  · rw [e0 (by unfold infR; rw [h1, if_pos rfl, hl]; simp only [h2]; rfl)]
    by_cases hk : f.k = 3
    · have q1 : (f.k != 3) = false := by simpa using hk
      have q2 : ((f.l.length : Int) != 2) = true := by
        have : ¬ f.l.length = 2 := fun e => by simp [appP, hk, e] at h2
        simp; omega
      ((try refine W.a ?_); simp only [go_sem, seval, reduceCtorEq, q1, q2])
      refine W.yes rfl ?_
      ((try refine W.a ?_); simp only [go_sem, seval, reduceCtorEq])
      (refine W.fs (hok) (by simp only [r155, go_sem, seval, reduceCtorEq]; rfl) ?_; simp only [resV]; try exact V.wk.rfl _)
    · have q1 : (f.k != 3) = true := by simpa using hk
      ((try refine W.a ?_); simp only [go_sem, seval, reduceCtorEq, q1])
      refine W.yes rfl ?_
      ((try refine W.a ?_); simp only [go_sem, seval, reduceCtorEq])
      (refine W.fs (hok) (by simp only [r155, go_sem, seval, reduceCtorEq]; rfl) ?_; simp only [resV]; try exact V.wk.rfl _)
  obtain ⟨c, a, hl2⟩ := app_two h2
  have q1 : (f.k != 3) = false := by unfold appP at h2; simp only [Bool.and_eq_true, beq_iff_eq] at h2; simpa using h2.1
  have q2 : ((f.l.length : Int) != 2) = false := by rw [hl2]; rfl
  by_cases h3 : c.k = 0
  · have k3 : (c.k != 0) = false := by simpa using h3
    have a3 := fun σ => ref02_Find w0 l c.name σ
    have e1 : R = .tup [((findL l c.name).getD .zero).v, B (findL l c.name).isSome] := by
      rw [← hR]
      unfold infR
      rw [h1, if_pos rfl, hl]
      simp only [h2, if_true, hl2, h3]
    rw [e1]
    clear hR e0 e1
    unfold foundV at a3
    generalize (findL l c.name).getD .zero = o at *
    generalize (findL l c.name).isSome = is at *
    ((try refine W.a ?_); simp only [go_sem, seval, reduceCtorEq, q1, q2])
    ((try refine W.a ?_); simp only [go_sem, seval, reduceCtorEq, hl2, nat0, k3])
    refine W.no rfl ?_
    ((try refine W.a ?_); simp only [go_sem, seval, reduceCtorEq, hl2, nat0])
    (refine W.c1 (a3 _) ?_; simp only [go_sem, seval, reduceCtorEq])
    (refine W.fs (hok) (by simp only [r155, go_sem, seval, reduceCtorEq]; rfl) ?_; simp only [resV]; try exact V.wk.rfl _)
  · have k3 : (c.k != 0) = true := by simpa using h3
    rw [e0 (by unfold infR; rw [h1, if_pos rfl, hl]; simp only [h2, if_true, hl2, if_neg h3])]
    ((try refine W.a ?_); simp only [go_sem, seval, reduceCtorEq, q1, q2])
    ((try refine W.a ?_); simp only [go_sem, seval, reduceCtorEq, hl2, nat0, k3])
    refine W.yes rfl ?_
    ((try refine W.a ?_); simp only [go_sem, seval, reduceCtorEq])
    (refine W.fs (hok) (by simp only [r155, go_sem, seval, reduceCtorEq]; rfl) ?_; simp only [resV]; try exact V.wk.rfl _)
theorem infP_R (l : List OpT) (p : Pre) : infP l p = if (infR l p).2.2.2 = true then some ((infR l p).1, (infR l p).2.1, (infR l p).2.2.1) else none := by
  cases h1 : appP p
  · have h0 : infP l p = none := by
      cases e : infP l p with
      | none => rfl
      | some x =>
        have := infP_app (l := l) (p := p) (by rw [e]; rfl)
        rw [h1] at this
        cases this
    rw [h0]
    unfold infR
    rw [h1]
    rfl
  · obtain ⟨f, t, hl⟩ := app_two h1
    have hk : p.k = 3 := by unfold appP at h1; simp only [Bool.and_eq_true, beq_iff_eq] at h1; exact h1.1
    unfold infP infR
    rw [h1, if_pos rfl, if_pos hk, hl]
    simp only []
    cases h2 : appP f
    · by_cases hf : f.k = 3
      · rw [if_pos hf]
        have hlen : ¬ f.l.length = 2 := fun e => by simp [appP, hf, e] at h2
        split
        · rename_i e
          rw [e] at hlen
          exact absurd rfl hlen
        · rfl
      · rw [if_neg hf]
        rfl
    · obtain ⟨c, a, hl2⟩ := app_two h2
      have hf : f.k = 3 := by unfold appP at h2; simp only [Bool.and_eq_true, beq_iff_eq] at h2; exact h2.1
      rw [if_pos hf, hl2]
      simp only [if_true]
      by_cases h3 : c.k = 0
      · rw [if_pos h3, if_pos h3]
        cases findL l c.name <;> rfl
      · rw [if_neg h3, if_neg h3]
        rfl
end
section
attribute [local go_sem] wrC wrY rs_len rs_g0 rs_g rs_s0 rs_s rs_sv
theorem tree_left (w0 : World) (σ : H) (q : Nat) (o x : OpT) (hq : ∀ L, (σ ++ L)[q]? = some (.cells o.v.cellsV none)) : DC Tryz.prog w0 235 [x.v, .ptr q 0] σ (Same (B (besideL o x 1)) σ) := by
  refine k235.go rfl (fun hok hsz => ?_)
  ((try refine W.a ?_); simp only [go_sem, seval, reduceCtorEq, c235, hq])
  (refine W.c1 (ops_Left w0 o x _) ?_; simp only [go_sem, seval, reduceCtorEq])
  (refine W.fs (hok) (by simp only [r235, go_sem, seval, reduceCtorEq]; rfl) ?_; simp only [resV]; try exact V.wk.rfl _)
theorem tree_right (w0 : World) (σ : H) (q : Nat) (o x : OpT) (hq : ∀ L, (σ ++ L)[q]? = some (.cells o.v.cellsV none)) : DC Tryz.prog w0 237 [x.v, .ptr q 0] σ (Same (B (besideL o x 2)) σ) := by
  refine k237.go rfl (fun hok hsz => ?_)
  ((try refine W.a ?_); simp only [go_sem, seval, reduceCtorEq, c237, hq])
  (refine W.c1 (ops_Right w0 o x _) ?_; simp only [go_sem, seval, reduceCtorEq])
  (refine W.fs (hok) (by simp only [r237, go_sem, seval, reduceCtorEq]; rfl) ?_; simp only [resV]; try exact V.wk.rfl _)
def sideG (l : List OpT) (g : OpT → Bool) (p : Pre) : Bool := lamP p || (match infP l p with | some (x, _, _) => !g x | none => false)
theorem writer_side (w0 : World) (l : List OpT) (p : Pre) (t : List UInt8) (hT : TreeD w0 l p t) (f : FuncId) (caps : List V) (g : OpT → Bool) (σ : H) (b v : Nat) (D : Two σ b v) (A : V) (hA : A = .c .nilp ∨ A = .ptr b 1) (s : List UInt8)
    (hF : ∀ L x, DC Tryz.prog w0 f (x.v :: caps) (wrs σ b v l A s ++ L) (Same (B (g x)) (wrs σ b v l A s ++ L))) (hn : s.length + (putP t (sideG l g p)).length ≤ 100000000) :
    DC Tryz.prog w0 234 [.ptr b 0, p.v, .fn f caps] (wrs σ b v l A s) (Same (.tup []) (wrs σ b v l (.ptr b 1) (s ++ putP t (sideG l g p)))) := by
  refine k234.go rfl (fun hok hsz => ?_)
  have hok2 := wrs_ok D hok l (s ++ putP t (sideG l g p))
  have hi := fun L => DC.lift (L := L) D (fun D' => writer_infix w0 (σ ++ L) b v D' l A s p)
  have hl := fun σ => show_lambda w0 p σ
  have hsd : sideG l g p = (lamP p || (match infP l p with | some (x, _, _) => !g x | none => false)) := rfl
  have hp := fun L (br : Bool) hn => DC.lift (L := L) D (fun D' => writer_part w0 l p t hT br (σ ++ L) b v D' A hA s hn)
  unfold infV at hi
  rw [infP_R] at hsd
  have hR : infR l p = ((infR l p).1, (infR l p).2.1, (infR l p).2.2.1, (infR l p).2.2.2) := rfl
  generalize (infR l p).1 = o at *
  generalize (infR l p).2.1 = x at *
  generalize (infR l p).2.2.1 = y at *
  generalize (infR l p).2.2.2 = is at *
  generalize lamP p = lm at *
  generalize sideG l g p = br at *
  have hpb := fun L => hp L br hn
  rw [wrs_put] at hok2 ⊢
  cases lm
  · cases is
    · have e : br = false := by rw [hsd]; rfl
      subst e
      ((try refine W.a ?_); simp only [go_sem, seval, reduceCtorEq, c234, rsA D, Pre.v])
      (refine W.c1 (hi _) ?_; simp only [go_sem, seval, reduceCtorEq, rsA D, Pre.v])
      apply W.dregE (List.cons_ne_nil _ _)
      case hc =>
        (apply CanonE.advPO; simp only [go_sem, seval, reduceCtorEq, rsA D, Pre.v])
        (apply CanonE.call (hl _); (case hg => rfl); (case hf => rfl); (case ha => first | rfl | simp))
        (apply CanonE.advPO; simp only [go_sem, seval, reduceCtorEq, rsA D, Pre.v])
        (apply CanonE.call (hpb _); (case hg => rfl); (case hf => rfl); (case ha => first | rfl | simp))
        (apply CanonE.advPO; simp only [go_sem, seval, reduceCtorEq, rsA D, Pre.v])
        exact CanonE.nil
      ((try refine W.a ?_); simp only [go_sem, seval, reduceCtorEq, rsA D])
      (refine W.done (Fin.sameW (hok2) (by (first | rfl | assumption | exact List.length_set .. | simp)) (by simp only [r234, go_sem, seval, reduceCtorEq]; rfl) ?_ (by (first | exact .c _ | (simp only [go_sem, seval, reduceCtorEq]; done))) (by (first | rfl | exact (List.append_nil _).symm))); simp only [resV]; try exact V.wk.rfl _)
    · have e : br = !g o := by rw [hsd]; rfl
      subst e
      ((try refine W.a ?_); simp only [go_sem, seval, reduceCtorEq, c234, rsA D, Pre.v])
      (refine W.c1 (hi _) ?_; simp only [go_sem, seval, reduceCtorEq, rsA D, Pre.v])
      apply W.dregE (List.cons_ne_nil _ _)
      case hc =>
        (apply CanonE.advPO; simp only [go_sem, seval, reduceCtorEq, rsA D, Pre.v])
        (apply CanonE.call (hl _); (case hg => rfl); (case hf => rfl); (case ha => first | rfl | simp))
        (apply CanonE.advPO; simp only [go_sem, seval, reduceCtorEq, rsA D, Pre.v])
        (apply CanonE.call (hF _ o); (case hg => rfl); (case hf => rfl); (case ha => first | rfl | simp))
        (apply CanonE.advPO; simp only [go_sem, seval, reduceCtorEq, rsA D, Pre.v])
        (apply CanonE.call (hpb _); (case hg => rfl); (case hf => rfl); (case ha => first | rfl | simp))
        (apply CanonE.advPO; simp only [go_sem, seval, reduceCtorEq, rsA D, Pre.v])
        exact CanonE.nil
      ((try refine W.a ?_); simp only [go_sem, seval, reduceCtorEq, rsA D])
      (refine W.done (Fin.sameW (hok2) (by (first | rfl | assumption | exact List.length_set .. | simp)) (by simp only [r234, go_sem, seval, reduceCtorEq]; rfl) ?_ (by (first | exact .c _ | (simp only [go_sem, seval, reduceCtorEq]; done))) (by (first | rfl | exact (List.append_nil _).symm))); simp only [resV]; try exact V.wk.rfl _)
  · have e : br = true := by rw [hsd]; rfl
    subst e
    ((try refine W.a ?_); simp only [go_sem, seval, reduceCtorEq, c234, rsA D, Pre.v])
    (refine W.c1 (hi _) ?_; simp only [go_sem, seval, reduceCtorEq, rsA D, Pre.v])
    apply W.dregE (List.cons_ne_nil _ _)
    case hc =>
      (apply CanonE.advPO; simp only [go_sem, seval, reduceCtorEq, rsA D, Pre.v])
      (apply CanonE.call (hl _); (case hg => rfl); (case hf => rfl); (case ha => first | rfl | simp))
      (apply CanonE.advPO; simp only [go_sem, seval, reduceCtorEq, rsA D, Pre.v])
      (apply CanonE.call (hpb _); (case hg => rfl); (case hf => rfl); (case ha => first | rfl | simp))
      (apply CanonE.advPO; simp only [go_sem, seval, reduceCtorEq, rsA D, Pre.v])
      exact CanonE.nil
    ((try refine W.a ?_); simp only [go_sem, seval, reduceCtorEq, rsA D])
    (refine W.done (Fin.sameW (hok2) (by (first | rfl | assumption | exact List.length_set .. | simp)) (by simp only [r234, go_sem, seval, reduceCtorEq]; rfl) ?_ (by (first | exact .c _ | (simp only [go_sem, seval, reduceCtorEq]; done))) (by (first | rfl | exact (List.append_nil _).symm))); simp only [resV]; try exact V.wk.rfl _)
end
section
attribute [local go_sem] wrC wrY rs_len rs_g0 rs_g rs_s0 rs_s rs_sv
theorem sideG_sideB (l : List OpT) (o : OpT) (fix : Int) (p : Pre) : sideG l (fun x => besideL o x fix) p = sideB l o fix p := rfl
theorem tree_word {w0 : World} (hG : Glob w0) (l : List OpT) (p : Pre) (hO : OkP p) (h1 : lamP p = false) (h2 : appP p = false) : TreeD w0 l p (showL l p) := by
  intro σ b v D A hA s hn
  rw [showL_word h1 h2] at hn ⊢
  refine k151.go rfl (fun hok hsz => ?_)
  have hok2 := wrs_ok D hok l (s ++ wordP l p)
  have hi := fun L => DC.lift (L := L) D (fun D' => writer_infix w0 (σ ++ L) b v D' l A s p)
  have hl := fun σ => show_lambda w0 p σ
  have ha := fun σ => show_application w0 p σ
  have hw := fun L => DC.lift (L := L) D (fun D' => writer_word hG (σ ++ L) b v D' l A hA s p hO.n hn)
  have hR : (infR l p).2.2.2 = false := by unfold infR; rw [h2]; rfl
  unfold infV at hi
  rw [hR] at hi
  rw [h1] at hl
  rw [h2] at ha
  generalize (infR l p).1 = o at *
  generalize (infR l p).2.1 = x at *
  generalize (infR l p).2.2.1 = y at *
  rw [wrs_put] at hok2 ⊢
  ((try refine W.a ?_); simp only [go_sem, seval, reduceCtorEq, c151, rsA D, Pre.v])
  (refine W.c1 (hi _) ?_; simp only [go_sem, seval, reduceCtorEq, rsA D, Pre.v])
  refine W.no rfl ?_
  ((try refine W.a ?_); simp only [go_sem, seval, reduceCtorEq, rsA D, Pre.v])
  (refine W.c1 (hl _) ?_; simp only [go_sem, seval, reduceCtorEq, rsA D, Pre.v])
  refine W.no rfl ?_
  ((try refine W.a ?_); simp only [go_sem, seval, reduceCtorEq, rsA D, Pre.v])
  (refine W.c1 (ha _) ?_; simp only [go_sem, seval, reduceCtorEq, rsA D, Pre.v])
  refine W.no rfl ?_
  ((try refine W.a ?_); simp only [go_sem, seval, reduceCtorEq, rsA D, Pre.v])
  (refine W.c1 (hw _) ?_; simp only [go_sem, seval, reduceCtorEq, rsA D, Pre.v])
  (refine W.done (Fin.sameW (hok2) (by (first | rfl | assumption | exact List.length_set .. | simp)) (by simp only [r151, go_sem, seval, reduceCtorEq]; rfl) ?_ (by (first | exact .c _ | (simp only [go_sem, seval, reduceCtorEq]; done))) (by (first | rfl | exact (List.append_nil _).symm))); simp only [resV]; try exact V.wk.rfl _)
theorem tree_lam {w0 : World} (l : List OpT) (p q : Pre) (h1 : p.k = 4) (h2 : p.l = [q]) (hT : TreeD w0 l q (showL l q)) : TreeD w0 l p (showL l p) := by
  intro σ b v D A hA s hn
  rw [showL_lam h1 h2] at hn ⊢
  rw [List.append_assoc] at hn ⊢
  refine k151.go rfl (fun hok hsz => ?_)
  have hok2 := wrs_ok D hok l (s ++ (p.name ++ ([92, 32] ++ showL l q)))
  have hi := fun L => DC.lift (L := L) D (fun D' => writer_infix w0 (σ ++ L) b v D' l A s p)
  have hl := fun σ => show_lambda w0 p σ
  have hw := fun L => DC.lift (L := L) D (fun D' => builder_WriteString w0 (σ ++ L) b v D' l A hA s (p.name ++ [92, 32]) (by simp at hn ⊢; omega))
  have ht := fun L => DC.lift (L := L) D (fun D' => hT (σ ++ L) b v D' (.ptr b 1) (.inr rfl) (s ++ (p.name ++ [92, 32])) (by simp at hn ⊢; omega))
  have hR : (infR l p).2.2.2 = false := by unfold infR appP; simp [h1]
  have hlm : lamP p = true := by simp [lamP, h1, h2]
  have es : s ++ (p.name ++ [92, 32]) ++ showL l q = s ++ (p.name ++ ([92, 32] ++ showL l q)) := by simp
  unfold infV at hi
  rw [hR] at hi
  rw [hlm] at hl
  rw [es] at ht
  have k1 : p.name.length + 2 ≤ 9223372036854775807 := by simp at hn; omega
  have k2 : p.name.length + 1 + 1 ≤ 9223372036854775807 := by simp at hn; omega
  generalize p.name ++ ([92, 32] ++ showL l q) = u at *
  generalize s ++ u = s3 at *
  generalize s ++ (p.name ++ [92, 32]) = s1 at hw ht
  generalize (infR l p).1 = o at *
  generalize (infR l p).2.1 = x at *
  generalize (infR l p).2.2.1 = y at *
  ((try refine W.a ?_); simp only [go_sem, seval, reduceCtorEq, c151, rsA D, Pre.v])
  (refine W.c1 (hi _) ?_; simp only [go_sem, seval, reduceCtorEq, rsA D, Pre.v])
  refine W.no rfl ?_
  ((try refine W.a ?_); simp only [go_sem, seval, reduceCtorEq, rsA D, Pre.v])
  (refine W.c1 (hl _) ?_; simp only [go_sem, seval, reduceCtorEq, rsA D, Pre.v])
  refine W.yes rfl ?_
  ((try refine W.a ?_); simp only [go_sem, seval, reduceCtorEq, rsA D, Pre.v])
  apply W.dregE (List.cons_ne_nil _ _)
  case hc =>
    (apply CanonE.advPO; simp only [go_sem, seval, reduceCtorEq, rsA D, Pre.v, k1, k2])
    (apply CanonE.call (hw _); (case hg => rfl); (case hf => rfl); (case ha => first | rfl | simp))
    (apply CanonE.advPO; simp only [go_sem, seval, reduceCtorEq, rsA D, Pre.v])
    exact CanonE.nil
  ((try refine W.a ?_); simp only [go_sem, seval, reduceCtorEq, rsA D, h2, nat0])
  (refine W.c1 (ht _) ?_; simp only [go_sem, seval, reduceCtorEq, rsA D, Pre.v])
  (refine W.done (Fin.sameW (hok2) (by (first | rfl | assumption | exact List.length_set .. | simp)) (by simp only [r151, go_sem, seval, reduceCtorEq]; rfl) ?_ (by (first | exact .c _ | (simp only [go_sem, seval, reduceCtorEq]; done))) (by (first | rfl | exact (List.append_nil _).symm))); simp only [resV]; try exact V.wk.rfl _)
theorem tree_app {w0 : World} (l : List OpT) (p f c : Pre) (hi0 : infP l p = none) (h1 : p.k = 3) (h2 : p.l = [f, c]) (hf : TreeD w0 l f (showL l f)) (hc : TreeD w0 l c (showL l c)) : TreeD w0 l p (showL l p) := by
  intro σ b v D A hA s hn
  rw [showL_app hi0 h1 h2] at hn ⊢
  refine k151.go rfl (fun hok hsz => ?_)
  have hlf : ((infP l f).isSome || lamP f) = ((infR l f).2.2.2 || lamP f) := by rw [infP_R]; cases (infR l f).2.2.2 <;> rfl
  rw [hlf] at hn ⊢
  have hi := fun L => DC.lift (L := L) D (fun D' => writer_infix w0 (σ ++ L) b v D' l A s p)
  have hif := fun L => DC.lift (L := L) D (fun D' => writer_infix w0 (σ ++ L) b v D' l A s f)
  have hl := fun σ => show_lambda w0 p σ
  have ha := fun σ => show_application w0 p σ
  have hlF := fun σ => show_lambda w0 f σ
  have hlC := fun σ => show_lambda w0 c σ
  have haC := fun σ => show_application w0 c σ
  have hlm : lamP p = false := by simp [lamP, h1]
  have hap : appP p = true := by simp [appP, h1, h2]
  have hR : (infR l p).2.2.2 = false := by
    rw [infP_R] at hi0
    cases e : (infR l p).2.2.2
    · rfl
    · rw [e, if_pos rfl] at hi0; cases hi0
  unfold infV at hi hif
  rw [hR] at hi
  rw [hlm] at hl
  rw [hap] at ha
  generalize (infR l p).1 = o at *
  generalize (infR l p).2.1 = x at *
  generalize (infR l p).2.2.1 = y at *
  generalize (infR l f).1 = of at *
  generalize (infR l f).2.1 = xf at *
  generalize (infR l f).2.2.1 = yf at *
  generalize (infR l f).2.2.2 = isf at *
  have hp1 := fun L => DC.lift (L := L) D (fun D' => writer_part w0 l f _ hf (isf || lamP f) (σ ++ L) b v D' A hA s (by simp at hn ⊢; omega))
  have hw := fun L => DC.lift (L := L) D (fun D' => builder_WriteByte w0 (σ ++ L) b v D' l (.ptr b 1) (.inr rfl) (s ++ putP (showL l f) (isf || lamP f)) 32 (by simp at hn ⊢; omega))
  have hp2 := fun L => DC.lift (L := L) D (fun D' => writer_part w0 l c _ hc (lamP c || appP c) (σ ++ L) b v D' (.ptr b 1) (.inr rfl) (s ++ putP (showL l f) (isf || lamP f) ++ [32]) (by simp at hn ⊢; omega))
  have es : s ++ putP (showL l f) (isf || lamP f) ++ [32] ++ putP (showL l c) (lamP c || appP c) = s ++ (putP (showL l f) (isf || lamP f) ++ 32 :: putP (showL l c) (lamP c || appP c)) := by simp
  rw [es] at hp2
  generalize putP (showL l f) (isf || lamP f) ++ 32 :: putP (showL l c) (lamP c || appP c) = u at *
  have hok2 := wrs_ok D hok l (s ++ u)
  have hu8 : ((32 : UInt8).toNat : Int) = 32 := rfl
  rw [hu8] at hw
  generalize putP (showL l f) (isf || lamP f) = u1 at *
  generalize hb1 : (isf || lamP f) = b1 at *
  generalize hb2 : (lamP c || appP c) = b2 at *
  generalize s ++ u = s3 at *
  generalize s ++ u1 = s1 at hp1 hw hp2
  generalize s1 ++ [32] = s2 at hw hp2
  have hif2 : isf = true → b1 = true := fun e => by rw [← hb1, e]; rfl
  have hif3 : isf = false → ∀ σ, DC Tryz.prog w0 239 [f.v] σ (Same (B b1) σ) := fun e σ => by rw [← hb1, e]; exact hlF σ
  have hc2 : lamP c = true → b2 = true := fun e => by rw [← hb2, e]; rfl
  have hc3 : lamP c = false → ∀ σ, DC Tryz.prog w0 240 [c.v] σ (Same (B b2) σ) := fun e σ => by rw [← hb2, e]; exact haC σ
  clear hb1 hb2
  generalize lamP c = lc at *
  cases isf <;> cases lc <;> (
    (try (have e := hif2 rfl; subst e))
    (try (have e := hc2 rfl; subst e))
    ((try refine W.a ?_); simp only [go_sem, seval, reduceCtorEq, c151, rsA D, Pre.v])
    (refine W.c1 (hi _) ?_; simp only [go_sem, seval, reduceCtorEq, rsA D, Pre.v])
    refine W.no rfl ?_
    ((try refine W.a ?_); simp only [go_sem, seval, reduceCtorEq, rsA D, Pre.v])
    (refine W.c1 (hl _) ?_; simp only [go_sem, seval, reduceCtorEq, rsA D, Pre.v])
    refine W.no rfl ?_
    ((try refine W.a ?_); simp only [go_sem, seval, reduceCtorEq, rsA D, Pre.v])
    (refine W.c1 (ha _) ?_; simp only [go_sem, seval, reduceCtorEq, rsA D, Pre.v])
    refine W.yes rfl ?_
    ((try refine W.a ?_); simp only [go_sem, seval, reduceCtorEq, rsA D, h2, nat0])
    (refine W.c1 (hif _) ?_; simp only [go_sem, seval, reduceCtorEq, rsA D, Pre.v, h2, nat0])
    apply W.dregE (List.cons_ne_nil _ _)
    case hc =>
      (apply CanonE.advPO; simp only [go_sem, seval, reduceCtorEq, rsA D, h2, nat0])
      (try ((apply CanonE.call (hif3 rfl _); (case hg => rfl); (case hf => rfl); (case ha => first | rfl | simp)); (apply CanonE.advPO; simp only [go_sem, seval, reduceCtorEq, rsA D, h2, nat0])))
      (apply CanonE.call (hp1 _); (case hg => rfl); (case hf => rfl); (case ha => first | rfl | simp))
      (apply CanonE.advPO; simp only [go_sem, seval, reduceCtorEq, rsA D])
      exact CanonE.nil
    ((try refine W.a ?_); simp only [go_sem, seval, reduceCtorEq, rsA D, h2, nat0])
    (refine W.c1 (hw _) ?_; simp only [go_sem, seval, reduceCtorEq, rsA D])
    apply W.dregE (List.cons_ne_nil _ _)
    case hc =>
      (apply CanonE.advPO; simp only [go_sem, seval, reduceCtorEq, rsA D, h2, nat0])
      (apply CanonE.call (hlC _); (case hg => rfl); (case hf => rfl); (case ha => first | rfl | simp))
      (apply CanonE.advPO; simp only [go_sem, seval, reduceCtorEq, rsA D, h2, nat0])
      (try ((apply CanonE.call (hc3 rfl _); (case hg => rfl); (case hf => rfl); (case ha => first | rfl | simp)); (apply CanonE.advPO; simp only [go_sem, seval, reduceCtorEq, rsA D, h2, nat0])))
      (apply CanonE.call (hp2 _); (case hg => rfl); (case hf => rfl); (case ha => first | rfl | simp))
      (apply CanonE.advPO; simp only [go_sem, seval, reduceCtorEq, rsA D])
      exact CanonE.nil
    ((try refine W.a ?_); simp only [go_sem, seval, reduceCtorEq, rsA D])
    (refine W.done (Fin.sameW (hok2) (by (first | rfl | assumption | exact List.length_set .. | simp)) (by simp only [r151, go_sem, seval, reduceCtorEq]; rfl) ?_ (by (first | exact .c _ | (simp only [go_sem, seval, reduceCtorEq]; done))) (by (first | rfl | exact (List.append_nil _).symm))); simp only [resV]; try exact V.wk.rfl _))
end
section
attribute [local go_sem] wrC wrY rs_len rs_g0 rs_g rs_s0 rs_s rs_sv
theorem tree_inf {w0 : World} (l : List OpT) (p : Pre) (o : OpT) (a c : Pre) (hi0 : infP l p = some (o, a, c)) (ha : TreeD w0 l a (showL l a)) (hc : TreeD w0 l c (showL l c)) : TreeD w0 l p (showL l p) := by
  intro σ b v D A hA s hn
  rw [showL_inf hi0] at hn ⊢
  refine k151.go rfl (fun hok hsz => ?_)
  have hi := fun L => DC.lift (L := L) D (fun D' => writer_infix w0 (σ ++ L) b v D' l A s p)
  have hR : infR l p = (o, a, c, true) := by
    rw [infP_R] at hi0
    cases e : (infR l p).2.2.2
    · rw [e, if_neg (by decide)] at hi0; cases hi0
    · rw [e, if_pos rfl] at hi0
      injection hi0 with hi0
      injection hi0 with e1 e2
      injection e2 with e2 e3
      rw [← e1, ← e2, ← e3, ← e]
  unfold infV at hi
  rw [hR] at hi
  have hn1 : s.length + (putP (showL l a) (sideB l o 1 a)).length ≤ 100000000 := by simp at hn ⊢; omega
  have hn2 : (s ++ putP (showL l a) (sideB l o 1 a)).length + (32 :: (o.name ++ [32])).length ≤ 100000000 := by simp at hn ⊢; omega
  have hn3 : (s ++ putP (showL l a) (sideB l o 1 a) ++ (32 :: (o.name ++ [32]))).length + (putP (showL l c) (sideB l o 2 c)).length ≤ 100000000 := by simp at hn ⊢; omega
  have k1 : 1 + o.name.length ≤ 9223372036854775807 := by simp at hn; omega
  have k2 : o.name.length + 1 + 1 ≤ 9223372036854775807 := by simp at hn; omega
  have k3 : o.name.length + 1 ≤ 9223372036854775806 := by simp at hn; omega
  have k4 : o.name.length + 1 ≤ 9223372036854775807 := by omega
  have es : s ++ (putP (showL l a) (sideB l o 1 a) ++ (32 :: o.name ++ [32]) ++ putP (showL l c) (sideB l o 2 c)) = s ++ putP (showL l a) (sideB l o 1 a) ++ (32 :: (o.name ++ [32])) ++ putP (showL l c) (sideB l o 2 c) := by simp
  rw [es]
  have hok2 := wrs_ok D hok l (s ++ putP (showL l a) (sideB l o 1 a) ++ (32 :: (o.name ++ [32])) ++ putP (showL l c) (sideB l o 2 c))
  have h1 := fun (x y1 y2 : Blk) => DC.lift (L := [x, .cells o.v.cellsV, y1, y2]) D (fun D' => writer_side w0 l a _ ha 235 [.ptr (σ.length + 1) 0] (fun x => besideL o x 1) (σ ++ [x, .cells o.v.cellsV, y1, y2]) b v D' A hA s (fun L x => by
    exact tree_left w0 _ (σ.length + 1) o x (fun M => by
      show (rs (σ ++ _) b v _ _ ++ L ++ M)[_]? = _
      rw [rs_app D, List.append_assoc, List.append_assoc, rs_g]
      rfl)) hn1)
  have h2 := fun (x y1 y2 : Blk) => DC.lift (L := [x, .cells o.v.cellsV, y1, y2]) D (fun D' => builder_WriteString w0 (σ ++ [x, .cells o.v.cellsV, y1, y2]) b v D' l (.ptr b 1) (.inr rfl) (s ++ putP (showL l a) (sideB l o 1 a)) (32 :: (o.name ++ [32])) hn2)
  have h3 := fun (x y1 y2 : Blk) => DC.lift (L := [x, .cells o.v.cellsV, y1, y2]) D (fun D' => writer_side w0 l c _ hc 237 [.ptr (σ.length + 1) 0] (fun x => besideL o x 2) (σ ++ [x, .cells o.v.cellsV, y1, y2]) b v D' (.ptr b 1) (.inr rfl) (s ++ putP (showL l a) (sideB l o 1 a) ++ (32 :: (o.name ++ [32]))) (fun L x => by
    exact tree_right w0 _ (σ.length + 1) o x (fun M => by
      show (rs (σ ++ _) b v _ _ ++ L ++ M)[_]? = _
      rw [rs_app D, List.append_assoc, List.append_assoc, rs_g]
      rfl)) hn3)
  rw [sideG_sideB] at h1 h3
  generalize putP (showL l a) (sideB l o 1 a) = u1 at *
  generalize putP (showL l c) (sideB l o 2 c) = u2 at *
  generalize s ++ u1 ++ (32 :: (o.name ++ [32])) ++ u2 = s3 at *
  generalize s ++ u1 ++ (32 :: (o.name ++ [32])) = s2 at *
  generalize s ++ u1 = s1 at *
  ((try refine W.a ?_); simp only [go_sem, seval, reduceCtorEq, c151, rsA D, Pre.v])
  (refine W.c1 (hi _) ?_; simp only [go_sem, seval, reduceCtorEq, rsA D, Pre.v])
  refine W.yes rfl ?_
  ((try refine W.a ?_); simp only [go_sem, seval, reduceCtorEq, rsA D, Pre.v])
  (refine W.c1 (h1 _ _ _) ?_; simp only [go_sem, seval, reduceCtorEq, rsA D, Pre.v])
  apply W.dregE (List.cons_ne_nil _ _)
  case hc =>
    (apply CanonE.advPO; simp only [go_sem, seval, reduceCtorEq, rsA D, k1, k2, k3, k4])
    (apply CanonE.call (h2 _ _ _); (case hg => rfl); (case hf => rfl); (case ha => first | rfl | simp))
    (apply CanonE.advPO; simp only [go_sem, seval, reduceCtorEq, rsA D])
    exact CanonE.nil
  ((try refine W.a ?_); simp only [go_sem, seval, reduceCtorEq, rsA D, Pre.v])
  (refine W.c1 (h3 _ _ _) ?_; simp only [go_sem, seval, reduceCtorEq, rsA D, Pre.v])
  (refine W.done (Fin.sameW (hok2) (by (first | rfl | assumption | exact List.length_set .. | simp)) (by simp only [r151, go_sem, seval, reduceCtorEq]; rfl) ?_ (by (first | exact .c _ | (simp only [go_sem, seval, reduceCtorEq]; done))) (by (first | rfl | exact (List.append_nil _).symm))); simp only [resV]; try exact V.wk.rfl _)
theorem writer_tree {w0 : World} (hG : Glob w0) (l : List OpT) (p : Pre) (hO : OkP p) : TreeD w0 l p (showL l p) := by
  refine (Pre.ind (P := fun p => OkP p → TreeD w0 l p (showL l p) ∧ ∀ q ∈ p.l, TreeD w0 l q (showL l q)) (fun p ih hO => ⟨?_, fun q hq => (ih q hq (hO.mem hq)).1⟩) p hO).1
  cases hi : infP l p with
  | some x =>
    obtain ⟨o, a, c⟩ := x
    obtain ⟨_, f, _, h2, _, h3, _⟩ := infP_some hi
    have hf : f ∈ p.l := by rw [h2]; simp
    exact tree_inf l p o a c hi ((ih f hf (hO.mem hf)).2 a (by rw [h3]; simp)) (ih c (by rw [h2]; simp) (hO.mem (by rw [h2]; simp))).1
  | none =>
    by_cases h1 : lamP p = true
    · have h1' := h1
      unfold lamP at h1'
      simp only [Bool.and_eq_true, beq_iff_eq] at h1'
      obtain ⟨q, hq⟩ := List.length_eq_one_iff.1 h1'.2
      have hqm : q ∈ p.l := by rw [hq]; simp
      exact tree_lam l p q h1'.1 hq (ih q hqm (hO.mem hqm)).1
    · have h1 : lamP p = false := by simpa using h1
      by_cases h2 : appP p = true
      · obtain ⟨f, c, hq⟩ := app_two h2
        have hk : p.k = 3 := by unfold appP at h2; simp only [Bool.and_eq_true, beq_iff_eq] at h2; exact h2.1
        have hf : f ∈ p.l := by rw [hq]; simp
        have hc : c ∈ p.l := by rw [hq]; simp
        exact tree_app l p f c hi hk hq (ih f hf (hO.mem hf)).1 (ih c hc (hO.mem hc)).1
      · have h2 : appP p = false := by simpa using h2
        exact tree_word hG l p hO h1 h2
end
end Go.Proofs.YtpcmcfajfnpjeaaGreatDoor
namespace Go.Proofs.YtpcmcfajfnpjeaaGreatDoor
open Go.RowKit Go.Lamb
theorem string_end {w0 w : World} {κ : K} {σ : H} {b v : Nat} (D : Two σ b v) (l : List OpT) (A : V) (s : List UInt8) (hrep : Rep w0 κ (wrs σ b v l A s) w) (hnil : s = [] → κ.sv v = .slice none 0 0) :
    Calls Tryz.prog 87 #[.pointer (some ⟨κ.pos b, 1, none⟩)] w fun e w' => e = .returned (.string (bs s)) ∧ s.length ≤ maxLen ∧ ∃ κ' Y, κ.le κ' ∧ Rep w0 κ' (rs σ b v (wrC l A v s) Y) w' ∧ (∀ cs tg, Y = .cells cs tg → False) := by
  have hgb := rs_b D (wrC l A v s) (wrY s)
  have hgv := rs_v D (wrC l A v s) (wrY s)
  obtain ⟨hltb, hb'⟩ := List.getElem?_eq_some_iff.1 hgb
  obtain ⟨hltv, hv'⟩ := List.getElem?_eq_some_iff.1 hgv
  have hB := hrep.blk b hltb
  have hV := hrep.blk v hltv
  rw [hb'] at hB
  rw [hv'] at hV
  obtain ⟨us, T, k1, k2, k3⟩ := hB.row
  have k2 : us.size = 3 := k2
  have r2 := (k3 2 (by simp)).2
  have hu2 : us[2]? = some (us.getD 2 undef) := by rw [Array.getElem?_eq_getElem (by omega)]; simp [Array.getD, k2]
  have hc2 : w.cell? ⟨κ.pos b, 2, none⟩ = us[2]? := Lib.cell_of_heap k1 2
  generalize us.getD 2 undef = u at r2 hu2
  have hptr : RV κ (.ptr b 1) (.pointer (some ⟨κ.pos b, 1, none⟩)) := .ptr (by rw [hrep.n]; exact hltb) hB.fr
  by_cases h0 : s = []
  · subst h0
    have hu : u = .slice none 0 0 := by
      cases r2 with
      | osl hr q1 q2 q3 q4 q5 =>
        have hfr : κ.fr v = some 0 := hV.fr
        rw [hfr] at q2
        injection q2 with q2
        exact (q4 q2).trans (hnil rfl)
    subst hu
    refine (string_nil w (κ.pos b) (by rw [hc2, hu2])).mono ?_
    rintro e w' ⟨rfl, rfl⟩
    exact ⟨rfl, Nat.zero_le _, κ, wrY [], K.le_refl κ, hrep.drew, fun cs tg h => by cases h⟩
  · refine ((builder_String w0 σ b v D l A s h0).run κ w [.pointer (some ⟨κ.pos b, 1, none⟩)] hrep (Fits.cons hptr Fits.nil)).mono ?_
    rintro e w' ⟨v', d, σ', κ', rfl, ⟨rfl, rfl⟩, hle, hrep', hv⟩
    cases hv with
    | c hv =>
      cases hv with
      | str _ hlen => exact ⟨rfl, hlen, κ', .gone, hle, hrep', fun cs tg h => by cases h⟩
theorem writer_new {w0 w : World} {κ : K} {σ : H} {l : List OpT} {x : Value} (hrep : Rep w0 κ σ w) (hx : RV κ (.c (opsC l)) x) :
    ∃ κ3, κ.le κ3 ∧ Rep w0 κ3 (wrs (σ ++ [Blk.gone, Blk.gone]) σ.length (σ.length + 1) l (.c .nilp) []) (w.alloc (.cells #[x, .pointer none, .slice none 0 0] 196)) ∧ κ3.pos σ.length = w.heap.size ∧ κ3.sv (σ.length + 1) = .slice none 0 0 ∧ κ3.fr (σ.length + 1) = some 0 := by
  obtain ⟨h1, h2⟩ := hrep.box (cs := [.c (opsC l), .c .nilp, .csl []]) (vs := [x, .pointer none, .slice none 0 0]) 196 (tg := some 196) (fun T h => by injection h with h; exact h.symm) rfl rfl (fun j hj => by
    match j, hj with
    | 0, _ => exact hx
    | 1, _ => exact .c .nilp
    | 2, _ => exact .csl (A := none) (RC.nil _))
  have hle : κ.le (κ.more w.heap.size) := K.more_le
  have hp : (κ.more w.heap.size).pos σ.length = w.heap.size := by
    generalize hg : Value.pointer (some ⟨w.heap.size, 0, none⟩) = g at h2
    cases h2 with
    | ptr h1 h2 => injection hg with hg; injection hg with hg; injection hg with hg; exact hg.symm
  obtain ⟨κ3, k1, k2, k3, k4⟩ := turnNil h1 (b := σ.length) (j := 2) 5 1 (cs := [.c (opsC l), .c .nilp, .csl []]) (tg := some 196) (by simp) (by simp) (by rw [hp]; exact heap_alloc_new w _) rfl
  rw [show (σ ++ [Blk.cells [.c (opsC l), .c .nilp, .csl []] (some 196)]).length = σ.length + 1 from by simp] at k2 k3 k4
  refine ⟨κ3, K.le_trans hle k1, ?_, ?_, k3, k4⟩
  · have e : wrs (σ ++ [Blk.gone, Blk.gone]) σ.length (σ.length + 1) l (.c .nilp) [] = (σ ++ [Blk.cells [.c (opsC l), .c .nilp, .csl []] (some 196)] ++ [Blk.spare 5 1 0]).set σ.length (.cells ([V.c (opsC l), .c .nilp, .csl []].set 2 (.osl (σ.length + 1) [])) (some 196)) := by
      unfold wrs rs
      rw [List.append_assoc, hset0, hset0, hset]
      rfl
    rw [e]
    exact k2
  · have hB := h1.blk σ.length (by simp)
    rw [show (σ ++ [Blk.cells [.c (opsC l), .c .nilp, .csl []] (some 196)])[σ.length]'(by simp) = Blk.cells [.c (opsC l), .c .nilp, .csl []] (some 196) from by simp] at hB
    exact (k1.cells σ.length (by rw [h1.n]; simp) hB.fr).2.trans hp
theorem show_Text {w0 : World} (hG : Glob w0) (l : List OpT) (p : Pre) (hO : OkP p) (hn : (showL l p).length ≤ 100000000) (σ : H) :
    DC Tryz.prog w0 63 [.c (opsC l), p.v] σ (Same (S (showL l p)) σ) := by
  refine ⟨enters_fn Tryz.func63 (by kernel_rfl) rfl, fun κ w vs hrep hfit => ?_⟩
  obtain ⟨x, ys, rfl, hx, hfit⟩ := hfit.cons_inv
  obtain ⟨y, zs, rfl, hy, hfit⟩ := hfit.cons_inv
  have := hfit.nil_inv
  subst this
  obtain ⟨vA, vc, ey⟩ := pre_value hy
  subst ey
  obtain ⟨xA, xn, xc, ex⟩ : ∃ A n c, x = .slice A n c := by
    unfold opsC at hx
    cases hx with | c h => cases h; exact ⟨_, _, _, rfl⟩
  subst ex
  have hs1 : (w.alloc (.cells #[.int .i64 p.k, .string (bs p.name), .int .i64 p.n, .slice vA p.l.length vc, .int .i64 p.pos] 37)).heap.size = w.heap.size + 1 := Array.size_push ..
  obtain ⟨κ3, hle3, hr3, hp3, hnil, hfr3⟩ := writer_new (hrep.alloc (.cells #[.int .i64 p.k, .string (bs p.name), .int .i64 p.n, .slice vA p.l.length vc, .int .i64 p.pos] 37)) hx
  rw [hs1] at hp3
  have D : Two (σ ++ [Blk.gone, Blk.gone]) σ.length (σ.length + 1) := ⟨by omega, by simp, by simp⟩
  have hq3 : σ.length < κ3.n ∧ κ3.fr σ.length = none := by
    refine ⟨by rw [hr3.n]; simp, ?_⟩
    have e := rs_b D (wrC l (.c .nilp) (σ.length + 1) []) (wrY [])
    obtain ⟨hlt, e⟩ := List.getElem?_eq_some_iff.1 e
    have hB := hr3.blk σ.length hlt
    rw [e] at hB
    exact hB.fr
  have hx3 : RV κ3 (.ptr σ.length 0) (.pointer (some ⟨w.heap.size + 1, 0, none⟩)) := by
    rw [← hp3]
    exact .ptr hq3.1 hq3.2
  go_enter Tryz.func63, Tryz.ntmps63
  go_wp2_with (fail)
  refine ((writer_tree hG l p hO _ _ _ D (.c .nilp) (.inl rfl) [] (by simpa using hn)).run κ3 _ [.pointer (some ⟨w.heap.size + 1, 0, none⟩), _] hr3 (Fits.cons hx3 (Fits.cons (hy.mono hle3) Fits.nil))).mono ?_
  rintro e w1 ⟨v1, d1, σ1, κ4, rfl, ⟨rfl, rfl⟩, hle4, hr4, hv4⟩
  rw [List.nil_append] at hr4
  have hp4 : κ4.pos σ.length = w.heap.size + 1 := (hle4.cells _ hq3.1 hq3.2).2.trans hp3
  go_wp2_with (fail)
  rw [← hp4]
  refine (string_end D l _ _ hr4 (fun e => ?_)).mono ?_
  · obtain ⟨f', q1, q2, q3, q4⟩ := hle4.spare (σ.length + 1) 0 (by rw [hr3.n]; simp) hfr3
    have e2 := rs_v D (wrC l (.ptr σ.length 1) (σ.length + 1) (showL l p)) (wrY (showL l p))
    obtain ⟨hlt, e2⟩ := List.getElem?_eq_some_iff.1 e2
    have hV := hr4.blk _ hlt
    rw [e2] at hV
    have hf : κ4.fr (σ.length + 1) = some (showL l p).length := hV.fr
    rw [hf, e] at q1
    injection q1 with q1
    rw [q3 q1.symm, hnil]
  · rintro e w2 ⟨rfl, hlen, κ5, Y, hle5, hr5, hY⟩
    go_wp2
    go_ret
    have hfin : Rep w0 (κ5.cut σ.length) σ w2 := by
      have e3 : (rs (σ ++ [Blk.gone, Blk.gone]) σ.length (σ.length + 1) (wrC l (.ptr σ.length 1) (σ.length + 1) (showL l p)) Y).take σ.length = σ := by
        unfold rs
        rw [List.take_set_of_le (by omega), List.take_set_of_le (by omega), List.take_left' rfl]
      have := hr5.cut σ.length (by simp) (by rw [e3]; exact hrep.ok)
      rwa [e3] at this
    exact ⟨_, S (showL l p), σ, κ5.cut σ.length, rfl, ⟨rfl, rfl⟩, K.cut_le (K.le_trans hle3 (K.le_trans hle4 hle5)) (by rw [hrep.n]; exact Nat.le_refl _), hfin, .c (.str _ hlen)⟩
end Go.Proofs.YtpcmcfajfnpjeaaGreatDoor
namespace Go.Proofs.YtpcmcfajfnpjeaaGreatDoor
open Go.RowKit Go.Lamb
--absent /-- show.Width -/
--absent /-- show.Lines -/
end Go.Proofs.YtpcmcfajfnpjeaaGreatDoor
namespace Go.Lamb
end Go.Lamb
namespace Go.Proofs.YtpcmcfajfnpjeaaGreatDoor
open Go.RowKit Go.Lamb
end Go.Proofs.YtpcmcfajfnpjeaaGreatDoor
namespace Go.Proofs.YtpcmcfajfnpjeaaGreatDoor
open Go.RowKit Go.Lamb
end Go.Proofs.YtpcmcfajfnpjeaaGreatDoor
namespace Go.Proofs.YtpcmcfajfnpjeaaGreatDoor
open Go.RowKit Go.Lamb

end Go.Proofs.YtpcmcfajfnpjeaaGreatDoor
namespace Go.Lamb
def okPb : Nat → Pre → Bool
  | 0, _ => false
  | f + 1, p => decide (p.n ≤ 9223372036854775807) && p.l.all (okPb f)
theorem okPb_ok : ∀ (f : Nat) (p : Pre), okPb f p = true → OkP p
  | 0, _, h => by cases h
  | f + 1, .mk k s n l a, h => by
    rw [okPb, Bool.and_eq_true, decide_eq_true_eq] at h
    exact .mk h.1 fun x hx => okPb_ok f x (List.all_eq_true.1 h.2 x hx)
end Go.Lamb
namespace Go.Proofs.YtpcmcfajfnpjeaaGreatDoor
open Go.RowKit Go.Lamb
end Go.Proofs.YtpcmcfajfnpjeaaGreatDoor
namespace Go.Proofs.YtpcmcfajfnpjeaaGreatDoor
open Go.RowKit Go.Lamb
def extLex : List V → H → Option (V × H)
  | [.c (.str s)], σ => cond (Nat.ble s.length 100000) (let r := lexL s; some (.tup [.c (toksC r.toks), .c (.int .i64 r.err), .c (.int .i64 r.pos)], σ)) none
  | _, _ => none
def extGrow (e size : Nat) : List V → H → Option (V × H)
  | [.csl [], .c (.int .i64 n)], σ => cond (decide (0 ≤ n) && decide (n ≤ 1000000)) (some (.osl σ.length [], σ ++ [.spare e size 0])) none
  | _, _ => none
def extClone (e size : Nat) : List V → H → Option (V × H)
  | [a], σ => match a.rows with
    | some r => cond (r.all (fun q => Nat.beq q.length size) && Nat.ble r.length 1000000) (some (.osl σ.length r, σ ++ [.spare e size r.length])) none
    | none => none
  | _, _ => none
def extCloneT (e : Nat) : List V → H → Option (V × H)
  | [a], σ => match a.rows with
    | some [] => some (.osl σ.length [], σ ++ [.spare e 4 0])
    | _ => none
  | _, _ => none
theorem extGrow_op (w0 : World) (as' : List V) (σ : H) (v : V) (σ' : H) (h : extGrow 75 3 as' σ = some (v, σ')) : DC Tryz.prog w0 335 as' σ (Same v σ') := by
  unfold extGrow at h
  split at h
  · rename_i n
    cases hc : (decide (0 ≤ n) && decide (n ≤ 1000000)) with
    | false => rw [hc] at h; cases h
    | true =>
      rw [hc] at h
      injection h with h
      injection h with h1 h2
      subst h1 h2
      simp only [Bool.and_eq_true, decide_eq_true_eq] at hc
      obtain ⟨m, rfl⟩ : ∃ m : Nat, n = (m : Int) := ⟨n.toNat, by omega⟩
      exact slices_Grow w0 m (by omega) σ
  · cases h
theorem extGrow_nm (w0 : World) (as' : List V) (σ : H) (v : V) (σ' : H) (h : extGrow 68 5 as' σ = some (v, σ')) : DC Tryz.prog w0 342 as' σ (Same v σ') := by
  unfold extGrow at h
  split at h
  · rename_i n
    cases hc : (decide (0 ≤ n) && decide (n ≤ 1000000)) with
    | false => rw [hc] at h; cases h
    | true =>
      rw [hc] at h
      injection h with h
      injection h with h1 h2
      subst h1 h2
      simp only [Bool.and_eq_true, decide_eq_true_eq] at hc
      obtain ⟨m, rfl⟩ : ∃ m : Nat, n = (m : Int) := ⟨n.toNat, by omega⟩
      exact slices_GrowN w0 m (by omega) σ
  · cases h
theorem extGrow_tm (w0 : World) (as' : List V) (σ : H) (v : V) (σ' : H) (h : extGrow 30 4 as' σ = some (v, σ')) : DC Tryz.prog w0 219 as' σ (Same v σ') := by
  unfold extGrow at h
  split at h
  · rename_i n
    cases hc : (decide (0 ≤ n) && decide (n ≤ 1000000)) with
    | false => rw [hc] at h; cases h
    | true =>
      rw [hc] at h
      injection h with h
      injection h with h1 h2
      subst h1 h2
      simp only [Bool.and_eq_true, decide_eq_true_eq] at hc
      obtain ⟨m, rfl⟩ : ∃ m : Nat, n = (m : Int) := ⟨n.toNat, by omega⟩
      exact slices_GrowT w0 m (by omega) σ
  · cases h
theorem wk_rows {a : V} {r : List (List C)} (h : a.rows = some r) : V.wk (.agg [a]) (.agg [.c (.sl r)]) := by
  refine .agg rfl fun j hj hj' => ?_
  have : j = 0 := by simp at hj; omega
  subst this
  simp only [List.getElem_cons_zero]
  unfold V.rows at h
  split at h
  · injection h with h; subst h; exact .rfl _
  · injection h with h; subst h; exact .osl _ _
  · injection h with h; subst h; exact .csl _
  · cases h
theorem extClone_op (w0 : World) (as' : List V) (σ : H) (v : V) (σ' : H) (h : extClone 75 3 as' σ = some (v, σ')) : DC Tryz.prog w0 210 as' σ (Same v σ') := by
  unfold extClone at h
  split at h
  · split at h
    · rename_i r hr
      cases hc : (r.all (fun q => Nat.beq q.length 3) && Nat.ble r.length 1000000) with
      | false => rw [hc] at h; cases h
      | true =>
        rw [hc] at h
        injection h with h
        injection h with h1 h2
        subst h1 h2
        simp only [Bool.and_eq_true, List.all_eq_true] at hc
        exact (clone_opR w0 r (fun q hq => Nat.eq_of_beq_eq_true (hc.1 q hq)) (Nat.le_of_ble_eq_true hc.2) σ).weakA (wk_rows hr)
    · cases h
  · cases h
theorem extClone_kd (w0 : World) (as' : List V) (σ : H) (v : V) (σ' : H) (h : extClone 164 2 as' σ = some (v, σ')) : DC Tryz.prog w0 209 as' σ (Same v σ') := by
  unfold extClone at h
  split at h
  · split at h
    · rename_i r hr
      cases hc : (r.all (fun q => Nat.beq q.length 2) && Nat.ble r.length 1000000) with
      | false => rw [hc] at h; cases h
      | true =>
        rw [hc] at h
        injection h with h
        injection h with h1 h2
        subst h1 h2
        simp only [Bool.and_eq_true, List.all_eq_true] at hc
        exact (clone_kdR w0 r (fun q hq => Nat.eq_of_beq_eq_true (hc.1 q hq)) (Nat.le_of_ble_eq_true hc.2) σ).weakA (wk_rows hr)
    · cases h
  · cases h
theorem extClone_nm (w0 : World) (as' : List V) (σ : H) (v : V) (σ' : H) (h : extClone 68 5 as' σ = some (v, σ')) : DC Tryz.prog w0 196 as' σ (Same v σ') := by
  unfold extClone at h
  split at h
  · split at h
    · rename_i r hr
      cases hc : (r.all (fun q => Nat.beq q.length 5) && Nat.ble r.length 1000000) with
      | false => rw [hc] at h; cases h
      | true =>
        rw [hc] at h
        injection h with h
        injection h with h1 h2
        subst h1 h2
        simp only [Bool.and_eq_true, List.all_eq_true] at hc
        exact (clone_nmR w0 r (fun q hq => Nat.eq_of_beq_eq_true (hc.1 q hq)) (Nat.le_of_ble_eq_true hc.2) σ).weakA (wk_rows hr)
    · cases h
  · cases h
theorem extClone_tm (w0 : World) (as' : List V) (σ : H) (v : V) (σ' : H) (h : extCloneT 30 as' σ = some (v, σ')) : DC Tryz.prog w0 174 as' σ (Same v σ') := by
  unfold extCloneT at h
  split at h
  · split at h
    · rename_i hr
      injection h with h
      injection h with h1 h2
      subst h1 h2
      exact (clone_tmN w0 [] rfl σ).weakA (wk_rows hr)
    · cases h
  · cases h
def extItoa : List V → H → Option (V × H)
  | [.c (.int .i64 n)], σ => cond (decide (-9223372036854775808 ≤ n) && decide (n ≤ 9223372036854775807)) (some (.c (.str (Lib.itoa n)), σ)) none
  | _, _ => none
theorem extItoa_ok {w0 : World} (hG : Glob w0) (as' : List V) (σ : H) (v : V) (σ' : H) (h : extItoa as' σ = some (v, σ')) : DC Tryz.prog w0 69 as' σ (Same v σ') := by
  unfold extItoa at h
  split at h
  · rename_i n
    cases hc : (decide (-9223372036854775808 ≤ n) && decide (n ≤ 9223372036854775807)) with
    | false => rw [hc] at h; cases h
    | true =>
      rw [hc] at h
      injection h with h
      injection h with h1 h2
      subst h1 h2
      simp only [Bool.and_eq_true, decide_eq_true_eq] at hc
      exact strconv_ItoaS hG n hc.1 hc.2 σ
  · cases h
def extShow : List V → H → Option (V × H)
  | [ops, p], σ => match ops.rows.bind unO, (cells1 p).bind (unP 100) with
    | some l, some q => cond (okPb 100 q && Nat.ble (showL l q).length 100000000) (some (.c (.str (showL l q)), σ)) none
    | _, _ => none
  | _, _ => none
theorem extLex_ok {w0 : World} (hG : Glob w0) (as' : List V) (σ : H) (v : V) (σ' : H) (h : extLex as' σ = some (v, σ')) : DC Tryz.prog w0 176 as' σ (Same v σ') := by
  unfold extLex at h
  split at h
  · rename_i s
    cases hc : Nat.ble s.length 100000 with
    | false => rw [hc] at h; cases h
    | true =>
      rw [hc] at h
      injection h with h
      injection h with h1 h2
      subst h1 h2
      exact lex_Lex hG s (by have := Nat.le_of_ble_eq_true hc; omega) σ
  · cases h
theorem wk_toC {x : V} {y : C} (h : x.toC = some y) : V.wk x (.c y) := by
  unfold V.toC at h
  split at h
  · injection h with h; subst h; exact .rfl _
  · injection h with h; subst h; exact .osl _ _
  · injection h with h; subst h; exact .csl _
  · cases h
theorem wk_toCs {l : List V} {r : List C} (h : toCs l = some r) : V.wk (.agg l) (.agg (r.map .c)) := by
  obtain ⟨h1, _, h3⟩ := toCs_some h
  exact .agg (by simp [h1]) fun j hj hj' => by
    rw [List.getElem_map]
    exact wk_toC (h3 j hj (by omega))
def extCopy : List V → H → Option (V × H)
  | [.ptr b 0], σ => match σ[b]? with
    | some (.cells [.c .nilp, y] (some tg)) => cond (Nat.beq tg 123) (some (.tup [], σ.set b (.cells [.ptr b 0, y] (some 123)))) none
    | some (.cells [.ptr c 0, y] (some tg)) => cond (Nat.beq tg 123 && Nat.beq c b) (some (.tup [], σ.set b (.cells [.ptr b 0, y] (some 123)))) none
    | _ => none
  | _, _ => none
theorem extCopy_ok (w0 : World) (as' : List V) (σ : H) (v : V) (σ' : H) (h : extCopy as' σ = some (v, σ')) : DC Tryz.prog w0 175 as' σ (Same v σ') := by
  unfold extCopy at h
  split at h
  · rename_i b
    split at h
    · rename_i y tg hb
      cases hc : Nat.beq tg 123 with
      | false => rw [hc] at h; cases h
      | true =>
        rw [hc] at h
        injection h with h
        injection h with h1 h2
        subst h1 h2
        have := Nat.eq_of_beq_eq_true hc
        subst this
        exact copyCheckB w0 σ _ (.c .nilp) y hb (.inl rfl)
    · rename_i c y tg hb
      cases hc : (Nat.beq tg 123 && Nat.beq c b) with
      | false => rw [hc] at h; cases h
      | true =>
        rw [hc] at h
        injection h with h
        injection h with h1 h2
        subst h1 h2
        simp only [Bool.and_eq_true] at hc
        have e1 := Nat.eq_of_beq_eq_true hc.1
        have e2 := Nat.eq_of_beq_eq_true hc.2
        subst e1 e2
        exact copyCheckB w0 σ _ (.ptr _ 0) y hb (.inr rfl)
    · cases h
  · cases h
theorem wk_pre {p : V} {cs : List C} {q : Pre} (h : cells1 p = some cs) (hq : cs = q.cs) : V.wk p q.v := by
  have e : q.v = .agg (cs.map .c) := by rw [hq, Pre.cs_eq]; rfl
  rw [e]
  unfold cells1 at h
  have hl := (toCs_some h).1
  rw [hq, Pre.cs_eq] at hl
  unfold V.cellsV at h hl
  split at h
  · exact wk_toCs h
  · exfalso
    simp at hl
theorem extShow_ok {w0 : World} (hG : Glob w0) (as' : List V) (σ : H) (v : V) (σ' : H) (h : extShow as' σ = some (v, σ')) : DC Tryz.prog w0 63 as' σ (Same v σ') := by
  unfold extShow at h
  split at h
  · rename_i ops p
    split at h
    · rename_i l q h1 h2
      obtain ⟨r, hr, hl⟩ := Option.bind_eq_some_iff.1 h1
      obtain ⟨cs, hcs, hq⟩ := Option.bind_eq_some_iff.1 h2
      cases hc : (okPb 100 q && Nat.ble (showL l q).length 100000000) with
      | false => rw [hc] at h; cases h
      | true =>
        rw [hc] at h
        injection h with h
        injection h with e1 e2
        subst e1 e2
        simp only [Bool.and_eq_true] at hc
        have hk := wk_pre hcs (unP_eq hq)
        have hr2 := wk_rows hr
        rw [unO_eq hl] at hr2
        refine (show_Text hG l q (okPb_ok _ _ hc.1) (Nat.le_of_ble_eq_true hc.2) σ).weakA (.agg rfl fun j hj hj' => ?_)
        rcases (by simp at hj; omega : j = 0 ∨ j = 1) with rfl | rfl
        · cases hr2 with
          | rfl => exact .rfl _
          | agg k1 k2 => exact k2 0 (by simp) (by simp)
        · exact hk
    · cases h
  · cases h
theorem wk_row1 {a : V} {r : List (List C)} (h : a.rows = some r) : V.wk a (.c (.sl r)) := by
  unfold V.rows at h
  split at h
  · injection h with h; subst h; exact .rfl _
  · injection h with h; subst h; exact .osl _ _
  · injection h with h; subst h; exact .csl _
  · cases h
theorem wk_typ {p : V} {cs : List C} {q : Typ} (h : cells1 p = some cs) (hq : cs = q.cs) : V.wk p q.v := by
  have e : q.v = .agg (cs.map .c) := by rw [hq, Typ.cs_eq]; rfl
  rw [e]
  unfold cells1 at h
  have hl := (toCs_some h).1
  rw [hq, Typ.cs_eq] at hl
  unfold V.cellsV at h hl
  split at h
  · exact wk_toCs h
  · exfalso
    simp at hl
theorem wk_two {a b c d : V} (h1 : V.wk a c) (h2 : V.wk b d) : V.wk (.agg [a, b]) (.agg [c, d]) :=
  .agg rfl fun j hj hj' => by
    rcases (by simp at hj; omega : j = 0 ∨ j = 1) with rfl | rfl
    · exact h1
    · exact h2
def extArrow : List V → H → Option (V × H)
  | [to, fs], σ => match (cells1 to).bind (unT 100), fs.rows.bind (unTs (unT 100)) with
    | some t, some l => cond (Nat.ble l.length 1000000) (some ((arrows l t).v, σ)) none
    | _, _ => none
  | _, _ => none
theorem extArrow_ok (w0 : World) (as' : List V) (σ : H) (v : V) (σ' : H) (h : extArrow as' σ = some (v, σ')) : DC Tryz.prog w0 185 as' σ (Same v σ') := by
  unfold extArrow at h
  split at h
  · rename_i to fs
    split at h
    · rename_i t l h1 h2
      obtain ⟨cs, hcs, ht⟩ := Option.bind_eq_some_iff.1 h1
      obtain ⟨r, hr, hl⟩ := Option.bind_eq_some_iff.1 h2
      cases hc : Nat.ble l.length 1000000 with
      | false => rw [hc] at h; cases h
      | true =>
        rw [hc] at h
        injection h with h
        injection h with e1 e2
        subst e1 e2
        have hr2 := wk_row1 hr
        rw [unTs_eq (fun r x => unT_eq) hl] at hr2
        exact (ty_Arrow w0 t l (Nat.le_of_ble_eq_true hc) σ).weakA (wk_two (wk_typ hcs (unT_eq ht)) hr2)
    · cases h
  · cases h
def openOk (z : Typ) (u : Typ) : Bool := nearM 2305843009213693952 z && (Nat.ble (nodesM z) 40000 && (Nat.ble (nodesM u * nodesM z) 40000 && (nearM 2305843009213693952 u && (nearM 2305843009213693952 (shiftM 0 0 u) && Nat.ble (nodesM u) 40000))))
def extOpen : List V → H → Option (V × H)
  | [t, .ptr b o], σ => match σ[b]? with
    | some (.cells cs _) => match cs[o]? with
      | some y => match (cells1 t).bind (unT 100), y.rows.bind (unTs (unT 100)) with
        | some z, some l => cond (Nat.ble l.length 1 && l.all (openOk z)) (some ((openI 0 l z).v, σ)) none
        | _, _ => none
      | none => none
    | _ => none
  | _, _ => none
theorem extOpen_ok (w0 : World) (as' : List V) (σ : H) (v : V) (σ' : H) (h : extOpen as' σ = some (v, σ')) : DC Tryz.prog w0 136 as' σ (Same v σ') := by
  unfold extOpen at h
  split at h
  · rename_i t b o
    split at h
    · rename_i cs tg hb
      split at h
      · rename_i y hy
        split at h
        · rename_i z l h1 h2
          obtain ⟨qs, hqs, hz⟩ := Option.bind_eq_some_iff.1 h1
          obtain ⟨r, hr, hl⟩ := Option.bind_eq_some_iff.1 h2
          cases hc : (Nat.ble l.length 1 && l.all (openOk z)) with
          | false => rw [hc] at h; cases h
          | true =>
            rw [hc] at h
            injection h with h
            injection h with e1 e2
            subst e1 e2
            simp only [Bool.and_eq_true, List.all_eq_true] at hc
            have hr2 := wk_row1 hr
            rw [unTs_eq (fun r x => unT_eq) hl] at hr2
            refine (clause_Open2 w0 z l (Nat.le_of_ble_eq_true hc.1) (fun u hu => ?_) σ b o cs tg hb y hy hr2).weakA (wk_two (wk_typ hqs (unT_eq hz)) (.rfl _))
            have := hc.2 u hu
            simp only [openOk, Bool.and_eq_true] at this
            exact ⟨this.1, Nat.le_of_ble_eq_true this.2.1, Nat.le_of_ble_eq_true this.2.2.1, this.2.2.2.1, this.2.2.2.2.1, Nat.le_of_ble_eq_true this.2.2.2.2.2⟩
        · cases h
      · cases h
    · cases h
  · cases h
def unB : List (List C) → Option (List UInt8)
  | [] => some []
  | r :: l => match r with
    | [.int .u8 n] => match n with
      | .ofNat k => cond (Nat.blt k 256) (match unB l with
        | none => none
        | some y => some (UInt8.ofNat k :: y)) none
      | _ => none
    | _ => none
theorem unB_eq : ∀ {l : List (List C)} {y : List UInt8}, unB l = some y → l = byteRows y
  | [], y, h => by injection h with h; subst h; rfl
  | r :: l, y, h => by
    unfold unB at h
    split at h
    · split at h
      · rename_i k
        cases hk : Nat.blt k 256 with
        | false => rw [hk] at h; cases h
        | true =>
          rw [hk] at h
          simp only [cond_true] at h
          split at h
          · cases h
          · rename_i z hz
            injection h with h
            subst h
            have hk' : k < 256 := Nat.le_of_ble_eq_true hk
            rw [unB_eq hz]
            simp only [byteRows, List.map_cons]
            rw [show (UInt8.ofNat k).toNat = k from by simp; omega]
            rfl
      · cases h
    · cases h
def extString : List V → H → Option (V × H)
  | [.ptr b 0], σ => match σ[b]? with
    | some (.cells [_, .osl v r] (some tg)) => match σ[v]?, unB r with
      | some (.spare e 1 n), some (x :: s) => cond (Nat.beq tg 123 && (Nat.beq e 5 && Nat.beq n (s.length + 1))) (some (.c (.str (x :: s)), σ.set v .gone)) none
      | _, _ => none
    | _ => none
  | _, _ => none
theorem extString_ok (w0 : World) (as' : List V) (σ : H) (v : V) (σ' : H) (h : extString as' σ = some (v, σ')) : DC Tryz.prog w0 87 as' σ (Same v σ') := by
  unfold extString at h
  split at h
  · rename_i b
    split at h
    · rename_i A v r tg hb
      split at h
      · rename_i e n x s hv hr
        cases hc : (Nat.beq tg 123 && (Nat.beq e 5 && Nat.beq n (s.length + 1))) with
        | false => rw [hc] at h; cases h
        | true =>
          rw [hc] at h
          injection h with h
          injection h with e1 e2
          subst e1 e2
          simp only [Bool.and_eq_true] at hc
          have q1 := Nat.eq_of_beq_eq_true hc.1
          have q2 := Nat.eq_of_beq_eq_true hc.2.1
          have q3 := Nat.eq_of_beq_eq_true hc.2.2
          subst q1 q2 q3
          rw [unB_eq hr] at hb
          exact builder_StringB w0 σ b v A (x :: s) (by simp) hb hv
      · cases h
    · cases h
  · cases h
end Go.Proofs.YtpcmcfajfnpjeaaGreatDoor
namespace Go.Proofs.YtpcmcfajfnpjeaaGreatDoor
open Go.RowKit Go.Lamb
def c142 : AC := .seq (.reg [.o 2 (.box (.k (.agg [.csl [], .csl [], .csl []]))), .o 3 (.mov (.k (.c (.int .i64 0)))), .o 4 (.mov (.k (.c (.int .i64 0))))]) (.seq (.reg [.k 10 231 [], .o 5 (.box (.k (.agg [.csl [], .csl [], .csl []]))), .s 3 5 10]) (.seq (.seq (.reg [.m 11 0, .o 12 (.lenr (.t 11)), .o 13 (.mov (.k (.c (.int .i64 0))))]) (.block 0 (.loop (.seq (.reg [.o 14 (.bin .lss (.t 13) (.t 12))]) (.seq (.cond (.t 14) (.skip) (.exit 0)) (.seq (.block 1 (.seq (.reg [.m 15 13, .o 16 (.iadd 16 (.t 11) (.t 13)), .d 17 16 16, .o 7 (.box (.k (.agg [.c (.int .i64 0), .csl [], .c (.int .i64 0), .c (.int .i64 0), .c (.str []), .c (.int .i64 0), .csl [], .c (.str []), .c (.int .i64 0), .c (.int .i64 0), .c (.int .i64 0), .c (.str []), .c (.int .i64 0), .csl [], .c (.int .i64 0), .c (.int .i64 0)]))), .m 6 15, .s 16 7 17]) (.seq (.reg [.d 19 3 5, .d 20 16 7, .k 21 36 [(.t 19), (.t 20)], .m 18 21, .x 22 18 0, .x 23 18 1, .o 8 (.box (.k (.agg [.csl [], .csl [], .csl []]))), .s 3 8 22, .m 9 23]) (.seq (.seq (.reg [.m 24 9, .o 25 (.bin .neq (.t 24) (.k (.c (.int .i64 0))))]) (.cond (.t 25) (.seq (.reg [.o 26 (.build [.csl [], .csl [], .csl []] []), .m 27 9, .m 28 6, .s 3 2 26, .m 3 27, .m 4 28]) (.ret)) (.skip))) (.reg [.d 29 3 8, .s 3 5 29]))))) (.reg [.o 30 (.bin .add (.t 13) (.k (.c (.int .i64 1)))), .m 13 30]))))))) (.seq (.reg [.d 31 3 5, .s 3 2 31, .o 3 (.mov (.k (.c (.int .i64 0)))), .o 4 (.mov (.k (.c (.int .i64 0))))]) (.ret))))
def r142 : List ResV := [.celln 3 2, .tmp 3, .tmp 4]
theorem k142 : CodeIs Tryz.prog 142 1 Tryz.f142 c142 r142 := .auto Tryz.func142
--absent /-- law11.SigAll -/
end Go.Proofs.YtpcmcfajfnpjeaaGreatDoor
namespace Go.Proofs.YtpcmcfajfnpjeaaGreatDoor
open Go.RowKit Go.Lamb
noncomputable def tab14 : CT := (.n 161 ⟨c161, r161, 2, 8⟩ (.n 75 ⟨c75, r75, 1, 8⟩ (.n 44 ⟨c44, r44, 2, 8⟩ (.n 23 ⟨c23, r23, 1, 8⟩ (.n 18 ⟨c18, r18, 3, 8⟩ (.n 14 ⟨c14, r14, 3, 8⟩ (.n 12 ⟨c12, r12, 0, 8⟩ .e .e) .e) (.n 21 ⟨c21, r21, 2, 8⟩ (.n 20 ⟨c20, r20, 2, 8⟩ .e .e) .e)) (.n 36 ⟨c36, r36, 2, 8⟩ (.n 26 ⟨c26, r26, 3, 8⟩ (.n 24 ⟨c24, r24, 1, 8⟩ .e .e) .e) (.n 42 ⟨c42, r42, 2, 8⟩ .e .e))) (.n 66 ⟨c66, r66, 2, 8⟩ (.n 57 ⟨c57, r57, 2, 8⟩ (.n 56 ⟨c56, r56, 1, 8⟩ (.n 54 ⟨c54, r54, 2, 8⟩ .e .e) .e) (.n 65 ⟨c65, r65, 3, 8⟩ (.n 58 ⟨c58, r58, 3, 8⟩ .e .e) .e)) (.n 70 ⟨c70, r70, 2, 8⟩ (.n 68 ⟨c68, r68, 4, 8⟩ (.n 67 ⟨c67, r67, 2, 8⟩ .e .e) .e) (.n 71 ⟨c71, r71, 2, 8⟩ .e .e)))) (.n 124 ⟨c124, r124, 1, 8⟩ (.n 86 ⟨c86, r86, 2, 8⟩ (.n 79 ⟨c79, r79, 3, 8⟩ (.n 78 ⟨c78, r78, 1, 8⟩ (.n 77 ⟨c77, r77, 2, 8⟩ .e .e) .e) (.n 85 ⟨c85, r85, 2, 8⟩ (.n 80 ⟨c80, r80, 3, 8⟩ .e .e) .e)) (.n 119 ⟨c119, r119, 2, 8⟩ (.n 118 ⟨c118, r118, 1, 8⟩ (.n 93 ⟨c93, r93, 1, 8⟩ .e .e) .e) (.n 120 ⟨c120, r120, 3, 8⟩ .e .e))) (.n 145 ⟨c145, r145, 1, 8⟩ (.n 142 ⟨c142, r142, 1, 8⟩ (.n 141 ⟨c141, r141, 1, 8⟩ (.n 135 ⟨c135, r135, 1, 8⟩ .e .e) .e) (.n 144 ⟨c144, r144, 2, 8⟩ (.n 143 ⟨c143, r143, 1, 8⟩ .e .e) .e)) (.n 159 ⟨c159, r159, 2, 8⟩ (.n 147 ⟨c147, r147, 2, 8⟩ (.n 146 ⟨c146, r146, 1, 8⟩ .e .e) .e) (.n 160 ⟨c160, r160, 2, 8⟩ .e .e))))) (.n 276 ⟨c276, r276, 2, 8⟩ (.n 211 ⟨c211, r211, 2, 8⟩ (.n 170 ⟨c170, r170, 1, 8⟩ (.n 165 ⟨c165, r165, 2, 8⟩ (.n 164 ⟨c164, r164, 1, 8⟩ (.n 163 ⟨c163, r163, 1, 8⟩ .e .e) .e) (.n 169 ⟨c169, r169, 2, 8⟩ (.n 166 ⟨c166, r166, 1, 8⟩ .e .e) .e)) (.n 181 ⟨c181, r181, 2, 8⟩ (.n 180 ⟨c180, r180, 1, 8⟩ (.n 178 ⟨c178, r178, 1, 8⟩ .e .e) .e) (.n 182 ⟨c182, r182, 1, 8⟩ .e .e))) (.n 230 ⟨c230, r230, 1, 8⟩ (.n 214 ⟨c214, r214, 1, 8⟩ (.n 213 ⟨c213, r213, 3, 8⟩ (.n 212 ⟨c212, r212, 2, 8⟩ .e .e) .e) (.n 229 ⟨c229, r229, 0, 8⟩ (.n 215 ⟨c215, r215, 1, 8⟩ .e .e) .e)) (.n 274 ⟨c274, r274, 2, 8⟩ (.n 254 ⟨c254, r254, 2, 8⟩ (.n 231 ⟨c231, r231, 0, 8⟩ .e .e) .e) (.n 275 ⟨c275, r275, 2, 8⟩ .e .e)))) (.n 337 ⟨c337, r337, 2, 8⟩ (.n 293 ⟨c293, r293, 1, 8⟩ (.n 288 ⟨c288, r288, 0, 8⟩ (.n 287 ⟨c287, r287, 3, 8⟩ (.n 286 ⟨c286, r286, 1, 8⟩ .e .e) .e) (.n 290 ⟨c290, r290, 1, 8⟩ (.n 289 ⟨c289, r289, 1, 8⟩ .e .e) .e)) (.n 296 ⟨c296, r296, 2, 8⟩ (.n 295 ⟨c295, r295, 1, 8⟩ (.n 294 ⟨c294, r294, 1, 8⟩ .e .e) .e) (.n 336 ⟨c336, r336, 1, 8⟩ .e .e))) (.n 393 ⟨c393, r393, 1, 8⟩ (.n 341 ⟨c341, r341, 3, 8⟩ (.n 340 ⟨c340, r340, 2, 8⟩ (.n 338 ⟨c338, r338, 3, 8⟩ .e .e) .e) (.n 376 ⟨c376, r376, 2, 8⟩ (.n 375 ⟨c375, r375, 2, 8⟩ .e .e) .e)) (.n 396 ⟨c396, r396, 3, 8⟩ (.n 395 ⟨c395, r395, 1, 8⟩ (.n 394 ⟨c394, r394, 2, 8⟩ .e .e) .e) (.n 397 ⟨c397, r397, 2, 8⟩ .e .e))))))
theorem tab14_ok : CT.Ok Tryz.prog tab14 := ⟨⟨_, k161⟩, ⟨⟨_, k75⟩, ⟨⟨_, k44⟩, ⟨⟨_, k23⟩, ⟨⟨_, k18⟩, ⟨⟨_, k14⟩, ⟨⟨_, k12⟩, trivial, trivial⟩, trivial⟩, ⟨⟨_, k21⟩, ⟨⟨_, k20⟩, trivial, trivial⟩, trivial⟩⟩, ⟨⟨_, k36⟩, ⟨⟨_, k26⟩, ⟨⟨_, k24⟩, trivial, trivial⟩, trivial⟩, ⟨⟨_, k42⟩, trivial, trivial⟩⟩⟩, ⟨⟨_, k66⟩, ⟨⟨_, k57⟩, ⟨⟨_, k56⟩, ⟨⟨_, k54⟩, trivial, trivial⟩, trivial⟩, ⟨⟨_, k65⟩, ⟨⟨_, k58⟩, trivial, trivial⟩, trivial⟩⟩, ⟨⟨_, k70⟩, ⟨⟨_, k68⟩, ⟨⟨_, k67⟩, trivial, trivial⟩, trivial⟩, ⟨⟨_, k71⟩, trivial, trivial⟩⟩⟩⟩, ⟨⟨_, k124⟩, ⟨⟨_, k86⟩, ⟨⟨_, k79⟩, ⟨⟨_, k78⟩, ⟨⟨_, k77⟩, trivial, trivial⟩, trivial⟩, ⟨⟨_, k85⟩, ⟨⟨_, k80⟩, trivial, trivial⟩, trivial⟩⟩, ⟨⟨_, k119⟩, ⟨⟨_, k118⟩, ⟨⟨_, k93⟩, trivial, trivial⟩, trivial⟩, ⟨⟨_, k120⟩, trivial, trivial⟩⟩⟩, ⟨⟨_, k145⟩, ⟨⟨_, k142⟩, ⟨⟨_, k141⟩, ⟨⟨_, k135⟩, trivial, trivial⟩, trivial⟩, ⟨⟨_, k144⟩, ⟨⟨_, k143⟩, trivial, trivial⟩, trivial⟩⟩, ⟨⟨_, k159⟩, ⟨⟨_, k147⟩, ⟨⟨_, k146⟩, trivial, trivial⟩, trivial⟩, ⟨⟨_, k160⟩, trivial, trivial⟩⟩⟩⟩⟩, ⟨⟨_, k276⟩, ⟨⟨_, k211⟩, ⟨⟨_, k170⟩, ⟨⟨_, k165⟩, ⟨⟨_, k164⟩, ⟨⟨_, k163⟩, trivial, trivial⟩, trivial⟩, ⟨⟨_, k169⟩, ⟨⟨_, k166⟩, trivial, trivial⟩, trivial⟩⟩, ⟨⟨_, k181⟩, ⟨⟨_, k180⟩, ⟨⟨_, k178⟩, trivial, trivial⟩, trivial⟩, ⟨⟨_, k182⟩, trivial, trivial⟩⟩⟩, ⟨⟨_, k230⟩, ⟨⟨_, k214⟩, ⟨⟨_, k213⟩, ⟨⟨_, k212⟩, trivial, trivial⟩, trivial⟩, ⟨⟨_, k229⟩, ⟨⟨_, k215⟩, trivial, trivial⟩, trivial⟩⟩, ⟨⟨_, k274⟩, ⟨⟨_, k254⟩, ⟨⟨_, k231⟩, trivial, trivial⟩, trivial⟩, ⟨⟨_, k275⟩, trivial, trivial⟩⟩⟩⟩, ⟨⟨_, k337⟩, ⟨⟨_, k293⟩, ⟨⟨_, k288⟩, ⟨⟨_, k287⟩, ⟨⟨_, k286⟩, trivial, trivial⟩, trivial⟩, ⟨⟨_, k290⟩, ⟨⟨_, k289⟩, trivial, trivial⟩, trivial⟩⟩, ⟨⟨_, k296⟩, ⟨⟨_, k295⟩, ⟨⟨_, k294⟩, trivial, trivial⟩, trivial⟩, ⟨⟨_, k336⟩, trivial, trivial⟩⟩⟩, ⟨⟨_, k393⟩, ⟨⟨_, k341⟩, ⟨⟨_, k340⟩, ⟨⟨_, k338⟩, trivial, trivial⟩, trivial⟩, ⟨⟨_, k376⟩, ⟨⟨_, k375⟩, trivial, trivial⟩, trivial⟩⟩, ⟨⟨_, k396⟩, ⟨⟨_, k395⟩, ⟨⟨_, k394⟩, trivial, trivial⟩, trivial⟩, ⟨⟨_, k397⟩, trivial, trivial⟩⟩⟩⟩⟩⟩
end Go.Proofs.YtpcmcfajfnpjeaaGreatDoor
namespace Go.Lamb
open Go Go.RowKit
def orX (g : FuncId) (e : List V → H → Option (V × H)) (r : Caller) : Caller := fun f as_ σ => cond (Nat.beq f g) (e as_ σ) (r f as_ σ)
def noX : Caller := fun _ _ _ => none
theorem noX_ok {P : Program} {w0 : World} : Caller.Ok P w0 noX := fun _ _ _ _ _ h => by cases h
theorem orX_ok {P : Program} {w0 : World} {g : FuncId} {e : List V → H → Option (V × H)} {r : Caller} (he : ∀ as_ σ v σ', e as_ σ = some (v, σ') → DC P w0 g as_ σ (Same v σ')) (hr : Caller.Ok P w0 r) : Caller.Ok P w0 (orX g e r) := by
  intro f as_ σ v σ' h
  unfold orX at h
  cases hb : Nat.beq f g with
  | true =>
    rw [hb] at h
    have := Nat.eq_of_beq_eq_true hb
    subst this
    exact he _ _ _ _ h
  | false =>
    rw [hb] at h
    exact hr _ _ _ _ _ h
end Go.Lamb
namespace Go.Proofs.YtpcmcfajfnpjeaaGreatDoor
open Go.RowKit Go.Lamb
noncomputable def ext14 : Caller :=
  orX 176 extLex (orX 185 extArrow (orX 63 extShow (orX 69 extItoa
  (orX 335 (extGrow 75 3) (orX 342 (extGrow 68 5) (orX 219 (extGrow 30 4)
  (orX 210 (extClone 75 3) (orX 209 (extClone 164 2) (orX 196 (extClone 68 5) (orX 174 (extCloneT 30)
  (orX 136 extOpen (orX 175 extCopy (orX 87 extString noX)))))))))))))
theorem ext14_ok {w0 : World} (hG : Glob w0) : Caller.Ok Tryz.prog w0 ext14 :=
  orX_ok (extLex_ok hG) (orX_ok (extArrow_ok w0) (orX_ok (extShow_ok hG) (orX_ok (extItoa_ok hG)
  (orX_ok (extGrow_op w0) (orX_ok (extGrow_nm w0) (orX_ok (extGrow_tm w0)
  (orX_ok (extClone_op w0) (orX_ok (extClone_kd w0) (orX_ok (extClone_nm w0) (orX_ok (extClone_tm w0)
  (orX_ok (extOpen_ok w0) (orX_ok (extCopy_ok w0) (orX_ok (extString_ok w0) noX_ok)))))))))))))
noncomputable def X14 : XP := ⟨Tryz.prog, ext14, tab14, fun _ => false, fun _ => false⟩
theorem X14_ok {w0 : World} (hG : Glob w0) : X14.Ok w0 := ⟨ext14_ok hG, tab14_ok⟩
theorem run14 : isTrue (runX X14 100000 12 [] []) = true := by kernel_rfl
end Go.Proofs.YtpcmcfajfnpjeaaGreatDoor
namespace Go.Lamb
open Go Go.RowKit
noncomputable def nmsOf (s : Sg) (vars : List Str) (N : Nat) : List Str := (List.range N).map (nameM s vars)
theorem nmsOf_succ (s : Sg) (vars : List Str) (N : Nat) : nmsOf s vars (N + 1) = nmsOf s vars N ++ [nameM s vars N] := by simp [nmsOf, List.range_succ]
theorem nmsOf_len (s : Sg) (vars : List Str) (N : Nat) : (nmsOf s vars N).length = N := by simp [nmsOf]
theorem nmsOf_get (s : Sg) (vars : List Str) {N i : Nat} (h : i < N) : (nmsOf s vars N)[i]? = some (nameM s vars i) := by simp [nmsOf, h]
noncomputable def cntOf (s : Sg) (vars : List Str) (N : Nat) : Nat := if N = 0 then 0 else numAt s vars (N - 1) + 1
def Tried (s : Sg) (vars : List Str) (N c : Nat) : Prop := cntN (tkX s vars) c = N
theorem tried_cnt (s : Sg) (vars : List Str) (N : Nat) : Tried s vars N (cntOf s vars N) := by
  unfold Tried cntOf
  split
  · rename_i h; subst h; rfl
  · rename_i h
    have := numAt_at s vars (N - 1)
    rw [cntN, if_neg (by rw [this.1]; simp), this.2]
    omega
theorem tried_le {s : Sg} {vars : List Str} {N c i : Nat} (h : Tried s vars N c) (hi : N ≤ i) : c ≤ numAt s vars i := by
  have h1 := numAt_at s vars i
  rcases Nat.lt_or_ge (numAt s vars i) c with hl | hl
  · have h2 := cntN_le (tkX s vars) (show numAt s vars i + 1 ≤ c from hl)
    rw [cntN, if_neg (by rw [h1.1]; simp), h1.2] at h2
    unfold Tried at h
    omega
  · exact hl
theorem tried_free {s : Sg} {vars : List Str} {N c : Nat} (h : Tried s vars N c) (hf : tkX s vars (c + 1) = false) : numAt s vars N = c ∧ Tried s vars (N + 1) (c + 1) ∧ cntOf s vars (N + 1) = c + 1 := by
  have h1 : numAt s vars N = c := nameAt_one (numAt_at s vars N) ⟨hf, h⟩
  refine ⟨h1, ?_, ?_⟩
  · unfold Tried at h ⊢
    rw [cntN, if_neg (by rw [hf]; simp), h]
  · unfold cntOf
    rw [if_neg (by omega), Nat.add_sub_cancel, h1]
theorem tried_taken {s : Sg} {vars : List Str} {N c : Nat} (h : Tried s vars N c) (hf : tkX s vars (c + 1) = true) : Tried s vars N (c + 1) := by
  unfold Tried at h ⊢
  rw [cntN, if_pos hf, h]; rfl
end Go.Lamb
namespace Go.Lamb
theorem nodesMs_len : ∀ (l : List Typ), l.length ≤ nodesMs l
  | [] => Nat.zero_le _
  | p :: l => by
    have := nodesMs_len l
    rw [nodesMs, nodesM_eq, List.length_cons]
    omega
end Go.Lamb
namespace Go.Proofs.YtpcmcfajfnpjeaaGreatDoor
open Go.RowKit Go.Lamb
attribute [local go_sem] advO_skip advO_reg advO_seq advO_block advO_exit advO_endb advO_opsNil advO_ops advG_yes advG_no advG_none advS_some advS_none advO_cond advO_loop advO_dreg advO_ret advO_bad advO_inv advO_nil advO_zero wantedV Lamb.step ev_t ev_k put_some put_none argEnv popTo cellsAt V.cellsV V.rows V.sub V.toC toCs fillV bytesC byteRows appV rowsV boundV boundL binV binInt binStr eqC eqL V.isNil leaves V.leaf Ins.quiet Ins.pure List.getD_cons_zero List.getD_cons_succ List.getD_nil List.all_cons List.all_nil List.length_cons List.length_nil List.take_succ_cons List.take_zero List.drop_succ_cons List.drop_zero List.cons_append List.nil_append List.append_nil List.append_assoc List.map_cons List.map_nil List.getElem?_cons_zero List.getElem?_cons_succ List.length_append List.length_set hget0 hget hset0 hset hsets hgs0 hgs hss0 hss List.set_cons_zero List.set_cons_succ List.forall_mem_cons List.not_mem_nil false_implies implies_true Option.map_some Bool.and_true Bool.true_and Bool.not_not Bool.not_true Bool.not_false Bool.and_self Bool.or_true Bool.true_or Bool.or_false Bool.false_or Bool.and_false Bool.false_and Bool.false_eq_true beq_self_eq_true and_self and_true true_and if_true if_false Nat.zero_add Nat.add_zero Nat.le_refl Int.toNat_natCast decide_true decide_false beq_t beq_f List.length_map List.getElem?_map I S B opsC toksC OpT.v OpT.cs OpT.zero Tok.v Tok.cs Pre.v Pre.cs_eq k_mk name_mk n_mk l_mk pos_mk Pre.app applyL natCast0 natCast1 natCast2 AOp.o AOp.m AOp.f AOp.l AOp.d AOp.n AOp.x AOp.s AOp.k AOp.y AOp.z EOp.q low_c low_void low_any low_csl low_nilf low_ptr low_osl low_agg low_tup low_fn resEval advPO_nil advPO_loud advPO_quiet pL_yes pL_no pLS_some pLS_none pQ_yes pQ_no pQS_some pQS_loud eq_self Nat.sub_zero
section
attribute [local go_sem] Sg.v findV foundV Typ.v OpT.v nmX

theorem names_taken (w0 : World) (s : Sg) (vars : List Str) (name : Str) (σ : H) (b : Nat) (h0 : σ[b]? = some (.cells s.v.cellsV)) (h1 : σ[b + 1]? = some (.cells [.c (.sl (strsR vars))])) :
    DC Tryz.prog w0 65 [S name, .ptr b 0, .ptr (b + 1) 0] σ (Same (B (takenX s vars name)) σ) := by
  refine k65.go rfl (fun hok hsz => ?_)
  have hT : takenX s vars name = ((findN s.types name).isSome || (findL s.ops name).isSome || vars.contains name) := rfl
  rw [hT]
  clear hT
  have h0' : σ[b]? = some (.cells [.c (kdsC s.kinds), .c (nmsC s.types), .c (opsC s.ops)]) := h0
  have g0 := hG h0'
  have g1 := hG h1
  cases hA : (findN s.types name).isSome <;> cases hB : (findL s.ops name).isSome
  all_goals
    ((try refine W.a ?_); simp only [go_sem, seval, reduceCtorEq, c65, g0, g1, h0', h1])
    (refine W.c1 (sig_Find w0 s name _) ?_; simp only [go_sem, seval, reduceCtorEq])
    ((try refine W.a ?_); simp only [go_sem, seval, reduceCtorEq, hA, g0, g1])
    (refine W.c1 (ops_Find w0 s.ops name _) ?_; simp only [go_sem, seval, reduceCtorEq])
    ((try refine W.a ?_); simp only [go_sem, seval, reduceCtorEq, hA, hB, g0, g1])
  · (refine W.c1 (str_contains w0 vars name _) ?_; simp only [go_sem, seval, reduceCtorEq])
    (refine W.fs (hok) (by simp only [r65, go_sem, seval, reduceCtorEq]; rfl) ?_; simp only [resV]; try exact V.wk.rfl _)
  all_goals
    (refine W.fs (hok) (by simp only [r65, go_sem, seval, reduceCtorEq]; rfl) ?_; simp only [resV]; try exact V.wk.rfl _)
noncomputable def nmB (s : Sg) (vars : List Str) (b N c : Nat) : H := [.cells s.v.cellsV, .cells [.c (.sl (strsR vars))], .cells [.osl (b + 5) (strsR (nmsOf s vars N))], .cells [I (c : Nat)], .cells [.fn 65 [.ptr b 0, .ptr (b + 1) 0]], .spare 9 1 N]
theorem pretty_Names (w0 : World) (s : Sg) (vars : List Str) (σ : H) : DC Tryz.prog w0 20 [s.v, .c (.sl (strsR vars))] σ (Same (.fn 68 [.ptr (σ.length + 2) 0, .ptr (σ.length + 3) 0, .ptr (σ.length + 4) 0]) (σ ++ nmB s vars σ.length 0 0)) := by
  refine k20.goN rfl (fun hok hsz => ?_)
  ((try refine W.a ?_); simp only [go_sem, seval, reduceCtorEq, c20])
  refine W.ownCell (σ.length + 2) 0 9 1 (cs := [.csl []]) (tg := none) ?_ rfl ?_
  · simp only [hget, List.getElem?_cons_succ, List.getElem?_cons_zero]
  · ((try refine W.a ?_); simp only [go_sem, seval, reduceCtorEq])
    refine W.ret ⟨_, _, rfl, .rfl _, rfl, ?_⟩
    simp only [nmB, nmsOf, List.range_zero, List.map_nil, strsR, go_sem]
end
section
attribute [local go_sem] Sg.v findV foundV Typ.v OpT.v

theorem names_takenL (w0 : World) (s : Sg) (vars : List Str) (name : Str) (σ L : H) :
    DC Tryz.prog w0 65 [S name, .ptr σ.length 0, .ptr (σ.length + 1) 0] (σ ++ (.cells [.c (kdsC s.kinds), .c (nmsC s.types), .c (.sl (s.ops.map OpT.cs))] :: .cells [.c (.sl (strsR vars))] :: L)) (Same (B (takenX s vars name)) (σ ++ (.cells [.c (kdsC s.kinds), .c (nmsC s.types), .c (.sl (s.ops.map OpT.cs))] :: .cells [.c (.sl (strsR vars))] :: L))) :=
  names_taken w0 s vars name _ _ (by rw [hget0]; rfl) (by rw [hget]; rfl)
theorem nm_len (s : Sg) (vars : List Str) (b N c : Nat) : (nmB s vars b N c).length = 6 := rfl
theorem nm_ok {s : Sg} {vars : List Str} {σ L : H} {N c : Nat} (h : H.ok (σ ++ (nmB s vars σ.length N c ++ L))) (N' c' : Nat) : H.ok (σ ++ (nmB s vars σ.length N' c' ++ L)) := by
  intro B hB cs tg hc x hx
  have hl : (σ ++ (nmB s vars σ.length N' c' ++ L)).length = (σ ++ (nmB s vars σ.length N c ++ L)).length := by simp [nm_len]
  have hl2 : σ.length + 6 ≤ (σ ++ (nmB s vars σ.length N' c' ++ L)).length := by simp [nm_len]
  rcases List.mem_append.1 hB with hB | hB
  · rw [hl]; exact h B (List.mem_append_left _ hB) cs tg hc x hx
  · rcases List.mem_append.1 hB with hB | hB
    · simp only [nmB, List.mem_cons, List.not_mem_nil, or_false] at hB
      rcases hB with rfl | rfl | rfl | rfl | rfl | rfl
      · injection hc with hc; subst hc
        simp only [Sg.v, V.cellsV, List.mem_cons, List.not_mem_nil, or_false] at hx
        rcases hx with rfl | rfl | rfl <;> exact .c _
      · injection hc with hc; subst hc
        simp only [List.mem_cons, List.not_mem_nil, or_false] at hx
        subst hx; exact .c _
      · injection hc with hc; subst hc
        simp only [List.mem_cons, List.not_mem_nil, or_false] at hx
        subst hx; exact .osl (by omega)
      · injection hc with hc; subst hc
        simp only [List.mem_cons, List.not_mem_nil, or_false] at hx
        subst hx; exact .c _
      · injection hc with hc; subst hc
        simp only [List.mem_cons, List.not_mem_nil, or_false] at hx
        subst hx
        refine .fn fun y hy => ?_
        simp only [List.mem_cons, List.not_mem_nil, or_false] at hy
        rcases hy with rfl | rfl <;> exact .ptr (by omega)
      · cases hc
    · rw [hl]; exact h B (List.mem_append_right _ (List.mem_append_right _ hB)) cs tg hc x hx
theorem names_at {w0 : World} (hG : Glob w0) (s : Sg) (vars : List Str) (hT : (takenT s vars).length ≤ 900000) (n : Nat) (hn : n ≤ 100000) (N : Nat) (hN : N ≤ 100001) (σ L : H) :
    DC Tryz.prog w0 68 [I (n : Int), .ptr (σ.length + 2) 0, .ptr (σ.length + 3) 0, .ptr (σ.length + 4) 0] (σ ++ (nmB s vars σ.length N (cntOf s vars N) ++ L))
      (Same (S (nameM s vars n)) (σ ++ (nmB s vars σ.length (max N (n + 1)) (cntOf s vars (max N (n + 1))) ++ L))) := by
  refine k68.go rfl (fun hok hsz => ?_)
  have h0 : ¬ ((n : Int) < 0) := by omega
  have h1 : ¬ ((n : Int) > 100000) := by omega
  have hnum := numAt_le s vars n
  ((try refine W.a ?_); simp only [go_sem, seval, reduceCtorEq, c68, nmB, h0, h1])
  refine W.no rfl ?_
  ((try refine W.a ?_); simp only [go_sem, seval, reduceCtorEq])
  refine W.loopP (α := Nat × Nat) (fun x => N ≤ x.1 ∧ x.1 ≤ max N (n + 1) ∧ Tried s vars x.1 x.2 ∧ (n < x.1 → x.2 = cntOf s vars x.1)) (fun x => ⟨((((base.put (some 0) (I (n : Int))).put (some 1) (.ptr (σ.length + 2) 0)).put (some 2) (.ptr (σ.length + 3) 0)).put (some 3) (.ptr (σ.length + 4) 0)), σ ++ (nmB s vars σ.length x.1 x.2 ++ L)⟩) (fun x => if x.1 ≤ n then numAt s vars n + 1 - x.2 else 0) (N, cntOf s vars N) ⟨Nat.le_refl _, by simp only; omega, tried_cnt s vars N, fun _ => rfl⟩ ?_ (fun x hx => ?_)
  · (refine Lew.env ?_; exact lee_here)
  · obtain ⟨N', c⟩ := x
    obtain ⟨hx1, hx2, hx3, hx4⟩ := hx
    simp only at hx1 hx2 hx3 hx4
    have hlen := nmsOf_len s vars N'
    by_cases hle : N' ≤ n
    · have hc := tried_le hx3 hle
      have h2 : ((N' : Nat) : Int) ≤ (n : Int) := by omega
      have hw : IntKind.i64.wrap ((c : Int) + 1) = ((c + 1 : Nat) : Int) := by rw [wrap_in] <;> omega
      have hit : Lib.itoa ((c + 1 : Nat) : Int) = Lib.decDigits (c + 1) := by rw [itoa_nat (by omega), Int.toNat_natCast]
      have hl : 1 + (Lib.decDigits (c + 1)).length ≤ 9223372036854775807 := by have := dec_len (u := c + 1) (by omega); omega
      have hb1 : (N' + 1) * 16 ≤ 140737488355328 := by omega
      have hb2 : N' + 1 ≤ 140737488355328 := by omega
      ((try refine W.a ?_); simp only [go_sem, seval, reduceCtorEq, nmB, hlen, strsR, h2])
      refine W.yes rfl ?_
      ((try refine W.a ?_); simp only [go_sem, seval, reduceCtorEq, hw])
      (refine W.c1 (strconv_ItoaS hG ((c + 1 : Nat) : Int) (by omega) (by omega) _) ?_; simp only [go_sem, seval, reduceCtorEq, hit, hl])
      (refine W.c1 (names_takenL w0 s vars (120 :: Lib.decDigits (c + 1)) σ _) ?_; simp only [go_sem, seval, reduceCtorEq])
      cases ht : takenX s vars (120 :: Lib.decDigits (c + 1))
      · have hfr := tried_free hx3 (show tkX s vars (c + 1) = false from ht)
        have hE : List.map (fun s => [C.str s]) (nmsOf s vars (N' + 1)) = List.map (fun s => [C.str s]) (nmsOf s vars N') ++ [[C.str (120 :: Lib.decDigits (c + 1))]] := by
          rw [nmsOf_succ]
          simp [nameM, hfr.1, nmX]
        ((try refine W.a ?_); simp only [go_sem, seval, reduceCtorEq])
        refine W.yes rfl ?_
        ((try refine W.a ?_); simp only [go_sem, seval, reduceCtorEq, hb1, hb2, hlen])
        refine .inv ⟨(N' + 1, c + 1), ⟨by simp only; omega, by simp only; omega, hfr.2.1, fun _ => hfr.2.2.symm⟩, ?_, ?_⟩
        · show (if N' + 1 ≤ n then _ else _) < (if N' ≤ n then _ else _)
          rw [if_pos hle]
          split <;> omega
        · simp only [nmB, strsR, hE]
          (refine Lew.env ?_; exact lee_here)
      · ((try refine W.a ?_); simp only [go_sem, seval, reduceCtorEq])
        refine W.no rfl ?_
        ((try refine W.a ?_); simp only [go_sem, seval, reduceCtorEq])
        refine .inv ⟨(N', c + 1), ⟨hx1, hx2, tried_taken hx3 ht, fun h => by simp only at h; omega⟩, ?_, ?_⟩
        · show (if N' ≤ n then _ else _) < (if N' ≤ n then _ else _)
          rw [if_pos hle, if_pos hle]
          omega
        · simp only [nmB, strsR]
          (refine Lew.env ?_; exact lee_here)
    · have h2 : ¬ ((N' : Nat) : Int) ≤ (n : Int) := by omega
      have hmx : max N (n + 1) = N' := by omega
      have hgx := nmsOf_get s vars (N := N') (i := n) (by omega)
      have h3 : (0 : Int) ≤ (n : Int) := by omega
      have h4 : (n : Int) < ((N' : Nat) : Int) := by omega
      ((try refine W.a ?_); simp only [go_sem, seval, reduceCtorEq, nmB, hlen, strsR, h2])
      refine W.no rfl ?_
      ((try refine W.a ?_); simp only [go_sem, seval, reduceCtorEq, hlen, h3, h4, hgx])
      rw [hmx, ← hx4 (by omega)]
      (refine W.fg (nm_ok hok N' c) (d := S (nameM s vars n)) (by simp only [r68, go_sem, seval, reduceCtorEq]; rfl) (by simp only [resV, go_sem, seval, reduceCtorEq]; exact wk_here) ?_ (hn := by simp [nm_len]; omega))
      exact ⟨rfl, rfl⟩
end
section
attribute [local go_sem] Typ.v Typ.cs_eq Pre.v Pre.cs_eq Pre.app tk_mk tname_mk tn_mk tl_mk

structure NmR (w0 : World) (s : Sg) (vars : List Str) (F : V) (τ : Nat → H) (M : Nat) : Prop where
  len : ∀ N, (τ N).length = M
  ok : ∀ N N' X, H.ok (τ N ++ X) → H.ok (τ N' ++ X)
  low : V.low M F
  leaf : F.leaf = true
  call : ∃ f caps, F = .fn f caps ∧ ∀ X j N, j ≤ 100000 → N ≤ 100001 → DC Tryz.prog w0 f (I (j : Nat) :: caps) (τ N ++ X) (Same (S (nameM s vars j)) (τ (max N (j + 1)) ++ X))
theorem NmR.more {w0 : World} {s : Sg} {vars : List Str} {F : V} {τ : Nat → H} {M : Nat} (h : NmR w0 s vars F τ M) (Y : H) : NmR w0 s vars F (fun N => τ N ++ Y) (M + Y.length) := by
  obtain ⟨f, caps, hF, hc⟩ := h.call
  refine ⟨fun N => by simp [h.len], fun N N' X hk => ?_, V.low_mono (Nat.le_add_right _ _) h.low, h.leaf, f, caps, hF, fun X j N hj hN => ?_⟩
  · simp only [List.append_assoc] at hk ⊢
    exact h.ok N N' _ hk
  · simp only [List.append_assoc]
    exact hc (Y ++ X) j N hj hN
theorem nm_R {w0 : World} (hG : Glob w0) (s : Sg) (vars : List Str) (hT : (takenT s vars).length ≤ 900000) (σ L : H) : NmR w0 s vars (.fn 68 [.ptr (σ.length + 2) 0, .ptr (σ.length + 3) 0, .ptr (σ.length + 4) 0]) (fun N => σ ++ (nmB s vars σ.length N (cntOf s vars N) ++ L)) (σ.length + 6 + L.length) := by
  refine ⟨fun N => by simp [nm_len]; omega, fun N N' X h => ?_, ?_, rfl, _, _, rfl, fun X j N hj hN => ?_⟩
  · rw [List.append_assoc, List.append_assoc] at h ⊢
    exact nm_ok h _ _
  · refine .fn fun y hy => ?_
    simp only [List.mem_cons, List.not_mem_nil, or_false] at hy
    rcases hy with rfl | rfl | rfl <;> exact .ptr (by omega)
  · have := names_at hG s vars hT j hj N hN σ (L ++ X)
    simpa only [List.append_assoc] using this
def wrV (vars : List Str) (F : V) : V := .agg [I 0, .c (.sl (strsR vars)), F]
theorem writer_variable {w0 : World} (hG : Glob w0) (vars : List Str) (f : FuncId) (caps : List V) (N : Nat) (hN : N ≤ 4611686018427387904) (σ : H) :
    DC Tryz.prog w0 147 [wrV vars (.fn f caps), I (N : Int)] σ (Same (Pre.mk 1 (if N < vars.length then vars.getD N [] else 95 :: Lib.decDigits N) 0 [] 0).v σ) := by
  refine k147.go rfl (fun hok hsz => ?_)
  have hit : Lib.itoa (N : Int) = Lib.decDigits N := by rw [itoa_nat (by omega), Int.toNat_natCast]
  have hl := dec_fits hN 1 (by decide)
  have hw : IntKind.i64.wrap ((N : Int) - 0) = (N : Int) := by rw [wrap_in] <;> omega
  have h0 : (0 : Int) ≤ (N : Int) := by omega
  by_cases hv : N < vars.length
  · have h1 : (N : Int) < (vars.length : Int) := by omega
    have hx : vars[N]? = some vars[N] := List.getElem?_eq_getElem hv
    have hg : vars.getD N [] = vars[N] := by rw [List.getD_eq_getElem?_getD, hx]; rfl
    rw [if_pos hv, hg]
    ((try refine W.a ?_); simp only [go_sem, seval, reduceCtorEq, c147, wrV, strsR])
    (refine W.c1 (strconv_ItoaS hG (N : Int) (by omega) (by omega) _) ?_; simp only [go_sem, seval, reduceCtorEq, hit, hl])
    ((try refine W.a ?_); simp only [go_sem, seval, reduceCtorEq, hw, h0, h1, strsR])
    refine W.yes rfl ?_
    ((try refine W.a ?_); simp only [go_sem, seval, reduceCtorEq, h0, h1, hx, strsR])
    (refine W.fs (hok) (by simp only [r147, go_sem, seval, reduceCtorEq]; rfl) ?_; simp only [resV]; try exact V.wk.rfl _)
    (all_goals exact wk_here)
  · have h1 : ¬ (N : Int) < (vars.length : Int) := by omega
    rw [if_neg hv]
    ((try refine W.a ?_); simp only [go_sem, seval, reduceCtorEq, c147, wrV, strsR])
    (refine W.c1 (strconv_ItoaS hG (N : Int) (by omega) (by omega) _) ?_; simp only [go_sem, seval, reduceCtorEq, hit, hl])
    ((try refine W.a ?_); simp only [go_sem, seval, reduceCtorEq, hw, h0, h1, strsR])
    refine W.no rfl ?_
    ((try refine W.a ?_); simp only [go_sem, seval, reduceCtorEq])
    (refine W.fs (hok) (by simp only [r147, go_sem, seval, reduceCtorEq]; rfl) ?_; simp only [resV]; try exact V.wk.rfl _)
    (all_goals exact wk_here)
def TreeOK (w0 : World) (s : Sg) (vars : List Str) (F : V) (t : Typ) (k : Nat) : Prop := ∀ (τ : Nat → H) (M : Nat), NmR w0 s vars F τ M → ∀ N, k ≤ N → N ≤ 1001 →
  DC Tryz.prog w0 58 [wrV vars F, t.v, I (k : Int)] (τ N) (fun d σ' => d = (treeM s vars k t).v ∧ ∃ N', N ≤ N' ∧ N' ≤ 1001 ∧ σ' = τ N')
theorem TreeOK.leaf {w0 : World} {s : Sg} {vars : List Str} {F : V} {t : Typ} {k : Nat} (h : ∀ f caps, F = .fn f caps → ∀ σ, DC Tryz.prog w0 58 [wrV vars F, t.v, I (k : Int)] σ (Same (treeM s vars k t).v σ)) : TreeOK w0 s vars F t k := fun τ M hR N hk hN => by
  obtain ⟨f, caps, hF, hc⟩ := hR.call
  exact (h f caps hF (τ N)).mono fun d σ' ⟨h1, h2⟩ => ⟨h1, N, Nat.le_refl _, hN, h2⟩
section
variable {w0 : World} {s : Sg} {vars : List Str} {F : V}
theorem wtree_const (t : Typ) (k : Nat) (h : (t.k == 0) = true) : TreeOK w0 s vars F t k := .leaf fun f caps hF σ => by
  subst hF
  have hE : treeM s vars k t = .mk 0 t.name 0 [] 0 := by
    have h : t.k = 0 := by simpa using h
    rw [treeM_eq, if_neg (by omega), if_neg (by omega), leafP, if_neg (by omega), if_neg (by omega), if_neg (by omega), if_neg (by omega)]
  rw [hE]
  clear hE
  have k1 := pkind_no h 1 (by decide)
  have k2 := pkind_no h 2 (by decide)
  have k3 := pkind_no h 3 (by decide)
  have k4 := pkind_no h 4 (by decide)
  have k5 := pkind_no h 5 (by decide)
  have k6 := pkind_no h 6 (by decide)
  refine k58.go rfl (fun hok hsz => ?_)
  (((try refine W.a ?_); (try simp only [bne, go_sem, seval, reduceCtorEq, c58, wrV, h, k1, k2, k3, k4, k5, k6, *])); (repeat' (first | (refine W.yes rfl ?_; (refine W.a ?_; simp only [bne, go_sem, seval, reduceCtorEq, c58, wrV, h, k1, k2, k3, k4, k5, k6, *])) | (refine W.no rfl ?_; (refine W.a ?_; simp only [bne, go_sem, seval, reduceCtorEq, c58, wrV, h, k1, k2, k3, k4, k5, k6, *])) | (refine W.c1 (pretty_word w0 t.name _) ?_; simp only [bne, go_sem, seval, reduceCtorEq, c58, wrV, h, k1, k2, k3, k4, k5, k6, *]) | (refine W.testn rfl (fun hT => ?_) (fun hT => ?_) <;> (refine W.a ?_; simp only [bne, go_sem, seval, reduceCtorEq, c58, wrV, h, k1, k2, k3, k4, k5, k6, *])) | (refine W.test rfl (fun hT => ?_) (fun hT => ?_) <;> (refine W.a ?_; simp only [bne, go_sem, seval, reduceCtorEq, c58, wrV, h, k1, k2, k3, k4, k5, k6, *])) | (refine advG_ifn _ _ _ _ (fun hT => ?_) (fun hT => ?_) <;> simp only [bne, go_sem, seval, reduceCtorEq, c58, wrV, h, k1, k2, k3, k4, k5, k6, *]) | (refine advG_if _ _ _ _ (fun hT => ?_) (fun hT => ?_) <;> simp only [bne, go_sem, seval, reduceCtorEq, c58, wrV, h, k1, k2, k3, k4, k5, k6, *]))))
  all_goals (refine W.fs (hok) (by simp only [r58, go_sem, seval, reduceCtorEq]; rfl) ?_; simp only [resV]; try exact V.wk.rfl _)
  all_goals (all_goals exact wk_here)
theorem wtree_int (t : Typ) (k : Nat) (h : (t.k == 2) = true) : TreeOK w0 s vars F t k := .leaf fun f caps hF σ => by
  subst hF
  have hE : treeM s vars k t = numP t.n := leaf_int h
  rw [hE]
  clear hE
  refine k58.go rfl (fun hok hsz => ?_)
  (((try refine W.a ?_); (try simp only [bne, go_sem, seval, reduceCtorEq, c58, wrV, h, *])); (repeat' (first | (refine W.yes rfl ?_; (refine W.a ?_; simp only [bne, go_sem, seval, reduceCtorEq, c58, wrV, h, *])) | (refine W.no rfl ?_; (refine W.a ?_; simp only [bne, go_sem, seval, reduceCtorEq, c58, wrV, h, *])) | (refine W.c1 (pretty_number w0 t.n _) ?_; simp only [bne, go_sem, seval, reduceCtorEq, c58, wrV, h, *]) | (refine W.testn rfl (fun hT => ?_) (fun hT => ?_) <;> (refine W.a ?_; simp only [bne, go_sem, seval, reduceCtorEq, c58, wrV, h, *])) | (refine W.test rfl (fun hT => ?_) (fun hT => ?_) <;> (refine W.a ?_; simp only [bne, go_sem, seval, reduceCtorEq, c58, wrV, h, *])) | (refine advG_ifn _ _ _ _ (fun hT => ?_) (fun hT => ?_) <;> simp only [bne, go_sem, seval, reduceCtorEq, c58, wrV, h, *]) | (refine advG_if _ _ _ _ (fun hT => ?_) (fun hT => ?_) <;> simp only [bne, go_sem, seval, reduceCtorEq, c58, wrV, h, *]))))
  all_goals (refine W.fs (hok) (by simp only [r58, go_sem, seval, reduceCtorEq]; rfl) ?_; simp only [resV]; try exact V.wk.rfl _)
  all_goals (all_goals exact wk_here)
theorem wtree_eigen (hG : Glob w0) (t : Typ) (k : Nat) (h : (t.k == 1) = true) (N : Nat) (e : t.n = (N : Int)) (hN : N ≤ 4611686018427387904) : TreeOK w0 s vars F t k := .leaf fun f caps hF σ => by
  subst hF
  have hE : treeM s vars k t = .mk 0 (99 :: 39 :: Lib.decDigits N) 0 [] 0 := by
    have h : t.k = 1 := by simpa using h
    rw [treeM_eq, if_neg (by omega), if_neg (by omega), leafP, if_neg (by omega), if_neg (by omega), if_pos h, e, Int.toNat_natCast]
  rw [hE]
  clear hE
  have k2 := pkind_no h 2 (by decide)
  have k4 := pkind_no h 4 (by decide)
  have hl := dec_fits hN 2 (by decide)
  have hit : Lib.itoa (N : Int) = Lib.decDigits N := by rw [itoa_nat (by omega), Int.toNat_natCast]
  refine k58.go rfl (fun hok hsz => ?_)
  (((try refine W.a ?_); (try simp only [bne, go_sem, seval, reduceCtorEq, c58, wrV, h, k2, k4, e, hl, hit, *])); (repeat' (first | (refine W.yes rfl ?_; (refine W.a ?_; simp only [bne, go_sem, seval, reduceCtorEq, c58, wrV, h, k2, k4, e, hl, hit, *])) | (refine W.no rfl ?_; (refine W.a ?_; simp only [bne, go_sem, seval, reduceCtorEq, c58, wrV, h, k2, k4, e, hl, hit, *])) | (refine W.c1 (strconv_ItoaS hG (N : Int) (by omega) (by omega) _) ?_; simp only [bne, go_sem, seval, reduceCtorEq, c58, wrV, h, k2, k4, e, hl, hit, *]) | (refine W.c1 (pretty_word w0 (99 :: 39 :: Lib.decDigits N) _) ?_; simp only [bne, go_sem, seval, reduceCtorEq, c58, wrV, h, k2, k4, e, hl, hit, *]) | (refine W.testn rfl (fun hT => ?_) (fun hT => ?_) <;> (refine W.a ?_; simp only [bne, go_sem, seval, reduceCtorEq, c58, wrV, h, k2, k4, e, hl, hit, *])) | (refine W.test rfl (fun hT => ?_) (fun hT => ?_) <;> (refine W.a ?_; simp only [bne, go_sem, seval, reduceCtorEq, c58, wrV, h, k2, k4, e, hl, hit, *])) | (refine advG_ifn _ _ _ _ (fun hT => ?_) (fun hT => ?_) <;> simp only [bne, go_sem, seval, reduceCtorEq, c58, wrV, h, k2, k4, e, hl, hit, *]) | (refine advG_if _ _ _ _ (fun hT => ?_) (fun hT => ?_) <;> simp only [bne, go_sem, seval, reduceCtorEq, c58, wrV, h, k2, k4, e, hl, hit, *]))))
  all_goals (refine W.fs (hok) (by simp only [r58, go_sem, seval, reduceCtorEq]; rfl) ?_; simp only [resV]; try exact V.wk.rfl _)
  all_goals (all_goals exact wk_here)
theorem wtree_var (hG : Glob w0) (t : Typ) (k : Nat) (h : (t.k == 4) = true) (N : Nat) (e : t.n = (N : Int)) (hN : N ≤ 4611686018427387904) : TreeOK w0 s vars F t k := .leaf fun f caps hF σ => by
  subst hF
  have hE : treeM s vars k t = Pre.mk 1 (if N < vars.length then vars.getD N [] else 95 :: Lib.decDigits N) 0 [] 0 := by
    have h : t.k = 4 := by simpa using h
    rw [treeM_eq, if_neg (by omega), if_neg (by omega), leafP, if_neg (by omega), if_pos h, e, Int.toNat_natCast]
    simp only [Int.ofNat_lt]
    split <;> rfl
  rw [hE]
  clear hE
  have k2 := pkind_no h 2 (by decide)
  refine k58.go rfl (fun hok hsz => ?_)
  (((try refine W.a ?_); (try simp only [bne, go_sem, seval, reduceCtorEq, c58, wrV, h, k2, e, *])); (repeat' (first | (refine W.yes rfl ?_; (refine W.a ?_; simp only [bne, go_sem, seval, reduceCtorEq, c58, wrV, h, k2, e, *])) | (refine W.no rfl ?_; (refine W.a ?_; simp only [bne, go_sem, seval, reduceCtorEq, c58, wrV, h, k2, e, *])) | (refine W.c1 (writer_variable hG vars f caps N hN _) ?_; simp only [bne, go_sem, seval, reduceCtorEq, c58, wrV, h, k2, e, *]) | (refine W.testn rfl (fun hT => ?_) (fun hT => ?_) <;> (refine W.a ?_; simp only [bne, go_sem, seval, reduceCtorEq, c58, wrV, h, k2, e, *])) | (refine W.test rfl (fun hT => ?_) (fun hT => ?_) <;> (refine W.a ?_; simp only [bne, go_sem, seval, reduceCtorEq, c58, wrV, h, k2, e, *])) | (refine advG_ifn _ _ _ _ (fun hT => ?_) (fun hT => ?_) <;> simp only [bne, go_sem, seval, reduceCtorEq, c58, wrV, h, k2, e, *]) | (refine advG_if _ _ _ _ (fun hT => ?_) (fun hT => ?_) <;> simp only [bne, go_sem, seval, reduceCtorEq, c58, wrV, h, k2, e, *]))))
  all_goals (refine W.fs (hok) (by simp only [r58, go_sem, seval, reduceCtorEq]; rfl) ?_; simp only [resV]; try exact V.wk.rfl _)
  all_goals (all_goals exact wk_here)
theorem wtree_far (hG : Glob w0) (t : Typ) (k : Nat) (h : (t.k == 3) = true) (N : Nat) (e : t.n = (N : Int)) (hN : N ≤ 4611686018427387904) (hk : k ≤ N) : TreeOK w0 s vars F t k := .leaf fun f caps hF σ => by
  subst hF
  have hE : treeM s vars k t = .mk 0 (98 :: 39 :: Lib.decDigits (N - k)) 0 [] 0 := by
    have h : t.k = 3 := by simpa using h
    rw [treeM_eq, if_neg (by omega), if_neg (by omega), leafP, if_neg (by omega), if_neg (by omega), if_neg (by omega), if_pos h, e, Int.toNat_natCast]
    simp only [Int.ofNat_lt]
    rw [if_neg (by omega)]
  rw [hE]
  clear hE
  have k1 := pkind_no h 1 (by decide)
  have k2 := pkind_no h 2 (by decide)
  have k4 := pkind_no h 4 (by decide)
  have h1 : (N : Int) ≥ (k : Int) := by omega
  have hw : IntKind.i64.wrap ((N : Int) - (k : Int)) = ((N - k : Nat) : Int) := by rw [wrap_in] <;> omega
  have hl := dec_fits (N := N - k) (by omega) 2 (by decide)
  have hit : Lib.itoa ((N - k : Nat) : Int) = Lib.decDigits (N - k) := by rw [itoa_nat (by omega), Int.toNat_natCast]
  refine k58.go rfl (fun hok hsz => ?_)
  (((try refine W.a ?_); (try simp only [bne, go_sem, seval, reduceCtorEq, c58, wrV, h, k1, k2, k4, e, hl, hit, h1, hw, *])); (repeat' (first | (refine W.yes rfl ?_; (refine W.a ?_; simp only [bne, go_sem, seval, reduceCtorEq, c58, wrV, h, k1, k2, k4, e, hl, hit, h1, hw, *])) | (refine W.no rfl ?_; (refine W.a ?_; simp only [bne, go_sem, seval, reduceCtorEq, c58, wrV, h, k1, k2, k4, e, hl, hit, h1, hw, *])) | (refine W.c1 (strconv_ItoaS hG ((N - k : Nat) : Int) (by omega) (by omega) _) ?_; simp only [bne, go_sem, seval, reduceCtorEq, c58, wrV, h, k1, k2, k4, e, hl, hit, h1, hw, *]) | (refine W.c1 (pretty_word w0 (98 :: 39 :: Lib.decDigits (N - k)) _) ?_; simp only [bne, go_sem, seval, reduceCtorEq, c58, wrV, h, k1, k2, k4, e, hl, hit, h1, hw, *]) | (refine W.testn rfl (fun hT => ?_) (fun hT => ?_) <;> (refine W.a ?_; simp only [bne, go_sem, seval, reduceCtorEq, c58, wrV, h, k1, k2, k4, e, hl, hit, h1, hw, *])) | (refine W.test rfl (fun hT => ?_) (fun hT => ?_) <;> (refine W.a ?_; simp only [bne, go_sem, seval, reduceCtorEq, c58, wrV, h, k1, k2, k4, e, hl, hit, h1, hw, *])) | (refine advG_ifn _ _ _ _ (fun hT => ?_) (fun hT => ?_) <;> simp only [bne, go_sem, seval, reduceCtorEq, c58, wrV, h, k1, k2, k4, e, hl, hit, h1, hw, *]) | (refine advG_if _ _ _ _ (fun hT => ?_) (fun hT => ?_) <;> simp only [bne, go_sem, seval, reduceCtorEq, c58, wrV, h, k1, k2, k4, e, hl, hit, h1, hw, *]))))
  all_goals (refine W.fs (hok) (by simp only [r58, go_sem, seval, reduceCtorEq]; rfl) ?_; simp only [resV]; try exact V.wk.rfl _)
  all_goals (all_goals exact wk_here)
theorem wtree_bound (t : Typ) (k : Nat) (h : (t.k == 3) = true) (n : Nat) (e : t.n = (n : Int)) (hn : n < k) (hk1 : k ≤ 1000) : TreeOK w0 s vars F t k := fun τ M hR N hk hN => by
  obtain ⟨f, caps, rfl, hc⟩ := hR.call
  have hE : treeM s vars k t = .mk 0 (nameM s vars (k - 1 - n)) 0 [] 0 := by
    have h : t.k = 3 := by simpa using h
    rw [treeM_eq, if_neg (by omega), if_neg (by omega), leafP, if_neg (by omega), if_neg (by omega), if_neg (by omega), if_pos h, e, Int.toNat_natCast]
    simp only [Int.ofNat_lt]
    rw [if_pos hn]
  rw [hE]
  clear hE
  have k1 := pkind_no h 1 (by decide)
  have k2 := pkind_no h 2 (by decide)
  have k4 := pkind_no h 4 (by decide)
  have h1 : ¬ (n : Int) ≥ (k : Int) := by omega
  have hw1 : IntKind.i64.wrap ((k : Int) - 1) = ((k - 1 : Nat) : Int) := by rw [wrap_in] <;> omega
  have hw2 : IntKind.i64.wrap (((k - 1 : Nat) : Int) - (n : Int)) = ((k - 1 - n : Nat) : Int) := by rw [wrap_in] <;> omega
  have hmx : max N (k - 1 - n + 1) = N := by omega
  have hC := fun X => hc X (k - 1 - n) N (by omega) (by omega)
  simp only [hmx] at hC
  have key : ∀ σ, (∀ X, DC Tryz.prog w0 f (I ((k - 1 - n : Nat) : Int) :: caps) (σ ++ X) (Same (S (nameM s vars (k - 1 - n))) (σ ++ X))) → DC Tryz.prog w0 58 [wrV vars (.fn f caps), t.v, I (k : Int)] σ (Same (Pre.mk 0 (nameM s vars (k - 1 - n)) 0 [] 0).v σ) := by
    intro σ hC
    refine k58.go rfl (fun hok hsz => ?_)
    (((try refine W.a ?_); (try simp only [bne, go_sem, seval, reduceCtorEq, c58, wrV, h, k1, k2, k4, e, h1, hw1, hw2, *])); (repeat' (first | (refine W.yes rfl ?_; (refine W.a ?_; simp only [bne, go_sem, seval, reduceCtorEq, c58, wrV, h, k1, k2, k4, e, h1, hw1, hw2, *])) | (refine W.no rfl ?_; (refine W.a ?_; simp only [bne, go_sem, seval, reduceCtorEq, c58, wrV, h, k1, k2, k4, e, h1, hw1, hw2, *])) | (refine W.c1 (hC _) ?_; simp only [bne, go_sem, seval, reduceCtorEq, c58, wrV, h, k1, k2, k4, e, h1, hw1, hw2, *]) | (refine W.c1 (pretty_word w0 (nameM s vars (k - 1 - n)) _) ?_; simp only [bne, go_sem, seval, reduceCtorEq, c58, wrV, h, k1, k2, k4, e, h1, hw1, hw2, *]) | (refine W.testn rfl (fun hT => ?_) (fun hT => ?_) <;> (refine W.a ?_; simp only [bne, go_sem, seval, reduceCtorEq, c58, wrV, h, k1, k2, k4, e, h1, hw1, hw2, *])) | (refine W.test rfl (fun hT => ?_) (fun hT => ?_) <;> (refine W.a ?_; simp only [bne, go_sem, seval, reduceCtorEq, c58, wrV, h, k1, k2, k4, e, h1, hw1, hw2, *])) | (refine advG_ifn _ _ _ _ (fun hT => ?_) (fun hT => ?_) <;> simp only [bne, go_sem, seval, reduceCtorEq, c58, wrV, h, k1, k2, k4, e, h1, hw1, hw2, *]) | (refine advG_if _ _ _ _ (fun hT => ?_) (fun hT => ?_) <;> simp only [bne, go_sem, seval, reduceCtorEq, c58, wrV, h, k1, k2, k4, e, h1, hw1, hw2, *]))))
    all_goals (refine W.fs (hok) (by simp only [r58, go_sem, seval, reduceCtorEq]; rfl) ?_; simp only [resV]; try exact V.wk.rfl _)
    all_goals (all_goals exact wk_here)
  exact (key (τ N) hC).mono fun d σ' ⟨h1, h2⟩ => ⟨h1, N, Nat.le_refl _, hN, h2⟩
end
end
section
attribute [local go_sem] Typ.v Typ.cs_eq tk_mk tname_mk tn_mk tl_mk tysC rz_len rz_g0 rz_g rz_s0 rz_s rz_sb

def varB (n : Int) : Blk := .cells [I n]
attribute [local go_sem] varB
end
section

section
variable {τ : Nat → H}
theorem at_g0 {σ : H} {N : Nat} (h : σ.length = N) (x : Blk) (L : H) : (σ ++ x :: L)[N]? = some x := by subst h; exact hget0 σ (x :: L)
theorem at_g {σ : H} {N : Nat} (h : σ.length = N) (k : Nat) (L : H) : (σ ++ L)[N + k]? = L[k]? := by subst h; exact hget σ L k
theorem at_s0 {σ : H} {N : Nat} (h : σ.length = N) (x : Blk) (L : H) : (σ ++ L).set N x = σ ++ L.set 0 x := by subst h; exact hset0 σ L x
theorem at_s {σ : H} {N : Nat} (h : σ.length = N) (k : Nat) (x : Blk) (L : H) : (σ ++ L).set (N + k) x = σ ++ L.set k x := by subst h; exact hset σ L k x
end
attribute [local go_sem] Typ.v Typ.cs_eq tk_mk tname_mk tn_mk tl_mk tysC
end
section
attribute [local go_sem] Typ.v Typ.cs_eq Pre.v Pre.cs_eq Pre.app tk_mk tname_mk tn_mk tl_mk
section
variable {w0 : World} {s : Sg} {vars : List Str} {F : V}
theorem wtree_lam (t b : Typ) (k : Nat) (h : (t.k == 5) = true) (hl : t.l = [b]) (hk1 : k + 1 ≤ 1000) (hb : TreeOK w0 s vars F b (k + 1)) : TreeOK w0 s vars F t k := fun τ M hR N hk hN => by
  have hE : treeM s vars k t = .mk 4 (nameM s vars k) 0 [treeM s vars (k + 1) b] 0 := by
    have h : t.k = 5 := by simpa using h
    rw [treeM_eq, if_pos h, hl]
    rfl
  rw [hE]
  clear hE
  obtain ⟨tk, tn, tm, tl⟩ := t
  have hl : tl = [b] := hl
  subst hl
  have h : (tk == 5) = true := h
  have k1 : (tk == 1) = false := pkind_no (t := .mk tk tn tm [b]) h 1 (by decide)
  have k2 : (tk == 2) = false := pkind_no (t := .mk tk tn tm [b]) h 2 (by decide)
  have k3 : (tk == 3) = false := pkind_no (t := .mk tk tn tm [b]) h 3 (by decide)
  have k4 : (tk == 4) = false := pkind_no (t := .mk tk tn tm [b]) h 4 (by decide)
  obtain ⟨f, caps, rfl, hc⟩ := hR.call
  have hw : IntKind.i64.wrap ((k : Int) + 1) = ((k + 1 : Nat) : Int) := by rw [wrap_in] <;> omega
  refine k58.go rfl (fun hok hsz => ?_)
  have hl0 := hR.len
  have tg0 : ∀ N x L, (τ N ++ x :: L)[M]? = some x := fun s => at_g0 (hl0 s)
  have tg : ∀ N k L, (τ N ++ L)[M + k]? = L[k]? := fun s => at_g (hl0 s)
  have ts0 : ∀ N x L, (τ N ++ L).set M x = τ N ++ L.set 0 x := fun s => at_s0 (hl0 s)
  have ts : ∀ N k x L, (τ N ++ L).set (M + k) x = τ N ++ L.set k x := fun s => at_s (hl0 s)
  (((try refine W.a ?_); (try simp only [bne, go_sem, seval, reduceCtorEq, c58, wrV, h, k1, k2, k3, k4, hl0, tg0, tg, ts0, ts, *])); (repeat' (first | (refine W.yes rfl ?_; (refine W.a ?_; simp only [bne, go_sem, seval, reduceCtorEq, c58, wrV, h, k1, k2, k3, k4, hl0, tg0, tg, ts0, ts, *])) | (refine W.no rfl ?_; (refine W.a ?_; simp only [bne, go_sem, seval, reduceCtorEq, c58, wrV, h, k1, k2, k3, k4, hl0, tg0, tg, ts0, ts, *])) | (refine W.testn rfl (fun hT => ?_) (fun hT => ?_) <;> (refine W.a ?_; simp only [bne, go_sem, seval, reduceCtorEq, c58, wrV, h, k1, k2, k3, k4, hl0, tg0, tg, ts0, ts, *])) | (refine W.test rfl (fun hT => ?_) (fun hT => ?_) <;> (refine W.a ?_; simp only [bne, go_sem, seval, reduceCtorEq, c58, wrV, h, k1, k2, k3, k4, hl0, tg0, tg, ts0, ts, *])) | (refine advG_ifn _ _ _ _ (fun hT => ?_) (fun hT => ?_) <;> simp only [bne, go_sem, seval, reduceCtorEq, c58, wrV, h, k1, k2, k3, k4, hl0, tg0, tg, ts0, ts, *]) | (refine advG_if _ _ _ _ (fun hT => ?_) (fun hT => ?_) <;> simp only [bne, go_sem, seval, reduceCtorEq, c58, wrV, h, k1, k2, k3, k4, hl0, tg0, tg, ts0, ts, *]))))
  apply W.dregS (S0 := fun σ => ∃ N', N ≤ N' ∧ N' ≤ 1001 ∧ σ = τ N' ++ [.cells [I 0, .c (.sl (strsR vars)), .fn f caps], .cells [I tk, S tn, I tm, .c (.sl [[.int .i64 b.k, .str b.name, .int .i64 b.n, .sl (b.l.map Typ.cs)]])], .cells [I 0, S [], I 0, .csl [], I 0]])
    (S := fun σ => ∃ N', N ≤ N' ∧ N' ≤ 1001 ∧ σ = τ N' ++ [.cells [I 0, .c (.sl (strsR vars)), .fn f caps], .cells [I tk, S tn, I tm, .c (.sl [[.int .i64 b.k, .str b.name, .int .i64 b.n, .sl (b.l.map Typ.cs)]])], .cells [I 4, S (nameM s vars k), I 0, .csl [[.int .i64 (treeM s vars (k + 1) b).k, .str (treeM s vars (k + 1) b).name, .int .i64 (treeM s vars (k + 1) b).n, .sl ((treeM s vars (k + 1) b).l.map Pre.cs), .int .i64 (treeM s vars (k + 1) b).pos]], I 0]]) (List.cons_ne_nil _ _) ⟨N, Nat.le_refl _, hN, rfl⟩
  case hc =>
    apply CanonS.runN 3 (σ0 := τ N ++ [.cells [I 0, .c (.sl (strsR vars)), .fn f caps], .cells [I tk, S tn, I tm, .c (.sl [[.int .i64 b.k, .str b.name, .int .i64 b.n, .sl (b.l.map Typ.cs)]])], .cells [I 0, S [], I 0, .csl [], I 0]])
    case h0 => exact ⟨N, Nat.le_refl _, hN, rfl⟩
    case h =>
      rintro σ ⟨N', _, _, rfl⟩
      simp only [go_sem, seval, reduceCtorEq, runQ, hl0, tg0, tg, ts0, ts]
      rfl
    case hp =>
      intro T hT
      cases hT
    case k =>
    simp only [go_sem, seval, reduceCtorEq]
    apply CanonS.loud
    case h =>
      apply YieldS.call (S' := fun σ => ∃ N', N ≤ N' ∧ k + 1 ≤ N' ∧ N' ≤ 1001 ∧ σ = τ N' ++ [.cells [I 0, .c (.sl (strsR vars)), .fn f caps], .cells [I tk, S tn, I tm, .c (.sl [[.int .i64 b.k, .str b.name, .int .i64 b.n, .sl (b.l.map Typ.cs)]])], .cells [I 0, S [], I 0, .csl [], I 0]]) rfl rfl rfl
      rintro σ ⟨N', h1, h2, rfl⟩
      exact (hc _ k N' (by omega) (by omega)).mono fun d σ' ⟨q1, q2⟩ => ⟨q1, max N' (k + 1), by omega, by omega, by omega, q2⟩
    case k =>
    apply CanonS.runN 7 (σ0 := τ (max N (k + 1)) ++ [.cells [I 0, .c (.sl (strsR vars)), .fn f caps], .cells [I tk, S tn, I tm, .c (.sl [[.int .i64 b.k, .str b.name, .int .i64 b.n, .sl (b.l.map Typ.cs)]])], .cells [I 0, S [], I 0, .csl [], I 0]])
    case h0 => exact ⟨max N (k + 1), by omega, by omega, by omega, rfl⟩
    case h =>
      rintro σ ⟨N', _, _, _, rfl⟩
      simp only [go_sem, seval, reduceCtorEq, runQ, hl0, tg0, tg, ts0, ts, hw]
      rfl
    case hp =>
      intro T hT
      simp only [List.mem_cons, List.not_mem_nil, or_false] at hT
      subst hT
      rintro σ ⟨N', _, _, rfl⟩
      simp only [go_sem, seval, reduceCtorEq, runQ, hl0, tg0, tg, ts0, ts, hw]
    case k =>
    simp only [go_sem, seval, reduceCtorEq]
    apply CanonS.loud
    case h =>
      apply YieldS.call (S' := fun σ => ∃ N', N ≤ N' ∧ k + 1 ≤ N' ∧ N' ≤ 1001 ∧ σ = τ N' ++ [.cells [I 0, .c (.sl (strsR vars)), .fn f caps], .cells [I tk, S tn, I tm, .c (.sl [[.int .i64 b.k, .str b.name, .int .i64 b.n, .sl (b.l.map Typ.cs)]])], .cells [I 0, S [], I 0, .csl [], I 0]]) rfl rfl rfl
      rintro σ ⟨N', h1, h2, h3, rfl⟩
      exact (hb (fun N => τ N ++ _) _ (hR.more _) N' h2 h3).mono fun d σ' ⟨q1, N2, q2, q3, q4⟩ => ⟨q1, N2, by omega, by omega, q3, q4⟩
    case k =>
    apply CanonS.runN 2 (σ0 := τ (max N (k + 1)) ++ [.cells [I 0, .c (.sl (strsR vars)), .fn f caps], .cells [I tk, S tn, I tm, .c (.sl [[.int .i64 b.k, .str b.name, .int .i64 b.n, .sl (b.l.map Typ.cs)]])], .cells [I 0, S [], I 0, .csl [], I 0]])
    case h0 => exact ⟨max N (k + 1), by omega, by omega, by omega, rfl⟩
    case h =>
      rintro σ ⟨N', _, _, _, rfl⟩
      simp only [go_sem, seval, reduceCtorEq, runQ, hl0, tg0, tg, ts0, ts, hw]
      rfl
    case hp =>
      intro T hT
      simp only [List.mem_cons, List.not_mem_nil, or_false] at hT
      rcases hT with rfl | rfl
      · rintro σ ⟨N', _, _, _, rfl⟩
        simp only [go_sem, seval, reduceCtorEq, runQ, hl0, tg0, tg, ts0, ts, hw]
      · rintro σ ⟨N', _, _, rfl⟩
        simp only [go_sem, seval, reduceCtorEq, runQ, hl0, tg0, tg, ts0, ts, hw]
    case k =>
    simp only [go_sem, seval, reduceCtorEq]
    apply CanonS.loud
    case k => exact .nil
    case h =>
      refine YieldS.step (v := .void) rfl ?_
      rintro σ ⟨N', h1, _, h3, rfl⟩
      refine ⟨_, ?_, N', h1, h3, rfl⟩
      simp only [go_sem, seval, reduceCtorEq, hl0, tg0, tg, ts0, ts]
  case h =>
    rintro σ ⟨N', h1, h2, rfl⟩
    have hokN : H.ok (τ N') := by
      have := hR.ok N N' [] (by rw [List.append_nil]; exact hok)
      rwa [List.append_nil] at this
    ((try refine W.a ?_); simp only [go_sem, seval, reduceCtorEq, hl0, tg0, tg, ts0, ts])
    (refine W.fg (hokN) (d := (Pre.mk 4 (nameM s vars k) 0 [treeM s vars (k + 1) b] 0).v) (by simp only [r58, go_sem, seval, reduceCtorEq, tg0, tg]; rfl) (by simp only [resV, go_sem, seval, reduceCtorEq, tg0, tg]; exact wk_here) ?_ (hl := by (first | exact .c _ | (simp only [go_sem, seval, reduceCtorEq, tg0, tg]; done))) (hn := by rw [hl0]))
    exact ⟨by rw [Pre.v]; simp only [Pre.k, Pre.name, Pre.n, Pre.l, Pre.pos, List.map, Pre.cs_eq], N', h1, h2, rfl⟩
end
end
section
attribute [local go_sem] Typ.v Typ.cs_eq Pre.v Pre.cs_eq Pre.app tk_mk tname_mk tn_mk tl_mk
section
variable {w0 : World} {s : Sg} {vars : List Str} {F : V}
theorem wtree_app (t a : Typ) (l : List Typ) (k : Nat) (h : (t.k == 6) = true) (hl : t.l = a :: l) (hlen : l.length + 1 ≤ 9223372036854775807) (hb : ∀ u ∈ t.l, TreeOK w0 s vars F u k) : TreeOK w0 s vars F t k := fun τ M hR N hk hN => by
  have hE : treeM s vars k t = accM s vars k a l l.length := by
    have h : t.k = 6 := by simpa using h
    rw [treeM_eq, if_neg (by omega), if_pos h, hl, accM_all]
  rw [hE]
  clear hE
  obtain ⟨tk, tn, tm, tl⟩ := t
  have hl : tl = a :: l := hl
  subst hl
  have h : (tk == 6) = true := h
  have k1 : (tk == 1) = false := pkind_no (t := .mk tk tn tm (a :: l)) h 1 (by decide)
  have k2 : (tk == 2) = false := pkind_no (t := .mk tk tn tm (a :: l)) h 2 (by decide)
  have k3 : (tk == 3) = false := pkind_no (t := .mk tk tn tm (a :: l)) h 3 (by decide)
  have k4 : (tk == 4) = false := pkind_no (t := .mk tk tn tm (a :: l)) h 4 (by decide)
  have k5 : (tk == 5) = false := pkind_no (t := .mk tk tn tm (a :: l)) h 5 (by decide)
  have ha := hb a (List.mem_cons_self ..)
  have hA := accM_zero s vars k a l
  unfold TreeOK at ha
  generalize hG : accM s vars k a l = A at hA ⊢
  have hS : ∀ i (hi : i < l.length), A (i + 1) = .app (A i) (treeM s vars k l[i]) 0 := fun i hi => by rw [← hG]; exact accM_succ s vars k a l i hi
  rw [← hA] at ha
  have h00 : (0 : Int) < ((l.length + 1 : Nat) : Int) := by omega
  obtain ⟨f, caps, rfl, hc⟩ := hR.call
  refine k58.go rfl (fun hok hsz => ?_)
  have hl0 := hR.len
  have tg0 : ∀ N x L, (τ N ++ x :: L)[M]? = some x := fun s => at_g0 (hl0 s)
  have tg : ∀ N k L, (τ N ++ L)[M + k]? = L[k]? := fun s => at_g (hl0 s)
  have ts0 : ∀ N x L, (τ N ++ L).set M x = τ N ++ L.set 0 x := fun s => at_s0 (hl0 s)
  have ts : ∀ N k x L, (τ N ++ L).set (M + k) x = τ N ++ L.set k x := fun s => at_s (hl0 s)
  (((try refine W.a ?_); (try simp only [bne, go_sem, seval, reduceCtorEq, c58, wrV, h, k1, k2, k3, k4, k5, hl0, tg0, tg, ts0, ts, *])); (repeat' (first | (refine W.yes rfl ?_; (refine W.a ?_; simp only [bne, go_sem, seval, reduceCtorEq, c58, wrV, h, k1, k2, k3, k4, k5, hl0, tg0, tg, ts0, ts, *])) | (refine W.no rfl ?_; (refine W.a ?_; simp only [bne, go_sem, seval, reduceCtorEq, c58, wrV, h, k1, k2, k3, k4, k5, hl0, tg0, tg, ts0, ts, *])) | (refine W.testn rfl (fun hT => ?_) (fun hT => ?_) <;> (refine W.a ?_; simp only [bne, go_sem, seval, reduceCtorEq, c58, wrV, h, k1, k2, k3, k4, k5, hl0, tg0, tg, ts0, ts, *])) | (refine W.test rfl (fun hT => ?_) (fun hT => ?_) <;> (refine W.a ?_; simp only [bne, go_sem, seval, reduceCtorEq, c58, wrV, h, k1, k2, k3, k4, k5, hl0, tg0, tg, ts0, ts, *])) | (refine advG_ifn _ _ _ _ (fun hT => ?_) (fun hT => ?_) <;> simp only [bne, go_sem, seval, reduceCtorEq, c58, wrV, h, k1, k2, k3, k4, k5, hl0, tg0, tg, ts0, ts, *]) | (refine advG_if _ _ _ _ (fun hT => ?_) (fun hT => ?_) <;> simp only [bne, go_sem, seval, reduceCtorEq, c58, wrV, h, k1, k2, k3, k4, k5, hl0, tg0, tg, ts0, ts, *]))))
  apply W.dregS (S0 := fun σ => ∃ N', N ≤ N' ∧ N' ≤ 1001 ∧ σ = τ N' ++ [.cells [I 0, .c (.sl (strsR vars)), .fn f caps], .cells [I tk, S tn, I tm, .c (.sl ([.int .i64 a.k, .str a.name, .int .i64 a.n, .sl (a.l.map Typ.cs)] :: l.map Typ.cs))], .cells [I 0, S [], I 0, .csl [], I 0]])
    (S := fun σ => ∃ N', N ≤ N' ∧ N' ≤ 1001 ∧ σ = τ N' ++ [.cells [I 0, .c (.sl (strsR vars)), .fn f caps], .cells [I tk, S tn, I tm, .c (.sl ([.int .i64 a.k, .str a.name, .int .i64 a.n, .sl (a.l.map Typ.cs)] :: l.map Typ.cs))], .cells [I 0, S [], I 0, .csl [], I 0], .cells (A 0).v.cellsV]) (List.cons_ne_nil _ _) ⟨N, Nat.le_refl _, hN, rfl⟩
  case hc =>
    have hR0 := hR.more [.cells [I 0, .c (.sl (strsR vars)), .fn f caps], .cells [I tk, S tn, I tm, .c (.sl ([.int .i64 a.k, .str a.name, .int .i64 a.n, .sl (a.l.map Typ.cs)] :: l.map Typ.cs))], .cells [I 0, S [], I 0, .csl [], I 0]]
    have hR1 := hR.more [.cells [I 0, .c (.sl (strsR vars)), .fn f caps], .cells [I tk, S tn, I tm, .c (.sl ([.int .i64 a.k, .str a.name, .int .i64 a.n, .sl (a.l.map Typ.cs)] :: l.map Typ.cs))], .cells [I 0, S [], I 0, .csl [], I 0], .cells [I 0, S [], I 0, .csl [], I 0]]
    apply CanonS.loud (S1 := fun σ => ∃ N', N ≤ N' ∧ N' ≤ 1001 ∧ σ = τ N' ++ [.cells [I 0, .c (.sl (strsR vars)), .fn f caps], .cells [I tk, S tn, I tm, .c (.sl ([.int .i64 a.k, .str a.name, .int .i64 a.n, .sl (a.l.map Typ.cs)] :: l.map Typ.cs))], .cells [I 0, S [], I 0, .csl [], I 0], .cells [I 0, S [], I 0, .csl [], I 0]])
    case h =>
      refine YieldS.step (v := .ptr (M + 3) 0) rfl ?_
      rintro σ ⟨N', h1, h2, rfl⟩
      refine ⟨_, ?_, N', h1, h2, rfl⟩
      simp only [go_sem, seval, reduceCtorEq, hl0, tg0, tg, ts0, ts]
    case k =>
    apply CanonS.runN 6 (σ0 := τ N ++ [.cells [I 0, .c (.sl (strsR vars)), .fn f caps], .cells [I tk, S tn, I tm, .c (.sl ([.int .i64 a.k, .str a.name, .int .i64 a.n, .sl (a.l.map Typ.cs)] :: l.map Typ.cs))], .cells [I 0, S [], I 0, .csl [], I 0], .cells [I 0, S [], I 0, .csl [], I 0]])
    case h0 => exact ⟨N, Nat.le_refl _, hN, rfl⟩
    case h =>
      rintro σ ⟨N', _, _, rfl⟩
      simp only [go_sem, seval, reduceCtorEq, runQ, hl0, tg0, tg, ts0, ts, nat0, h00]
      rfl
    case hp =>
      intro T hT
      simp only [List.mem_cons, List.not_mem_nil, or_false] at hT
      subst hT
      rintro σ ⟨N', _, _, rfl⟩
      simp only [go_sem, seval, reduceCtorEq, runQ, hl0, tg0, tg, ts0, ts, nat0, h00]
    case k =>
    simp only [go_sem, seval, reduceCtorEq]
    apply CanonS.quiet
    case h =>
      apply YieldS.call rfl rfl rfl
      rintro σ ⟨N', h1, h2, rfl⟩
      exact (ha (fun N => τ N ++ _) _ hR1 N' (by omega) h2).mono fun d σ' ⟨q1, N2, q2, q3, q4⟩ => ⟨q1, N2, by omega, q3, q4⟩
    case hp =>
      intro T hT
      simp only [List.length_cons, List.length_nil, Nat.sub_zero, List.take_succ_cons, List.take_zero, List.mem_cons, List.not_mem_nil, or_false] at hT
      subst hT
      apply YieldS.call rfl rfl rfl
      rintro σ ⟨N', h1, h2, rfl⟩
      exact (ha (fun N => τ N ++ _) _ hR0 N' (by omega) h2).mono fun d σ' ⟨q1, N2, q2, q3, q4⟩ => ⟨q1, N2, by omega, q3, q4⟩
    case k =>
    simp only [go_sem, seval, reduceCtorEq]
    apply CanonS.loud (v := .void)
    case k => exact .nil
    case h =>
      refine YieldS.step (v := .void) rfl ?_
      rintro σ ⟨N', h1, h3, rfl⟩
      refine ⟨_, ?_, N', h1, h3, rfl⟩
      simp only [go_sem, seval, reduceCtorEq, hl0, tg0, tg, ts0, ts]
  case h =>
    rintro σ ⟨N1, n1, n2, rfl⟩
    have hrw : (∀ (x : List C), x ∈ List.map Typ.cs l → x.length = 4) ↔ True := by
      simp only [List.mem_map, iff_true]
      rintro x ⟨u, _, rfl⟩
      rw [Typ.cs_eq]; rfl
    have hge : (1 : Int) ≤ ((l.length + 1 : Nat) : Int) := by omega
    have htk : ∀ r, List.take (l.length + 1 - 1) (List.drop 1 (r :: List.map Typ.cs l)) = List.map Typ.cs l := fun r => by
      rw [Nat.add_sub_cancel, List.drop_succ_cons, List.drop_zero, List.take_of_length_le (by simp)]
    have htk2 : List.take l.length (List.map Typ.cs l) = List.map Typ.cs l := List.take_of_length_le (by simp)
    ((try refine W.a ?_); simp only [go_sem, seval, reduceCtorEq, hl0, tg0, tg, ts0, ts, nat0, h00, V.sub, hrw, hge, htk, htk2])
    refine W.loopP (fun x : Nat × Nat => x.1 ≤ l.length ∧ N ≤ x.2 ∧ x.2 ≤ 1001) (fun x => ⟨((((((((base.put (some 2) (I (k : Int))).put (some 3) (.ptr M 0)).put (some 4) (.ptr (M + 1) 0)).put (some 6) (.ptr (M + 2) 0)).put (some 7) (.ptr (M + 3) 0)).put (some 79) (.c (.sl (l.map Typ.cs)))).put (some 80) (I (l.length : Int))).put (some 81) (I (x.1 : Int))), τ x.2 ++ [.cells [I 0, .c (.sl (strsR vars)), .fn f caps], .cells [I tk, S tn, I tm, .c (.sl ([.int .i64 a.k, .str a.name, .int .i64 a.n, .sl (a.l.map Typ.cs)] :: l.map Typ.cs))], .cells [I 0, S [], I 0, .csl [], I 0], .cells (A x.1).v.cellsV]⟩) (fun x => l.length - x.1) (0, N1) ⟨Nat.zero_le _, n1, n2⟩ ?_ (fun ⟨i, N2⟩ ⟨hi, m1, m2⟩ => ?_)
    · (refine Lew.env ?_; exact lee_here)
    · have hi : i ≤ l.length := hi
      have m1 : N ≤ N2 := m1
      have m2 : N2 ≤ 1001 := m2
      by_cases hlt : i < l.length
      · have h1 : (i : Int) < (l.length : Int) := by omega
        have hx : l[i]? = some l[i] := List.getElem?_eq_getElem hlt
        have hw : IntKind.i64.wrap ((i : Int) + 1) = ((i + 1 : Nat) : Int) := by rw [wrap_in] <;> omega
        have h0 : (0 : Int) ≤ (i : Int) := by omega
        have hu := hb l[i] (List.mem_cons_of_mem _ (List.getElem_mem hlt))
        have hn := hS i hlt
        ((try refine W.a ?_); simp only [go_sem, seval, reduceCtorEq, h1])
        refine W.yes rfl ?_
        ((try refine W.a ?_); simp only [go_sem, seval, reduceCtorEq, h1, h0, hx, hl0, tg0, tg, ts0, ts])
        apply W.dregS (S0 := fun σ => ∃ N', N2 ≤ N' ∧ N' ≤ 1001 ∧ σ = τ N' ++ [.cells [I 0, .c (.sl (strsR vars)), .fn f caps], .cells [I tk, S tn, I tm, .c (.sl ([.int .i64 a.k, .str a.name, .int .i64 a.n, .sl (a.l.map Typ.cs)] :: l.map Typ.cs))], .cells [I 0, S [], I 0, .csl [], I 0], .cells (A i).v.cellsV, .cells (l[i]'hlt).v.cellsV])
          (S := fun σ => ∃ N', N2 ≤ N' ∧ N' ≤ 1001 ∧ σ = τ N' ++ [.cells [I 0, .c (.sl (strsR vars)), .fn f caps], .cells [I tk, S tn, I tm, .c (.sl ([.int .i64 a.k, .str a.name, .int .i64 a.n, .sl (a.l.map Typ.cs)] :: l.map Typ.cs))], .cells [I 0, S [], I 0, .csl [], I 0], .cells (Pre.app (A i) (treeM s vars k (l[i]'hlt)) 0).v.cellsV, .cells (l[i]'hlt).v.cellsV]) (List.cons_ne_nil _ _) ⟨N2, Nat.le_refl _, m2, rfl⟩
        case hc =>
          apply CanonS.runN 3 (σ0 := τ N2 ++ [.cells [I 0, .c (.sl (strsR vars)), .fn f caps], .cells [I tk, S tn, I tm, .c (.sl ([.int .i64 a.k, .str a.name, .int .i64 a.n, .sl (a.l.map Typ.cs)] :: l.map Typ.cs))], .cells [I 0, S [], I 0, .csl [], I 0], .cells (A i).v.cellsV, .cells (l[i]'hlt).v.cellsV])
          case h0 => exact ⟨N2, Nat.le_refl _, m2, rfl⟩
          case h =>
            rintro σ ⟨N', _, _, rfl⟩
            simp only [go_sem, seval, reduceCtorEq, runQ, hl0, tg0, tg, ts0, ts]
            rfl
          case hp =>
            intro T hT
            cases hT
          case k =>
          simp only [go_sem, seval, reduceCtorEq]
          apply CanonS.loud
          case h =>
            apply YieldS.call (S' := fun σ => ∃ N', N2 ≤ N' ∧ N' ≤ 1001 ∧ σ = τ N' ++ [.cells [I 0, .c (.sl (strsR vars)), .fn f caps], .cells [I tk, S tn, I tm, .c (.sl ([.int .i64 a.k, .str a.name, .int .i64 a.n, .sl (a.l.map Typ.cs)] :: l.map Typ.cs))], .cells [I 0, S [], I 0, .csl [], I 0], .cells (A i).v.cellsV, .cells (l[i]'hlt).v.cellsV]) rfl rfl rfl
            rintro σ ⟨N', h1, h2, rfl⟩
            exact (hu (fun N => τ N ++ _) _ (hR.more _) N' (by omega) h2).mono fun d σ' ⟨q1, N2, q2, q3, q4⟩ => ⟨q1, N2, by omega, q3, q4⟩
          case k =>
          apply CanonS.runN 2 (σ0 := τ N2 ++ [.cells [I 0, .c (.sl (strsR vars)), .fn f caps], .cells [I tk, S tn, I tm, .c (.sl ([.int .i64 a.k, .str a.name, .int .i64 a.n, .sl (a.l.map Typ.cs)] :: l.map Typ.cs))], .cells [I 0, S [], I 0, .csl [], I 0], .cells (A i).v.cellsV, .cells (l[i]'hlt).v.cellsV])
          case h0 => exact ⟨N2, Nat.le_refl _, m2, rfl⟩
          case h =>
            rintro σ ⟨N', _, _, rfl⟩
            simp only [go_sem, seval, reduceCtorEq, runQ, hl0, tg0, tg, ts0, ts]
            rfl
          case hp =>
            intro T hT
            simp only [List.mem_cons, List.not_mem_nil, or_false] at hT
            subst hT
            rintro σ ⟨N', _, _, rfl⟩
            simp only [go_sem, seval, reduceCtorEq, runQ, hl0, tg0, tg, ts0, ts]
          case k =>
          simp only [go_sem, seval, reduceCtorEq]
          apply CanonS.loud
          case h =>
            apply YieldS.call (S' := fun σ => ∃ N', N2 ≤ N' ∧ N' ≤ 1001 ∧ σ = τ N' ++ [.cells [I 0, .c (.sl (strsR vars)), .fn f caps], .cells [I tk, S tn, I tm, .c (.sl ([.int .i64 a.k, .str a.name, .int .i64 a.n, .sl (a.l.map Typ.cs)] :: l.map Typ.cs))], .cells [I 0, S [], I 0, .csl [], I 0], .cells (A i).v.cellsV, .cells (l[i]'hlt).v.cellsV]) rfl rfl rfl
            rintro σ ⟨N', h1, h2, rfl⟩
            refine (DC.weakA (pretty_apply1 w0 (A i) (treeM s vars k l[i]) _) ?_).mono fun d σ' (q : Same _ _ d σ') => ⟨q.1, N', h1, h2, q.2⟩
            simp only [go_sem, seval, reduceCtorEq]
            (all_goals exact wk_here)
          case k =>
          simp only [go_sem, seval, reduceCtorEq]
          apply CanonS.loud (v := .void)
          case k => exact .nil
          case h =>
            refine YieldS.step (v := .void) rfl ?_
            rintro σ ⟨N', h1, h3, rfl⟩
            refine ⟨_, ?_, N', h1, h3, rfl⟩
            simp only [go_sem, seval, reduceCtorEq, hl0, tg0, tg, ts0, ts]
        case h =>
          rintro σ ⟨N3, n3, n4, rfl⟩
          ((try refine W.a ?_); simp only [go_sem, seval, reduceCtorEq, hw])
          refine .inv ⟨(i + 1, N3), ⟨hlt, by omega, n4⟩, by omega, ?_⟩
          rw [hn]
          have e3 := hl0 N3
          have hokN : H.ok (τ N3) := by
            have := hR.ok N N3 [] (by rw [List.append_nil]; exact hok)
            rwa [List.append_nil] at this
          have hfl : (∀ x, x ∈ caps → V.low ((τ N3).length + 4) x) ↔ True := by
            simp only [iff_true]
            intro x hx
            cases hR.low with
            | fn h => exact V.low_mono (by omega) (h x hx)
          simp only [go_sem, seval, reduceCtorEq]
          (refine Lew.cutL (hokN) ?_ (by simp; omega) (by simp) ?_ ?_ ?_; exact lee_here; ((try simp only [okB, wkB, go_sem, seval, reduceCtorEq, hfl]) <;> omega); (simp only [List.length_cons, List.length_nil, Nat.reduceAdd, List.take_succ_cons, List.take_zero, wkB, and_true]; (repeat' (refine And.intro ?_ ?_)) <;> (first | exact Blk.wk.rfl _ | exact Blk.wk.gone _ | (refine Blk.wk_cells ?_ rfl; (exact wk_here)))); (repeat' (first | exact LowE.base _ | (refine LowE.put ?_ (by first | exact .c _ | ((try simp only [okB, wkB, go_sem, seval, reduceCtorEq, hfl]) <;> omega))))))
      · obtain rfl : i = l.length := by omega
        have h1 : ¬ ((l.length : Nat) : Int) < ((l.length : Nat) : Int) := by omega
        have hokN : H.ok (τ N2) := by
          have := hR.ok N N2 [] (by rw [List.append_nil]; exact hok)
          rwa [List.append_nil] at this
        ((try refine W.a ?_); simp only [go_sem, seval, reduceCtorEq, h1])
        refine W.no rfl ?_
        ((try refine W.a ?_); simp only [go_sem, seval, reduceCtorEq, hl0, tg0, tg, ts0, ts])
        (refine W.fg (hokN) (d := (A l.length).v) (by simp only [r58, go_sem, seval, reduceCtorEq, tg0, tg]; rfl) (by simp only [resV, go_sem, seval, reduceCtorEq, tg0, tg]; exact wk_here) ?_ (hl := by (first | exact .c _ | (simp only [go_sem, seval, reduceCtorEq, tg0, tg]; done))) (hn := by rw [hl0]))
        exact ⟨by rw [Pre.v], N2, m1, m2, rfl⟩
theorem wtree_all (hG : Glob w0) (t : Typ) : OkT t → validM t = true → nearM 1099511627776 t = true → ∀ (k : Nat), k + nodesM t ≤ 1000 → TreeOK w0 s vars F t k := by
  refine Typ.ind (P := fun t => OkT t → validM t = true → nearM 1099511627776 t = true → ∀ (k : Nat), k + nodesM t ≤ 1000 → TreeOK w0 s vars F t k) (fun t ih hO hv hnr k hk => ?_) t
  rw [validM_eq, Bool.and_eq_true] at hv
  rw [nearM_eq, Bool.and_eq_true] at hnr
  have hn := hv.1
  have hkids : ∀ u ∈ t.l, validM u = true := List.all_eq_true.1 hv.2
  have hnears : ∀ u ∈ t.l, nearM 1099511627776 u = true := List.all_eq_true.1 hnr.2
  have hnear := hnr.1
  rcases nodeM_kinds hn with h | h | h | h | h | h | h
  · exact wtree_const t k (by simp [h])
  · have h1 : 1 ≤ t.n := by unfold nodeM at hn; simp [h] at hn; exact hn.1.1
    obtain ⟨N, hN⟩ : ∃ N : Nat, t.n = (N : Int) := ⟨t.n.toNat, by omega⟩
    refine wtree_eigen hG t k (by simp [h]) N hN ?_
    simp [h] at hnear
    omega
  · exact wtree_int t k (by simp [h])
  · have h1 : 0 ≤ t.n ∧ t.n ≤ 4611686018427387904 := by unfold nodeM at hn; simp [h] at hn; exact ⟨hn.1.1.1, hn.1.1.2⟩
    obtain ⟨N, hN⟩ : ∃ N : Nat, t.n = (N : Int) := ⟨t.n.toNat, by omega⟩
    by_cases hlt : N < k
    · exact wtree_bound t k (by simp [h]) N hN hlt (by omega)
    · exact wtree_far hG t k (by simp [h]) N hN (by omega) (by omega)
  · have h1 : 0 ≤ t.n ∧ t.n ≤ 4611686018427387904 := by unfold nodeM at hn; simp [h] at hn; exact ⟨hn.1.1.1, hn.1.1.2⟩
    obtain ⟨N, hN⟩ : ∃ N : Nat, t.n = (N : Int) := ⟨t.n.toNat, by omega⟩
    exact wtree_var hG t k (by simp [h]) N hN (by omega)
  · have h1 : t.l.length = 1 := by unfold nodeM at hn; simp [h] at hn; exact hn.2
    obtain ⟨b, hb⟩ : ∃ b, t.l = [b] := by
      match hl : t.l, h1 with
      | [b], _ => exact ⟨b, rfl⟩
    have hm : b ∈ t.l := by rw [hb]; exact List.mem_cons_self ..
    have := nodesM_mem hm
    have hpos := nodesM_eq b
    exact wtree_lam t b k (by simp [h]) hb (by omega) (ih b hm (hO.mem hm) (hkids b hm) (hnears b hm) (k + 1) (by omega))
  · have h1 : 2 ≤ t.l.length := by unfold nodeM at hn; simp [h] at hn; exact hn.1.1.2
    obtain ⟨a, l, hl⟩ : ∃ a l, t.l = a :: l := by
      match hl : t.l, h1 with
      | a :: l, _ => exact ⟨a, l, rfl⟩
    refine wtree_app t a l k (by simp [h]) hl ?_ (fun u hu => ih u hu (hO.mem hu) (hkids u hu) (hnears u hu) k (by have := nodesM_mem hu; omega))
    have := nodesMs_len t.l
    rw [hl] at this
    have := nodesM_eq t
    rw [hl] at this
    simp only [List.length_cons] at *
    omega
end
end
section
def c19 : AC := .seq (.reg [.o 3 (.box (.t 0)), .o 4 (.box (.t 1)), .o 6 (.mov (.k (.c (.str []))))]) (.seq (.reg [.d 8 4 4, .k 9 15 [(.t 8)], .m 7 9]) (.seq (.seq (.reg [.m 10 7, .o 11 (.un .not (.t 10))]) (.cond (.t 11) (.seq (.reg [.f 12 2 3, .l 13 12, .o 14 (.build [.c (.int .i64 0), .c (.str []), .c (.int .i64 0), .csl [], .c (.int .i64 0)] []), .k 15 64 [(.t 13), (.t 14)], .m 6 15]) (.ret)) (.skip))) (.seq (.dreg [.f 16 2 3, .l 17 16, .d 18 3 3, .d 19 4 4, .m 20 2, .k 21 16 [(.t 18), (.t 19), (.t 20), (.k (.c (.int .i64 0)))], .k 22 64 [(.t 17), (.t 21)], .m 6 22] [.q (.d 18 3 3), .q (.d 19 4 4), .q (.m 20 2), ⟨.k 21 16 [(.t 18), (.t 19), (.t 20), (.k (.c (.int .i64 0)))], true, 0⟩, .q (.f 16 2 3), .q (.l 17 16), ⟨.k 22 64 [(.t 17), (.t 21)], true, 1⟩, ⟨.m 6 22, false, 2⟩]) (.ret))))
def r19 : List ResV := [.tmp 6]
theorem k19 : CodeIs Tryz.prog 19 3 Tryz.f19 c19 r19 := .auto Tryz.func19
def c13 : AC := .seq (.reg [.o 3 (.box (.t 0)), .o 4 (.box (.t 1)), .o 6 (.mov (.k (.c (.bool false))))]) (.seq (.seq (.reg [.f 11 1 3, .l 12 11, .o 13 (.lenr (.t 12)), .o 14 (.bin .gtr (.t 13) (.k (.c (.int .i64 60)))), .m 15 14, .z 16 (.fadd 2 (.t 3)) 15, .z 17 (.load1 (.t 16)) 15, .z 18 (.lenr (.t 17)) 15, .z 19 (.bin .gtr (.t 18) (.k (.c (.int .i64 120)))) 15, .o 20 (.pick (.t 15) (.k (.c (.bool true))) (.t 19)), .m 21 20, .z 22 (.mov (.t 2)) 21, .z 23 (.lenr (.t 22)) 21, .z 24 (.bin .gtr (.t 23) (.k (.c (.int .i64 20)))) 21, .o 25 (.pick (.t 21) (.k (.c (.bool true))) (.t 24))]) (.cond (.t 25) (.seq (.reg [.o 6 (.mov (.k (.c (.bool true))))]) (.ret)) (.skip))) (.seq (.seq (.reg [.o 7 (.mov (.k (.c (.int .i64 0))))]) (.block 0 (.loop (.seq (.seq (.reg [.m 26 7, .f 27 1 3, .l 28 27, .o 29 (.lenr (.t 28)), .o 30 (.bin .lss (.t 26) (.t 29))]) (.cond (.t 30) (.skip) (.exit 0))) (.seq (.block 1 (.seq (.reg [.f 33 1 3, .l 34 33, .m 35 7, .o 36 (.iadd 5 (.t 34) (.t 35)), .f 37 0 36, .l 38 37, .o 39 (.lens (.t 38)), .o 40 (.bin .gtr (.t 39) (.k (.c (.int .i64 60))))]) (.cond (.t 40) (.seq (.reg [.o 6 (.mov (.k (.c (.bool true))))]) (.ret)) (.skip)))) (.reg [.m 31 7, .o 32 (.bin .add (.t 31) (.k (.c (.int .i64 1)))), .m 7 32])))))) (.seq (.seq (.reg [.o 8 (.mov (.k (.c (.int .i64 0))))]) (.block 2 (.loop (.seq (.seq (.reg [.m 41 8, .f 42 2 3, .l 43 42, .o 44 (.lenr (.t 43)), .o 45 (.bin .lss (.t 41) (.t 44))]) (.cond (.t 45) (.skip) (.exit 2))) (.seq (.block 3 (.seq (.reg [.f 48 2 3, .l 49 48, .m 50 8, .o 51 (.iadd 3 (.t 49) (.t 50)), .f 52 0 51, .l 53 52, .o 54 (.lens (.t 53)), .o 55 (.bin .gtr (.t 54) (.k (.c (.int .i64 60))))]) (.cond (.t 55) (.seq (.reg [.o 6 (.mov (.k (.c (.bool true))))]) (.ret)) (.skip)))) (.reg [.m 46 8, .o 47 (.bin .add (.t 46) (.k (.c (.int .i64 1)))), .m 8 47])))))) (.seq (.seq (.reg [.o 9 (.mov (.k (.c (.int .i64 0))))]) (.block 4 (.loop (.seq (.seq (.reg [.m 56 9, .m 57 2, .o 58 (.lenr (.t 57)), .o 59 (.bin .lss (.t 56) (.t 58))]) (.cond (.t 59) (.skip) (.exit 4))) (.seq (.block 5 (.seq (.reg [.m 62 2, .m 63 9, .o 64 (.iadd 1 (.t 62) (.t 63)), .l 65 64, .o 66 (.lens (.t 65)), .o 67 (.bin .gtr (.t 66) (.k (.c (.int .i64 60))))]) (.cond (.t 67) (.seq (.reg [.o 6 (.mov (.k (.c (.bool true))))]) (.ret)) (.skip)))) (.reg [.m 60 9, .o 61 (.bin .add (.t 60) (.k (.c (.int .i64 1)))), .m 9 61])))))) (.seq (.reg [.d 68 4 4, .k 69 53 [(.t 68), (.k (.c (.int .i64 1099511627776)))], .m 10 69]) (.seq (.reg [.d 70 4 4, .k 71 52 [(.t 70), (.k (.c (.int .i64 60)))], .m 72 71, .z 73 (.mov (.t 10)) 72, .z 74 (.un .not (.t 73)) 72, .o 75 (.pick (.t 72) (.k (.c (.bool true))) (.t 74)), .m 6 75]) (.ret)))))))
def r13 : List ResV := [.tmp 6]
theorem k13 : CodeIs Tryz.prog 13 3 Tryz.f13 c13 r13 := .auto Tryz.func13
def c3 : AC := .seq (.reg [.o 3 (.box (.t 0)), .o 4 (.box (.t 1)), .o 6 (.mov (.k (.c (.bool false))))]) (.seq (.reg [.k 13 12 [], .m 7 13]) (.seq (.seq (.reg [.m 14 7, .o 15 (.un .not (.t 14))]) (.cond (.t 15) (.seq (.reg [.o 6 (.mov (.k (.c (.bool false))))]) (.ret)) (.skip))) (.seq (.reg [.d 16 3 3, .d 17 4 4, .m 18 2, .k 19 13 [(.t 16), (.t 17), (.t 18)], .m 8 19]) (.seq (.seq (.reg [.m 20 8]) (.cond (.t 20) (.seq (.reg [.m 21 7, .m 6 21]) (.ret)) (.skip))) (.seq (.reg [.d 22 3 3, .d 23 4 4, .m 24 2, .k 25 14 [(.t 22), (.t 23), (.t 24)], .o 9 (.box (.k (.agg [.c (.int .i64 0), .c (.str []), .c (.int .i64 0), .csl [], .c (.int .i64 0)]))), .s 5 9 25]) (.seq (.reg [.o 26 (.build [.c (.int .i64 0), .c (.str []), .c (.int .i64 0), .csl [], .c (.int .i64 0)] []), .o 10 (.box (.k (.agg [.c (.int .i64 0), .c (.str []), .c (.int .i64 0), .csl [], .c (.int .i64 0)]))), .s 5 10 26]) (.seq (.reg [.d 27 4 4, .k 28 15 [(.t 27)], .m 11 28]) (.seq (.seq (.reg [.m 29 11]) (.cond (.t 29) (.reg [.d 30 3 3, .d 31 4 4, .m 32 2, .k 33 16 [(.t 30), (.t 31), (.t 32), (.k (.c (.int .i64 0)))], .s 5 10 33]) (.skip))) (.seq (.reg [.d 34 5 9, .d 35 5 10, .k 36 17 [(.t 34), (.t 35)], .m 12 36]) (.seq (.dreg [.m 37 7, .m 38 37, .y 39 (.mov (.t 12)) 38, .o 40 (.pick (.t 38) (.t 39) (.k (.c (.bool false)))), .m 41 40, .y 42 (.loadn 3 (.t 3)) 41, .y 43 (.loadn 4 (.t 4)) 41, .y 44 (.mov (.t 2)) 41, .y 45 (.call (.k (.fn 18 [])) [(.t 42), (.t 43), (.t 44)]) 41, .y 46 (.loadn 3 (.t 3)) 41, .y 47 (.loadn 4 (.t 4)) 41, .y 48 (.mov (.t 2)) 41, .y 49 (.call (.k (.fn 19 [])) [(.t 46), (.t 47), (.t 48)]) 41, .y 50 (.bin .eql (.t 45) (.t 49)) 41, .o 51 (.pick (.t 41) (.t 50) (.k (.c (.bool false)))), .m 6 51] [.q (.m 37 7), .q (.m 38 37), .q (.y 39 (.mov (.t 12)) 38), .q (.o 40 (.pick (.t 38) (.t 39) (.k (.c (.bool false))))), .q (.m 41 40), .q (.y 42 (.loadn 3 (.t 3)) 41), .q (.y 43 (.loadn 4 (.t 4)) 41), .q (.y 44 (.mov (.t 2)) 41), ⟨.y 45 (.call (.k (.fn 18 [])) [(.t 42), (.t 43), (.t 44)]) 41, true, 0⟩, .q (.y 46 (.loadn 3 (.t 3)) 41), .q (.y 47 (.loadn 4 (.t 4)) 41), .q (.y 48 (.mov (.t 2)) 41), ⟨.y 49 (.call (.k (.fn 19 [])) [(.t 46), (.t 47), (.t 48)]) 41, true, 1⟩, ⟨.y 50 (.bin .eql (.t 45) (.t 49)) 41, false, 2⟩, ⟨.o 51 (.pick (.t 41) (.t 50) (.k (.c (.bool false)))), false, 2⟩, ⟨.m 6 51, false, 2⟩]) (.ret)))))))))))
def r3 : List ResV := [.tmp 6]
theorem k3 : CodeIs Tryz.prog 3 3 Tryz.f3 c3 r3 := .auto Tryz.func3
def c4 : AC := .seq (.reg [.o 3 (.box (.t 0)), .o 6 (.mov (.k (.c (.bool false))))]) (.seq (.reg [.k 13 12 [], .m 7 13]) (.seq (.seq (.reg [.m 14 7, .o 15 (.un .not (.t 14))]) (.cond (.t 15) (.seq (.reg [.o 6 (.mov (.k (.c (.bool false))))]) (.ret)) (.skip))) (.seq (.reg [.d 16 3 3, .o 17 (.build [.c (.int .i64 0), .c (.str []), .c (.int .i64 0), .csl []] []), .m 18 1, .k 19 13 [(.t 16), (.t 17), (.t 18)], .m 8 19]) (.seq (.seq (.reg [.m 20 8]) (.cond (.t 20) (.seq (.reg [.m 21 7, .m 6 21]) (.ret)) (.skip))) (.seq (.reg [.d 22 3 3, .m 23 1, .k 24 20 [(.t 22), (.t 23)], .m 9 24]) (.seq (.seq (.reg [.m 25 9, .o 26 (.eqn false 2 (.t 25))]) (.cond (.t 26) (.seq (.reg [.o 6 (.mov (.k (.c (.bool false))))]) (.ret)) (.skip))) (.seq (.reg [.m 27 9, .m 28 2, .o 29 (.call (.t 27) [(.t 28)]), .m 10 29]) (.seq (.seq (.reg [.m 30 2, .o 31 (.bin .lss (.t 30) (.k (.c (.int .i64 0)))), .m 32 31, .z 33 (.mov (.t 2)) 32, .z 34 (.bin .gtr (.t 33) (.k (.c (.int .i64 100000)))) 32, .o 35 (.pick (.t 32) (.k (.c (.bool true))) (.t 34))]) (.cond (.t 35) (.seq (.reg [.m 36 7, .m 37 36, .y 38 (.mov (.t 10)) 37, .y 39 (.bin .eql (.t 38) (.k (.c (.str [])))) 37, .o 40 (.pick (.t 37) (.t 39) (.k (.c (.bool false)))), .m 6 40]) (.ret)) (.skip))) (.seq (.seq (.reg [.m 41 2, .o 42 (.bin .gtr (.t 41) (.k (.c (.int .i64 60))))]) (.cond (.t 42) (.seq (.reg [.m 43 7, .m 44 43, .y 45 (.mov (.t 10)) 44, .y 46 (.lens (.t 45)) 44, .y 47 (.bin .gtr (.t 46) (.k (.c (.int .i64 1)))) 44, .o 48 (.pick (.t 44) (.t 47) (.k (.c (.bool false)))), .m 6 48]) (.ret)) (.skip))) (.seq (.reg [.d 50 3 3, .m 51 10, .k 52 21 [(.t 50), (.t 51)], .m 49 52, .x 53 49 0, .x 54 49 1, .o 11 (.box (.k (.agg [.c (.int .i64 0), .c (.str []), .c (.int .i64 0), .csl []]))), .s 4 11 53, .m 12 54]) (.seq (.reg [.m 55 7, .m 56 55, .y 57 (.mov (.t 10)) 56, .y 58 (.loadn 3 (.t 3)) 56, .y 59 (.mov (.t 1)) 56, .y 60 (.mov (.t 2)) 56, .y 61 (.call (.k (.fn 22 [])) [(.t 58), (.t 59), (.t 60)]) 56, .y 62 (.bin .eql (.t 57) (.t 61)) 56, .o 63 (.pick (.t 56) (.t 62) (.k (.c (.bool false)))), .m 64 63, .y 65 (.mov (.t 12)) 64, .y 66 (.un .not (.t 65)) 64, .o 67 (.pick (.t 64) (.t 66) (.k (.c (.bool false)))), .m 68 67, .y 69 (.mov (.t 9)) 68, .y 70 (.mov (.t 2)) 68, .y 71 (.call (.t 69) [(.t 70)]) 68, .y 72 (.mov (.t 10)) 68, .y 73 (.bin .eql (.t 71) (.t 72)) 68, .o 74 (.pick (.t 68) (.t 73) (.k (.c (.bool false)))), .m 6 74]) (.ret))))))))))))
def r4 : List ResV := [.tmp 6]
theorem k4 : CodeIs Tryz.prog 4 3 Tryz.f4 c4 r4 := .auto Tryz.func4
end
section
def c154 : AC := .seq (.reg [.o 3 (.box (.t 1)), .o 4 (.mov (.k (.c (.str []))))]) (.seq (.seq (.reg [.f 7 0 3, .l 8 7]) (.block 0 (.seq (.reg [.o 10 (.bin .eql (.t 8) (.k (.c (.int .i64 0)))), .m 9 10]) (.cond (.t 9) (.seq (.reg [.m 12 0, .f 13 1 3, .l 14 13, .k 15 73 [(.t 12), (.t 14)], .m 11 15, .x 16 11 0, .x 17 11 1, .o 5 (.box (.k (.agg [.c (.str []), .c (.int .i64 0), .c (.int .i64 0)]))), .s 3 5 16, .m 6 17]) (.seq (.seq (.reg [.m 18 6]) (.cond (.t 18) (.seq (.reg [.f 19 1 3, .l 20 19, .o 21 (.bin .add (.k (.c (.str [40]))) (.t 20)), .o 22 (.bin .add (.t 21) (.k (.c (.str [41])))), .m 4 22]) (.ret)) (.skip))) (.seq (.reg [.f 23 1 3, .l 24 23, .m 4 24]) (.ret)))) (.seq (.reg [.o 26 (.bin .eql (.t 8) (.k (.c (.int .i64 1)))), .m 25 26]) (.cond (.t 25) (.seq (.reg [.f 27 1 3, .l 28 27, .m 4 28]) (.ret)) (.seq (.reg [.o 30 (.bin .eql (.t 8) (.k (.c (.int .i64 2)))), .m 29 30]) (.cond (.t 29) (.seq (.reg [.f 31 2 3, .l 32 31, .o 33 (.mx (.t 32) (.k (.c (.int .i64 0)))), .k 34 62 [(.t 33)], .m 4 34]) (.ret)) (.skip))))))))) (.seq (.reg [.o 4 (.mov (.k (.c (.str [63]))))]) (.ret)))
def r154 : List ResV := [.tmp 4]
theorem k154 : CodeIs Tryz.prog 154 2 Tryz.f154 c154 r154 := .auto Tryz.func154
end
section
attribute [local go_sem] Pre.v
theorem ref04_word (w0 : World) (l : List OpT) (p : Pre) (hn : p.n ≤ 9223372036854775807) (hlen : (wordP l p).length ≤ 100000000) (σ : H) : DC Tryz.prog w0 154 [.c (opsC l), p.v] σ (Same (S (wordP l p)) σ) := by
  refine k154.go rfl (fun hok hsz => ?_)
  by_cases k0 : p.k = 0
  · have e0 : (p.k == 0) = true := by simpa using k0
    have a3 := fun σ => ref02_Find w0 l p.name σ
    unfold foundV at a3
    have ew : wordP l p = if (findL l p.name).isSome = true then 40 :: p.name ++ [41] else p.name := by unfold wordP; rw [if_pos k0]
    generalize (findL l p.name).getD .zero = o at a3
    generalize (findL l p.name).isSome = is at a3 ew
    cases is
    · rw [if_neg (by decide)] at ew
      rw [ew] at hlen ⊢
      ((try refine W.a ?_); simp only [go_sem, seval, reduceCtorEq, c154, e0])
      refine W.yes rfl ?_
      ((try refine W.a ?_); simp only [go_sem, seval, reduceCtorEq])
      (refine W.c1 (a3 _) ?_; simp only [go_sem, seval, reduceCtorEq])
      refine W.no rfl ?_
      ((try refine W.a ?_); simp only [go_sem, seval, reduceCtorEq])
      (refine W.fs (hok) (by simp only [r154, go_sem, seval, reduceCtorEq]; rfl) ?_; simp only [resV]; try exact V.wk.rfl _)
    · rw [if_pos rfl] at ew
      rw [ew] at hlen ⊢
      have hl : p.name.length + 2 ≤ 100000000 := by simp only [List.length_append, List.length_cons, List.length_nil] at hlen; omega
      have h1 : 1 + p.name.length ≤ 9223372036854775807 := by omega
      have h2 : p.name.length + 1 + 1 ≤ 9223372036854775807 := by omega
      have h3 : p.name.length + 1 ≤ 9223372036854775806 := by omega
      have h4 : p.name.length + 1 ≤ 9223372036854775807 := by omega
      ((try refine W.a ?_); simp only [go_sem, seval, reduceCtorEq, c154, e0])
      refine W.yes rfl ?_
      ((try refine W.a ?_); simp only [go_sem, seval, reduceCtorEq])
      (refine W.c1 (a3 _) ?_; simp only [go_sem, seval, reduceCtorEq])
      refine W.yes rfl ?_
      ((try refine W.a ?_); simp only [go_sem, seval, reduceCtorEq, h1, h2, h3, h4])
      (refine W.fs (hok) (by simp only [r154, go_sem, seval, reduceCtorEq]; rfl) ?_; simp only [resV]; try exact V.wk.rfl _)
  have e0 : (p.k == 0) = false := by simpa using k0
  by_cases k1 : p.k = 1
  · have e1 : (p.k == 1) = true := by simpa using k1
    have ew : wordP l p = p.name := by unfold wordP; rw [if_neg k0, if_pos k1]
    rw [ew]
    ((try refine W.a ?_); simp only [go_sem, seval, reduceCtorEq, c154, e0])
    refine W.no rfl ?_
    ((try refine W.a ?_); simp only [go_sem, seval, reduceCtorEq, e1])
    refine W.yes rfl ?_
    ((try refine W.a ?_); simp only [go_sem, seval, reduceCtorEq])
    (refine W.fs (hok) (by simp only [r154, go_sem, seval, reduceCtorEq]; rfl) ?_; simp only [resV]; try exact V.wk.rfl _)
  have e1 : (p.k == 1) = false := by simpa using k1
  by_cases k2 : p.k = 2
  · have e2 : (p.k == 2) = true := by simpa using k2
    have ew : wordP l p = Lib.itoa (max p.n 0) := by unfold wordP; rw [if_neg k0, if_neg k1, if_pos k2]
    have hm : (if p.n < 0 then 0 else p.n) = max p.n 0 := by split <;> omega
    have hi : ∀ σ, DC Tryz.prog w0 62 [I (max p.n 0)] σ (Same (S (Lib.itoa (max p.n 0))) σ) := fun σ => by
      have hm : max p.n 0 = (((max p.n 0).toNat : Nat) : Int) := by omega
      rw [hm, Lib.itoa_nonneg]
      exact ref01_Digits w0 _ (by omega) σ
    rw [ew]
    ((try refine W.a ?_); simp only [go_sem, seval, reduceCtorEq, c154, e0])
    refine W.no rfl ?_
    ((try refine W.a ?_); simp only [go_sem, seval, reduceCtorEq, e1])
    refine W.no rfl ?_
    ((try refine W.a ?_); simp only [go_sem, seval, reduceCtorEq, e2])
    refine W.yes rfl ?_
    ((try refine W.a ?_); simp only [go_sem, seval, reduceCtorEq, hm])
    (refine W.c1 (hi _) ?_; simp only [go_sem, seval, reduceCtorEq])
    (refine W.fs (hok) (by simp only [r154, go_sem, seval, reduceCtorEq]; rfl) ?_; simp only [resV]; try exact V.wk.rfl _)
  have e2 : (p.k == 2) = false := by simpa using k2
  have ew : wordP l p = [63] := by unfold wordP; rw [if_neg k0, if_neg k1, if_neg k2]
  rw [ew]
  ((try refine W.a ?_); simp only [go_sem, seval, reduceCtorEq, c154, e0])
  refine W.no rfl ?_
  ((try refine W.a ?_); simp only [go_sem, seval, reduceCtorEq, e1])
  refine W.no rfl ?_
  ((try refine W.a ?_); simp only [go_sem, seval, reduceCtorEq, e2])
  refine W.no rfl ?_
  ((try refine W.a ?_); simp only [go_sem, seval, reduceCtorEq])
  (refine W.fs (hok) (by simp only [r154, go_sem, seval, reduceCtorEq]; rfl) ?_; simp only [resV]; try exact V.wk.rfl _)
end
section
attribute [local go_sem] Pre.v
def RefD (w0 : World) (l : List OpT) (p : Pre) : Prop := (showL l p).length ≤ 100000000 → ∀ σ, DC Tryz.prog w0 64 [.c (opsC l), p.v] σ (Same (S (showL l p)) σ)
theorem putP_ge (s : List UInt8) (b : Bool) : s.length ≤ (putP s b).length := by
  cases b
  · exact Nat.le_refl _
  · simp [putP]; omega
theorem rt_word {w0 : World} (l : List OpT) (p : Pre) (hO : OkP p) (h1 : lamP p = false) (h2 : appP p = false) : RefD w0 l p := by
  intro hn σ
  rw [showL_word h1 h2] at hn ⊢
  refine k64.go rfl (fun hok hsz => ?_)
  have hl := fun σ => ref04_lambda w0 p σ
  have ha := fun σ => ref04_application w0 p σ
  have hw := fun σ => ref04_word w0 l p hO.n hn σ
  rw [h1] at hl
  rw [h2] at ha
  ((try refine W.a ?_); simp only [go_sem, seval, reduceCtorEq, c64])
  (refine W.c1 (hl _) ?_; simp only [go_sem, seval, reduceCtorEq])
  refine W.no rfl ?_
  ((try refine W.a ?_); simp only [go_sem, seval, reduceCtorEq])
  (refine W.c1 (ha _) ?_; simp only [go_sem, seval, reduceCtorEq])
  refine W.yes rfl ?_
  ((try refine W.a ?_); simp only [go_sem, seval, reduceCtorEq])
  (refine W.c1 (hw _) ?_; simp only [go_sem, seval, reduceCtorEq])
  (refine W.fs (hok) (by simp only [r64, go_sem, seval, reduceCtorEq]; rfl) ?_; simp only [resV]; try exact V.wk.rfl _)
theorem rt_lam {w0 : World} (l : List OpT) (p q : Pre) (h1 : p.k = 4) (h2 : p.l = [q]) (hT : RefD w0 l q) : RefD w0 l p := by
  intro hn σ
  rw [showL_lam h1 h2] at hn ⊢
  refine k64.go rfl (fun hok hsz => ?_)
  have hl := fun σ => ref04_lambda w0 p σ
  have ht := fun σ => hT (by simp at hn; omega) σ
  have hlm : lamP p = true := by simp [lamP, h1, h2]
  rw [hlm] at hl
  have k1 : p.name.length + 2 ≤ 9223372036854775807 := by simp at hn; omega
  have k2 : p.name.length + 1 + 1 ≤ 9223372036854775807 := by simp at hn; omega
  have k3 : p.name.length + ((showL l q).length + 1 + 1) ≤ 9223372036854775807 := by simp at hn; omega
  have k4 : p.name.length + 2 + (showL l q).length ≤ 9223372036854775807 := by simp at hn; omega
  generalize showL l q = u at *
  ((try refine W.a ?_); simp only [go_sem, seval, reduceCtorEq, c64])
  (refine W.c1 (hl _) ?_; simp only [go_sem, seval, reduceCtorEq])
  refine W.yes rfl ?_
  ((try refine W.a ?_); simp only [go_sem, seval, reduceCtorEq])
  apply W.dreg
  case hc =>
    (apply Canon.advCO; simp only [advCO_nil, advCO_cons, cG_yes, cG_no, cS_some, cS_loud, go_sem, seval, reduceCtorEq, k1, k2, k3, k4, h2, nat0])
    (apply Canon.call (ht _); (case hg => rfl); (case hf => rfl); (case ha => first | rfl | simp))
    (apply Canon.advCO; simp only [advCO_nil, advCO_cons, cG_yes, cG_no, cS_some, cS_loud, go_sem, seval, reduceCtorEq, k1, k2, k3, k4])
    exact Canon.nil
  ((try refine W.a ?_); simp only [go_sem, seval, reduceCtorEq])
  (refine W.fs (hok) (by simp only [r64, go_sem, seval, reduceCtorEq]; rfl) ?_; simp only [resV]; try exact V.wk.rfl _)
theorem rt_app {w0 : World} (l : List OpT) (p f c : Pre) (hi0 : infP l p = none) (h1 : p.k = 3) (h2 : p.l = [f, c]) (hf : RefD w0 l f) (hc : RefD w0 l c) : RefD w0 l p := by
  intro hn σ
  rw [showL_app hi0 h1 h2] at hn ⊢
  refine k64.go rfl (fun hok hsz => ?_)
  have hlf : ((infP l f).isSome || lamP f) = ((infR l f).2.2.2 || lamP f) := by rw [infP_R]; cases (infR l f).2.2.2 <;> rfl
  have hlc : (lamP c || appP c) = (appP c || lamP c) := Bool.or_comm ..
  rw [hlf, hlc] at hn ⊢
  have hq1 := putP_ge (showL l f) ((infR l f).2.2.2 || lamP f)
  have hq2 := putP_ge (showL l c) (appP c || lamP c)
  have hi := fun σ => ref04_Infix w0 l p σ
  have hif := fun σ => ref04_Infix w0 l f σ
  have hl := fun σ => ref04_lambda w0 p σ
  have ha := fun σ => ref04_application w0 p σ
  have hlF := fun σ => ref04_lambda w0 f σ
  have hlC := fun σ => ref04_lambda w0 c σ
  have haC := fun σ => ref04_application w0 c σ
  have hf := fun σ => hf (by simp at hn; omega) σ
  have hc := fun σ => hc (by simp at hn; omega) σ
  have hlm : lamP p = false := by simp [lamP, h1]
  have hap : appP p = true := by simp [appP, h1, h2]
  have hR : (infR l p).2.2.2 = false := by
    rw [infP_R] at hi0
    cases e : (infR l p).2.2.2
    · rfl
    · rw [e, if_pos rfl] at hi0; cases hi0
  rw [hR] at hi
  rw [hlm] at hl
  rw [hap] at ha
  generalize (infR l p).1 = o at *
  generalize (infR l f).1 = of at *
  generalize (infR l f).2.2.2 = isf at *
  have hp1 := fun σ => ref04_put w0 (showL l f) (isf || lamP f) (by simp at hn; omega) σ
  have hp2 := fun σ => ref04_put w0 (showL l c) (appP c || lamP c) (by simp at hn; omega) σ
  generalize showL l f = u1 at *
  generalize showL l c = u2 at *
  generalize hb1 : (isf || lamP f) = b1 at *
  generalize hb2 : (appP c || lamP c) = b2 at *
  have hif2 : isf = true → b1 = true := fun e => by rw [← hb1, e]; rfl
  have hif3 : isf = false → ∀ σ, DC Tryz.prog w0 152 [f.v] σ (Same (B b1) σ) := fun e σ => by rw [← hb1, e]; exact hlF σ
  have hc2 : appP c = true → b2 = true := fun e => by rw [← hb2, e]; rfl
  have hc3 : appP c = false → ∀ σ, DC Tryz.prog w0 152 [c.v] σ (Same (B b2) σ) := fun e σ => by rw [← hb2, e]; exact hlC σ
  clear hb1 hb2
  generalize appP c = ac at *
  generalize hv1 : putP u1 b1 = v1 at *
  generalize hv2 : putP u2 b2 = v2 at *
  have k1 : v1.length + 1 ≤ 9223372036854775807 := by simp at hn; omega
  have k2 : v1.length + 1 + v2.length ≤ 9223372036854775807 := by simp at hn; omega
  cases isf <;> cases ac <;> (
    (try (have e := hif2 rfl; subst e))
    (try (have e := hc2 rfl; subst e))
    ((try refine W.a ?_); simp only [go_sem, seval, reduceCtorEq, c64])
    (refine W.c1 (hl _) ?_; simp only [go_sem, seval, reduceCtorEq])
    refine W.no rfl ?_
    ((try refine W.a ?_); simp only [go_sem, seval, reduceCtorEq])
    (refine W.c1 (ha _) ?_; simp only [go_sem, seval, reduceCtorEq])
    refine W.no rfl ?_
    ((try refine W.a ?_); simp only [go_sem, seval, reduceCtorEq])
    (refine W.c1 (hi _) ?_; simp only [go_sem, seval, reduceCtorEq])
    refine W.yes rfl ?_
    ((try refine W.a ?_); simp only [go_sem, seval, reduceCtorEq, h2, nat0])
    (refine W.c1 (hif _) ?_; simp only [go_sem, seval, reduceCtorEq, h2, nat0])
    apply W.dreg
    case hc =>
      (apply Canon.advCO; simp only [advCO_nil, advCO_cons, cG_yes, cG_no, cS_some, cS_loud, go_sem, seval, reduceCtorEq, h2, nat0])
      (apply Canon.call (hf _); (case hg => rfl); (case hf => rfl); (case ha => first | rfl | simp))
      (apply Canon.advCO; simp only [advCO_nil, advCO_cons, cG_yes, cG_no, cS_some, cS_loud, go_sem, seval, reduceCtorEq, h2, nat0])
      (try ((apply Canon.call (hif3 rfl _); (case hg => rfl); (case hf => rfl); (case ha => first | rfl | simp)); (apply Canon.advCO; simp only [advCO_nil, advCO_cons, cG_yes, cG_no, cS_some, cS_loud, go_sem, seval, reduceCtorEq, h2, nat0])))
      (apply Canon.call (hp1 _); (case hg => rfl); (case hf => rfl); (case ha => first | rfl | simp))
      (apply Canon.advCO; simp only [advCO_nil, advCO_cons, cG_yes, cG_no, cS_some, cS_loud, go_sem, seval, reduceCtorEq, h2, nat0, k1])
      (apply Canon.call (hc _); (case hg => rfl); (case hf => rfl); (case ha => first | rfl | simp))
      (apply Canon.advCO; simp only [advCO_nil, advCO_cons, cG_yes, cG_no, cS_some, cS_loud, go_sem, seval, reduceCtorEq, h2, nat0])
      (apply Canon.call (haC _); (case hg => rfl); (case hf => rfl); (case ha => first | rfl | simp))
      (apply Canon.advCO; simp only [advCO_nil, advCO_cons, cG_yes, cG_no, cS_some, cS_loud, go_sem, seval, reduceCtorEq, h2, nat0])
      (try ((apply Canon.call (hc3 rfl _); (case hg => rfl); (case hf => rfl); (case ha => first | rfl | simp)); (apply Canon.advCO; simp only [advCO_nil, advCO_cons, cG_yes, cG_no, cS_some, cS_loud, go_sem, seval, reduceCtorEq, h2, nat0])))
      (apply Canon.call (hp2 _); (case hg => rfl); (case hf => rfl); (case ha => first | rfl | simp))
      (apply Canon.advCO; simp only [advCO_nil, advCO_cons, cG_yes, cG_no, cS_some, cS_loud, go_sem, seval, reduceCtorEq, k1, k2])
      exact Canon.nil
    ((try refine W.a ?_); simp only [go_sem, seval, reduceCtorEq])
    (refine W.fs (hok) (by simp only [r64, go_sem, seval, reduceCtorEq]; rfl) ?_; simp only [resV]; try exact V.wk.rfl _))
theorem rt_inf {w0 : World} (l : List OpT) (p : Pre) (o : OpT) (a c : Pre) (hi0 : infP l p = some (o, a, c)) (hf : RefD w0 l a) (hc : RefD w0 l c) : RefD w0 l p := by
  intro hn σ
  have hR : infR l p = (o, a, c, true) := by
    rw [infP_R] at hi0
    cases e : (infR l p).2.2.2
    · rw [e, if_neg (by decide)] at hi0; cases hi0
    · rw [e, if_pos rfl] at hi0
      injection hi0 with hi0
      injection hi0 with e1 e2
      injection e2 with e2 e3
      rw [← e1, ← e2, ← e3, ← e]
  obtain ⟨h1, f, q, h2, h3, h4, _⟩ := infP_some hi0
  rw [showL_inf hi0] at hn ⊢
  refine k64.go rfl (fun hok hsz => ?_)
  have sb : ∀ fix x, sideB l o fix x = (lamP x || ((infR l x).2.2.2 && !besideL o (infR l x).1 fix)) := fun fix x => by
    unfold sideB
    rw [infP_R]
    cases (infR l x).2.2.2 <;> rfl
  rw [sb, sb] at hn ⊢
  have hq1 := putP_ge (showL l a) (lamP a || ((infR l a).2.2.2 && !besideL o (infR l a).1 1))
  have hq2 := putP_ge (showL l c) (lamP c || ((infR l c).2.2.2 && !besideL o (infR l c).1 2))
  have hi := fun σ => ref04_Infix w0 l p σ
  have hiA := fun σ => ref04_Infix w0 l a σ
  have hiC := fun σ => ref04_Infix w0 l c σ
  have hl := fun σ => ref04_lambda w0 p σ
  have ha := fun σ => ref04_application w0 p σ
  have hlA := fun σ => ref04_lambda w0 a σ
  have hlC := fun σ => ref04_lambda w0 c σ
  have hf := fun σ => hf (by simp at hn; omega) σ
  have hc := fun σ => hc (by simp at hn; omega) σ
  have hbA := fun σ => ref02_Left w0 o (infR l a).1 σ
  have hbC := fun σ => ref02_Right w0 o (infR l c).1 σ
  have hlm : lamP p = false := by simp [lamP, h1]
  have hap : appP p = true := by simp [appP, h1, h2]
  rw [hR] at hi
  rw [hlm] at hl
  rw [hap] at ha
  generalize (infR l a).1 = oa at *
  generalize (infR l a).2.2.2 = ia at *
  generalize (infR l c).1 = oc at *
  generalize (infR l c).2.2.2 = ic at *
  generalize lamP a = la at *
  generalize lamP c = lc at *
  generalize besideL o oa 1 = ba at *
  generalize besideL o oc 2 = bc at *
  have hp1 := fun σ => ref04_put w0 (showL l a) (la || (ia && !ba)) (by simp at hn; omega) σ
  have hp2 := fun σ => ref04_put w0 (showL l c) (lc || (ic && !bc)) (by simp at hn; omega) σ
  generalize showL l a = u1 at *
  generalize showL l c = u2 at *
  generalize hb1 : (la || (ia && !ba)) = b1 at *
  generalize hb2 : (lc || (ic && !bc)) = b2 at *
  generalize hv1 : putP u1 b1 = v1 at *
  generalize hv2 : putP u2 b2 = v2 at *
  have k1 : v1.length + 1 ≤ 9223372036854775807 := by simp at hn; omega
  have k2 : v1.length + 1 + o.name.length ≤ 9223372036854775807 := by simp at hn; omega
  have k3 : v1.length + 1 + o.name.length + 1 ≤ 9223372036854775807 := by simp at hn; omega
  have k4 : v1.length + 1 + o.name.length + 1 + v2.length ≤ 9223372036854775807 := by simp at hn; omega
  ((try refine W.a ?_); simp only [go_sem, seval, reduceCtorEq, c64])
  (refine W.c1 (hl _) ?_; simp only [go_sem, seval, reduceCtorEq])
  refine W.no rfl ?_
  ((try refine W.a ?_); simp only [go_sem, seval, reduceCtorEq])
  (refine W.c1 (ha _) ?_; simp only [go_sem, seval, reduceCtorEq])
  refine W.no rfl ?_
  ((try refine W.a ?_); simp only [go_sem, seval, reduceCtorEq])
  (refine W.c1 (hi _) ?_; simp only [go_sem, seval, reduceCtorEq])
  refine W.no rfl ?_
  have k5 : v1.length + (o.name.length + 1) ≤ 9223372036854775806 := by simp at hn; omega
  have k6 : v1.length + (o.name.length + 1 + 1) + v2.length ≤ 9223372036854775807 := by simp at hn; omega
  have k7 : v1.length + (o.name.length + 1) ≤ 9223372036854775807 := by simp at hn; omega
  have e1 : la = true → b1 = true := fun e => by rw [← hb1, e]; rfl
  have e2 : la = false → ia = false → b1 = false := fun e f => by rw [← hb1, e, f]; rfl
  have e3 : la = false → ia = true → b1 = !ba := fun e f => by rw [← hb1, e, f]; rfl
  have e4 : lc = true → b2 = true := fun e => by rw [← hb2, e]; rfl
  have e5 : lc = false → ic = false → b2 = false := fun e f => by rw [← hb2, e, f]; rfl
  have e6 : lc = false → ic = true → b2 = !bc := fun e f => by rw [← hb2, e, f]; rfl
  clear hb1 hb2
  ((try refine W.a ?_); simp only [go_sem, seval, reduceCtorEq, h2, h4, nat0])
  (refine W.c1 (hiA _) ?_; simp only [go_sem, seval, reduceCtorEq])
  (refine W.c1 (hiC _) ?_; simp only [go_sem, seval, reduceCtorEq])
  cases la <;> cases ia <;> (
    (try (have e := e1 rfl; subst e))
    (try (have e := e2 rfl rfl; subst e))
    (try (have e := e3 rfl rfl; subst e))
    apply W.dreg
    case hc =>
      (apply Canon.advCO; simp only [advCO_nil, advCO_cons, cG_yes, cG_no, cS_some, cS_loud, go_sem, seval, reduceCtorEq])
      (apply Canon.call (hf _); (case hg => rfl); (case hf => rfl); (case ha => first | rfl | simp))
      (apply Canon.advCO; simp only [advCO_nil, advCO_cons, cG_yes, cG_no, cS_some, cS_loud, go_sem, seval, reduceCtorEq])
      (apply Canon.call (hlA _); (case hg => rfl); (case hf => rfl); (case ha => first | rfl | simp))
      (apply Canon.advCO; simp only [advCO_nil, advCO_cons, cG_yes, cG_no, cS_some, cS_loud, go_sem, seval, reduceCtorEq])
      (try ((apply Canon.call (hbA _); (case hg => rfl); (case hf => rfl); (case ha => first | rfl | simp)); (apply Canon.advCO; simp only [advCO_nil, advCO_cons, cG_yes, cG_no, cS_some, cS_loud, go_sem, seval, reduceCtorEq])))
      (apply Canon.call (hp1 _); (case hg => rfl); (case hf => rfl); (case ha => first | rfl | simp))
      (apply Canon.advCO; simp only [advCO_nil, advCO_cons, cG_yes, cG_no, cS_some, cS_loud, go_sem, seval, reduceCtorEq])
      exact Canon.nil
    cases lc <;> cases ic <;> (
      (try (have e := e4 rfl; subst e))
      (try (have e := e5 rfl rfl; subst e))
      (try (have e := e6 rfl rfl; subst e))
      ((try refine W.a ?_); simp only [go_sem, seval, reduceCtorEq])
      apply W.dreg
      case hc =>
        (apply Canon.advCO; simp only [advCO_nil, advCO_cons, cG_yes, cG_no, cS_some, cS_loud, go_sem, seval, reduceCtorEq])
        (apply Canon.call (hc _); (case hg => rfl); (case hf => rfl); (case ha => first | rfl | simp))
        (apply Canon.advCO; simp only [advCO_nil, advCO_cons, cG_yes, cG_no, cS_some, cS_loud, go_sem, seval, reduceCtorEq])
        (apply Canon.call (hlC _); (case hg => rfl); (case hf => rfl); (case ha => first | rfl | simp))
        (apply Canon.advCO; simp only [advCO_nil, advCO_cons, cG_yes, cG_no, cS_some, cS_loud, go_sem, seval, reduceCtorEq])
        (try ((apply Canon.call (hbC _); (case hg => rfl); (case hf => rfl); (case ha => first | rfl | simp)); (apply Canon.advCO; simp only [advCO_nil, advCO_cons, cG_yes, cG_no, cS_some, cS_loud, go_sem, seval, reduceCtorEq])))
        (apply Canon.call (hp2 _); (case hg => rfl); (case hf => rfl); (case ha => first | rfl | simp))
        (apply Canon.advCO; simp only [advCO_nil, advCO_cons, cG_yes, cG_no, cS_some, cS_loud, go_sem, seval, reduceCtorEq])
        exact Canon.nil
      ((try refine W.a ?_); simp only [go_sem, seval, reduceCtorEq, k1, k2, k3, k4, k5, k6, k7])
      (refine W.fs (hok) (by simp only [r64, go_sem, seval, reduceCtorEq]; rfl) ?_; simp only [resV]; try exact V.wk.rfl _)))
theorem ref04_Text (w0 : World) (l : List OpT) (p : Pre) (hO : OkP p) : RefD w0 l p := by
  refine (Pre.ind (P := fun p => OkP p → RefD w0 l p ∧ ∀ q ∈ p.l, RefD w0 l q) (fun p ih hO => ⟨?_, fun q hq => (ih q hq (hO.mem hq)).1⟩) p hO).1
  cases hi : infP l p with
  | some x =>
    obtain ⟨o, a, c⟩ := x
    obtain ⟨_, f, _, h2, _, h3, _⟩ := infP_some hi
    have hf : f ∈ p.l := by rw [h2]; simp
    exact rt_inf l p o a c hi ((ih f hf (hO.mem hf)).2 a (by rw [h3]; simp)) (ih c (by rw [h2]; simp) (hO.mem (by rw [h2]; simp))).1
  | none =>
    by_cases h1 : lamP p = true
    · have h1' := h1
      unfold lamP at h1'
      simp only [Bool.and_eq_true, beq_iff_eq] at h1'
      obtain ⟨q, hq⟩ := List.length_eq_one_iff.1 h1'.2
      have hqm : q ∈ p.l := by rw [hq]; simp
      exact rt_lam l p q h1'.1 hq (ih q hqm (hO.mem hqm)).1
    · have h1 : lamP p = false := by simpa using h1
      by_cases h2 : appP p = true
      · obtain ⟨f, c, hq⟩ := app_two h2
        have hk : p.k = 3 := by unfold appP at h2; simp only [Bool.and_eq_true, beq_iff_eq] at h2; exact h2.1
        have hf : f ∈ p.l := by rw [hq]; simp
        have hc : c ∈ p.l := by rw [hq]; simp
        exact rt_app l p f c hi hk hq (ih f hf (hO.mem hf)).1 (ih c hc (hO.mem hc)).1
      · have h2 : appP p = false := by simpa using h2
        exact rt_word l p hO h1 h2
end
end Go.Proofs.YtpcmcfajfnpjeaaGreatDoor
namespace Go.Lamb
open Go Go.RowKit
def FitP (p : Pre) (n : Nat) : Prop := OkP p ∧ longP p = false ∧ nodesP p + 1 ≤ n
theorem FitP.leaf {k : Int} {s : Str} {n : Int} {m : Nat} (h1 : s.length ≤ 100) (h2 : n ≤ 9223372036854775807) (h3 : 2 ≤ m) : FitP (.mk k s n [] 0) m := by
  refine ⟨.mk h2 (fun x h => by cases h), ?_, ?_⟩
  · rw [longP_eq]
    show (decide ((s.length : Int) > 100) || List.any [] longP) = false
    simp; omega
  · rw [nodesP, nodesPs]; omega
theorem FitP.app {f x : Pre} {n m : Nat} (h1 : FitP f n) (h2 : FitP x m) : FitP (.app f x 0) (n + m) := by
  obtain ⟨a1, a2, a3⟩ := h1
  obtain ⟨b1, b2, b3⟩ := h2
  refine ⟨.mk (by decide) (fun y hy => ?_), ?_, ?_⟩
  · simp only [List.mem_cons, List.not_mem_nil, or_false] at hy
    rcases hy with rfl | rfl
    · exact a1
    · exact b1
  · rw [longP_eq]
    show (decide ((([] : Str).length : Int) > 100) || List.any [f, x] longP) = false
    simp [a2, b2]
  · rw [Pre.app, nodesP, nodesPs, nodesPs, nodesPs]; omega
theorem FitP.mono {p : Pre} {n m : Nat} (h : FitP p n) (hm : n ≤ m) : FitP p m := ⟨h.1, h.2.1, Nat.le_trans h.2.2 hm⟩
theorem FitP.apps : ∀ (l : List Typ) (f : Typ → Pre) (a : Pre) (n : Nat), FitP a n → (∀ u ∈ l, FitP (f u) (4 * nodesM u)) → FitP ((l.map f).foldl (fun a b => Pre.app a b 0) a) (n + 4 * nodesMs l)
  | [], f, a, n, ha, _ => by
    rw [nodesMs]
    exact ha
  | u :: l, f, a, n, ha, h => by
    rw [nodesMs, List.map_cons, List.foldl_cons]
    exact (FitP.apps l f _ _ (ha.app (h u (List.mem_cons_self ..))) (fun v hv => h v (List.mem_cons_of_mem _ hv))).mono (by omega)
theorem numP_fit (n : Int) (h : n ≤ 9223372036854775807) : FitP (numP n) 4 := by
  unfold numP
  split
  · exact FitP.leaf (Nat.zero_le _) h (by decide)
  · refine FitP.app (n := 2) (m := 2) (FitP.leaf (by decide) (by decide) (by decide)) (FitP.leaf (Nat.zero_le _) ?_ (by decide))
    split <;> omega
theorem treeM_fit (s : Sg) (vars : List Str) (hvv : ∀ x ∈ vars, x.length ≤ 100) (hT : (takenT s vars).length ≤ 900000) (t : Typ) : OkT t → validM t = true → nearM 1099511627776 t = true → ∀ (k : Nat), k + nodesM t ≤ 1000 → FitP (treeM s vars k t) (4 * nodesM t) := by
  have hnm : ∀ i, i ≤ 1000 → (nameM s vars i).length ≤ 100 := fun i hi => by
    have h1 := numAt_le s vars i
    have h2 := dec_len (u := numAt s vars i + 1) (by omega)
    unfold nameM nmX
    simp only [List.length_cons]
    omega
  refine Typ.ind (P := fun t => OkT t → validM t = true → nearM 1099511627776 t = true → ∀ (k : Nat), k + nodesM t ≤ 1000 → FitP (treeM s vars k t) (4 * nodesM t)) (fun t ih hO hv hnr k hk => ?_) t
  rw [validM_eq, Bool.and_eq_true] at hv
  rw [nearM_eq, Bool.and_eq_true] at hnr
  have hn := hv.1
  have hkids : ∀ u ∈ t.l, validM u = true := List.all_eq_true.1 hv.2
  have hnears : ∀ u ∈ t.l, nearM 1099511627776 u = true := List.all_eq_true.1 hnr.2
  have hnear := hnr.1
  have hne := nodesM_eq t
  have h4 : 4 ≤ 4 * nodesM t := by omega
  rcases nodeM_kinds hn with h | h | h | h | h | h | h
  · rw [treeM_eq, if_neg (by omega), if_neg (by omega), leafP, if_neg (by omega), if_neg (by omega), if_neg (by omega), if_neg (by omega)]
    refine FitP.leaf ?_ (by decide) (by omega)
    have hf : fitsB t.name = true := by
      unfold nodeM at hn
      rw [if_pos h] at hn
      simp only [Bool.and_eq_true, Bool.or_eq_true, isNameB, isSymB] at hn
      rcases hn.1.1 with h | h
      · exact h.1.1
      · exact h.1
    simp [fitsB] at hf
    omega
  · have h1 : 1 ≤ t.n := by unfold nodeM at hn; simp [h] at hn; exact hn.1.1
    have h2 : t.n ≤ 1099511627776 := by simp [h] at hnear; omega
    rw [treeM_eq, if_neg (by omega), if_neg (by omega), leafP, if_neg (by omega), if_neg (by omega), if_pos h]
    refine FitP.leaf ?_ (by decide) (by omega)
    have := dec_len (u := t.n.toNat) (by omega)
    simp only [List.length_cons]
    omega
  · rw [treeM_eq, if_neg (by omega), if_neg (by omega), leafP, if_pos h]
    exact (numP_fit t.n hO.n.2).mono h4
  · have h1 : 0 ≤ t.n ∧ t.n ≤ 4611686018427387904 := by unfold nodeM at hn; simp [h] at hn; exact ⟨hn.1.1.1, hn.1.1.2⟩
    rw [treeM_eq, if_neg (by omega), if_neg (by omega), leafP, if_neg (by omega), if_neg (by omega), if_neg (by omega), if_pos h]
    split
    · exact FitP.leaf (hnm _ (by omega)) (by decide) (by omega)
    · refine FitP.leaf ?_ (by decide) (by omega)
      have := dec_len (u := t.n.toNat - k) (by omega)
      simp only [List.length_cons]
      omega
  · have h1 : 0 ≤ t.n ∧ t.n ≤ 4611686018427387904 := by unfold nodeM at hn; simp [h] at hn; exact ⟨hn.1.1.1, hn.1.1.2⟩
    rw [treeM_eq, if_neg (by omega), if_neg (by omega), leafP, if_neg (by omega), if_pos h]
    split
    · rename_i hlt
      refine FitP.leaf ?_ (by decide) (by omega)
      have : t.n.toNat < vars.length := by omega
      rw [List.getD_eq_getElem?_getD, List.getElem?_eq_getElem this]
      exact hvv _ (List.getElem_mem this)
    · refine FitP.leaf ?_ (by decide) (by omega)
      have := dec_len (u := t.n.toNat) (by omega)
      simp only [List.length_cons]
      omega
  · have h1 : t.l.length = 1 := by unfold nodeM at hn; simp [h] at hn; exact hn.2
    obtain ⟨b, hb⟩ : ∃ b, t.l = [b] := by
      match hl : t.l, h1 with
      | [b], _ => exact ⟨b, rfl⟩
    have hm : b ∈ t.l := by rw [hb]; exact List.mem_cons_self ..
    have hlt := nodesM_mem hm
    have hpos := nodesM_eq b
    obtain ⟨c1, c2, c3⟩ := ih b hm (hO.mem hm) (hkids b hm) (hnears b hm) (k + 1) (by omega)
    rw [treeM_eq, if_pos h, hb]
    refine ⟨.mk (by decide) (fun y hy => ?_), ?_, ?_⟩
    · rw [List.map_cons, List.map_nil, List.mem_singleton] at hy
      rw [hy]; exact c1
    · rw [longP_eq]
      have := hnm k (by omega)
      show (decide (((nameM s vars k).length : Int) > 100) || List.any [treeM s vars (k + 1) b] longP) = false
      simp [c2]
      omega
    · rw [nodesP, List.map_cons, List.map_nil, nodesPs, nodesPs]; omega
  · have h1 : 2 ≤ t.l.length := by unfold nodeM at hn; simp [h] at hn; exact hn.1.1.2
    obtain ⟨a, l, hl⟩ : ∃ a l, t.l = a :: l := by
      match hl : t.l, h1 with
      | a :: l, _ => exact ⟨a, l, rfl⟩
    have hk' : ∀ u ∈ t.l, FitP (treeM s vars k u) (4 * nodesM u) := fun u hu => ih u hu (hO.mem hu) (hkids u hu) (hnears u hu) k (by have := nodesM_mem hu; omega)
    rw [treeM_eq, if_neg (by omega), if_pos h, hl, List.map_cons]
    rw [hl] at hk' hne
    rw [nodesMs] at hne
    exact (FitP.apps l _ _ _ (hk' a (List.mem_cons_self ..)) (fun u hu => hk' u (List.mem_cons_of_mem _ hu))).mono (by omega)
noncomputable def preM (s : Sg) (vars : List Str) (t : Typ) : Pre := if validM t = true then treeM s vars 0 t else .none
theorem preM_fit (s : Sg) (vars : List Str) (hv : ∀ x ∈ vars, x.length ≤ 100) (hT : (takenT s vars).length ≤ 900000) (t : Typ) (hO : OkT t) (hn : nearM 1099511627776 t = true) (hl : nodesM t ≤ 1000) : OkP (preM s vars t) ∧ (showL s.ops (preM s vars t)).length ≤ 100000000 := by
  have key : FitP (preM s vars t) 4004 := by
    unfold preM
    split
    · rename_i h
      exact (treeM_fit s vars hv hT t hO h hn 0 (by omega)).mono (by omega)
    · exact FitP.leaf (Nat.zero_le _) (by decide) (by decide)
  obtain ⟨h1, h2, h3⟩ := key
  have := showL_len s.ops _ h2 h1
  have : 206 * nodesP (preM s vars t) ≤ 206 * 4004 := Nat.mul_le_mul_left _ (by omega)
  exact ⟨h1, by omega⟩
end Go.Lamb
namespace Go.Proofs.YtpcmcfajfnpjeaaGreatDoor
open Go.RowKit Go.Lamb
end Go.Proofs.YtpcmcfajfnpjeaaGreatDoor
namespace Go.Lamb
open Go Go.RowKit
def overM (s : Sg) (t : Typ) (vars : List Str) : Bool :=
  decide (60 < s.types.length) || (decide (120 < s.ops.length) || (decide (20 < vars.length) || (s.types.any (fun x => decide (60 < x.name.length)) || (s.ops.any (fun x => decide (60 < x.name.length)) || (vars.any (fun x => decide (60 < x.length)) || (decide (leftT t 60 < 0) || !nearM 1099511627776 t))))))
theorem overM_no {s : Sg} {t : Typ} {vars : List Str} (h : overM s t vars = false) : (takenT s vars).length ≤ 900000 ∧ (∀ x ∈ vars, x.length ≤ 100) ∧ nodesM t ≤ 60 ∧ nearM 1099511627776 t = true ∧ (∀ x ∈ s.types, x.name.length ≤ 60) ∧ (∀ x ∈ s.ops, x.name.length ≤ 60) ∧ vars.length ≤ 20 := by
  unfold overM at h
  simp only [Bool.or_eq_false_iff, decide_eq_false_iff_not, Bool.not_eq_false', List.any_eq_false, decide_eq_true_eq] at h
  obtain ⟨h1, h2, h3, h4, h5, h6, h7, h8⟩ := h
  refine ⟨?_, fun x hx => by have := h6 x hx; omega, ?_, h8, fun x hx => by have := h4 x hx; omega, fun x hx => by have := h5 x hx; omega, by omega⟩
  · unfold takenT
    simp only [List.length_append, List.length_map]
    omega
  · have := leftT_nodesM t 60 (by omega)
    omega
end Go.Lamb
namespace Go.Proofs.YtpcmcfajfnpjeaaGreatDoor
open Go.RowKit Go.Lamb
attribute [local go_sem] advO_skip advO_reg advO_seq advO_block advO_exit advO_endb advO_opsNil advO_ops advG_yes advG_no advG_none advS_some advS_none advO_cond advO_loop advO_dreg advO_ret advO_bad advO_inv advO_nil advO_zero wantedV Lamb.step ev_t ev_k put_some put_none argEnv popTo cellsAt V.cellsV V.rows V.sub V.toC toCs fillV bytesC byteRows appV rowsV boundV boundL binV binInt binStr eqC eqL V.isNil leaves V.leaf Ins.quiet Ins.pure List.getD_cons_zero List.getD_cons_succ List.getD_nil List.all_cons List.all_nil List.length_cons List.length_nil List.take_succ_cons List.take_zero List.drop_succ_cons List.drop_zero List.cons_append List.nil_append List.append_nil List.append_assoc List.map_cons List.map_nil List.getElem?_cons_zero List.getElem?_cons_succ List.length_append List.length_set hget0 hget hset0 hset hsets hgs0 hgs hss0 hss List.set_cons_zero List.set_cons_succ List.forall_mem_cons List.not_mem_nil false_implies implies_true Option.map_some Bool.and_true Bool.true_and Bool.not_not Bool.not_true Bool.not_false Bool.and_self Bool.or_true Bool.true_or Bool.or_false Bool.false_or Bool.and_false Bool.false_and Bool.false_eq_true beq_self_eq_true and_self and_true true_and if_true if_false Nat.zero_add Nat.add_zero Nat.le_refl Int.toNat_natCast decide_true decide_false beq_t beq_f List.length_map List.getElem?_map I S B opsC toksC OpT.v OpT.cs OpT.zero Tok.v Tok.cs Pre.v Pre.cs_eq k_mk name_mk n_mk l_mk pos_mk Pre.app applyL natCast0 natCast1 natCast2 AOp.o AOp.m AOp.f AOp.l AOp.d AOp.n AOp.x AOp.s AOp.k AOp.y AOp.z EOp.q low_c low_void low_any low_csl low_nilf low_ptr low_osl low_agg low_tup low_fn resEval advPO_nil advPO_loud advPO_quiet pL_yes pL_no pLS_some pLS_none pQ_yes pQ_no pQS_some pQS_loud eq_self Nat.sub_zero
section
section
attribute [local go_sem] Sg.v Typ.v Typ.cs_eq Pre.v Pre.cs_eq Pre.app tk_mk tname_mk tn_mk tl_mk
theorem pretty_Tree {w0 : World} (hG : Glob w0) (s : Sg) (t : Typ) (vars : List Str) (hO : OkT t) (hn : nearM 1099511627776 t = true) (hl : nodesM t ≤ 1000) (hT : (takenT s vars).length ≤ 900000) (σ : H) : DC Tryz.prog w0 14 [s.v, t.v, .c (.sl (strsR vars))] σ (Same (preM s vars t).v σ) := by
  refine k14.go rfl (fun hok hsz => ?_)
  have hV := fun σ => term_Valid w0 t σ
  cases hv : validM t
  · have hE : preM s vars t = .none := by unfold preM; rw [hv]; rfl
    rw [hE]
    rw [hv] at hV
    ((try refine W.a ?_); simp only [go_sem, seval, reduceCtorEq, c14])
    (refine W.c1 (hV _) ?_; simp only [go_sem, seval, reduceCtorEq])
    ((try refine W.a ?_); simp only [go_sem, seval, reduceCtorEq])
    refine W.yes rfl ?_
    ((try refine W.a ?_); simp only [go_sem, seval, reduceCtorEq, Pre.none])
    (refine W.fs (hok) (by simp only [r14, go_sem, seval, reduceCtorEq]; rfl) ?_; simp only [resV]; try exact V.wk.rfl _)
    all_goals (all_goals exact wk_here)
  · have hE : preM s vars t = treeM s vars 0 t := by unfold preM; rw [if_pos hv]
    rw [hE]
    rw [hv] at hV
    have hW : ∃ Y : Nat → H, ∃ (f : FuncId) (caps : List V), (∀ N, N ≤ 1001 → DC Tryz.prog w0 58 [wrV vars (.fn f caps), t.v, I ((0 : Nat) : Int)] (σ ++ .cells s.v.cellsV :: .cells t.v.cellsV :: .cells [I 0, S [], I 0, .csl [], I 0] ::  Y N) (fun d σ' => d = (treeM s vars 0 t).v ∧ ∃ N', N ≤ N' ∧ N' ≤ 1001 ∧ σ' = σ ++ .cells s.v.cellsV :: .cells t.v.cellsV :: .cells [I 0, S [], I 0, .csl [], I 0] ::  Y N')) ∧
        DC Tryz.prog w0 20 [s.v, .c (.sl (strsR vars))] (σ ++ [.cells s.v.cellsV, .cells t.v.cellsV, .cells [I 0, S [], I 0, .csl [], I 0]]) (Same (.fn f caps) (σ ++ .cells s.v.cellsV :: .cells t.v.cellsV :: .cells [I 0, S [], I 0, .csl [], I 0] ::  Y 0)) := by
      have hR := nm_R hG s vars hT (σ ++ [.cells s.v.cellsV, .cells t.v.cellsV, .cells [I 0, S [], I 0, .csl [], I 0]]) []
      have e3 : (σ ++ [Blk.cells s.v.cellsV, .cells t.v.cellsV, .cells [I 0, S [], I 0, .csl [], I 0]]).length = σ.length + 3 := by simp
      have hW := wtree_all (w0 := w0) (s := s) (vars := vars) hG t hO hv hn 0 (by omega) _ _ hR
      have hNm := pretty_Names w0 s vars (σ ++ [.cells s.v.cellsV, .cells t.v.cellsV, .cells [I 0, S [], I 0, .csl [], I 0]])
      rw [e3] at hW hNm
      refine ⟨fun N => nmB s vars (σ.length + 3) N (cntOf s vars N), 68, [.ptr (σ.length + 3 + 2) 0, .ptr (σ.length + 3 + 3) 0, .ptr (σ.length + 3 + 4) 0], fun N hN => ?_, ?_⟩
      · simpa only [List.append_assoc, List.cons_append, List.nil_append, List.append_nil] using hW N (Nat.zero_le _) hN
      · simpa only [List.append_assoc, List.cons_append, List.nil_append, List.append_nil, cntOf, if_pos] using hNm
    obtain ⟨Y, f, caps, hW, hNm⟩ := hW
    ((try refine W.a ?_); simp only [go_sem, seval, reduceCtorEq, c14])
    (refine W.c1 (hV _) ?_; simp only [go_sem, seval, reduceCtorEq])
    ((try refine W.a ?_); simp only [go_sem, seval, reduceCtorEq])
    refine W.no rfl ?_
    ((try refine W.a ?_); simp only [go_sem, seval, reduceCtorEq])
    apply W.dregS (S0 := fun x => x = σ ++ [.cells s.v.cellsV, .cells t.v.cellsV, .cells [I 0, S [], I 0, .csl [], I 0]]) (S := fun x => ∃ N', N' ≤ 1001 ∧ x = σ ++ .cells s.v.cellsV :: .cells t.v.cellsV :: .cells (treeM s vars 0 t).v.cellsV ::  Y N') (List.cons_ne_nil _ _) rfl
    case hc =>
      apply CanonS.runN 2 (σ0 := σ ++ [.cells s.v.cellsV, .cells t.v.cellsV, .cells [I 0, S [], I 0, .csl [], I 0]])
      case h0 => rfl
      case h =>
        rintro x rfl
        simp only [go_sem, seval, reduceCtorEq, runQ]
        rfl
      case hp =>
        intro T hT
        cases hT
      case k =>
      simp only [go_sem, seval, reduceCtorEq]
      apply CanonS.loud
      case h =>
        apply YieldS.call (S' := fun x => x = σ ++ .cells s.v.cellsV :: .cells t.v.cellsV :: .cells [I 0, S [], I 0, .csl [], I 0] ::  Y 0) rfl rfl rfl
        rintro x rfl
        exact hNm.mono fun d x q => q
      case k =>
      apply CanonS.runN 3 (σ0 := σ ++ .cells s.v.cellsV :: .cells t.v.cellsV :: .cells [I 0, S [], I 0, .csl [], I 0] ::  Y 0)
      case h0 => rfl
      case h =>
        rintro x rfl
        simp only [go_sem, seval, reduceCtorEq, runQ]
        rfl
      case hp =>
        intro T hT
        simp only [List.mem_cons, List.not_mem_nil, or_false] at hT
        subst hT
        rintro x rfl
        simp only [go_sem, seval, reduceCtorEq, runQ]
      case k =>
      simp only [go_sem, seval, reduceCtorEq]
      apply CanonS.loud
      case h =>
        apply YieldS.call (S' := fun x => ∃ N', N' ≤ 1001 ∧ x = σ ++ .cells s.v.cellsV :: .cells t.v.cellsV :: .cells [I 0, S [], I 0, .csl [], I 0] ::  Y N') rfl rfl rfl
        rintro x rfl
        exact (hW 0 (by decide)).mono fun d x ⟨q1, N', _, q2, q3⟩ => ⟨q1, N', q2, q3⟩
      case k =>
      simp only [go_sem, seval, reduceCtorEq]
      apply CanonS.loud (v := .void)
      case k => exact .nil
      case h =>
        refine YieldS.step (v := .void) rfl ?_
        rintro x ⟨N', h1, rfl⟩
        refine ⟨_, ?_, N', h1, rfl⟩
        simp only [go_sem, seval, reduceCtorEq]
    case h =>
      rintro x ⟨N', h1, rfl⟩
      ((try refine W.a ?_); simp only [go_sem, seval, reduceCtorEq])
      (refine W.fs (hok) (by simp only [r14, go_sem, seval, reduceCtorEq]; rfl) ?_; simp only [resV]; try exact V.wk.rfl _)
      all_goals (all_goals exact wk_here)
noncomputable def textM (s : Sg) (vars : List Str) (t : Typ) : Str := showL s.ops (preM s vars t)
theorem pretty_Text {w0 : World} (hG : Glob w0) (s : Sg) (t : Typ) (vars : List Str) (hO : OkT t) (hn : nearM 1099511627776 t = true) (hl : nodesM t ≤ 1000) (hT : (takenT s vars).length ≤ 900000) (hvv : ∀ x ∈ vars, x.length ≤ 100) (σ : H) : DC Tryz.prog w0 18 [s.v, t.v, .c (.sl (strsR vars))] σ (Same (S (textM s vars t)) σ) := by
  refine k18.go rfl (fun hok hsz => ?_)
  have h1 := fun σ => pretty_Tree hG s t vars hO hn hl hT σ
  obtain ⟨f1, f2⟩ := preM_fit s vars hvv hT t hO hn hl
  have h2 := fun σ => show_Text hG s.ops (preM s vars t) f1 f2 σ
  unfold textM
  generalize showL s.ops (preM s vars t) = x at *
  unfold opsC at h2
  ((try refine W.a ?_); simp only [go_sem, seval, reduceCtorEq, c18])
  apply W.dreg
  case hc =>
    (apply Canon.advCO; simp only [advCO_nil, advCO_cons, cG_yes, cG_no, cS_some, cS_loud, go_sem, seval, reduceCtorEq])
    (apply Canon.call (h1 _); (case hg => rfl); (case hf => rfl); (case ha => first | rfl | simp))
    (apply Canon.advCO; simp only [advCO_nil, advCO_cons, cG_yes, cG_no, cS_some, cS_loud, go_sem, seval, reduceCtorEq])
    (apply Canon.call (h2 _); (case hg => rfl); (case hf => rfl); (case ha => first | rfl | simp))
    (apply Canon.advCO; simp only [advCO_nil, advCO_cons, cG_yes, cG_no, cS_some, cS_loud, go_sem, seval, reduceCtorEq])
    exact Canon.nil
  ((try refine W.a ?_); simp only [go_sem, seval, reduceCtorEq])
  (refine W.fs (hok) (by simp only [r18, go_sem, seval, reduceCtorEq]; rfl) ?_; simp only [resV]; try exact V.wk.rfl _)
  all_goals (all_goals exact wk_here)
theorem ref14_Text (w0 : World) (s : Sg) (t : Typ) (vars : List Str) (hO : OkT t) (hn : nearM 1099511627776 t = true) (hl : nodesM t ≤ 1000) (hT : (takenT s vars).length ≤ 900000) (hvv : ∀ x ∈ vars, x.length ≤ 100) (σ : H) : DC Tryz.prog w0 19 [s.v, t.v, .c (.sl (strsR vars))] σ (Same (S (textM s vars t)) σ) := by
  refine k19.go rfl (fun hok hsz => ?_)
  have hV := fun σ => ref07_Valid w0 t σ
  obtain ⟨f1, f2⟩ := preM_fit s vars hvv hT t hO hn hl
  have h2 := ref04_Text w0 s.ops (preM s vars t) f1 f2
  unfold textM
  cases hv : validM t
  · have hE : preM s vars t = .none := by unfold preM; rw [hv]; rfl
    rw [hE] at h2 ⊢
    rw [hv] at hV
    generalize showL s.ops .none = x at *
    unfold opsC at h2
    ((try refine W.a ?_); simp only [go_sem, seval, reduceCtorEq, c19])
    (refine W.c1 (hV _) ?_; simp only [go_sem, seval, reduceCtorEq])
    ((try refine W.a ?_); simp only [go_sem, seval, reduceCtorEq])
    refine W.yes rfl ?_
    ((try refine W.a ?_); simp only [go_sem, seval, reduceCtorEq, Pre.none])
    (refine W.c1w (h2 _) ?_; simp only [go_sem, seval, reduceCtorEq])
    ((try refine W.a ?_); simp only [go_sem, seval, reduceCtorEq])
    (refine W.fs (hok) (by simp only [r19, go_sem, seval, reduceCtorEq]; rfl) ?_; simp only [resV]; try exact V.wk.rfl _)
    all_goals (all_goals exact wk_here)
  · have hE : preM s vars t = treeM s vars 0 t := by unfold preM; rw [if_pos hv]
    rw [hE] at h2 ⊢
    rw [hv] at hV
    have h1 := fun σ => ref14_Tree w0 s vars hT t hO hv hn 0 (by omega) σ
    generalize showL s.ops (treeM s vars 0 t) = x at *
    unfold opsC at h2
    ((try refine W.a ?_); simp only [go_sem, seval, reduceCtorEq, c19])
    (refine W.c1 (hV _) ?_; simp only [go_sem, seval, reduceCtorEq])
    ((try refine W.a ?_); simp only [go_sem, seval, reduceCtorEq])
    refine W.no rfl ?_
    ((try refine W.a ?_); simp only [go_sem, seval, reduceCtorEq])
    apply W.dreg
    case hc =>
      (apply Canon.advCO; simp only [advCO_nil, advCO_cons, cG_yes, cG_no, cS_some, cS_loud, go_sem, seval, reduceCtorEq])
      (apply Canon.call (h1 _); (case hg => rfl); (case hf => rfl); (case ha => first | rfl | simp))
      (apply Canon.advCO; simp only [advCO_nil, advCO_cons, cG_yes, cG_no, cS_some, cS_loud, go_sem, seval, reduceCtorEq])
      (apply Canon.call (h2 _); (case hg => rfl); (case hf => rfl); (case ha => first | rfl | simp))
      (apply Canon.advCO; simp only [advCO_nil, advCO_cons, cG_yes, cG_no, cS_some, cS_loud, go_sem, seval, reduceCtorEq])
      exact Canon.nil
    ((try refine W.a ?_); simp only [go_sem, seval, reduceCtorEq])
    (refine W.fs (hok) (by simp only [r19, go_sem, seval, reduceCtorEq]; rfl) ?_; simp only [resV]; try exact V.wk.rfl _)
    all_goals (all_goals exact wk_here)
end
end
section
attribute [local go_sem] Sg.v Typ.v Typ.cs_eq tk_mk tname_mk tn_mk tl_mk kdsC nmsC opsC strsR NmT.cs OpT.cs
theorem over14_big (w0 : World) (s : Sg) (t : Typ) (vars : List Str) (h : 60 < s.types.length ∨ 120 < s.ops.length ∨ 20 < vars.length) (σ : H) : DC Tryz.prog w0 13 [s.v, t.v, .c (.sl (strsR vars))] σ (Same (B true) σ) := by
  refine k13.go rfl (fun hok hsz => ?_)
  by_cases h1 : 60 < s.types.length
  · have h1' : (s.types.length : Int) > 60 := by omega
    ((try refine W.a ?_); simp only [go_sem, seval, reduceCtorEq, c13, h1'])
    refine W.yes rfl ?_
    ((try refine W.a ?_); simp only [go_sem, seval, reduceCtorEq])
    (refine W.fs (hok) (by simp only [r13, go_sem, seval, reduceCtorEq]; rfl) ?_; simp only [resV]; try exact V.wk.rfl _)
  have h1' : ¬ (s.types.length : Int) > 60 := by omega
  by_cases h2 : 120 < s.ops.length
  · have h2' : (s.ops.length : Int) > 120 := by omega
    ((try refine W.a ?_); simp only [go_sem, seval, reduceCtorEq, c13, h1', h2'])
    refine W.yes rfl ?_
    ((try refine W.a ?_); simp only [go_sem, seval, reduceCtorEq])
    (refine W.fs (hok) (by simp only [r13, go_sem, seval, reduceCtorEq]; rfl) ?_; simp only [resV]; try exact V.wk.rfl _)
  have h2' : ¬ (s.ops.length : Int) > 120 := by omega
  have h3' : (vars.length : Int) > 20 := by omega
  ((try refine W.a ?_); simp only [go_sem, seval, reduceCtorEq, c13, h1', h2', h3'])
  refine W.yes rfl ?_
  ((try refine W.a ?_); simp only [go_sem, seval, reduceCtorEq])
  (refine W.fs (hok) (by simp only [r13, go_sem, seval, reduceCtorEq]; rfl) ?_; simp only [resV]; try exact V.wk.rfl _)
theorem law14_over (w0 : World) (s : Sg) (t : Typ) (vars : List Str) (σ : H) : DC Tryz.prog w0 13 [s.v, t.v, .c (.sl (strsR vars))] σ (Same (B (overM s t vars)) σ) := by
  by_cases hbig : 60 < s.types.length ∨ 120 < s.ops.length ∨ 20 < vars.length
  · have e : overM s t vars = true := by
      unfold overM
      rcases hbig with h | h | h <;> simp [h]
    rw [e]
    exact over14_big w0 s t vars hbig σ
  have g1 : ¬ (s.types.length : Int) > 60 := by omega
  have g2 : ¬ (s.ops.length : Int) > 120 := by omega
  have g3 : ¬ (vars.length : Int) > 20 := by omega
  have hO : overM s t vars = (s.types.any (fun x => decide (60 < x.name.length)) || (s.ops.any (fun x => decide (60 < x.name.length)) || (vars.any (fun x => decide (60 < x.length)) || (decide (leftT t 60 < 0) || !nearM 1099511627776 t)))) := by
    unfold overM
    rw [decide_eq_false (by omega), decide_eq_false (by omega), decide_eq_false (by omega)]
    rfl
  rw [hO]
  clear hO
  refine k13.go rfl (fun hok hsz => ?_)
  have hTa : ∀ b, (true || b) = true := fun b => rfl
  have hN := fun σ => ref07_Near w0 1099511627776 (by decide) (by decide) t σ
  have hL := fun σ => ref07_Large w0 t 60 (by decide) (by decide) σ
  ((try refine W.a ?_); simp only [go_sem, seval, reduceCtorEq, c13, g1, g2, g3])
  refine W.no rfl ?_
  ((try refine W.a ?_); simp only [go_sem, seval, reduceCtorEq])
  refine W.loopP (fun i => i ≤ s.types.length ∧ UpTo (fun x => decide (60 < x.name.length)) s.types i) (fun i => ⟨((((base.put (some 2) (.c (.sl (strsR vars)))).put (some 3) (.ptr σ.length 0)).put (some 4) (.ptr (σ.length + 1) 0)).put (some 7) (I (i : Nat))), σ ++ [.cells s.v.cellsV, .cells t.v.cellsV]⟩) (fun i => s.types.length - i) 0 ⟨Nat.zero_le _, upTo_zero⟩ ?_ (fun i hi => ?_)
  · (refine Lew.env ?_; exact lee_here)
  obtain ⟨hi, hinv⟩ := hi
  by_cases hlt : i < s.types.length
  · have h1 : ((i : Int) < (s.types.length : Int)) := by omega
    have hx : s.types[i]? = some s.types[i] := List.getElem?_eq_getElem hlt
    have hw : IntKind.i64.wrap ((i : Int) + 1) = ((i + 1 : Nat) : Int) := by rw [wrap_in] <;> omega
    ((try refine W.a ?_); simp only [go_sem, seval, reduceCtorEq, h1])
    refine W.yes rfl ?_
    ((try refine W.a ?_); simp only [go_sem, seval, reduceCtorEq, h1, nat0, hx])
    refine W.test rfl (fun h => ?_) (fun h => ?_)
    · have hb : decide (60 < s.types[i].name.length) = true := by simp only [decide_eq_true_eq] at h ⊢; omega
      rw [show s.types.any (fun x => decide (60 < x.name.length)) = true from any_at hlt hb, hTa]
      ((try refine W.a ?_); simp only [go_sem, seval, reduceCtorEq])
      (refine W.fs (hok) (by simp only [r13, go_sem, seval, reduceCtorEq]; rfl) ?_; simp only [resV]; try exact V.wk.rfl _)
    · have hb : decide (60 < s.types[i].name.length) = false := by simp only [decide_eq_false_iff_not] at h ⊢; omega
      ((try refine W.a ?_); simp only [go_sem, seval, reduceCtorEq, hw])
      refine .inv ⟨i + 1, ⟨hlt, upTo_next hinv hlt hb⟩, by omega, ?_⟩
      (refine Lew.env ?_; exact lee_here)
  have h1 : ¬ ((i : Int) < (s.types.length : Int)) := by omega
  rw [show s.types.any (fun x => decide (60 < x.name.length)) = false from any_no (fun j hj => hinv j hj (by omega)), Bool.false_or]
  clear hinv hi hlt
  ((try refine W.a ?_); simp only [go_sem, seval, reduceCtorEq, h1])
  refine W.no rfl ?_
  ((try refine W.a ?_); simp only [go_sem, seval, reduceCtorEq])
  clear h1
  refine W.loopP (fun i => i ≤ s.ops.length ∧ UpTo (fun x => decide (60 < x.name.length)) s.ops i) (fun i => ⟨((((base.put (some 2) (.c (.sl (strsR vars)))).put (some 3) (.ptr σ.length 0)).put (some 4) (.ptr (σ.length + 1) 0)).put (some 8) (I (i : Nat))), σ ++ [.cells s.v.cellsV, .cells t.v.cellsV]⟩) (fun i => s.ops.length - i) 0 ⟨Nat.zero_le _, upTo_zero⟩ ?_ (fun i hi => ?_)
  · (refine Lew.env ?_; exact lee_here)
  obtain ⟨hi, hinv⟩ := hi
  by_cases hlt : i < s.ops.length
  · have h1 : ((i : Int) < (s.ops.length : Int)) := by omega
    have hx : s.ops[i]? = some s.ops[i] := List.getElem?_eq_getElem hlt
    have hw : IntKind.i64.wrap ((i : Int) + 1) = ((i + 1 : Nat) : Int) := by rw [wrap_in] <;> omega
    ((try refine W.a ?_); simp only [go_sem, seval, reduceCtorEq, h1])
    refine W.yes rfl ?_
    ((try refine W.a ?_); simp only [go_sem, seval, reduceCtorEq, h1, nat0, hx])
    refine W.test rfl (fun h => ?_) (fun h => ?_)
    · have hb : decide (60 < s.ops[i].name.length) = true := by simp only [decide_eq_true_eq] at h ⊢; omega
      rw [show s.ops.any (fun x => decide (60 < x.name.length)) = true from any_at hlt hb, hTa]
      ((try refine W.a ?_); simp only [go_sem, seval, reduceCtorEq])
      (refine W.fs (hok) (by simp only [r13, go_sem, seval, reduceCtorEq]; rfl) ?_; simp only [resV]; try exact V.wk.rfl _)
    · have hb : decide (60 < s.ops[i].name.length) = false := by simp only [decide_eq_false_iff_not] at h ⊢; omega
      ((try refine W.a ?_); simp only [go_sem, seval, reduceCtorEq, hw])
      refine .inv ⟨i + 1, ⟨hlt, upTo_next hinv hlt hb⟩, by omega, ?_⟩
      (refine Lew.env ?_; exact lee_here)
  have h1 : ¬ ((i : Int) < (s.ops.length : Int)) := by omega
  rw [show s.ops.any (fun x => decide (60 < x.name.length)) = false from any_no (fun j hj => hinv j hj (by omega)), Bool.false_or]
  clear hinv hi hlt
  ((try refine W.a ?_); simp only [go_sem, seval, reduceCtorEq, h1])
  refine W.no rfl ?_
  ((try refine W.a ?_); simp only [go_sem, seval, reduceCtorEq])
  clear h1
  refine W.loopP (fun i => i ≤ vars.length ∧ UpTo (fun x => decide (60 < x.length)) vars i) (fun i => ⟨((((base.put (some 2) (.c (.sl (strsR vars)))).put (some 3) (.ptr σ.length 0)).put (some 4) (.ptr (σ.length + 1) 0)).put (some 9) (I (i : Nat))), σ ++ [.cells s.v.cellsV, .cells t.v.cellsV]⟩) (fun i => vars.length - i) 0 ⟨Nat.zero_le _, upTo_zero⟩ ?_ (fun i hi => ?_)
  · (refine Lew.env ?_; exact lee_here)
  obtain ⟨hi, hinv⟩ := hi
  by_cases hlt : i < vars.length
  · have h1 : ((i : Int) < (vars.length : Int)) := by omega
    have hx : vars[i]? = some vars[i] := List.getElem?_eq_getElem hlt
    have hw : IntKind.i64.wrap ((i : Int) + 1) = ((i + 1 : Nat) : Int) := by rw [wrap_in] <;> omega
    ((try refine W.a ?_); simp only [go_sem, seval, reduceCtorEq, h1])
    refine W.yes rfl ?_
    ((try refine W.a ?_); simp only [go_sem, seval, reduceCtorEq, h1, nat0, hx])
    refine W.test rfl (fun h => ?_) (fun h => ?_)
    · have hb : decide (60 < vars[i].length) = true := by simp only [decide_eq_true_eq] at h ⊢; omega
      rw [show vars.any (fun x => decide (60 < x.length)) = true from any_at hlt hb, hTa]
      ((try refine W.a ?_); simp only [go_sem, seval, reduceCtorEq])
      (refine W.fs (hok) (by simp only [r13, go_sem, seval, reduceCtorEq]; rfl) ?_; simp only [resV]; try exact V.wk.rfl _)
    · have hb : decide (60 < vars[i].length) = false := by simp only [decide_eq_false_iff_not] at h ⊢; omega
      ((try refine W.a ?_); simp only [go_sem, seval, reduceCtorEq, hw])
      refine .inv ⟨i + 1, ⟨hlt, upTo_next hinv hlt hb⟩, by omega, ?_⟩
      (refine Lew.env ?_; exact lee_here)
  have h1 : ¬ ((i : Int) < (vars.length : Int)) := by omega
  rw [show vars.any (fun x => decide (60 < x.length)) = false from any_no (fun j hj => hinv j hj (by omega)), Bool.false_or]
  clear hinv hi hlt
  ((try refine W.a ?_); simp only [go_sem, seval, reduceCtorEq, h1])
  refine W.no rfl ?_
  ((try refine W.a ?_); simp only [go_sem, seval, reduceCtorEq])
  clear h1
  (refine W.c1 (hN _) ?_; simp only [go_sem, seval, reduceCtorEq])
  ((try refine W.a ?_); simp only [go_sem, seval, reduceCtorEq])
  (refine W.c1 (hL _) ?_; simp only [go_sem, seval, reduceCtorEq])
  generalize decide (leftT t 60 < 0) = bl at *
  generalize nearM 1099511627776 t = bn at *
  cases bl
  · ((try refine W.a ?_); simp only [go_sem, seval, reduceCtorEq])
    (refine W.fs (hok) (by simp only [r13, go_sem, seval, reduceCtorEq]; rfl) ?_; simp only [resV]; try exact V.wk.rfl _)
  · ((try refine W.a ?_); simp only [go_sem, seval, reduceCtorEq])
    (refine W.fs (hok) (by simp only [r13, go_sem, seval, reduceCtorEq]; rfl) ?_; simp only [resV]; try exact V.wk.rfl _)
end
section
attribute [local go_sem] Sg.v Typ.v Typ.cs_eq Pre.v Pre.cs_eq Pre.app tk_mk tname_mk tn_mk tl_mk kdsC nmsC opsC
theorem law14_PrettyTexts {w0 : World} (hG : Glob w0) (hwk : ∀ σ, DC Tryz.prog w0 12 [] σ (Same (B true) σ)) (s : Sg) (t : Typ) (vars : List Str) (hO : OkT t) (σ : H) : DC Tryz.prog w0 3 [s.v, t.v, .c (.sl (strsR vars))] σ (Same (B true) σ) := by
  refine k3.go rfl (fun hok hsz => ?_)
  have ho := fun σ => law14_over w0 s t vars σ
  cases hv : overM s t vars
  · obtain ⟨g1, g2, g3, g4, _⟩ := overM_no hv
    have h1 := fun σ => pretty_Tree hG s t vars hO g4 (by omega) g1 σ
    have h2 := fun σ => ref07_Valid w0 t σ
    have h3 := fun σ => ref03_Exact w0 (preM s vars t) σ
    have h4 := fun σ => pretty_Text hG s t vars hO g4 (by omega) g1 g2 σ
    have h5 := fun σ => ref14_Text w0 s t vars hO g4 (by omega) g1 g2 σ
    rw [hv] at ho
    generalize textM s vars t = x at *
    cases hq : validM t
    · have hE : preM s vars t = .none := by unfold preM; rw [hq]; rfl
      rw [hE] at h1 h3
      rw [hq] at h2
      ((try refine W.a ?_); simp only [go_sem, seval, reduceCtorEq, c3])
      (refine W.c1 (hwk _) ?_; simp only [go_sem, seval, reduceCtorEq])
      ((try refine W.a ?_); simp only [go_sem, seval, reduceCtorEq])
      refine W.no rfl ?_
      ((try refine W.a ?_); simp only [go_sem, seval, reduceCtorEq])
      (refine W.c1 (ho _) ?_; simp only [go_sem, seval, reduceCtorEq])
      ((try refine W.a ?_); simp only [go_sem, seval, reduceCtorEq])
      refine W.no rfl ?_
      ((try refine W.a ?_); simp only [go_sem, seval, reduceCtorEq])
      (refine W.c1 (h1 _) ?_; simp only [go_sem, seval, reduceCtorEq])
      ((try refine W.a ?_); simp only [go_sem, seval, reduceCtorEq, Pre.none])
      (refine W.c1 (h2 _) ?_; simp only [go_sem, seval, reduceCtorEq])
      ((try refine W.a ?_); simp only [go_sem, seval, reduceCtorEq])
      refine W.no rfl ?_
      ((try refine W.a ?_); simp only [go_sem, seval, reduceCtorEq])
      (refine W.c1w (h3 _) ?_; simp only [go_sem, seval, reduceCtorEq])
      ((try refine W.a ?_); simp only [go_sem, seval, reduceCtorEq])
      apply W.dreg
      case hc =>
        (apply Canon.advCO; simp only [advCO_nil, advCO_cons, cG_yes, cG_no, cS_some, cS_loud, go_sem, seval, reduceCtorEq])
        (apply Canon.call (h4 _); (case hg => rfl); (case hf => rfl); (case ha => first | rfl | simp))
        (apply Canon.advCO; simp only [advCO_nil, advCO_cons, cG_yes, cG_no, cS_some, cS_loud, go_sem, seval, reduceCtorEq])
        (apply Canon.call (h5 _); (case hg => rfl); (case hf => rfl); (case ha => first | rfl | simp))
        (apply Canon.advCO; simp only [advCO_nil, advCO_cons, cG_yes, cG_no, cS_some, cS_loud, go_sem, seval, reduceCtorEq])
        exact Canon.nil
      ((try refine W.a ?_); simp only [go_sem, seval, reduceCtorEq])
      (refine W.fs (hok) (by simp only [r3, go_sem, seval, reduceCtorEq]; rfl) ?_; simp only [resV]; try exact V.wk.rfl _)
    · have hE : preM s vars t = treeM s vars 0 t := by unfold preM; rw [if_pos hq]
      have h6 := fun σ => ref14_Tree w0 s vars g1 t hO hq g4 0 (by omega) σ
      rw [hE] at h1 h3
      rw [hq] at h2
      ((try refine W.a ?_); simp only [go_sem, seval, reduceCtorEq, c3])
      (refine W.c1 (hwk _) ?_; simp only [go_sem, seval, reduceCtorEq])
      ((try refine W.a ?_); simp only [go_sem, seval, reduceCtorEq])
      refine W.no rfl ?_
      ((try refine W.a ?_); simp only [go_sem, seval, reduceCtorEq])
      (refine W.c1 (ho _) ?_; simp only [go_sem, seval, reduceCtorEq])
      ((try refine W.a ?_); simp only [go_sem, seval, reduceCtorEq])
      refine W.no rfl ?_
      ((try refine W.a ?_); simp only [go_sem, seval, reduceCtorEq])
      (refine W.c1 (h1 _) ?_; simp only [go_sem, seval, reduceCtorEq])
      ((try refine W.a ?_); simp only [go_sem, seval, reduceCtorEq])
      (refine W.c1 (h2 _) ?_; simp only [go_sem, seval, reduceCtorEq])
      ((try refine W.a ?_); simp only [go_sem, seval, reduceCtorEq])
      refine W.yes rfl ?_
      ((try refine W.a ?_); simp only [go_sem, seval, reduceCtorEq])
      (refine W.c1 (h6 _) ?_; simp only [go_sem, seval, reduceCtorEq])
      ((try refine W.a ?_); simp only [go_sem, seval, reduceCtorEq])
      (refine W.c1w (h3 _) ?_; simp only [go_sem, seval, reduceCtorEq])
      ((try refine W.a ?_); simp only [go_sem, seval, reduceCtorEq])
      apply W.dreg
      case hc =>
        (apply Canon.advCO; simp only [advCO_nil, advCO_cons, cG_yes, cG_no, cS_some, cS_loud, go_sem, seval, reduceCtorEq])
        (apply Canon.call (h4 _); (case hg => rfl); (case hf => rfl); (case ha => first | rfl | simp))
        (apply Canon.advCO; simp only [advCO_nil, advCO_cons, cG_yes, cG_no, cS_some, cS_loud, go_sem, seval, reduceCtorEq])
        (apply Canon.call (h5 _); (case hg => rfl); (case hf => rfl); (case ha => first | rfl | simp))
        (apply Canon.advCO; simp only [advCO_nil, advCO_cons, cG_yes, cG_no, cS_some, cS_loud, go_sem, seval, reduceCtorEq])
        exact Canon.nil
      ((try refine W.a ?_); simp only [go_sem, seval, reduceCtorEq])
      (refine W.fs (hok) (by simp only [r3, go_sem, seval, reduceCtorEq]; rfl) ?_; simp only [resV]; try exact V.wk.rfl _)
  · rw [hv] at ho
    ((try refine W.a ?_); simp only [go_sem, seval, reduceCtorEq, c3])
    (refine W.c1 (hwk _) ?_; simp only [go_sem, seval, reduceCtorEq])
    ((try refine W.a ?_); simp only [go_sem, seval, reduceCtorEq])
    refine W.no rfl ?_
    ((try refine W.a ?_); simp only [go_sem, seval, reduceCtorEq])
    (refine W.c1 (ho _) ?_; simp only [go_sem, seval, reduceCtorEq])
    ((try refine W.a ?_); simp only [go_sem, seval, reduceCtorEq])
    refine W.yes rfl ?_
    ((try refine W.a ?_); simp only [go_sem, seval, reduceCtorEq])
    (refine W.fs (hok) (by simp only [r3, go_sem, seval, reduceCtorEq]; rfl) ?_; simp only [resV]; try exact V.wk.rfl _)
end
section
attribute [local go_sem] Sg.v Typ.v Typ.cs_eq tk_mk tname_mk tn_mk tl_mk kdsC nmsC opsC
end
end Go.Proofs.YtpcmcfajfnpjeaaGreatDoor
namespace Go.Proofs.YtpcmcfajfnpjeaaGreatDoor
open Go.RowKit Go.Lamb
theorem works14 {w0 : World} (hG : Glob w0) (σ : H) : DC Tryz.prog w0 12 [] σ (Same (B true) σ) :=
  runX_true (X := X14) (G := Glob) (fun _ _ h hb => h.ext hb) (fun _ h => X14_ok h) run14 hG σ
theorem law14_PrettyTextsW {w0 : World} (hG : Glob w0) (s : Sg) (t : Typ) (hO : OkT t) (vars : List Str) (σ : H) : DC Tryz.prog w0 3 [s.v, t.v, .c (.sl (strsR vars))] σ (Same (B true) σ) := law14_PrettyTexts hG (works14 hG) s t vars hO σ
end Go.Proofs.YtpcmcfajfnpjeaaGreatDoor
namespace Go.Lamb
open Go Go.RowKit
theorem goes_no {P : Program} (h : P.funcs.any Func.goes = false) (f : FuncId) : P.goes f = false := by
  unfold Program.goes
  rw [h, Bool.and_false, Bool.or_false, List.any_eq_false]
  intro g _ hg
  cases hf : P.funcs[g]? with
  | none => rw [hf] at hg; cases hg
  | some fn =>
    rw [hf] at hg
    have hg : fn.goes = true := by simpa using hg
    obtain ⟨hlt, e⟩ := Array.getElem?_eq_some_iff.1 hf
    rw [Array.any_eq_false] at h
    have := h g hlt
    rw [e, hg] at this
    exact absurd rfl this
theorem goesBy_no {P : Program} (h : P.funcs.any Func.goes = false) {c : OpenClaim} (hs : c.start = .entering) : false = c.goesBy P := by
  unfold OpenClaim.goesBy Program.goesAt Program.goesFrom
  rw [hs]
  cases P.funcNamed c.func with
  | none => rfl
  | some f => simp [goes_no h f]
end Go.Lamb
namespace Go.Proofs.YtpcmcfajfnpjeaaGreatDoor
open Go.RowKit Go.Lamb
theorem nogo : Tryz.pinned.checked.prog.funcs.any Func.goes = false := by kernel_rfl
end Go.Proofs.YtpcmcfajfnpjeaaGreatDoor

/-
  Walks: a term with others in the place of what is bound: the body of the loop (clause.Open$2).
  Walks over worlds: a slice of terms, from its end on.
  Walks over worlds: a term with another one in the place of what is bound (clause.Open$2, one term at most).
  Walks over worlds: a round of clause.Open's loop.
  Walks over worlds: clause.Open$2, one term at most.
  Walks: a term with others in the place of what is bound (clause.Open$2, one term at most).
  Walks: strings.Builder in a writer's block: what its writing methods call first.
  The code of some functions, without addresses.
  Walks: what a writer writes: strings.Builder's methods at a writer's block.
  Walks: strings.Builder's String at a writer's block.
  Walks: strings.Builder at a block of its own.
  Walks: sentences are added to a signature.
  Walks: a name of a sentence is added; a sentence is added.
  Walks: the document's answer: a name of a sentence is added.
  Walks: the document's answer: a sentence is added; when two signatures are the same.
  The code of some functions, without addresses.
  Walks: rows of constants, one behind the other.
  The code of some functions, without addresses.
  Walks: which trees could have been read, which are the same, and how large they are.
  Walks: which trees could have been read, which are the same, and how large they are.
  Walks: which trees could have been read, by both.
  Walks: which trees could have been read, and which are the same, in the document's words; how large they are.
  Walks: which trees could have been read, in the document's words; what is more than is looked at.
  Walks: the document's reader, an atom.
  Walks: the document's reader, atoms applied.
  Walks: the document's reader, an expression; and its Read.
  Walks: the document's Read.
  Walks: what is more than is looked at; the statements' own functions.
  Walks: what is more than is looked at (layer 4).
  The code of some functions, without addresses.
  Walks: what a tree is; the operator that makes it.
  Walks: what is no operator's, no abstraction and no application, written.
  The code of some functions, without addresses.
  Walks: a tree that is written in brackets, or not (show.part).
  The code of some functions, without addresses.
  Walks: the document's answer: what a tree is; brackets.
  Walks: a tree to one side of an operator (show.side); trees written (show.tree).
  Walks: trees written (show.tree).
  Walks: trees written (show.tree): those that an operator makes; all.
  Walks: trees as texts (show.Text).
  The code of some functions, without addresses.
  Walks: how long a tree's text is (show.Width); trees as lines (show.Lines).
  Walks: trees as lines (show.Lines): none; any.
  Walks: the document's examples of trees; whatever text is lexed and read.
  Walks: the document's examples (layer 4).
  Plain: what some functions hand back, told at once (the run of the examples of layer 14).
  The code of some functions, without addresses.
  Codes of functions, by their numbers.
  Plain: what some functions hand back, told at once: all of them; the document's examples of layer 14.
  Walks: the names of binders, told one after the other.
  Walks: the next name of a binder.
  Walks: a term as a tree.
  Walks: how many types and variables there are in a type.
  Walks: a type with others in the place of variables (ty.replace), whatever the function that tells them.
  Walks: an abstraction as a tree.
-/
import Derived.Test.YtpcmcfajfnpjeaaGreatDoorQJ36
import Derived.Test.YtpcmcfajfnpjeaaGreatDoorQJ14
import Derived.Test.YtpcmcfajfnpjeaaGreatDoorQJ12
import Derived.Test.YtpcmcfajfnpjeaaGreatDoorQTyA2
import Derived.Test.YtpcmcfajfnpjeaaGreatDoorChecked
import Derived.Test.YtpcmcfajfnpjeaaGreatDoorQLexA
import Derived.Lib.Builder
import Derived.Laws.Externs
import Derived.OwnWalk
import Derived.Handy
import Derived.BigRegion
import Derived.Lib.ItoaMem
import Derived.Test.YtpcmcfajfnpjeaaGreatDoorQJ35
import Derived.Test.YtpcmcfajfnpjeaaGreatDoorQLexC
import Derived.Test.YtpcmcfajfnpjeaaGreatDoorQRefH
import Derived.Test.YtpcmcfajfnpjeaaGreatDoorQRefI
import Derived.Test.YtpcmcfajfnpjeaaGreatDoorQLxD
import Derived.Test.YtpcmcfajfnpjeaaGreatDoorQLexG
import Derived.Lib.ItoaLen
import Derived.Test.YtpcmcfajfnpjeaaGreatDoorQLexGl
set_option linter.unusedSimpArgs false
set_option linter.unusedVariables false
set_option maxHeartbeats 8000000
set_option maxRecDepth 20000
namespace Go.Proofs.YtpcmcfajfnpjeaaGreatDoor
open Go.RowKit Go.Lamb
attribute [local go_sem] advO_skip advO_reg advO_seq advO_block advO_exit advO_endb advO_opsNil advO_ops advG_yes advG_no advG_none advS_some advS_none advO_cond advO_loop advO_dreg advO_ret advO_bad advO_inv advO_nil advO_zero wantedV Lamb.step ev_t ev_k put_some put_none argEnv popTo cellsAt V.cellsV V.rows V.sub V.toC toCs fillV bytesC byteRows appV rowsV boundV boundL binV binInt binStr eqC eqL V.isNil leaves V.leaf Ins.quiet Ins.pure List.getD_cons_zero List.getD_cons_succ List.getD_nil List.all_cons List.all_nil List.length_cons List.length_nil List.take_succ_cons List.take_zero List.drop_succ_cons List.drop_zero List.cons_append List.nil_append List.append_nil List.append_assoc List.map_cons List.map_nil List.getElem?_cons_zero List.getElem?_cons_succ List.length_append List.length_set hget0 hget hset0 hset hsets hgs0 hgs hss0 hss List.set_cons_zero List.set_cons_succ List.forall_mem_cons List.not_mem_nil false_implies implies_true Option.map_some Bool.and_true Bool.true_and Bool.not_not Bool.not_true Bool.not_false Bool.and_self Bool.or_true Bool.true_or Bool.or_false Bool.false_or Bool.and_false Bool.false_and Bool.false_eq_true beq_self_eq_true and_self and_true true_and if_true if_false Nat.zero_add Nat.add_zero Nat.le_refl Int.toNat_natCast decide_true decide_false beq_t beq_f List.length_map List.getElem?_map I S B opsC toksC OpT.v OpT.cs OpT.zero Tok.v Tok.cs Pre.v Pre.cs_eq k_mk name_mk n_mk l_mk pos_mk Pre.app applyL natCast0 natCast1 natCast2 AOp.o AOp.m AOp.f AOp.l AOp.d AOp.n AOp.x AOp.s AOp.k AOp.y AOp.z EOp.q low_c low_void low_any low_csl low_nilf low_ptr low_osl low_agg low_tup low_fn resEval advPO_nil advPO_loud advPO_quiet pL_yes pL_no pLS_some pLS_none pQ_yes pQ_no pQS_some pQS_loud eq_self Nat.sub_zero
attribute [local go_sem] Typ.v Typ.cs_eq tk_mk tname_mk tn_mk tl_mk
def cOpenBody : AC := .block 1 (.dreg [⟨some 10, .loadn 4 (.t 2), none⟩, ⟨some 11, .loadn 4 (.t 5), none⟩, ⟨some 12, .mov (.t 4), none⟩, ⟨some 13, .call (.k (.fn 83 [])) [(.t 11), (.k (.c (.int .i64 0))), (.t 12)], none⟩, ⟨some 14, .call (.k (.fn 138 [])) [(.t 10), (.k (.c (.int .i64 0))), (.t 13)], none⟩, ⟨none, .store 4 (.t 2) (.t 14), none⟩]
    [⟨⟨some 11, .loadn 4 (.t 5), none⟩, false, 0⟩, ⟨⟨some 12, .mov (.t 4), none⟩, false, 0⟩, ⟨⟨some 13, .call (.k (.fn 83 [])) [(.t 11), (.k (.c (.int .i64 0))), (.t 12)], none⟩, true, 0⟩, ⟨⟨some 10, .loadn 4 (.t 2), none⟩, false, 0⟩, ⟨⟨some 14, .call (.k (.fn 138 [])) [(.t 10), (.k (.c (.int .i64 0))), (.t 13)], none⟩, true, 1⟩, ⟨⟨none, .store 4 (.t 2) (.t 14), none⟩, true, 2⟩])
theorem open_body (w0 : World) (σ : H) (z u : Typ) (i : Nat) (hi : i ≤ 100000) (c : Blk) (hz : nearM 2305843009213693952 z = true) (hu : nearM 2305843009213693952 u = true) (hsu : nearM 2305843009213693952 (shiftM 0 (i : Int) u) = true) (nu : nodesM u ≤ 40000) (nz : nodesM z ≤ 40000) (nm : nodesM u * nodesM z ≤ 40000) :
    W Tryz.prog w0 (σ.length + 2) (fun _ => False) [.code cOpenBody, .inv (fun s' => s'.σ = σ ++ [.cells (substM 0 (shiftM 0 (i : Int) u) z).v.cellsV, c])] ⟨(((base.put (some 2) (.ptr σ.length 0)).put (some 4) (I (i : Int))).put (some 5) (.c (.ref [.int .i64 u.k, .str u.name, .int .i64 u.n, .sl (u.l.map Typ.cs)] 0))), σ ++ [.cells z.v.cellsV, c]⟩ := by
  have hS := fun σ => term_Shift w0 u 0 (i : Int) (by decide) (by decide) (by omega) (by omega) hu nu σ
  have hsn : nodesM (shiftM 0 (i : Int) u) ≤ nodesM u := shift_nodes 0 i u 0
  have hT := fun σ => term_Subst w0 z 0 (shiftM 0 (i : Int) u) (by decide) (by decide) hsu (by omega) hz nz (Nat.le_trans (Nat.mul_le_mul_right _ hsn) nm) σ
  generalize shiftM 0 (i : Int) u = v at *
  generalize substM 0 v z = y at *
  ((try refine W.a ?_); simp only [go_sem, seval, reduceCtorEq, cOpenBody])
  apply W.dregE (List.cons_ne_nil _ _)
  case hc =>
    (apply CanonE.advPO; simp only [go_sem, seval, reduceCtorEq])
    (apply CanonE.call (hS _); (case hg => rfl); (case hf => rfl); (case ha => first | rfl | simp))
    (apply CanonE.advPO; simp only [go_sem, seval, reduceCtorEq])
    (apply CanonE.call (hT _); (case hg => rfl); (case hf => rfl); (case ha => first | rfl | simp))
    (apply CanonE.advPO; simp only [go_sem, seval, reduceCtorEq])
    exact CanonE.nil
  ((try refine W.a ?_); simp only [go_sem, seval, reduceCtorEq])
  exact .inv rfl
end Go.Proofs.YtpcmcfajfnpjeaaGreatDoor
namespace Go.Proofs.YtpcmcfajfnpjeaaGreatDoor
open Go.RowKit Go.Shelf Go.Lamb
attribute [local go_sem] Oper.semAt_some

def KpC (Bs b off len : Nat) (A B : World) : Prop := (∀ v, A.cell? ⟨Bs, 0, none⟩ = some v → B.cell? ⟨Bs, 0, none⟩ = some v) ∧ ∀ j, j < len * 4 → ∀ v, A.cell? ⟨b, off + j, none⟩ = some v → B.cell? ⟨b, off + j, none⟩ = some v
theorem KpC.refl (Bs b off len : Nat) (A : World) : KpC Bs b off len A A := ⟨fun _ h => h, fun _ _ _ h => h⟩
theorem KpC.trans {Bs b off len : Nat} {A B C : World} (h : KpC Bs b off len A B) (k : KpC Bs b off len B C) : KpC Bs b off len A C := ⟨fun v e => k.1 v (h.1 v e), fun j hj v e => k.2 j hj v (h.2 j hj v e)⟩
theorem KpC.turn {Bs b off len : Nat} (W : World) (l : Nat) (o o' : Obj) (h : W.heap[l]? = some o) (hc : o.isCells = false) : KpC Bs b off len W (W.putObj l o') :=
  ⟨fun v e => cell_kept e (grownBy_putObj' W l o') (fun r e => by cases e; exact ⟨o, h, hc⟩), fun j _ v e => cell_kept e (grownBy_putObj' W l o') (fun r e => by cases e; exact ⟨o, h, hc⟩)⟩
set_option maxRecDepth 100000 in
set_option maxHeartbeats 2000000 in
theorem back1_inT (F : Fence) (n : Nat) (hf : F.fn 226) (hro : F.round = none) (hn : 1 ≤ n) (l Bs n₀ b off len cap : Nat) (A : Option Addr) (hA : 0 < len → A = some ⟨b, off, none⟩) (xs : Nat → Value) (hreach : len ≤ 1000000) (hb : 0 < len → b < n₀) (J Jx : List (Fin len) → World → Prop)
    (hY : ∀ pre (x : Fin len) W, J pre W → pre.length < len → YieldAt F (n - 1) Tryz.prog l #[.int .i64 (x.1 : Nat), cellsOf4 xs x.1] W fun e W' =>
      (e = .returned (.bool true) ∧ J (pre ++ [x]) W' ∧ KpC Bs b off len W W') ∨ (e = .returned (.bool false) ∧ Jx (pre ++ [x]) W'))
    (W : World) (hBs : W.cell? ⟨Bs, 0, none⟩ = some (.slice A len cap)) (hc : ∀ j, j < len * 4 → W.cell? ⟨b, off + j, none⟩ = some (xs j)) (h0 : J [] W) :
    CallsIn F n Tryz.prog 226 #[.func (.yield l) #[] #[], .pointer (some ⟨Bs, 0, none⟩)] W fun e W' => (∃ v, e = .returned v) ∧
      ((∃ ys, ys.map Fin.val = downTo len len ∧ J ys W') ∨ (∃ pre, True ∧ Jx pre W')) := by
  have hw0 : IntKind.i64.wrap ((len : Int) - 1) = (len : Int) - 1 := wrap_in (by omega) (by omega)
  refine callsIn_of_wp Tryz.func226 rfl hf ?_ hro
  simp only [Tryz.ntmps226, List.size_toArray, List.length_cons, List.length_nil, Nat.reduceAdd, Nat.reduceSub, Array.replicate_succ, Array.replicate_zero, List.push_toArray, List.append_toArray, List.nil_append, List.cons_append]
  gi_wp2
  gi_loopw [3] (fun i wr => ∃ (k : Nat) (pre : List (Fin len)), k ≤ len ∧ i = .int .i64 ((len : Int) - 1 - k) ∧ pre.map Fin.val = downTo len k ∧ J pre wr ∧ KpC Bs b off len W wr)
    (fun i _ => (intOf i + 1).toNat)
  case atStart => exact ⟨0, [], Nat.zero_le _, by simp [hw0], rfl, h0, KpC.refl _ _ _ _ _⟩
  case round =>
    obtain ⟨k, pre, hk, rfl, hpre, hJs, hnx⟩ := hrel
    have hBx := hnx.1 _ hBs
    by_cases hlt : k < len
    · have hcx : ∀ j, j < len * 4 → wr.cell? ⟨b, off + j, none⟩ = some (xs j) := fun j h => hnx.2 j h _ (hc j h)
      obtain ⟨m, hm, hmm⟩ : ∃ m, m < len ∧ len - 1 - k = m := ⟨_, by omega, rfl⟩
      obtain ⟨fn, tmps, assign, body, hy, hR⟩ := hY _ ⟨m, hm⟩ wr hJs (by rw [← List.length_map (f := Fin.val), hpre, downTo_length]; exact hlt)
      have e : (len : Int) - 1 - k = (m : Int) := by omega
      have hpre' : (pre ++ [(⟨m, hm⟩ : Fin len)]).map Fin.val = downTo len (k + 1) := by rw [List.map_append, hpre, downTo_succ, hmm]; rfl
      obtain rfl := hA (by omega)
      rw [e]
      have c0 := hcx (m * 4) (by omega)
      have c1 := hcx (m * 4 + 1) (by omega)
      have c2 := hcx (m * 4 + 2) (by omega)
      have c3 := hcx (m * 4 + 3) (by omega)
      rw [← Nat.add_assoc] at c1 c2 c3
      unfold cellsOf4 at hy
      dsimp only at hy
      gi_wp2
      refine hR.mono ?_
      rintro e W3 (⟨rfl, hJ3, hk3⟩ | ⟨rfl, hJx3⟩)
      · gi_wp2
        go_roundw
        case rel => exact ⟨k + 1, _, by omega, by simp only [Value.int.injEq, true_and]; omega, hpre', hJ3, hnx.trans hk3⟩
        case measure => simp [intOf]
      · gi_wp2
        refine bodyPost_ret (results_none rfl _ _ _) rfl ?_
        exact ⟨⟨_, rfl⟩, .inr ⟨_, trivial, hJx3⟩⟩
    · obtain rfl : k = len := by omega
      have e : (k : Int) - 1 - k = -1 := by omega
      rw [e]
      gi_wp2
      go_end0
      exact ⟨⟨_, rfl⟩, .inl ⟨_, hpre, hJs⟩⟩
set_option maxHeartbeats 1000000 in
theorem back_inT (F : Fence) (n : Nat) (hf : F.fn 137) (hro : F.round = none) (a : Option Addr) (len cap : Nat) (w : World) :
    CallsIn F n Tryz.prog 137 #[.slice a len cap] w fun e w' => e = .returned (.func (.func 226) #[] #[.pointer (some ⟨w.heap.size, 0, none⟩)]) ∧ w' = w.alloc (.cells #[.slice a len cap] 28) := by
  refine callsIn_of_wp Tryz.func137 rfl hf ?_ hro
  simp only [Tryz.ntmps137, List.size_toArray, List.length_cons, List.length_nil, Nat.reduceAdd, Nat.reduceSub, Array.replicate_succ, Array.replicate_zero, List.push_toArray, List.append_toArray, List.nil_append, List.cons_append]
  gi_wp2
  go_ret
  exact ⟨rfl, rfl⟩
theorem back_stopsT (F : Fence) (n : Nat) (hf : F.fn 226) (hro : F.round = none) (hn : 1 ≤ n) (Bs n₀ b off len cap : Nat) (A : Option Addr) (hA : 0 < len → A = some ⟨b, off, none⟩) (xs : Nat → Value) (hreach : len ≤ 1000000) (hb : 0 < len → b < n₀) (w : World) (hBw : Bs < w.heap.size) (hn₀ : n₀ ≤ w.heap.size)
    (hBs : w.cell? ⟨Bs, 0, none⟩ = some (.slice A len cap)) (hc : ∀ j, j < len * 4 → w.cell? ⟨b, off + j, none⟩ = some (xs j)) :
    SeqStopsK F n Tryz.prog 226 #[.pointer (some ⟨Bs, 0, none⟩)] (fun x : Fin len => #[.int .i64 (x.1 : Nat), cellsOf4 xs x.1]) (KpC Bs b off len) (fun ys => ys.map Fin.val = downTo len len) (fun _ => True) len w := fun l J Jx W hW _ _ hY h0 => by
  refine back1_inT F n hf hro hn l Bs n₀ b off len cap A hA xs hreach hb J Jx hY W ((hW.cell (p := ⟨Bs, 0, none⟩) hBw).trans hBs) (fun j hj => ?_) h0
  have hb' := hb (by omega)
  exact (hW.cell (p := ⟨b, off + j, none⟩) (by show b < _; omega)).trans (hc j hj)
end Go.Proofs.YtpcmcfajfnpjeaaGreatDoor
namespace Go.Lamb
open Go Go.RowKit
def openI (i : Nat) : List Typ → Typ → Typ
  | [], t => t
  | u :: l, t => substM 0 (shiftM 0 i u) (openI (i + 1) l t)
end Go.Lamb
namespace Go.Proofs.YtpcmcfajfnpjeaaGreatDoor
open Go.RowKit Go.Shelf Go.Lamb
attribute [local go_sem] Oper.semAt_some
def ZSt (us : List Typ) (z0 : Typ) (pre : List (_root_.Fin us.length)) (z : Typ) : Prop := z = pre.foldl (fun z x => substM 0 (shiftM 0 (x.1 : Nat) us[x]) z) z0
def opC (z : Typ) : H := [.cells [I z.k, S z.name, I z.n, .c (tysC z.l)], .cells [I 0, S [], I 0, .csl []]]
def OpI (w0 : World) (κ : K) (σ : H) (w : World) (us : List Typ) (z0 : Typ) (pre : List (_root_.Fin us.length)) (W : World) : Prop :=
  ∃ κ1 z, Rep w0 κ1 (σ ++ opC z) W ∧ κ.le κ1 ∧ κ1.pos σ.length = w.heap.size ∧ κ1.pos (σ.length + 1) = w.heap.size + 1 ∧ ZSt us z0 pre z ∧ w.heap.size + 3 ≤ W.heap.size
theorem lies_le {w0 w W : World} {κ κ1 : K} {σ L : H} (h : Rep w0 κ σ w) (hle : κ.le κ1) (h1 : Rep w0 κ1 (σ ++ L) W) {b : Nat} (hb : b < σ.length) : (σ[b]).lies κ1 b = (σ[b]).lies κ b := by
  have x := h.blk b hb
  have y := h1.blk b (by simp; omega)
  rw [List.getElem_append_left hb] at y
  have hn : b < κ.n := by rw [h.n]; exact hb
  cases hσ : σ[b] with
  | cells cs tg =>
    rw [hσ] at x
    simp [Blk.lies, (hle.cells b hn x.fr).2]
  | spare e size n =>
    rw [hσ] at x y
    obtain ⟨f', q1, q2, q3, q4⟩ := hle.spare b n hn x.fr
    have : f' = n := by have := y.fr; rw [q1] at this; injection this
    simp only [Blk.lies, q3 this]
  | mp kvs =>
    rw [hσ] at x
    simp [Blk.lies, (hle.cells b hn x.fr).2]
  | vec e size cs =>
    rw [hσ] at x
    simp [Blk.lies, (hle.cells b hn x.fr).2]
  | gone => rfl
theorem op_far {w0 w W : World} {κ κ1 : K} {σ : H} {z : Typ} (h : Rep w0 κ σ w) (hle : κ.le κ1) (h1 : Rep w0 κ1 (σ ++ opC z) W) (p0 : κ1.pos σ.length = w.heap.size) (p1 : κ1.pos (σ.length + 1) = w.heap.size + 1) {b g : Nat} (hb : b < (σ ++ opC z).length) (hl : ((σ ++ opC z)[b]).lies κ1 b = some g) :
    g < w.heap.size + 2 ∧ (w.heap.size ≤ g → ∃ vs t, W.heap[g]? = some (.cells vs t (0, 0))) := by
  rcases Nat.lt_or_ge b σ.length with hb' | hb'
  · rw [List.getElem_append_left hb', lies_le h hle h1 hb'] at hl
    have := (h.lies_lt hb' hl).2
    exact ⟨by omega, fun _ => by omega⟩
  · have hy := h1.blk b hb
    have hb2 : b - σ.length < 2 := by simp [opC] at hb; omega
    rw [List.getElem_append_right hb'] at hl hy
    rcases (by omega : b = σ.length ∨ b = σ.length + 1) with rfl | rfl
    · simp only [Nat.sub_self, opC, List.getElem_cons_zero] at hl hy
      obtain ⟨vs, t, k1, _⟩ := hy.row
      have e : κ1.pos σ.length = g := by simpa [Blk.lies] using hl
      rw [e] at k1
      exact ⟨by omega, fun _ => ⟨vs, t, k1⟩⟩
    · simp only [Nat.add_sub_cancel_left, opC, List.getElem_cons_succ, List.getElem_cons_zero] at hl hy
      obtain ⟨vs, t, k1, _⟩ := hy.row
      have e : κ1.pos (σ.length + 1) = g := by simpa [Blk.lies] using hl
      rw [e] at k1
      exact ⟨by omega, fun _ => ⟨vs, t, k1⟩⟩
theorem opI_own {w0 w : World} {κ : K} {σ : H} (hrep : Rep w0 κ σ w) {us : List Typ} {z0 : Typ} {B : Nat} (hB : w.heap.size ≤ B) : OwnFrom B (OpI w0 κ σ w us z0) := by
  rintro pre W W' row ⟨κ1, z, h1, hle, p0, p1, h6, h7⟩ hg hr
  refine ⟨κ1, z, h1.kept hg (fun r e => ⟨Nat.le_trans hrep.ext.size (Nat.le_trans hB (hr r e).1), (hr r e).2⟩) (fun b hb g hl e => ?_) (fun l o hk e => ?_), hle, p0, p1, h6, Nat.le_trans h7 hg.size⟩
  · obtain ⟨f1, f2⟩ := op_far hrep hle h1 p0 p1 hb hl
    obtain ⟨q1, o, q2, q3⟩ := hr g e
    obtain ⟨vs, t, q4⟩ := f2 (by omega)
    rw [q4] at q2
    injection q2 with q2
    rw [← q2] at q3
    cases q3
  · rw [hle.rest] at hk
    have := (Array.getElem?_eq_some_iff.1 (hrep.rest l o hk).1).1
    have := (hr l e).1
    omega
theorem opI_start {w0 w : World} {κ : K} {σ : H} (hrep : Rep w0 κ σ w) (us : List Typ) (z0 : Typ) (t0 t1 t2 t3 : Value) (ht : TyCells κ.m z0 t0 t1 t2 t3) (o : Obj) :
    OpI w0 κ σ w us z0 [] (((w.alloc (.cells #[t0, t1, t2, t3] 30)).alloc (.cells #[.int .i64 0, .string ⟨#[]⟩, .int .i64 0, .slice none 0 0] 30)).alloc o) := by
  obtain ⟨h1, _⟩ := hrep.box (cs := [I z0.k, S z0.name, I z0.n, .c (tysC z0.l)]) (vs := [t0, t1, t2, t3]) 30 (tg := none) (fun T h => by cases h) rfl rfl (fun j hj => by
    rcases (by simp at hj; omega : j = 0 ∨ j = 1 ∨ j = 2 ∨ j = 3) with rfl | rfl | rfl | rfl
    · exact .c ht.1
    · exact .c ht.2.1
    · exact .c ht.2.2.1
    · exact .c ht.2.2.2)
  obtain ⟨h2, _⟩ := h1.box (cs := [I 0, S [], I 0, .csl []]) (vs := [.int .i64 0, .string ⟨#[]⟩, .int .i64 0, .slice none 0 0]) 30 (tg := none) (fun T h => by cases h) rfl rfl (fun j hj => by
    rcases (by simp at hj; omega : j = 0 ∨ j = 1 ∨ j = 2 ∨ j = 3) with rfl | rfl | rfl | rfl
    · exact .c (.int _ _)
    · exact .c (.str [] (by decide))
    · exact .c (.int _ _)
    · exact .csl (RC.sl [] 0 none 0 [] (fun r hr => by cases hr) (by simp) (by decide) rfl (fun h => absurd rfl h) (fun i hi => by simp at hi)))
  have h3 := h2.alloc o
  rw [List.append_assoc] at h3
  refine ⟨_, z0, h3, K.le_trans K.more_le K.more_le, ?_, ?_, rfl, by simp⟩
  · simp [K.more, hrep.n]
  · simp [K.more, hrep.n]
end Go.Proofs.YtpcmcfajfnpjeaaGreatDoor
namespace Go.Proofs.YtpcmcfajfnpjeaaGreatDoor
open Go.RowKit Go.Shelf Go.Lamb
attribute [local go_sem] Oper.semAt_some
theorem opI_step {w0 w W : World} {κ : K} {σ : H} (hrep : Rep w0 κ σ w) {us : List Typ} {z0 : Typ} {pre : List (_root_.Fin us.length)} {c : Code} {l m : Nat} (htr : tr Tryz.prog 16 c = some cOpenBody) (hfc : flatC c = true) (hI : OpI w0 κ σ w us z0 pre W) (x : _root_.Fin us.length)
    (hbd : ∀ z, ZSt us z0 pre z → nearM 2305843009213693952 z = true ∧ nodesM z ≤ 40000 ∧ nodesM us[x] * nodesM z ≤ 40000) (hx1 : x.1 ≤ 100000) (hu : nearM 2305843009213693952 us[x] = true) (hsu : nearM 2305843009213693952 (shiftM 0 (x.1 : Nat) us[x]) = true) (nu : nodesM us[x] ≤ 40000)
    (u0 u1 u2 u3 : Value) (hx : TyCells κ.m us[x] u0 u1 u2 u3) (Bx : Nat) (hBx : w.heap.size + 3 ≤ Bx) (e0 : W.cell? ⟨Bx, 0, none⟩ = some u0) (e1 : W.cell? ⟨Bx, 1, none⟩ = some u1) (e2 : W.cell? ⟨Bx, 2, none⟩ = some u2) (e3 : W.cell? ⟨Bx, 3, none⟩ = some u3)
    (a : Act) (hsz : a.tmps.size = 16) (hd : a.defers = []) (g2 : a.tmps.getD 2 undef = .pointer (some ⟨w.heap.size, 0, none⟩)) (g4 : a.tmps.getD 4 undef = .int .i64 (x.1 : Nat)) (g5 : a.tmps.getD 5 undef = .pointer (some ⟨Bx, 0, none⟩)) :
    c.wpIn (inR l) m Tryz.prog (fun e _ W2 => e = .normal ∧ KeepsFrom w.heap.size W W2 ∧ (∀ b o v, κ.m b o = some v → W2.cell? ⟨b, o, none⟩ = some v) ∧ (∀ o v, W.cell? ⟨w.heap.size + 2, o, none⟩ = some v → W2.cell? ⟨w.heap.size + 2, o, none⟩ = some v) ∧ OpI w0 κ σ w us z0 (pre ++ [x]) W2) a W := by
  obtain ⟨κ1, z, h1, hle1, p0, p1, hz, hsW⟩ := hI
  obtain ⟨b1, b2, b3⟩ := hbd z hz
  have hn1 : κ1.n = σ.length + 2 := by rw [h1.n]; simp [opC]
  have far : ∀ g, w.heap.size + 2 ≤ g → ∀ b (hb : b < (σ ++ opC z).length), ((σ ++ opC z)[b]).lies κ1 b ≠ some g := fun g hg b hb e => by
    have := (op_far hrep hle1 h1 p0 p1 hb e).1
    omega
  have h2 := h1.learnA (g := Bx) (far Bx (by omega))
  have l2 : κ1.le (κ1.learn W Bx) := K.learn_le h1
  have far2 : ∀ g, w.heap.size + 2 ≤ g → ∀ b (hb : b < (σ ++ opC z).length), ((σ ++ opC z)[b]).lies (κ1.learn W Bx) b ≠ some g := fun g hg b hb e => far g hg b hb e
  have q0 : (κ1.learn W Bx).pos σ.length = w.heap.size := p0
  have q1 : (κ1.learn W Bx).pos (σ.length + 1) = w.heap.size + 1 := p1
  generalize hκ2 : κ1.learn W Bx = κ2 at h2 l2 far2 q0 q1
  have h3 := h2.learnA (g := w.heap.size + 2) (far2 _ (Nat.le_refl _))
  have l3 : κ2.le (κ2.learn W (w.heap.size + 2)) := K.learn_le h2
  have mx : ∀ o v, W.cell? ⟨Bx, o, none⟩ = some v → (κ2.learn W (w.heap.size + 2)).m Bx o = some v := fun o v hv => by
    refine l3.m _ _ _ ?_
    rw [← hκ2]
    show (if Bx = Bx then _ else _) = _
    rw [if_pos rfl]; exact hv
  have ms : ∀ o v, W.cell? ⟨w.heap.size + 2, o, none⟩ = some v → (κ2.learn W (w.heap.size + 2)).m (w.heap.size + 2) o = some v := fun o v hv => by
    show (if w.heap.size + 2 = w.heap.size + 2 then _ else _) = _
    rw [if_pos rfl]; exact hv
  generalize hκ3 : κ2.learn W (w.heap.size + 2) = κ3 at h3 l3 mx ms
  have s0 : κ3.pos σ.length = w.heap.size := by rw [← hκ3]; exact q0
  have s1 : κ3.pos (σ.length + 1) = w.heap.size + 1 := by rw [← hκ3]; exact q1
  have l13 : κ1.le κ3 := K.le_trans l2 l3
  have l03 : κ.le κ3 := K.le_trans hle1 l13
  have h4 := h3.setRestA (r := fun k => if w.heap.size ≤ k then (W.heap[k]?).bind (fun o => if o.isCells then none else some o) else κ3.rest k) (lm := W.heap.size) (fun k o e => by
    split at e
    · cases hk : W.heap[k]? with
      | none => rw [hk] at e; cases e
      | some o' =>
        rw [hk] at e
        simp only [Option.bind_some] at e
        split at e
        · cases e
        · rename_i hc
          injection e with e
          subst e
          refine ⟨rfl, by simpa using hc, fun b hb e2 => ?_⟩
          obtain ⟨vs, t, q4⟩ := (op_far hrep l03 h3 s0 s1 hb e2).2 (by assumption)
          rw [q4] at hk
          injection hk with hk
          rw [← hk] at hc
          exact hc rfl
    · exact h3.rest k o e) (Nat.le_refl _)
  have hrest : ∀ k o, w.heap.size ≤ k → W.heap[k]? = some o → o.isCells = false → ({ κ3 with rest := fun k => if w.heap.size ≤ k then (W.heap[k]?).bind (fun o => if o.isCells then none else some o) else κ3.rest k, lim := W.heap.size } : K).rest k = some o := fun k o hk ho hc => by
    show (if _ then _ else _) = _
    rw [if_pos hk, ho]
    simp [hc]
  generalize hκ4 : ({ κ3 with rest := fun k => if w.heap.size ≤ k then (W.heap[k]?).bind (fun o => if o.isCells then none else some o) else κ3.rest k, lim := W.heap.size } : K) = κ4 at h4 hrest
  have v0 : κ4.pos σ.length = w.heap.size := by rw [← hκ4]; exact s0
  have v1 : κ4.pos (σ.length + 1) = w.heap.size + 1 := by rw [← hκ4]; exact s1
  have hm4 : κ4.m = κ3.m := by rw [← hκ4]
  have hlm : κ4.lim = W.heap.size := by rw [← hκ4]
  have hn4 : κ4.n = σ.length + 2 := by rw [h4.n]; simp [opC]
  have hmm : κ.m.le κ4.m := by rw [hm4]; exact l03.m
  have hxx := hx.mono hmm
  have fr0 : κ4.fr σ.length = none := by
    have := h4.blk σ.length (by simp [opC])
    rw [List.getElem_append_right (Nat.le_refl _)] at this
    simp only [Nat.sub_self, opC, List.getElem_cons_zero] at this
    exact this.fr
  have fr1 : κ4.fr (σ.length + 1) = none := by
    have := h4.blk (σ.length + 1) (by simp [opC])
    rw [List.getElem_append_right (by omega)] at this
    simp only [Nat.add_sub_cancel_left, opC, List.getElem_cons_succ, List.getElem_cons_zero] at this
    exact this.fr
  have hRel : Rel w0 κ4 16 κ4 ⟨(((base.put (some 2) (.ptr σ.length 0)).put (some 4) (I (x.1 : Nat))).put (some 5) (.c (.ref [.int .i64 us[x].k, .str us[x].name, .int .i64 us[x].n, .sl (us[x].l.map Typ.cs)] 0))), σ ++ opC z⟩ a W := by
    refine ⟨h4, fun k => ?_, hsz, hd, K.le_refl _⟩
    simp only [put_some]
    by_cases k5 : k = 5
    · subst k5
      simp only [if_true, g5]
      have m0 := mx 0 _ e0
      have m1 := mx 1 _ e1
      have m2 := mx 2 _ e2
      have m3 := mx 3 _ e3
      rw [← hm4] at m0 m1 m2 m3
      exact .c (RC.ref [.int .i64 us[x].k, .str us[x].name, .int .i64 us[x].n, .sl (us[x].l.map Typ.cs)] 0 Bx 0 [u0, u1, u2, u3] rfl (fun k hk => by
        rcases (by simp at hk; omega : k = 0 ∨ k = 1 ∨ k = 2 ∨ k = 3) with rfl | rfl | rfl | rfl
        · exact m0
        · exact m1
        · exact m2
        · exact m3) (fun k hk => by
        rcases (by simp at hk; omega : k = 0 ∨ k = 1 ∨ k = 2 ∨ k = 3) with rfl | rfl | rfl | rfl
        · exact hxx.1
        · exact hxx.2.1
        · exact hxx.2.2.1
        · exact hxx.2.2.2))
    · by_cases k4 : k = 4
      · subst k4
        simp [g4]
        exact .c (.int _ _)
      · by_cases k2 : k = 2
        · subst k2
          simp [g2]
          rw [← v0]
          exact RV.ptr (κ := κ4) (b := σ.length) (o := 0) (by omega) fr0
        · simp [k5, k4, k2]
          exact .any _
  have := code_soundR (l := l) (m := m) hn4 (by kernel_rfl) c cOpenBody htr hfc (open_body w0 σ z us[x] x.1 hx1 (.cells [I 0, S [], I 0, .csl []]) b1 hu hsu nu b2 b3) hRel
  refine wpIn_mono this ?_
  rintro e a2 W2 ⟨s, κ5, hR5, hQ⟩
  cases e with
  | normal =>
    obtain ⟨t, hl, hJ⟩ := Lamb.W.inv_inv hQ
    obtain ⟨κ6, hR6⟩ := hl w0 κ4 16 κ5 a2 W2 hn4 hR5
    have rep := hR6.rep
    have le := hR6.le
    rw [hJ] at rep
    have lim := rep.lim
    rw [le.lim, hlm] at lim
    refine ⟨rfl, ⟨lim, fun k o hk ho hc => ?_⟩, ?_, fun o v hv => ?_, ?_⟩
    · exact (rep.rest k o (by rw [le.rest]; exact hrest k o hk ho hc)).1
    · exact fun b o v hv => rep.mem _ _ _ (le.m _ _ _ (hmm _ _ _ hv))
    · exact rep.mem _ _ _ (le.m _ _ _ (by rw [hm4]; exact ms o v hv))
    · have h6 := rep.setRestA (r := κ.rest) (lm := κ.lim) (fun k o hk => by
        have k0 := hk
        have hk1 : κ3.rest k = some o := by rw [l03.rest]; exact hk
        obtain ⟨a1, a2, a3⟩ := h3.rest k o hk1
        have hlt : k < w.heap.size := (Array.getElem?_eq_some_iff.1 (hrep.rest k o k0).1).1
        have hk6 : κ6.rest k = some o := by
          rw [le.rest, ← hκ4]
          show (if _ then _ else _) = _
          rw [if_neg (by omega)]
          exact hk1
        exact rep.rest k o hk6) (Nat.le_trans hrep.lim (by omega))
      have l46 : ({ κ3 with rest := κ.rest, lim := κ.lim } : K).le { κ6 with rest := κ.rest, lim := κ.lim } := ⟨by rw [← hκ4] at le; exact le.m, by rw [← hκ4] at le; exact le.n, by rw [← hκ4] at le; exact le.cells, by rw [← hκ4] at le; exact le.spare, by rw [← hκ4] at le; exact le.svs, rfl, rfl⟩
      have l36 : κ.le { κ6 with rest := κ.rest, lim := κ.lim } := K.le_trans (b := { κ3 with rest := κ.rest, lim := κ.lim }) ⟨l03.m, l03.n, l03.cells, l03.spare, l03.svs, rfl, rfl⟩ l46
      refine ⟨{ κ6 with rest := κ.rest, lim := κ.lim }, _, h6, l36, ?_, ?_, ?_, Nat.le_trans hsW lim⟩
      · exact (le.cells σ.length (by omega) fr0).2.trans v0
      · exact (le.cells (σ.length + 1) (by omega) fr1).2.trans v1
      · unfold ZSt at hz ⊢
        rw [List.foldl_append, ← hz]
        rfl
  | exit id => exact absurd hQ.choose_spec.1 (by simp [popTo])
  | ret => exact hQ.elim
  | goto l => exact hQ.elim
  | panic c => exact hQ.elim
  | outgrown => exact hQ.elim
end Go.Proofs.YtpcmcfajfnpjeaaGreatDoor
namespace Go.Proofs.YtpcmcfajfnpjeaaGreatDoor
open Go.RowKit Go.Shelf Go.Lamb
attribute [local go_sem] Oper.semAt_some
theorem open_z (us : List Typ) (hl : us.length ≤ 1) (z0 : Typ) (ys : List (_root_.Fin us.length)) (hS : ys.map Fin.val = downTo us.length us.length) : ys.foldl (fun z x => substM 0 (shiftM 0 (x.1 : Nat) us[x]) z) z0 = openI 0 us z0 := by
  have hlen : ys.length = us.length := by
    have := congrArg List.length hS
    rwa [List.length_map, downTo_length] at this
  cases us with
  | nil =>
    have : ys = [] := List.eq_nil_of_length_eq_zero hlen
    subst this
    rfl
  | cons u r =>
    have hr : r = [] := List.eq_nil_of_length_eq_zero (by rw [List.length_cons] at hl; omega)
    subst hr
    cases ys with
    | nil => simp at hlen
    | cons x l =>
      have hl2 : l = [] := List.eq_nil_of_length_eq_zero (by simpa using hlen)
      subst hl2
      have : x = 0 := by omega
      subst this
      rfl
set_option maxRecDepth 100000 in
set_option maxHeartbeats 4000000 in
theorem open_run {w0 w : World} {κ : K} {σ : H} (hrep : Rep w0 κ σ w) (z0 : Typ) (us : List Typ) (hl : us.length ≤ 1)
    (hbd : ∀ u ∈ us, nearM 2305843009213693952 z0 = true ∧ nodesM z0 ≤ 40000 ∧ nodesM u * nodesM z0 ≤ 40000 ∧ nearM 2305843009213693952 u = true ∧ nearM 2305843009213693952 (shiftM 0 0 u) = true ∧ nodesM u ≤ 40000)
    (A : Option Addr) (len cap : Nat) (t0 t1 t2 t3 : Value) (ht : TyCells κ.m z0 t0 t1 t2 t3) (pc : Nat) (po : Nat) (hpc : w.cell? ⟨pc, po, none⟩ = some (.slice A len cap)) (hfv : RC κ.m (tysC us) (.slice A len cap)) :
    Calls Tryz.prog 136 #[.agg #[t0, t1, t2, t3], .pointer (some ⟨pc, po, none⟩)] w (fun e w' => ∃ v κ', e = .returned v ∧ κ.le κ' ∧ Rep w0 κ' σ w' ∧ RV κ' (openI 0 us z0).v v) := by
  obtain ⟨rfl, xs, hx, hxs⟩ := rows_cells hfv
  obtain ⟨b, off, hA, hm⟩ : ∃ b off, (0 < us.length → A = some ⟨b, off, none⟩) ∧ (0 < us.length → ∀ k, k < us.length * 4 → κ.m b (off + k) = some (xs k)) := by
    by_cases h : 0 < us.length
    · obtain ⟨b, o, e, h'⟩ := hx h
      exact ⟨b, o, fun _ => e, fun _ => h'⟩
    · exact ⟨0, 0, fun h' => absurd h' h, fun h' => absurd h' h⟩
  have hm' : ∀ k, k < us.length * 4 → w.cell? ⟨b, off + k, none⟩ = some (xs k) := fun k hk => hrep.mem _ _ _ (hm (by omega) k hk)
  have hb : 0 < us.length → b < w.heap.size := fun h => hrep.mem_lt (hm h 0 (by omega))
  have hpl : pc < w.heap.size := cell_lt hpc
  refine (callsIn_wide (n := 3)).1 ?_
  refine callsIn_of_wp_marks Tryz.func136 rfl trivial ?_ rfl
  simp only [Tryz.ntmps136, List.size_toArray, List.length_cons, List.length_nil, Nat.reduceAdd, Nat.reduceSub, Array.replicate_succ, Array.replicate_zero, List.push_toArray, List.append_toArray, List.nil_append, List.cons_append]
  have hpc1 : ∀ o1 o2, ((w.alloc o1).alloc o2).cell? ⟨pc, po, none⟩ = some (.slice A us.length cap) := fun o1 o2 => cell_alloc_l _ (cell_alloc_l _ hpc)
  gi_wp2_with (refine ⟨trivial, ?_⟩; gi_at_call 137; refine (back_inT Fence.wide 2 trivial rfl _ _ _ _).mono ?_; rintro e w' ⟨rfl, rfl⟩)
  obtain ⟨W0, hW0⟩ : ∃ W0, (((w.alloc (.cells #[t0, t1, t2, t3] 30)).alloc (.cells #[.int .i64 0, .string ⟨#[]⟩, .int .i64 0, .slice none 0 0] 30)).alloc (.cells #[.slice A us.length cap] 28)) = W0 := ⟨_, rfl⟩
  have hI0 : OpI w0 κ σ w us z0 [] W0 := hW0 ▸ opI_start hrep us z0 t0 t1 t2 t3 ht _
  rw [hW0]
  have hsz : W0.heap.size = w.heap.size + 3 := by rw [← hW0]; simp
  have hBel : Below w.heap.size w W0 := by
    rw [← hW0]
    exact (((Below.refl _ w).alloc (Nat.le_refl _) _).alloc (by simp) _).alloc (by simp; omega) _
  have hcD : W0.cell? ⟨w.heap.size + 1 + 1, 0, none⟩ = some (.slice A us.length cap) := by
    rw [← hW0]
    exact World.cell?_alloc_at _ _ _ _ (by simp)
  refine wpIn_rangeFunc_ownH rfl (by omega) (gf := 226) (lb := #[.pointer (some ⟨w.heap.size + 1 + 1, 0, none⟩)]) rfl trivial (enters_of Tryz.func226 (by kernel_rfl) rfl)
    (back_stopsT Fence.wide 2 trivial rfl (by omega) (w.heap.size + 1 + 1) w.heap.size b off us.length cap A hA xs (by omega) hb W0 (by omega) (by omega) hcD (fun j hj => (hBel.cell (p := ⟨b, off + j, none⟩) (hb (by omega))).trans (hm' j hj)))
    KpC.trans (fun W l o o' _ h hc _ => KpC.turn W l o o' h hc) (Below.refl _ _) (fun _ => rfl)
    (OpI w0 κ σ w us z0)
    (fun _ _ _ => False) (opI_own hrep (by omega)) (fun _ _ _ _ _ h => h.elim) hI0
    (fun x a' W => ∃ Bx, w.heap.size + 3 ≤ Bx ∧ W.cell? ⟨Bx, 0, none⟩ = some (xs (x.1 * 4)) ∧ W.cell? ⟨Bx, 1, none⟩ = some (xs (x.1 * 4 + 1)) ∧ W.cell? ⟨Bx, 2, none⟩ = some (xs (x.1 * 4 + 2)) ∧ W.cell? ⟨Bx, 3, none⟩ = some (xs (x.1 * 4 + 3)) ∧ a' = { tmps := #[.agg #[t0, t1, t2, t3], .pointer (some ⟨pc, po, none⟩), .pointer (some ⟨w.heap.size, 0, none⟩), .pointer (some ⟨w.heap.size + 1, 0, none⟩), .int .i64 (x.1 : Nat), .pointer (some ⟨Bx, 0, none⟩), .slice A us.length cap, .func (.func 226) #[] #[.pointer (some ⟨w.heap.size + 1 + 1, 0, none⟩)], .int .i64 (x.1 : Nat), cellsOf4 xs x.1, undef, undef, undef, undef, undef, undef], defers := [] }) ?hAx ?assign ?body ?done ?stop
  case stop =>
    rintro D c pre W _ _ h _
    exact h.elim
  case hAx =>
    rintro x a' _ W W' row ⟨Bx, h1, h2, h3, h4, h5, h6⟩ hg hr
    have hr' : ∀ r, row = some r → ∃ o : Obj, W.heap[r]? = some o ∧ o.isCells = false := fun r e => (hr r e).2
    exact ⟨Bx, h1, cell_kept h2 hg hr', cell_kept h3 hg hr', cell_kept h4 hg hr', cell_kept h5 hg hr', h6⟩
  case assign =>
    intro l pre x W K hi hK
    obtain ⟨k0, k1, k2, k3⟩ := hxs x.1 x.2
    have o0 := k0.one
    have o1 := k1.one
    have o2 := k2.one
    have o3 := k3.one
    have r0 := fun (W : World) (a : Addr) => run_store Tryz.prog W a _ .plain o0
    have r1 := fun (W : World) (a : Addr) => run_store Tryz.prog W a _ .plain o1
    have r2 := fun (W : World) (a : Addr) => run_store Tryz.prog W a _ .plain o2
    have r3 := fun (W : World) (a : Addr) => run_store Tryz.prog W a _ .plain o3
    have hsW : w.heap.size + 3 ≤ W.heap.size := by obtain ⟨_, _, _, _, _, _, _, h⟩ := hi; exact h
    unfold cellsOf4
    gi_wp2
    refine hK _ _ ((KeepsOthers.alloc _ _).from _) ⟨fun v e => cell_alloc_l _ e, fun j _ v e => cell_alloc_l _ e⟩ (opI_own hrep (Nat.le_refl _) _ _ _ none hi (World.grownBy_alloc W _ none) (fun r e => by cases e)) ⟨W.heap.size, hsW, ?_, ?_, ?_, ?_, rfl⟩
    all_goals exact World.cell?_alloc_at _ _ _ _ rfl
  case body =>
    rintro l pre x a' W hl2 hrec hI ⟨Bx, hBx, e0, e1, e2, e3, rfl⟩ hlt
    have hpre : pre = [] := List.eq_nil_of_length_eq_zero (by omega)
    have hx0 : x.1 = 0 := by have := x.2; omega
    obtain ⟨b1, b2, b3, b4, b5, b6⟩ := hbd us[x] (List.getElem_mem _)
    refine wpIn_mono (opI_step hrep (l := l) (m := 3 - 1 - 1) (by kernel_rfl) (by kernel_rfl) hI x (fun z hz => by
      have : z = z0 := by rw [hz, hpre]; rfl
      rw [this]
      exact ⟨b1, b2, b3⟩) (by omega) b4 (by rw [show ((x.1 : Nat) : Int) = 0 by omega]; exact b5) b6 _ _ _ _ (hxs x.1 x.2) Bx hBx e0 e1 e2 e3 _ rfl rfl rfl rfl rfl) ?_
    rintro e a2 W2 ⟨rfl, q1, q2, q3, q4⟩
    refine ⟨⟨q1.size, fun k o hk => q1.same k o (by omega)⟩, ⟨fun v hv => q3 0 v hv, fun j hj v hv => ?_⟩, q4⟩
    obtain ⟨κ1, z, h1, hle, _⟩ := hI
    have hmm := hm (by omega) j hj
    have := h1.mem _ _ _ (hle.m _ _ _ hmm)
    rw [this] at hv
    injection hv with hv
    subst hv
    exact q2 _ _ _ hmm
  case done =>
    rintro D ys W hD hS ⟨κ1, z, h1, hle, p0, p1, hz, hsW⟩ hK
    have y0 := h1.blk σ.length (by simp [opC])
    rw [List.getElem_append_right (Nat.le_refl _)] at y0
    simp only [Nat.sub_self, opC, List.getElem_cons_zero] at y0
    have y1 := h1.blk (σ.length + 1) (by simp [opC])
    rw [List.getElem_append_right (by omega)] at y1
    simp only [Nat.add_sub_cancel_left, opC, List.getElem_cons_succ, List.getElem_cons_zero] at y1
    have y1free := y1.free
    obtain ⟨vs, T, k1, k2, k3⟩ := y0.row
    obtain ⟨us', T', k1', k2', k3'⟩ := y1.row
    rw [p0] at k1
    rw [p1] at k1'
    have hvs : vs.size = 4 := k2
    have hus : us'.size = 4 := k2'
    have cz : TyCells κ1.m z (vs.getD 0 undef) (vs.getD 1 undef) (vs.getD 2 undef) (vs.getD 3 undef) := by
      have a0 := (k3 0 (by simp)).2
      have a1 := (k3 1 (by simp)).2
      have a2 := (k3 2 (by simp)).2
      have a3 := (k3 3 (by simp)).2
      simp only [List.getElem_cons_zero, List.getElem_cons_succ] at a0 a1 a2 a3
      generalize vs.getD 0 undef = c0 at *
      generalize vs.getD 1 undef = c1 at *
      generalize vs.getD 2 undef = c2 at *
      generalize vs.getD 3 undef = c3 at *
      cases a0 with | c a0 => cases a1 with | c a1 => cases a2 with | c a2 => cases a3 with | c a3 => exact ⟨a0, a1, a2, a3⟩
    have q : ∀ j, j < 4 → W.cell? ⟨w.heap.size, j, none⟩ = some (vs.getD j undef) := fun j hj => by
      rw [Lib.cell_of_heap k1 j, Array.getElem?_eq_getElem (by omega)]
      simp [Array.getD, hvs, hj]
    have q0 := q 0 (by omega)
    have q1 := q 1 (by omega)
    have q2 := q 2 (by omega)
    have q3 := q 3 (by omega)
    have g : ∀ j, j < 4 → W.cell? ⟨w.heap.size + 1, j, none⟩ = some (us'.getD j undef) := fun j hj => by
      rw [Lib.cell_of_heap k1' j, Array.getElem?_eq_getElem (by omega)]
      simp [Array.getD, hus, hj]
    have g0 := g 0 (by omega)
    have g1 := g 1 (by omega)
    have g2 := g 2 (by omega)
    have g3 := g 3 (by omega)
    have e0 := Lib.frozen_of_heap k1' 0
    have e1 := Lib.frozen_of_heap k1' 1
    have e2 := Lib.frozen_of_heap k1' 2
    have e3 := Lib.frozen_of_heap k1' 3
    generalize vs.getD 0 undef = c0 at *
    generalize vs.getD 1 undef = c1 at *
    generalize vs.getD 2 undef = c2 at *
    generalize vs.getD 3 undef = c3 at *
    have o0 := cz.1.one
    have o1 := cz.2.1.one
    have o2 := cz.2.2.1.one
    have o3 := cz.2.2.2.one
    have r0 := fun (W : World) (a : Addr) => run_store Tryz.prog W a _ .plain o0
    have r1 := fun (W : World) (a : Addr) => run_store Tryz.prog W a _ .plain o1
    have r2 := fun (W : World) (a : Addr) => run_store Tryz.prog W a _ .plain o2
    have r3 := fun (W : World) (a : Addr) => run_store Tryz.prog W a _ .plain o3
    clear q g k3 k3' y0 y1 hxs hx hm hm'
    gi_wp2
    have hK' : (set4 W (w.heap.size + 1) c0 c1 c2 c3).heap[D]? = some (.deferred (some [])) := (set4_keeps (W := W) (B := w.heap.size + 1) (a := c0) (b := c1) (c := c2) (d := c3)).same D _ hK rfl
    obtain ⟨n0, n1, n2, n3⟩ := set4_in (a := c0) (b := c1) (c := c2) (d := c3) g0 g1 g2 g3
    refine ⟨by simp, .inl ⟨_, _, rfl, run_takeDeferred hK', ?_⟩⟩
    have hp : ∀ {a : Addr} {v : Value}, (set4 W (w.heap.size + 1) c0 c1 c2 c3).cell? a = some v → ((set4 W (w.heap.size + 1) c0 c1 c2 c3).putObj D (.deferred none)).cell? a = some v := fun h => cell_kept h (grownBy_putObj' _ D (.deferred none)) (fun r e => by cases e; exact ⟨_, hK', rfl⟩)
    have hws := hrep.ext.size
    have hcut := h1.cut σ.length (by simp) (by rw [List.take_left]; exact hrep.ok)
    rw [List.take_left] at hcut
    have hlow : ∀ b (hb : b < σ.length) gg, (σ[b]).lies (κ1.cut σ.length) b = some gg → gg < w.heap.size := fun b hb gg hl2 => by
      have e : (σ[b]).lies (κ1.cut σ.length) b = (σ[b]).lies κ b := lies_le hrep hle h1 hb
      rw [e] at hl2
      exact (hrep.lies_lt hb hl2).2
    have hrst : ∀ k o, (κ1.cut σ.length).rest k = some o → k < w.heap.size := fun k o hk => by
      have hk2 : κ1.rest k = some o := hk
      rw [hle.rest] at hk2
      exact (Array.getElem?_eq_some_iff.1 (hrep.rest k o hk2).1).1
    have hpk := hcut.poke (w' := set4 W (w.heap.size + 1) c0 c1 c2 c3) (g := w.heap.size + 1) ⟨rfl, rfl, rfl, by rw [set4_size]; exact Nat.le_refl _, fun k hk hne => by
        have hne : k ≠ w.heap.size + 1 := fun e => hne (by rw [e])
        unfold set4 World.setCell
        simp [Array.getElem?_modify, Ne.symm hne]⟩ (set4_below h1.ext (by omega)) (fun o => by rw [← p1]; exact y1free o) (fun b hb hl2 => by have := hlow b hb _ hl2; omega) (by
        cases hk : (κ1.cut σ.length).rest (w.heap.size + 1) with
        | none => rfl
        | some o => have := hrst _ _ hk; omega)
    have hkp := hpk.kept (grownBy_putObj' (set4 W (w.heap.size + 1) c0 c1 c2 c3) D (.deferred none)) (fun r e => by cases e; exact ⟨by omega, _, hK', rfl⟩) (fun b hb gg hl2 e => by injection e with e; have := hlow b hb _ hl2; omega) (fun k o hk e => by injection e with e; have := hrst k o hk; omega)
    change LeavesInM _ _ _ _ _ _ _ _ ((set4 W (w.heap.size + 1) c0 c1 c2 c3).putObj D (.deferred none))
    generalize hWf : (set4 W (w.heap.size + 1) c0 c1 c2 c3).putObj D (.deferred none) = Wf at *
    have u0 := hp n0
    have u1 := hp n1
    have u2 := hp n2
    have u3 := hp n3
    have hres : (loadVar 30 ⟨w.heap.size + 1, 0, none⟩).run Tryz.prog Wf = .ok (.agg #[c0, c1, c2, c3]) Wf := by
      obtain ⟨i0, hi, hz0, hz1, hz2⟩ := info_parts tmInfo
      have := run_loadCells (P := Tryz.prog) Wf ⟨w.heap.size + 1, 0, none⟩ 4 (fun j => [c0, c1, c2, c3].getD j undef) (fun j hj => by
        rw [add_lit, Nat.zero_add]
        rcases (by omega : j = 0 ∨ j = 1 ∨ j = 2 ∨ j = 3) with rfl | rfl | rfl | rfl
        · exact u0
        · exact u1
        · exact u2
        · exact u3)
      simp only [loadVar, Sem.run_bind, Sem.run_pure, Result.andThen_ok, Go.Lamb.run_isAgg Tryz.underlying30, isAggD, if_true, Go.Lamb.run_sizeOf hi, hz1, this]
      rfl
    refine ⟨.agg #[c0, c1, c2, c3], by simp [results, Tryz.f136, asAddr, hres], _, κ1.cut σ.length, rfl, K.cut_le hle (by rw [hrep.n]; exact Nat.le_refl _), hkp, ?_⟩
    have hzz : z = openI 0 us z0 := by
      rw [hz]
      exact open_z us hl z0 ys hS
    rw [← hzz]
    refine RV.agg (xs := [c0, c1, c2, c3]) rfl fun j hj => ?_
    rcases (by simp at hj; omega : j = 0 ∨ j = 1 ∨ j = 2 ∨ j = 3) with rfl | rfl | rfl | rfl
    · exact .c cz.1
    · exact .c cz.2.1
    · exact .c cz.2.2.1
    · exact .c cz.2.2.2
end Go.Proofs.YtpcmcfajfnpjeaaGreatDoor
namespace Go.Proofs.YtpcmcfajfnpjeaaGreatDoor
open Go.RowKit Go.Shelf Go.Lamb
theorem clause_Open2 (w0 : World) (z0 : Typ) (us : List Typ) (hl : us.length ≤ 1)
    (hbd : ∀ u ∈ us, nearM 2305843009213693952 z0 = true ∧ nodesM z0 ≤ 40000 ∧ nodesM u * nodesM z0 ≤ 40000 ∧ nearM 2305843009213693952 u = true ∧ nearM 2305843009213693952 (shiftM 0 0 u) = true ∧ nodesM u ≤ 40000)
    (σ : H) (b o : Nat) (cs : List V) (tg : Option TypeId) (hb : σ[b]? = some (.cells cs tg)) (y : V) (hy : cs[o]? = some y) (hw : V.wk y (.c (tysC us))) : DC Tryz.prog w0 136 [z0.v, .ptr b o] σ (Same (openI 0 us z0).v σ) := by
  refine ⟨enters_fn Tryz.func136 (by kernel_rfl) rfl, fun κ w vs hrep hfit => ?_⟩
  obtain ⟨v, ys, rfl, hv, hfit⟩ := hfit.cons_inv
  obtain ⟨u, zs, rfl, hu, hfit⟩ := hfit.cons_inv
  have := hfit.nil_inv
  subst this
  have hu' : u = .pointer (some ⟨κ.pos b, o, none⟩) := by cases hu; rfl
  subst hu'
  obtain ⟨hlt, hb'⟩ := List.getElem?_eq_some_iff.1 hb
  obtain ⟨hlo, ho'⟩ := List.getElem?_eq_some_iff.1 hy
  have hblk := hrep.blk b hlt
  rw [hb'] at hblk
  obtain ⟨vs, T, k1, k2, k3⟩ := hblk.row
  have hk := (k3 o hlo).2
  rw [ho'] at hk
  have hk := RV.wk hw hk
  have hc : w.cell? ⟨κ.pos b, o, none⟩ = some (vs.getD o undef) := by
    rw [Lib.cell_of_heap k1 o, Array.getElem?_eq_getElem (by omega)]
    simp [Array.getD, k2, hlo]
  generalize vs.getD o undef = q at hk hc
  unfold Typ.v at hv
  cases hv with
  | agg h h1 =>
    rename_i xs
    match xs, h with
    | [x0, x1, x2, x3], _ =>
      have e0 := h1 0 (by simp)
      have e1 := h1 1 (by simp)
      have e2 := h1 2 (by simp)
      have e3 := h1 3 (by simp)
      cases hk with
      | c hk =>
        have hk' := hk
        unfold tysC at hk
        cases hk with
        | sl rows s A cap xs h0 h1 h2 h3 h4 h5 =>
          cases e0 with
          | c e0 =>
            cases e1 with
            | c e1 =>
              cases e2 with
              | c e2 =>
                cases e3 with
                | c e3 =>
                  refine (open_run hrep z0 us hl hbd A _ cap _ _ _ _ ⟨e0, e1, e2, e3⟩ _ _ hc hk').mono ?_
                  rintro e w' ⟨v, κ', rfl, q1, q2, q3⟩
                  exact ⟨v, _, σ, κ', rfl, ⟨rfl, rfl⟩, q1, q2, q3⟩
end Go.Proofs.YtpcmcfajfnpjeaaGreatDoor
namespace Go.Proofs.YtpcmcfajfnpjeaaGreatDoor
open Go.RowKit Go.Lamb

theorem size_builder : (Tryz.prog.info? 123).map (·.size) = some 2 := by kernel_rfl
theorem lies_builder : liesAt Tryz.prog Tryz.prog.depth 196 (3 / Tryz.prog.cellsOf 196) 1 123 1 = true := by kernel_rfl
set_option maxHeartbeats 1000000 in
set_option maxRecDepth 100000 in
theorem copyCheck_used (w : World) (p : Nat) (h0 : w.cell? ⟨p, 1, none⟩ = some (.pointer (some ⟨p, 1, none⟩))) :
    Calls Tryz.prog 175 #[.pointer (some ⟨p, 1, none⟩)] w fun e w' => e = .returned (.tuple #[]) ∧ w' = w := by
  obtain ⟨j, hj, _⟩ := Option.map_eq_some_iff.1 size_builder
  go_enter Tryz.func175, Tryz.ntmps175
  go_wp2
  rw [Lib.run_neq_ptr_same w _ Tryz.underlying120 hj]
  go_wp2
  go_end0
  exact ⟨rfl, rfl⟩
set_option maxHeartbeats 1000000 in
set_option maxRecDepth 100000 in
theorem copyCheck_fresh (w : World) (p : Nat) (h0 : w.cell? ⟨p, 1, none⟩ = some (.pointer none)) (hsh : w.shape? p = some (196, 3)) (hfz : w.frozen? ⟨p, 1, none⟩ = false) :
    Calls Tryz.prog 175 #[.pointer (some ⟨p, 1, none⟩)] w fun e w' => e = .returned (.tuple #[]) ∧ w' = w.setCell ⟨p, 1, none⟩ (.pointer (some ⟨p, 1, none⟩)) := by
  obtain ⟨j, hj, hjs⟩ := Option.map_eq_some_iff.1 size_builder
  go_enter Tryz.func175, Tryz.ntmps175
  go_wp2
  rw [Lib.run_to_unsafe w ⟨p, 1, none⟩ Tryz.underlying120 Tryz.underlying265 hj (by rw [hjs]; decide) hsh (show 1 < 3 by decide)]
  simp only [Result.andThen]
  rw [Oper.upon_value]
  go_wp2
  rw [run_callFunc_extern Tryz.func249 (by kernel_rfl) (by kernel_rfl) (by kernel_rfl) (e := Extern.AbiNoEscape.same) (by kernel_rfl)]
  rw [Lib.run_noEscape]
  simp only [Result.andThen]
  rw [Oper.upon_value]
  go_wp2
  rw [Lib.run_from_unsafe w ⟨p, 1, none⟩ Tryz.underlying265 Tryz.underlying120 hj hsh lies_builder]
  simp only [Result.andThen]
  rw [Oper.upon_value]
  go_wp2
  go_end0
  exact ⟨rfl, rfl⟩
theorem setCell_row {w : World} {p o : Nat} {vs : Array Value} {t : TypeId} {fr : Nat × Nat} (h : w.heap[p]? = some (.cells vs t fr)) (v : Value) : w.setCell ⟨p, o, none⟩ v = w.setRow p (vs.setIfInBounds o v) := by
  unfold World.setCell World.setRow
  congr 1
  apply Array.ext_getElem?
  intro i
  rw [Array.getElem?_modify, Array.getElem?_modify]
  by_cases hi : p = i
  · subst hi
    rw [if_pos rfl, if_pos rfl, h]
    rfl
  · rw [if_neg hi, if_neg hi]
theorem copyCheckD (w0 : World) (σ : H) (b : Nat) (x A y : V) (hb : σ[b]? = some (.cells [x, A, y] (some 196))) (hA : A = .c .nilp ∨ A = .ptr b 1) :
    DC Tryz.prog w0 175 [.ptr b 1] σ (fun d σ' => d = .tup [] ∧ σ' = σ.set b (.cells [x, .ptr b 1, y] (some 196))) := by
  refine ⟨enters_fn Tryz.func175 (by kernel_rfl) rfl, fun κ w vs hrep hfit => ?_⟩
  obtain ⟨v, ys, rfl, hv, hfit⟩ := hfit.cons_inv
  have := hfit.nil_inv
  subst this
  obtain ⟨hlt, hb'⟩ := List.getElem?_eq_some_iff.1 hb
  have hblk := hrep.blk b hlt
  rw [hb'] at hblk
  obtain ⟨us, T, k1, k2, k3⟩ := hblk.row
  obtain ⟨us', k4⟩ := hblk.ty _ rfl
  have hT : T = 196 := by rw [k1] at k4; injection k4 with k4; injection k4
  subst hT
  have k2 : us.size = 3 := k2
  have hc1 : w.cell? ⟨κ.pos b, 1, none⟩ = us[1]? := Lib.cell_of_heap k1 1
  have hu1 : us[1]? = some (us.getD 1 undef) := by rw [Array.getElem?_eq_getElem (by omega)]; simp [Array.getD, k2]
  have h1 := (k3 1 (by simp)).2
  have hvp : v = .pointer (some ⟨κ.pos b, 1, none⟩) := by cases hv; rfl
  subst hvp
  have hn : κ.n = σ.length := hrep.n
  rcases hA with rfl | rfl
  · have h2 : us.getD 1 undef = .pointer none := by
      generalize us.getD 1 undef = z at h1
      cases h1 with | c h => cases h; rfl
    refine (copyCheck_fresh w (κ.pos b) (by rw [hc1, hu1, h2]) (by simp [World.shape?, k1, k2]) (Lib.frozen_of_heap k1 1)).mono ?_
    rintro e w' ⟨rfl, rfl⟩
    refine ⟨_, .tup [], _, κ, rfl, ⟨rfl, rfl⟩, K.le_refl κ, ?_, .tup rfl (fun j hj => absurd hj (Nat.not_lt_zero _))⟩
    rw [setCell_row k1]
    have hw := hrep.wrote (cs' := [x, .ptr b 1, y]) (vs := (us.setIfInBounds 1 (.pointer (some ⟨κ.pos b, 1, none⟩))).toList) hb (by
      have l0 := (k3 0 (by simp)).1; have l2 := (k3 2 (by simp)).1
      simp only [List.getElem_cons_zero, List.getElem_cons_succ] at l0 l2
      unfold leaves
      simp only [List.all_cons, List.all_nil, l0, l2]
      rfl) (by simp [k2]) (fun j hj => by
      have r0 := (k3 0 (by simp)).2; have r2 := (k3 2 (by simp)).2
      match j, hj with
      | 0, _ => simpa [List.getD, Array.getD, k2] using r0
      | 1, _ => simpa [List.getD, k2] using RV.ptr (κ := κ) (b := b) (o := 1) (by omega) hblk.fr
      | 2, _ => simpa [List.getD, Array.getD, k2] using r2)
    rwa [Array.toArray_toList] at hw
  · have h2 : us.getD 1 undef = .pointer (some ⟨κ.pos b, 1, none⟩) := by
      generalize us.getD 1 undef = z at h1
      cases h1; rfl
    refine (copyCheck_used w (κ.pos b) (by rw [hc1, hu1, h2])).mono ?_
    rintro e w' ⟨rfl, rfl⟩
    refine ⟨_, .tup [], σ, κ, rfl, ⟨rfl, ?_⟩, K.le_refl κ, hrep, .tup rfl (fun j hj => absurd hj (Nat.not_lt_zero _))⟩
    apply List.ext_getElem?
    intro i
    rw [List.getElem?_set]
    by_cases hi : b = i
    · subst hi; rw [if_pos rfl, if_pos hlt, hb]
    · rw [if_neg hi]
end Go.Proofs.YtpcmcfajfnpjeaaGreatDoor
namespace Go.Proofs.YtpcmcfajfnpjeaaGreatDoor
open Go.RowKit Go.Lamb
def c86 : AC := .seq (.reg [.o 4 (.mov (.k (.c (.int .i64 0)))),.o 5 (.mov (.k (.c (.nili))))]) (.seq (.reg [.m 6 0,.k 7 175 [(.t 6)]]) (.seq (.reg [.m 8 0,.m 9 0,.n 10 9,.f 11 1 10,.l 12 11,.m 13 1,.o 14 (.appS 5 1 (.t 12) (.t 13)),.n 15 8,.f 16 1 15,.s 1 16 14]) (.seq (.reg [.m 17 1,.o 18 (.lens (.t 17)),.m 4 18,.o 5 (.mov (.k (.c (.nili))))]) (.ret))))
def r86 : List ResV := [.tmp 4, .tmp 5]
theorem k86 : CodeIs Tryz.prog 86 2 Tryz.f86 c86 r86 := .auto Tryz.func86
def c242 : AC := .seq (.reg [.o 4 (.mov (.k (.c (.nili))))]) (.seq (.reg [.m 5 0,.k 6 175 [(.t 5)]]) (.seq (.reg [.m 7 0,.m 8 0,.n 9 8,.f 10 1 9,.l 11 10,.m 12 1,.o 13 (.bsl 1 [(.t 12)]),.o 14 (.app 5 1 1 (.t 11) (.t 13)),.n 15 7,.f 16 1 15,.s 1 16 14]) (.seq (.reg [.o 4 (.mov (.k (.c (.nili))))]) (.ret))))
def r242 : List ResV := [.tmp 4]
theorem k242 : CodeIs Tryz.prog 242 2 Tryz.f242 c242 r242 := .auto Tryz.func242
--absent /-- (*strings.Builder).Len -/
end Go.Proofs.YtpcmcfajfnpjeaaGreatDoor
namespace Go.Proofs.YtpcmcfajfnpjeaaGreatDoor
open Go.RowKit Go.Lamb
attribute [local go_sem] advO_skip advO_reg advO_seq advO_block advO_exit advO_endb advO_opsNil advO_ops advG_yes advG_no advG_none advS_some advS_none advO_cond advO_loop advO_dreg advO_ret advO_bad advO_inv advO_nil advO_zero wantedV Lamb.step ev_t ev_k put_some put_none argEnv popTo cellsAt V.cellsV V.rows V.sub V.toC toCs fillV bytesC byteRows appV rowsV boundV boundL binV binInt binStr eqC eqL V.isNil leaves V.leaf Ins.quiet Ins.pure List.getD_cons_zero List.getD_cons_succ List.getD_nil List.all_cons List.all_nil List.length_cons List.length_nil List.take_succ_cons List.take_zero List.drop_succ_cons List.drop_zero List.cons_append List.nil_append List.append_nil List.append_assoc List.map_cons List.map_nil List.getElem?_cons_zero List.getElem?_cons_succ List.length_append List.length_set hget0 hget hset0 hset hsets hgs0 hgs hss0 hss List.set_cons_zero List.set_cons_succ List.forall_mem_cons List.not_mem_nil false_implies implies_true Option.map_some Bool.and_true Bool.true_and Bool.not_not Bool.not_true Bool.not_false Bool.and_self Bool.or_true Bool.true_or Bool.or_false Bool.false_or Bool.and_false Bool.false_and Bool.false_eq_true beq_self_eq_true and_self and_true true_and if_true if_false Nat.zero_add Nat.add_zero Nat.le_refl Int.toNat_natCast decide_true decide_false beq_t beq_f List.length_map List.getElem?_map I S B opsC toksC OpT.v OpT.cs OpT.zero Tok.v Tok.cs Pre.v Pre.cs_eq k_mk name_mk n_mk l_mk pos_mk Pre.app applyL natCast0 natCast1 natCast2 AOp.o AOp.m AOp.f AOp.l AOp.d AOp.n AOp.x AOp.s AOp.k AOp.y AOp.z EOp.q low_c low_void low_any low_csl low_nilf low_ptr low_osl low_agg low_tup low_fn resEval advPO_nil advPO_loud advPO_quiet pL_yes pL_no pLS_some pLS_none pQ_yes pQ_no pQS_some pQS_loud eq_self Nat.sub_zero
def wrC (l : List OpT) (A : V) (v : Nat) (s : List UInt8) : Blk := .cells [.c (opsC l), A, .osl v (byteRows s)] (some 196)
def wrY (s : List UInt8) : Blk := .spare 5 1 s.length
abbrev wrs (σ : H) (b v : Nat) (l : List OpT) (A : V) (s : List UInt8) : H := rs σ b v (wrC l A v s) (wrY s)
theorem wrs_ok {σ : H} {b v : Nat} (D : Two σ b v) {X Y : Blk} (h : H.ok (rs σ b v X Y)) (l : List OpT) (s : List UInt8) : H.ok (wrs σ b v l (.ptr b 1) s) :=
  rs_ok D h (fun cs tg hc x hx => by
    unfold wrC at hc
    injection hc with hc _
    subst hc
    simp only [List.mem_cons, List.not_mem_nil, or_false] at hx
    rcases hx with rfl | rfl | rfl
    · exact .c _
    · exact .ptr D.lb
    · exact .osl D.lv) (fun cs tg hc => by unfold wrY at hc; cases hc)
theorem copyCheckW (w0 : World) (σ : H) (b v : Nat) (D : Two σ b v) (l : List OpT) (A : V) (hA : A = .c .nilp ∨ A = .ptr b 1) (s : List UInt8) :
    DC Tryz.prog w0 175 [.ptr b 1] (wrs σ b v l A s) (Same (.tup []) (wrs σ b v l (.ptr b 1) s)) :=
  (copyCheckD w0 _ b _ A _ (rs_b D _ _) hA).mono fun d σ' ⟨h1, h2⟩ => ⟨h1, by rw [h2]; exact rs_sb D _ _ _⟩
theorem wrs_push (σ : H) (b v : Nat) (l : List OpT) (A : V) (s t : List UInt8) : wrs σ b v l A (s ++ t) = rs σ b v (.cells [.c (opsC l), A, .osl v (byteRows s ++ byteRows t)] (some 196)) (.spare 5 1 (s.length + t.length)) := by
  show rs σ b v (wrC l A v (s ++ t)) (wrY (s ++ t)) = _
  simp only [wrC, wrY, byteRows, List.map_append, List.length_append]
attribute [local go_sem] wrC wrY rs_len rs_g0 rs_g rs_s0 rs_s rs_sv
theorem builder_WriteString (w0 : World) (σ : H) (b v : Nat) (D : Two σ b v) (l : List OpT) (A : V) (hA : A = .c .nilp ∨ A = .ptr b 1) (s t : List UInt8) (hn : s.length + t.length ≤ 100000000) :
    DC Tryz.prog w0 86 [.ptr b 1, S t] (wrs σ b v l A s) (Same (.tup [I t.length, .c .nili]) (wrs σ b v l (.ptr b 1) (s ++ t))) := by
  refine k86.go rfl (fun hok hsz => ?_)
  have hok2 := wrs_ok D hok l (s ++ t)
  rw [wrs_push] at hok2 ⊢
  have hl1 : (byteRows s).length = s.length := by simp [byteRows]
  have hl2 : (byteRows t).length = t.length := by simp [byteRows]
  have hr : ∀ r ∈ t.map (fun b => [C.int .u8 b.toNat]), r.length = 1 := fun r hr => by
    obtain ⟨c, _, rfl⟩ := List.mem_map.1 hr
    rfl
  have hb1 : (s.length + t.length) * 1 ≤ 140737488355328 := by omega
  have hb2 : s.length + t.length ≤ 140737488355328 := by omega
  ((try refine W.a ?_); simp only [go_sem, seval, reduceCtorEq, c86, rsA D])
  (refine W.c1 (copyCheckW w0 σ b v D l A hA s) ?_; simp only [go_sem, seval, reduceCtorEq])
  ((try refine W.a ?_); simp only [go_sem, seval, reduceCtorEq, rsA D, hl1, hl2, eq_true hr, hb1, hb2])
  (refine W.fs (hok2) (by simp only [r86, go_sem, seval, reduceCtorEq]; rfl) ?_; simp only [resV]; try exact V.wk.rfl _)
theorem builder_WriteByte (w0 : World) (σ : H) (b v : Nat) (D : Two σ b v) (l : List OpT) (A : V) (hA : A = .c .nilp ∨ A = .ptr b 1) (s : List UInt8) (t : UInt8) (hn : s.length + 1 ≤ 100000000) :
    DC Tryz.prog w0 242 [.ptr b 1, .c (.int .u8 t.toNat)] (wrs σ b v l A s) (Same (.c .nili) (wrs σ b v l (.ptr b 1) (s ++ [t]))) := by
  refine k242.go rfl (fun hok hsz => ?_)
  have hok2 := wrs_ok D hok l (s ++ [t])
  rw [wrs_push] at hok2 ⊢
  have hl1 : (byteRows s).length = s.length := by simp [byteRows]
  have hb1 : (s.length + 1) * 1 ≤ 140737488355328 := by omega
  have hb2 : s.length + 1 ≤ 140737488355328 := by omega
  ((try refine W.a ?_); simp only [go_sem, seval, reduceCtorEq, c242, rsA D])
  (refine W.c1 (copyCheckW w0 σ b v D l A hA s) ?_; simp only [go_sem, seval, reduceCtorEq])
  ((try refine W.a ?_); simp only [go_sem, seval, reduceCtorEq, rsA D, hl1, hb1, hb2])
  (refine W.fs (hok2) (by simp only [r242, go_sem, seval, reduceCtorEq]; rfl) ?_; simp only [resV]; try exact V.wk.rfl _)
end Go.Proofs.YtpcmcfajfnpjeaaGreatDoor
namespace Go.Proofs.YtpcmcfajfnpjeaaGreatDoor
open Go.RowKit Go.Lamb
theorem cells_byte : Tryz.prog.cellsOf 5 = 1 := by kernel_rfl
set_option maxHeartbeats 1000000 in
set_option maxRecDepth 100000 in
theorem string_row (w : World) (p g cap cells : Nat) (s : List UInt8) (h0 : s ≠ []) (hc : cap ≠ 0) (hn : s.length ≤ cells) (h63 : s.length ≤ 9223372036854775807)
    (h2 : w.cell? ⟨p, 2, none⟩ = some (.slice (some ⟨g, 0, none⟩) s.length cap)) (hsh : w.shape? g = some (5, cells)) (hcell : ∀ j x, s[j]? = some x → w.cell? ((⟨g, 0, none⟩ : Addr).add j) = some (.int .u8 x.toNat)) :
    Calls Tryz.prog 87 #[.pointer (some ⟨p, 1, none⟩)] w fun e w' => e = .returned (.string ⟨s.toArray⟩) ∧ w' = w.drew.freeze ⟨g, 0, none⟩ s.length := by
  have c1 : w.drew.cell? ⟨p, 2, none⟩ = some (.slice (some ⟨g, 0, none⟩) s.length cap) := h2
  have hSD : (Builtin.unsafeSliceData_ #[121] 212 #[.slice (some ⟨g, 0, none⟩) s.length cap]).run Tryz.prog w.drew = .ok (.pointer (some ⟨g, 0, none⟩)) w.drew :=
    Lib.run_unsafeSliceData_row _ _ _ _ _ _ hc
  have hUS : (Builtin.unsafeString_ #[212, 3] 9 #[.pointer (some ⟨g, 0, none⟩), .int .i64 s.length]).run Tryz.prog w.drew = .ok (.string ⟨s.toArray⟩) (w.drew.freeze ⟨g, 0, none⟩ s.length) :=
    Lib.run_unsafeString_row w.drew 212 3 9 5 Tryz.underlying212 cells_byte g cells hsh s h0 hn h63 hcell
  go_enter Tryz.func87, Tryz.ntmps87
  go_wp2
  go_region
  all_goals (go_wp2; go_ret; exact ⟨rfl, rfl⟩)
theorem rc_sl {m : Mem} {rows : List (List C)} {B : Option Addr} {n cap : Nat} (h : RC m (.sl rows) (.slice B n cap)) : n = rows.length ∧ ∃ (sz : Nat) (xs : List Value), (∀ r ∈ rows, r.length = sz) ∧ xs.length = rows.length * sz ∧ (rows ≠ [] → ∃ b o, B = some ⟨b, o, none⟩ ∧ ∀ k, k < xs.length → m b (o + k) = xs[k]?) ∧ ∀ i (hi : i < rows.length) j (hj : j < rows[i].length), RC m rows[i][j] (xs.getD (i * sz + j) undef) := by
  cases h with
  | sl _ sz _ _ xs z0 z1 z2 z3 z4 z5 => exact ⟨rfl, sz, xs, z0, z3, z4, z5⟩
theorem builder_String (w0 : World) (σ : H) (b v : Nat) (D : Two σ b v) (l : List OpT) (A : V) (s : List UInt8) (h0 : s ≠ []) :
    DC Tryz.prog w0 87 [.ptr b 1] (wrs σ b v l A s) (fun d σ' => d = S s ∧ σ' = rs σ b v (wrC l A v s) .gone) := by
  refine ⟨enters_fn Tryz.func87 (by kernel_rfl) rfl, fun κ w vs hrep hfit => ?_⟩
  obtain ⟨p, ys, rfl, hp, hfit⟩ := hfit.cons_inv
  have := hfit.nil_inv
  subst this
  have hvp : p = .pointer (some ⟨κ.pos b, 1, none⟩) := by cases hp; rfl
  subst hvp
  have hgb := rs_b D (wrC l A v s) (wrY s)
  have hgv := rs_v D (wrC l A v s) (wrY s)
  obtain ⟨hltb, hb'⟩ := List.getElem?_eq_some_iff.1 hgb
  obtain ⟨hltv, hv'⟩ := List.getElem?_eq_some_iff.1 hgv
  have hB := hrep.blk b hltb
  have hV := hrep.blk v hltv
  rw [hb'] at hB
  rw [hv'] at hV
  obtain ⟨us, T, k1, k2, k3⟩ := hB.row
  have k2 : us.size = 3 := k2
  have r2 := (k3 2 (by simp)).2
  have hlr : (byteRows s).length = s.length := by simp [byteRows]
  have hpos : 0 < s.length := List.length_pos_iff.2 h0
  have hu2 : us[2]? = some (us.getD 2 undef) := by rw [Array.getElem?_eq_getElem (by omega)]; simp [Array.getD, k2]
  have hc2 : w.cell? ⟨κ.pos b, 2, none⟩ = us[2]? := Lib.cell_of_heap k1 2
  generalize us.getD 2 undef = u at r2 hu2
  cases r2 with
  | osl hr q1 q2 q3 q4 q5 =>
    have hfr : κ.fr v = some s.length := hV.fr
    rw [hfr] at q2
    injection q2 with q2
    subst q2
    have hu := q4 hlr
    rcases hV.row with ⟨hz, _⟩ | ⟨xs, hown⟩
    · omega
    rcases hown.2 with ⟨_, hz⟩ | ⟨g, cap, cur, hsv, hbg, hg, hnc, hcm, hcs, htake⟩
    · omega
    rw [hsv] at hu
    subst hu
    have hcap : cap ≠ 0 := by omega
    have hcell : ∀ j x, s[j]? = some x → w.cell? ((⟨g, 0, none⟩ : Addr).add j) = some (.int .u8 x.toNat) := fun j x hx => by
      obtain ⟨hj, hx⟩ := List.getElem?_eq_some_iff.1 hx
      rw [Lib.add_plain, Nat.zero_add]
      obtain ⟨_, sz, ws, z0, z3, z4, z5⟩ := rc_sl hr
      obtain ⟨b', o', hA', hm⟩ := z4 (fun e => by rw [e] at hlr; simp at hlr; omega)
      injection hA' with hA'
      injection hA' with e1 e2
      subst e1 e2
      have hrj : (byteRows s)[j]'(by omega) = [C.int .u8 x.toNat] := by simp only [byteRows, List.getElem_map, hx]
      have hsz : sz = 1 := by
        have := z0 _ (List.getElem_mem (show j < (byteRows s).length by omega))
        rw [hrj] at this
        exact this.symm
      subst hsz
      have hjw : j < ws.length := by rw [z3]; omega
      have h5 := z5 j (by omega) 0 (by rw [hrj]; exact Nat.zero_lt_one)
      have h7 := hm j hjw
      rw [List.getElem?_eq_getElem hjw, Nat.zero_add] at h7
      rw [hrep.mem _ _ _ h7]
      have e3 : ws.getD (j * 1 + 0) undef = ws[j] := by simp [List.getD, hjw]
      rw [e3] at h5
      simp only [hrj, List.getElem_cons_zero] at h5
      generalize ws[j] = y at h5
      cases h5
      rfl
    unfold maxLen at hcm
    refine (string_row w (κ.pos b) g cap cur.size s h0 hcap (by omega) (by omega) (by rw [hc2, hu2]) (by simp [World.shape?, hg]) hcell).mono ?_
    rintro e w' ⟨rfl, rfl⟩
    have hd : Rep w0 κ (wrs σ b v l A s) w.drew := hrep.drew
    have hgone := hd.gone (n := s.length) hgv (show heldBy (κ.sv v) = some g from by rw [hsv]; cases cap with | zero => exact absurd rfl hcap | succ c => rfl) hbg
    rw [rs_sv] at hgone
    exact ⟨_, S s, _, κ, rfl, ⟨rfl, rfl⟩, K.le_refl κ, hgone, .c (.str s (by unfold maxLen; omega))⟩
set_option maxHeartbeats 1000000 in
set_option maxRecDepth 100000 in
theorem string_nil (w : World) (p : Nat) (h2 : w.cell? ⟨p, 2, none⟩ = some (.slice none 0 0)) :
    Calls Tryz.prog 87 #[.pointer (some ⟨p, 1, none⟩)] w fun e w' => e = .returned (.string .empty) ∧ w' = w.drew := by
  have c1 : w.drew.cell? ⟨p, 2, none⟩ = some (.slice none 0 0) := h2
  have hSD : (Builtin.unsafeSliceData_ #[121] 212 #[.slice none 0 0]).run Tryz.prog w.drew = .ok (.pointer none) w.drew := rfl
  have hUS : (Builtin.unsafeString_ #[212, 3] 9 #[.pointer none, .int .i64 0]).run Tryz.prog w.drew = .ok (.string .empty) w.drew := Lib.run_unsafeString_none w.drew _ _ _ none
  go_enter Tryz.func87, Tryz.ntmps87
  go_wp2
  go_region
  all_goals (go_wp2; go_ret; exact ⟨rfl, rfl⟩)
end Go.Proofs.YtpcmcfajfnpjeaaGreatDoor
namespace Go.Proofs.YtpcmcfajfnpjeaaGreatDoor
open Go.RowKit Go.Lamb
theorem lies_builderB : liesAt Tryz.prog Tryz.prog.depth 123 (2 / Tryz.prog.cellsOf 123) 0 123 1 = true := by kernel_rfl
set_option maxHeartbeats 1000000 in
set_option maxRecDepth 100000 in
theorem copyCheck_usedB (w : World) (p : Nat) (h0 : w.cell? ⟨p, 0, none⟩ = some (.pointer (some ⟨p, 0, none⟩))) :
    Calls Tryz.prog 175 #[.pointer (some ⟨p, 0, none⟩)] w fun e w' => e = .returned (.tuple #[]) ∧ w' = w := by
  obtain ⟨j, hj, _⟩ := Option.map_eq_some_iff.1 size_builder
  go_enter Tryz.func175, Tryz.ntmps175
  go_wp2
  rw [Lib.run_neq_ptr_same w _ Tryz.underlying120 hj]
  go_wp2
  go_end0
  exact ⟨rfl, rfl⟩
set_option maxHeartbeats 1000000 in
set_option maxRecDepth 100000 in
theorem copyCheck_freshB (w : World) (p : Nat) (h0 : w.cell? ⟨p, 0, none⟩ = some (.pointer none)) (hsh : w.shape? p = some (123, 2)) (hfz : w.frozen? ⟨p, 0, none⟩ = false) :
    Calls Tryz.prog 175 #[.pointer (some ⟨p, 0, none⟩)] w fun e w' => e = .returned (.tuple #[]) ∧ w' = w.setCell ⟨p, 0, none⟩ (.pointer (some ⟨p, 0, none⟩)) := by
  obtain ⟨j, hj, hjs⟩ := Option.map_eq_some_iff.1 size_builder
  go_enter Tryz.func175, Tryz.ntmps175
  go_wp2
  rw [Lib.run_to_unsafe w ⟨p, 0, none⟩ Tryz.underlying120 Tryz.underlying265 hj (by rw [hjs]; decide) hsh (show 0 < 2 by decide)]
  simp only [Result.andThen]
  rw [Oper.upon_value]
  go_wp2
  rw [run_callFunc_extern Tryz.func249 (by kernel_rfl) (by kernel_rfl) (by kernel_rfl) (e := Extern.AbiNoEscape.same) (by kernel_rfl)]
  rw [Lib.run_noEscape]
  simp only [Result.andThen]
  rw [Oper.upon_value]
  go_wp2
  rw [Lib.run_from_unsafe w ⟨p, 0, none⟩ Tryz.underlying265 Tryz.underlying120 hj hsh lies_builderB]
  simp only [Result.andThen]
  rw [Oper.upon_value]
  go_wp2
  go_end0
  exact ⟨rfl, rfl⟩
theorem copyCheckB (w0 : World) (σ : H) (b : Nat) (A y : V) (hb : σ[b]? = some (.cells [A, y] (some 123))) (hA : A = .c .nilp ∨ A = .ptr b 0) :
    DC Tryz.prog w0 175 [.ptr b 0] σ (fun d σ' => d = .tup [] ∧ σ' = σ.set b (.cells [.ptr b 0, y] (some 123))) := by
  refine ⟨enters_fn Tryz.func175 (by kernel_rfl) rfl, fun κ w vs hrep hfit => ?_⟩
  obtain ⟨v, ys, rfl, hv, hfit⟩ := hfit.cons_inv
  have := hfit.nil_inv
  subst this
  obtain ⟨hlt, hb'⟩ := List.getElem?_eq_some_iff.1 hb
  have hblk := hrep.blk b hlt
  rw [hb'] at hblk
  obtain ⟨us, T, k1, k2, k3⟩ := hblk.row
  obtain ⟨us', k4⟩ := hblk.ty _ rfl
  have hT : T = 123 := by rw [k1] at k4; injection k4 with k4; injection k4
  subst hT
  have k2 : us.size = 2 := k2
  have hc1 : w.cell? ⟨κ.pos b, 0, none⟩ = us[0]? := Lib.cell_of_heap k1 0
  have hu1 : us[0]? = some (us.getD 0 undef) := by rw [Array.getElem?_eq_getElem (by omega)]; simp [Array.getD, k2]
  have h1 := (k3 0 (by simp)).2
  have hvp : v = .pointer (some ⟨κ.pos b, 0, none⟩) := by cases hv; rfl
  subst hvp
  have hn : κ.n = σ.length := hrep.n
  rcases hA with rfl | rfl
  · have h2 : us.getD 0 undef = .pointer none := by
      generalize us.getD 0 undef = z at h1
      cases h1 with | c h => cases h; rfl
    refine (copyCheck_freshB w (κ.pos b) (by rw [hc1, hu1, h2]) (by simp [World.shape?, k1, k2]) (Lib.frozen_of_heap k1 0)).mono ?_
    rintro e w' ⟨rfl, rfl⟩
    refine ⟨_, .tup [], _, κ, rfl, ⟨rfl, rfl⟩, K.le_refl κ, ?_, .tup rfl (fun j hj => absurd hj (Nat.not_lt_zero _))⟩
    rw [setCell_row k1]
    have hw := hrep.wrote (cs' := [.ptr b 0, y]) (vs := (us.setIfInBounds 0 (.pointer (some ⟨κ.pos b, 0, none⟩))).toList) hb (by
      have l2 := (k3 1 (by simp)).1
      simp only [List.getElem_cons_zero, List.getElem_cons_succ] at l2
      unfold leaves
      simp only [List.all_cons, List.all_nil, l2]
      rfl) (by simp [k2]) (fun j hj => by
      have r2 := (k3 1 (by simp)).2
      match j, hj with
      | 0, _ => simpa [List.getD, k2] using RV.ptr (κ := κ) (b := b) (o := 0) (by omega) hblk.fr
      | 1, _ => simpa [List.getD, Array.getD, k2] using r2)
    rwa [Array.toArray_toList] at hw
  · have h2 : us.getD 0 undef = .pointer (some ⟨κ.pos b, 0, none⟩) := by
      generalize us.getD 0 undef = z at h1
      cases h1; rfl
    refine (copyCheck_usedB w (κ.pos b) (by rw [hc1, hu1, h2])).mono ?_
    rintro e w' ⟨rfl, rfl⟩
    refine ⟨_, .tup [], σ, κ, rfl, ⟨rfl, ?_⟩, K.le_refl κ, hrep, .tup rfl (fun j hj => absurd hj (Nat.not_lt_zero _))⟩
    apply List.ext_getElem?
    intro i
    rw [List.getElem?_set]
    by_cases hi : b = i
    · subst hi; rw [if_pos rfl, if_pos hlt, hb]
    · rw [if_neg hi]
set_option maxHeartbeats 1000000 in
set_option maxRecDepth 100000 in
theorem string_rowB (w : World) (p g cap cells : Nat) (s : List UInt8) (h0 : s ≠ []) (hc : cap ≠ 0) (hn : s.length ≤ cells) (h63 : s.length ≤ 9223372036854775807)
    (h2 : w.cell? ⟨p, 1, none⟩ = some (.slice (some ⟨g, 0, none⟩) s.length cap)) (hsh : w.shape? g = some (5, cells)) (hcell : ∀ j x, s[j]? = some x → w.cell? ((⟨g, 0, none⟩ : Addr).add j) = some (.int .u8 x.toNat)) :
    Calls Tryz.prog 87 #[.pointer (some ⟨p, 0, none⟩)] w fun e w' => e = .returned (.string ⟨s.toArray⟩) ∧ w' = w.drew.freeze ⟨g, 0, none⟩ s.length := by
  have c1 : w.drew.cell? ⟨p, 1, none⟩ = some (.slice (some ⟨g, 0, none⟩) s.length cap) := h2
  have hSD : (Builtin.unsafeSliceData_ #[121] 212 #[.slice (some ⟨g, 0, none⟩) s.length cap]).run Tryz.prog w.drew = .ok (.pointer (some ⟨g, 0, none⟩)) w.drew :=
    Lib.run_unsafeSliceData_row _ _ _ _ _ _ hc
  have hUS : (Builtin.unsafeString_ #[212, 3] 9 #[.pointer (some ⟨g, 0, none⟩), .int .i64 s.length]).run Tryz.prog w.drew = .ok (.string ⟨s.toArray⟩) (w.drew.freeze ⟨g, 0, none⟩ s.length) :=
    Lib.run_unsafeString_row w.drew 212 3 9 5 Tryz.underlying212 cells_byte g cells hsh s h0 hn h63 hcell
  go_enter Tryz.func87, Tryz.ntmps87
  go_wp2
  go_region
  all_goals (go_wp2; go_ret; exact ⟨rfl, rfl⟩)
theorem builder_StringB (w0 : World) (σ : H) (b v : Nat) (A : V) (s : List UInt8) (h0 : s ≠ []) (hgb : σ[b]? = some (.cells [A, .osl v (byteRows s)] (some 123))) (hgv : σ[v]? = some (.spare 5 1 s.length)) :
    DC Tryz.prog w0 87 [.ptr b 0] σ (fun d σ' => d = S s ∧ σ' = σ.set v .gone) := by
  refine ⟨enters_fn Tryz.func87 (by kernel_rfl) rfl, fun κ w vs hrep hfit => ?_⟩
  obtain ⟨p, ys, rfl, hp, hfit⟩ := hfit.cons_inv
  have := hfit.nil_inv
  subst this
  have hvp : p = .pointer (some ⟨κ.pos b, 0, none⟩) := by cases hp; rfl
  subst hvp
  obtain ⟨hltb, hb'⟩ := List.getElem?_eq_some_iff.1 hgb
  obtain ⟨hltv, hv'⟩ := List.getElem?_eq_some_iff.1 hgv
  have hB := hrep.blk b hltb
  have hV := hrep.blk v hltv
  rw [hb'] at hB
  rw [hv'] at hV
  obtain ⟨us, T, k1, k2, k3⟩ := hB.row
  have k2 : us.size = 2 := k2
  have r2 := (k3 1 (by simp)).2
  have hlr : (byteRows s).length = s.length := by simp [byteRows]
  have hpos : 0 < s.length := List.length_pos_iff.2 h0
  have hu2 : us[1]? = some (us.getD 1 undef) := by rw [Array.getElem?_eq_getElem (by omega)]; simp [Array.getD, k2]
  have hc2 : w.cell? ⟨κ.pos b, 1, none⟩ = us[1]? := Lib.cell_of_heap k1 1
  generalize us.getD 1 undef = u at r2 hu2
  cases r2 with
  | osl hr q1 q2 q3 q4 q5 =>
    have hfr : κ.fr v = some s.length := hV.fr
    rw [hfr] at q2
    injection q2 with q2
    subst q2
    have hu := q4 hlr
    rcases hV.row with ⟨hz, _⟩ | ⟨xs, hown⟩
    · omega
    rcases hown.2 with ⟨_, hz⟩ | ⟨g, cap, cur, hsv, hbg, hg, hnc, hcm, hcs, htake⟩
    · omega
    rw [hsv] at hu
    subst hu
    have hcap : cap ≠ 0 := by omega
    have hcell : ∀ j x, s[j]? = some x → w.cell? ((⟨g, 0, none⟩ : Addr).add j) = some (.int .u8 x.toNat) := fun j x hx => by
      obtain ⟨hj, hx⟩ := List.getElem?_eq_some_iff.1 hx
      rw [Lib.add_plain, Nat.zero_add]
      obtain ⟨_, sz, ws, z0, z3, z4, z5⟩ := rc_sl hr
      obtain ⟨b', o', hA', hm⟩ := z4 (fun e => by rw [e] at hlr; simp at hlr; omega)
      injection hA' with hA'
      injection hA' with e1 e2
      subst e1 e2
      have hrj : (byteRows s)[j]'(by omega) = [C.int .u8 x.toNat] := by simp only [byteRows, List.getElem_map, hx]
      have hsz : sz = 1 := by
        have := z0 _ (List.getElem_mem (show j < (byteRows s).length by omega))
        rw [hrj] at this
        exact this.symm
      subst hsz
      have hjw : j < ws.length := by rw [z3]; omega
      have h5 := z5 j (by omega) 0 (by rw [hrj]; exact Nat.zero_lt_one)
      have h7 := hm j hjw
      rw [List.getElem?_eq_getElem hjw, Nat.zero_add] at h7
      rw [hrep.mem _ _ _ h7]
      have e3 : ws.getD (j * 1 + 0) undef = ws[j] := by simp [List.getD, hjw]
      rw [e3] at h5
      simp only [hrj, List.getElem_cons_zero] at h5
      generalize ws[j] = y at h5
      cases h5
      rfl
    unfold maxLen at hcm
    refine (string_rowB w (κ.pos b) g cap cur.size s h0 hcap (by omega) (by omega) (by rw [hc2, hu2]) (by simp [World.shape?, hg]) hcell).mono ?_
    rintro e w' ⟨rfl, rfl⟩
    have hd : Rep w0 κ σ w.drew := hrep.drew
    have hgone := hd.gone (n := s.length) hgv (show heldBy (κ.sv v) = some g from by rw [hsv]; cases cap with | zero => exact absurd rfl hcap | succ c => rfl) hbg
    exact ⟨_, S s, _, κ, rfl, ⟨rfl, rfl⟩, K.le_refl κ, hgone, .c (.str s (by unfold maxLen; omega))⟩
end Go.Proofs.YtpcmcfajfnpjeaaGreatDoor
namespace Go.Proofs.YtpcmcfajfnpjeaaGreatDoor
open Go.RowKit Go.Lamb
attribute [local go_sem] advO_skip advO_reg advO_seq advO_block advO_exit advO_endb advO_opsNil advO_ops advG_yes advG_no advG_none advS_some advS_none advO_cond advO_loop advO_dreg advO_ret advO_bad advO_inv advO_nil advO_zero wantedV Lamb.step ev_t ev_k put_some put_none argEnv popTo cellsAt V.cellsV V.rows V.sub V.toC toCs fillV bytesC byteRows appV rowsV boundV boundL binV binInt binStr eqC eqL V.isNil leaves V.leaf Ins.quiet Ins.pure List.getD_cons_zero List.getD_cons_succ List.getD_nil List.all_cons List.all_nil List.length_cons List.length_nil List.take_succ_cons List.take_zero List.drop_succ_cons List.drop_zero List.cons_append List.nil_append List.append_nil List.append_assoc List.map_cons List.map_nil List.getElem?_cons_zero List.getElem?_cons_succ List.length_append List.length_set hget0 hget hset0 hset hsets hgs0 hgs hss0 hss List.set_cons_zero List.set_cons_succ List.forall_mem_cons List.not_mem_nil false_implies implies_true Option.map_some Bool.and_true Bool.true_and Bool.not_not Bool.not_true Bool.not_false Bool.and_self Bool.or_true Bool.true_or Bool.or_false Bool.false_or Bool.and_false Bool.false_and Bool.false_eq_true beq_self_eq_true and_self and_true true_and if_true if_false Nat.zero_add Nat.add_zero Nat.le_refl Int.toNat_natCast decide_true decide_false beq_t beq_f List.length_map List.getElem?_map I S B opsC toksC OpT.v OpT.cs OpT.zero Tok.v Tok.cs Pre.v Pre.cs_eq k_mk name_mk n_mk l_mk pos_mk Pre.app applyL natCast0 natCast1 natCast2 AOp.o AOp.m AOp.f AOp.l AOp.d AOp.n AOp.x AOp.s AOp.k AOp.y AOp.z EOp.q low_c low_void low_any low_csl low_nilf low_ptr low_osl low_agg low_tup low_fn resEval advPO_nil advPO_loud advPO_quiet pL_yes pL_no pLS_some pLS_none pQ_yes pQ_no pQS_some pQS_loud eq_self Nat.sub_zero
section
attribute [local go_sem] Typ.v Typ.cs_eq tk_mk tname_mk tn_mk tl_mk tysC KdT.v KdT.cs NmT.v NmT.cs kdsC nmsC Sg.v Sent.v

end
section
attribute [local go_sem] Typ.v Typ.cs_eq tk_mk tname_mk tn_mk tl_mk tysC KdT.v KdT.cs NmT.v NmT.cs kdsC nmsC Sg.v Sent.v strsC

end
end Go.Proofs.YtpcmcfajfnpjeaaGreatDoor
namespace Go.Proofs.YtpcmcfajfnpjeaaGreatDoor
open Go.RowKit Go.Lamb
attribute [local go_sem] Typ.v Typ.cs_eq tk_mk tname_mk tn_mk tl_mk tysC KdT.v KdT.cs NmT.v NmT.cs kdsC nmsC Sg.v Sent.v strsC

def outB (b : Nat) (s : Sg) : Blk := .cells [.osl (b + 1) (s.kinds.map KdT.cs), .osl (b + 2) (s.types.map NmT.cs), .osl (b + 3) (s.ops.map OpT.cs)]
attribute [local go_sem] outB rf_len rf_g0 rf_g rf_t0 rf_t
end Go.Proofs.YtpcmcfajfnpjeaaGreatDoor
namespace Go.Lamb
open Go Go.RowKit
end Go.Lamb
namespace Go.Proofs.YtpcmcfajfnpjeaaGreatDoor
open Go.RowKit Go.Lamb
attribute [local go_sem] Typ.v Typ.cs_eq tk_mk tname_mk tn_mk tl_mk tysC KdT.v KdT.cs NmT.v NmT.cs kdsC nmsC Sg.v Sent.v strsC

end Go.Proofs.YtpcmcfajfnpjeaaGreatDoor
namespace Go.Proofs.YtpcmcfajfnpjeaaGreatDoor
open Go.RowKit Go.Lamb
def c295 : AC := .seq (.reg [.o 2 (.mov (.k (.csl [])))]) (.seq (.reg [.o 3 (.mov (.k (.c (.int .i64 0))))]) (.seq (.seq (.reg [.m 9 0,.o 10 (.lenr (.t 9)),.o 11 (.mov (.k (.c (.int .i64 0))))]) (.block 0 (.loop (.seq (.reg [.o 12 (.bin .lss (.t 11) (.t 10))]) (.seq (.cond (.t 12) (.skip) (.exit 0)) (.seq (.block 1 (.seq (.reg [.o 13 (.iadd 1 (.t 9) (.t 11)),.l 14 13,.m 5 14]) (.seq (.reg [.m 15 3,.m 16 5,.o 17 (.lenr (.t 16)),.o 18 (.bin .add (.t 15) (.t 17)),.m 3 18]) (.seq (.reg [.m 19 3,.o 20 (.bin .lss (.t 19) (.k (.c (.int .i64 0))))]) (.cond (.t 20) (.reg [.o 21 (.bad),⟨none,.bad,none⟩]) (.skip)))))) (.reg [.o 22 (.bin .add (.t 11) (.k (.c (.int .i64 1)))),.m 11 22]))))))) (.seq (.reg [.m 23 3,.k 24 342 [(.k (.csl [])),(.t 23)],.m 6 24]) (.seq (.seq (.reg [.m 25 0,.o 26 (.lenr (.t 25)),.o 27 (.mov (.k (.c (.int .i64 0))))]) (.block 2 (.loop (.seq (.reg [.o 28 (.bin .lss (.t 27) (.t 26))]) (.seq (.cond (.t 28) (.skip) (.exit 2)) (.seq (.block 3 (.seq (.reg [.o 29 (.iadd 1 (.t 25) (.t 27)),.l 30 29,.m 8 30]) (.reg [.m 31 6,.m 32 8,.o 33 (.app 68 5 72 (.t 31) (.t 32)),.m 6 33]))) (.reg [.o 34 (.bin .add (.t 27) (.k (.c (.int .i64 1)))),.m 27 34]))))))) (.seq (.reg [.m 35 6,.m 2 35]) (.ret))))))
def r295 : List ResV := [.tmp 2]
theorem k295 : CodeIs Tryz.prog 295 1 Tryz.f295 c295 r295 := .auto Tryz.func295
end Go.Proofs.YtpcmcfajfnpjeaaGreatDoor
namespace Go.Proofs.YtpcmcfajfnpjeaaGreatDoor
open Go.RowKit Go.Lamb
attribute [local go_sem] advO_skip advO_reg advO_seq advO_block advO_exit advO_endb advO_opsNil advO_ops advG_yes advG_no advG_none advS_some advS_none advO_cond advO_loop advO_dreg advO_ret advO_bad advO_inv advO_nil advO_zero wantedV Lamb.step ev_t ev_k put_some put_none argEnv popTo cellsAt V.cellsV V.rows V.sub V.toC toCs fillV bytesC byteRows appV rowsV boundV boundL binV binInt binStr eqC eqL V.isNil leaves V.leaf Ins.quiet Ins.pure List.getD_cons_zero List.getD_cons_succ List.getD_nil List.all_cons List.all_nil List.length_cons List.length_nil List.take_succ_cons List.take_zero List.drop_succ_cons List.drop_zero List.cons_append List.nil_append List.append_nil List.append_assoc List.map_cons List.map_nil List.getElem?_cons_zero List.getElem?_cons_succ List.length_append List.length_set hget0 hget hset0 hset hsets hgs0 hgs hss0 hss List.set_cons_zero List.set_cons_succ List.forall_mem_cons List.not_mem_nil false_implies implies_true Option.map_some Bool.and_true Bool.true_and Bool.not_not Bool.not_true Bool.not_false Bool.and_self Bool.or_true Bool.true_or Bool.or_false Bool.false_or Bool.and_false Bool.false_and Bool.false_eq_true beq_self_eq_true and_self and_true true_and if_true if_false Nat.zero_add Nat.add_zero Nat.le_refl Int.toNat_natCast decide_true decide_false beq_t beq_f List.length_map List.getElem?_map I S B opsC toksC OpT.v OpT.cs OpT.zero Tok.v Tok.cs Pre.v Pre.cs_eq k_mk name_mk n_mk l_mk pos_mk Pre.app applyL natCast0 natCast1 natCast2 AOp.o AOp.m AOp.f AOp.l AOp.d AOp.n AOp.x AOp.s AOp.k AOp.y AOp.z EOp.q low_c low_void low_any low_csl low_nilf low_ptr low_osl low_agg low_tup low_fn resEval advPO_nil advPO_loud advPO_quiet pL_yes pL_no pLS_some pLS_none pQ_yes pQ_no pQS_some pQS_loud eq_self Nat.sub_zero
attribute [local go_sem] Typ.v Typ.cs_eq tk_mk tname_mk tn_mk tl_mk tysC KdT.v KdT.cs NmT.v NmT.cs kdsC nmsC Sg.v Sent.v strsC

theorem nmInfo : (Tryz.prog.info? 68).map (fun i => (i.zero, i.size, i.bytes)) = some (some (.agg #[.string ⟨#[]⟩, .int .i64 0, .string ⟨#[]⟩, .int .i64 0, .slice none 0 0]), 5, 72) := by kernel_rfl
theorem made_rowN (w : World) (n : Nat) (hn : n ≤ 1000000) (zc : Array Value) (hz : zc.size = 5) :
    (w.alloc (.cells (Builtin.zeroCells zc n ++ Builtin.zeroCells zc (grownCap w n 0 68 - n)) 68)).drew.ownsRow w.heap.size 68 5 (.slice (some ⟨w.heap.size, 0, none⟩) 0 (grownCap w n 0 68)) 0 [] := by
  have hge := grownCap_ge w n 0 68
  refine ⟨by simp, .inr ⟨w.heap.size, _, _, rfl, Nat.le_refl _, heap_alloc_new w _, Nat.zero_le _, grownCap_le_maxLen w n 0 68 (by unfold maxLen; omega), ?_, by simp⟩⟩
  simp only [Array.size_append, size_zeroCells, hz]
  omega
set_option maxHeartbeats 4000000 in
set_option maxRecDepth 100000 in
theorem grow_nm (A : Option Addr) (n : Nat) (w : World) (hn : n ≤ 1000000) : Calls Tryz.prog 342 #[.slice A 0 0, .int .i64 n] w (fun e w' => ∃ v, e = .returned v ∧ Below w.heap.size w w' ∧ Roomy w w' 68 5 v) := by
  by_cases h0 : n = 0
  · subst h0
    cases A
    · go_enter Tryz.func342, Tryz.ntmps342
      go_wp2_with fail
      go_ret
      exact ⟨_, rfl, Below.refl _ _, .inl ⟨_, rfl⟩⟩
    · go_enter Tryz.func342, Tryz.ntmps342
      go_wp2_with fail
      go_ret
      exact ⟨_, rfl, Below.refl _ _, .inl ⟨_, rfl⟩⟩
  · obtain ⟨i0, hi0, hz0, hz1, hz2⟩ := info_parts nmInfo
    have h1 : ¬ ((n : Int) < 0) := by omega
    have h2 : (n : Int) > 0 := by omega
    have hw : IntKind.i64.wrap (n : Int) = n := by rw [wrap_in] <;> omega
    cases A
    case none =>
      have hr := Lib.run_append_grow_zeros (P := Tryz.prog) w 23 3 23 68 i0 _ .i64 .i64 Tryz.underlying23 Tryz.underlying3 hi0 hz0 none 0 0 [] (run_firstCells (by simp) (by simp)) n (by omega) (by rw [hz1]; decide) (by omega) (by omega) (by rw [hz2]; omega) (growslice_fits (by omega) (by rw [hz2]; omega))
      go_enter Tryz.func342, Tryz.ntmps342
      go_wp2_with (first
        | (at_builtin; refine Lib.wpList_append_run w rfl (.tmp 20) (.tmp 21) 23 3 rfl _ _ rfl rfl _ _ hr ?_))
      go_ret
      exact ⟨_, rfl, made_below w _, .inr (made_rowN w n hn _ rfl)⟩
    case some a =>
      have hr := Lib.run_append_grow_zeros (P := Tryz.prog) w 23 3 23 68 i0 _ .i64 .i64 Tryz.underlying23 Tryz.underlying3 hi0 hz0 (some a) 0 0 [] (run_firstCells (by simp) (by simp)) n (by omega) (by rw [hz1]; decide) (by omega) (by omega) (by rw [hz2]; omega) (growslice_fits (by omega) (by rw [hz2]; omega))
      go_enter Tryz.func342, Tryz.ntmps342
      go_wp2_with (first
        | (at_builtin; refine Lib.wpList_append_run w rfl (.tmp 20) (.tmp 21) 23 3 rfl _ _ rfl rfl _ _ hr ?_))
      go_ret
      exact ⟨_, rfl, made_below w _, .inr (made_rowN w n hn _ rfl)⟩
theorem slices_GrowN (w0 : World) (n : Nat) (hn : n ≤ 1000000) (σ : H) : DC Tryz.prog w0 342 [.csl [], I n] σ (Same (.osl σ.length []) (σ ++ [.spare 68 5 0])) := by
  refine DC.of_room (enters_fn Tryz.func342 (by kernel_rfl) rfl) fun κ w vs hrep hfit => ?_
  obtain ⟨v, ys, rfl, hv, hfit⟩ := hfit.cons_inv
  obtain ⟨u, zs, rfl, hu, hfit⟩ := hfit.cons_inv
  have := hfit.nil_inv
  subst this
  cases hv with
  | csl h1 =>
    rename_i A
    cases hu with
    | c hu =>
      cases hu with
      | int => exact grow_nm A n w hn
end Go.Proofs.YtpcmcfajfnpjeaaGreatDoor
namespace Go.Proofs.YtpcmcfajfnpjeaaGreatDoor
open Go.RowKit Go.Lamb
end Go.Proofs.YtpcmcfajfnpjeaaGreatDoor
namespace Go.Proofs.YtpcmcfajfnpjeaaGreatDoor
open Go.RowKit Go.Lamb
attribute [local go_sem] advO_skip advO_reg advO_seq advO_block advO_exit advO_endb advO_opsNil advO_ops advG_yes advG_no advG_none advS_some advS_none advO_cond advO_loop advO_dreg advO_ret advO_bad advO_inv advO_nil advO_zero wantedV Lamb.step ev_t ev_k put_some put_none argEnv popTo cellsAt V.cellsV V.rows V.sub V.toC toCs fillV bytesC byteRows appV rowsV boundV boundL binV binInt binStr eqC eqL V.isNil leaves V.leaf Ins.quiet Ins.pure List.getD_cons_zero List.getD_cons_succ List.getD_nil List.all_cons List.all_nil List.length_cons List.length_nil List.take_succ_cons List.take_zero List.drop_succ_cons List.drop_zero List.cons_append List.nil_append List.append_nil List.append_assoc List.map_cons List.map_nil List.getElem?_cons_zero List.getElem?_cons_succ List.length_append List.length_set hget0 hget hset0 hset hsets hgs0 hgs hss0 hss List.set_cons_zero List.set_cons_succ List.forall_mem_cons List.not_mem_nil false_implies implies_true Option.map_some Bool.and_true Bool.true_and Bool.not_not Bool.not_true Bool.not_false Bool.and_self Bool.or_true Bool.true_or Bool.or_false Bool.false_or Bool.and_false Bool.false_and Bool.false_eq_true beq_self_eq_true and_self and_true true_and if_true if_false Nat.zero_add Nat.add_zero Nat.le_refl Int.toNat_natCast decide_true decide_false beq_t beq_f List.length_map List.getElem?_map I S B opsC toksC OpT.v OpT.cs OpT.zero Tok.v Tok.cs Pre.v Pre.cs_eq k_mk name_mk n_mk l_mk pos_mk Pre.app applyL natCast0 natCast1 natCast2 AOp.o AOp.m AOp.f AOp.l AOp.d AOp.n AOp.x AOp.s AOp.k AOp.y AOp.z EOp.q low_c low_void low_any low_csl low_nilf low_ptr low_osl low_agg low_tup low_fn resEval advPO_nil advPO_loud advPO_quiet pL_yes pL_no pLS_some pLS_none pQ_yes pQ_no pQS_some pQS_loud eq_self Nat.sub_zero

end Go.Proofs.YtpcmcfajfnpjeaaGreatDoor
namespace Go.Proofs.YtpcmcfajfnpjeaaGreatDoor
open Go.RowKit Go.Lamb

end Go.Proofs.YtpcmcfajfnpjeaaGreatDoor
namespace Go.Proofs.YtpcmcfajfnpjeaaGreatDoor
open Go.RowKit Go.Lamb

end Go.Proofs.YtpcmcfajfnpjeaaGreatDoor
namespace Go.Proofs.YtpcmcfajfnpjeaaGreatDoor
open Go.RowKit Go.Lamb
attribute [local go_sem] advO_skip advO_reg advO_seq advO_block advO_exit advO_endb advO_opsNil advO_ops advG_yes advG_no advG_none advS_some advS_none advO_cond advO_loop advO_dreg advO_ret advO_bad advO_inv advO_nil advO_zero wantedV Lamb.step ev_t ev_k put_some put_none argEnv popTo cellsAt V.cellsV V.rows V.sub V.toC toCs fillV bytesC byteRows appV rowsV boundV boundL binV binInt binStr eqC eqL V.isNil leaves V.leaf Ins.quiet Ins.pure List.getD_cons_zero List.getD_cons_succ List.getD_nil List.all_cons List.all_nil List.length_cons List.length_nil List.take_succ_cons List.take_zero List.drop_succ_cons List.drop_zero List.cons_append List.nil_append List.append_nil List.append_assoc List.map_cons List.map_nil List.getElem?_cons_zero List.getElem?_cons_succ List.length_append List.length_set hget0 hget hset0 hset hsets hgs0 hgs hss0 hss List.set_cons_zero List.set_cons_succ List.forall_mem_cons List.not_mem_nil false_implies implies_true Option.map_some Bool.and_true Bool.true_and Bool.not_not Bool.not_true Bool.not_false Bool.and_self Bool.or_true Bool.true_or Bool.or_false Bool.false_or Bool.and_false Bool.false_and Bool.false_eq_true beq_self_eq_true and_self and_true true_and if_true if_false Nat.zero_add Nat.add_zero Nat.le_refl Int.toNat_natCast decide_true decide_false beq_t beq_f List.length_map List.getElem?_map I S B opsC toksC OpT.v OpT.cs OpT.zero Tok.v Tok.cs Pre.v Pre.cs_eq k_mk name_mk n_mk l_mk pos_mk Pre.app applyL natCast0 natCast1 natCast2 AOp.o AOp.m AOp.f AOp.l AOp.d AOp.n AOp.x AOp.s AOp.k AOp.y AOp.z EOp.q low_c low_void low_any low_csl low_nilf low_ptr low_osl low_agg low_tup low_fn resEval advPO_nil advPO_loud advPO_quiet pL_yes pL_no pLS_some pLS_none pQ_yes pQ_no pQS_some pQS_loud eq_self Nat.sub_zero

end Go.Proofs.YtpcmcfajfnpjeaaGreatDoor
namespace Go.Proofs.YtpcmcfajfnpjeaaGreatDoor
open Go.RowKit Go.Lamb

end Go.Proofs.YtpcmcfajfnpjeaaGreatDoor
namespace Go.Proofs.YtpcmcfajfnpjeaaGreatDoor
open Go.RowKit Go.Lamb

end Go.Proofs.YtpcmcfajfnpjeaaGreatDoor
namespace Go.Proofs.YtpcmcfajfnpjeaaGreatDoor
open Go.RowKit Go.Lamb

end Go.Proofs.YtpcmcfajfnpjeaaGreatDoor
namespace Go.Proofs.YtpcmcfajfnpjeaaGreatDoor
open Go.RowKit Go.Lamb

end Go.Proofs.YtpcmcfajfnpjeaaGreatDoor
namespace Go.Proofs.YtpcmcfajfnpjeaaGreatDoor
open Go.RowKit Go.Lamb

end Go.Proofs.YtpcmcfajfnpjeaaGreatDoor
namespace Go.Proofs.YtpcmcfajfnpjeaaGreatDoor
open Go.RowKit Go.Lamb

theorem any_at {α : Type} {l : List α} {f : α → Bool} {j : Nat} (hj : j < l.length) (h : f l[j] = true) : l.any f = true := by
  rw [List.any_eq_true]; exact ⟨_, List.getElem_mem hj, h⟩
theorem any_no {α : Type} {l : List α} {f : α → Bool} (h : ∀ j (hj : j < l.length), f l[j] = false) : l.any f = false := by
  rw [List.any_eq_false]; intro x hx; obtain ⟨j, hj, rfl⟩ := List.getElem_of_mem hx; rw [h j hj]; simp
end Go.Proofs.YtpcmcfajfnpjeaaGreatDoor
namespace Go.Lamb
end Go.Lamb
namespace Go.Proofs.YtpcmcfajfnpjeaaGreatDoor
open Go.RowKit Go.Lamb
end Go.Proofs.YtpcmcfajfnpjeaaGreatDoor
namespace Go.Proofs.YtpcmcfajfnpjeaaGreatDoor
open Go.RowKit Go.Lamb
def c239 : AC := .seq (.reg [.o 1 (.box (.t 0)),.o 2 (.mov (.k (.c (.bool false))))]) (.seq (.reg [.f 3 0 1,.l 4 3,.o 5 (.bin .eql (.t 4) (.k (.c (.int .i64 4)))),.m 6 5,.y 7 (.fadd 3 (.t 1)) 6,.y 8 (.load1 (.t 7)) 6,.y 9 (.lenr (.t 8)) 6,.y 10 (.bin .eql (.t 9) (.k (.c (.int .i64 1)))) 6,.o 11 (.pick (.t 6) (.t 10) (.k (.c (.bool false)))),.m 2 11]) (.ret))
def r239 : List ResV := [.tmp 2]
theorem k239 : CodeIs Tryz.prog 239 1 Tryz.f239 c239 r239 := .auto Tryz.func239
def c240 : AC := .seq (.reg [.o 1 (.box (.t 0)),.o 2 (.mov (.k (.c (.bool false))))]) (.seq (.reg [.f 3 0 1,.l 4 3,.o 5 (.bin .eql (.t 4) (.k (.c (.int .i64 3)))),.m 6 5,.y 7 (.fadd 3 (.t 1)) 6,.y 8 (.load1 (.t 7)) 6,.y 9 (.lenr (.t 8)) 6,.y 10 (.bin .eql (.t 9) (.k (.c (.int .i64 2)))) 6,.o 11 (.pick (.t 6) (.t 10) (.k (.c (.bool false)))),.m 2 11]) (.ret))
def r240 : List ResV := [.tmp 2]
theorem k240 : CodeIs Tryz.prog 240 1 Tryz.f240 c240 r240 := .auto Tryz.func240
def c233 : AC := .seq (.reg [.o 3 (.box (.t 1)),.o 4 (.box (.k (.agg [.c (.str []),.c (.int .i64 0),.c (.int .i64 0)]))),.o 5 (.box (.k (.agg [.c (.int .i64 0),.c (.str []),.c (.int .i64 0),.csl [],.c (.int .i64 0)]))),.o 6 (.box (.k (.agg [.c (.int .i64 0),.c (.str []),.c (.int .i64 0),.csl [],.c (.int .i64 0)]))),.o 7 (.mov (.k (.c (.bool false))))]) (.seq (.seq (.reg [.d 8 5 3,.k 9 240 [(.t 8)],.o 10 (.un .not (.t 9)),.m 11 10,.z 12 (.fadd 3 (.t 3)) 11,.z 13 (.load1 (.t 12)) 11,.z 14 (.iadd 5 (.t 13) (.k (.c (.int .i64 0)))) 11,.z 15 (.loadn 5 (.t 14)) 11,.z 16 (.call (.k (.fn 240 [])) [(.t 15)]) 11,.z 17 (.un .not (.t 16)) 11,.o 18 (.pick (.t 11) (.k (.c (.bool true))) (.t 17)),.m 19 18,.z 20 (.fadd 3 (.t 3)) 19,.z 21 (.load1 (.t 20)) 19,.z 22 (.iadd 5 (.t 21) (.k (.c (.int .i64 0)))) 19,.z 23 (.fadd 3 (.t 22)) 19,.z 24 (.load1 (.t 23)) 19,.z 25 (.iadd 5 (.t 24) (.k (.c (.int .i64 0)))) 19,.z 26 (.fadd 0 (.t 25)) 19,.z 27 (.load1 (.t 26)) 19,.z 28 (.bin .neq (.t 27) (.k (.c (.int .i64 0)))) 19,.o 29 (.pick (.t 19) (.k (.c (.bool true))) (.t 28))]) (.cond (.t 29) (.ret) (.skip))) (.seq (.dreg [.m 31 0,.n 32 31,.f 33 0 32,.l 34 33,.f 35 3 3,.l 36 35,.o 37 (.iadd 5 (.t 36) (.k (.c (.int .i64 0)))),.f 38 3 37,.l 39 38,.o 40 (.iadd 5 (.t 39) (.k (.c (.int .i64 0)))),.f 41 1 40,.l 42 41,.k 43 66 [(.t 34),(.t 42)],.m 30 43,.x 44 30 0,.x 45 30 1,.s 3 4 44,.m 7 45] [.q (.m 31 0),.q (.n 32 31),.q (.f 33 0 32),.q (.l 34 33),.q (.f 35 3 3),.q (.l 36 35),.q (.o 37 (.iadd 5 (.t 36) (.k (.c (.int .i64 0))))),.q (.f 38 3 37),.q (.l 39 38),.q (.o 40 (.iadd 5 (.t 39) (.k (.c (.int .i64 0))))),.q (.f 41 1 40),.q (.l 42 41),⟨.k 43 66 [(.t 34),(.t 42)],true,0⟩,⟨.m 30 43,false,1⟩,⟨.x 44 30 0,false,1⟩,⟨.s 3 4 44,true,1⟩,⟨.x 45 30 1,false,1⟩,⟨.m 7 45,false,2⟩]) (.seq (.dreg [.d 46 3 4,.f 47 3 3,.l 48 47,.o 49 (.iadd 5 (.t 48) (.k (.c (.int .i64 0)))),.f 50 3 49,.l 51 50,.o 52 (.iadd 5 (.t 51) (.k (.c (.int .i64 1)))),.d 53 5 52,.f 54 3 3,.l 55 54,.o 56 (.iadd 5 (.t 55) (.k (.c (.int .i64 1)))),.d 57 5 56,.m 58 7,.s 3 4 46,.s 5 5 53,.s 5 6 57,.m 7 58] [.q (.d 46 3 4),⟨.s 3 4 46,true,0⟩,.q (.f 47 3 3),.q (.l 48 47),.q (.o 49 (.iadd 5 (.t 48) (.k (.c (.int .i64 0))))),.q (.f 50 3 49),.q (.l 51 50),.q (.o 52 (.iadd 5 (.t 51) (.k (.c (.int .i64 1))))),.q (.d 53 5 52),⟨.s 5 5 53,true,1⟩,.q (.f 54 3 3),.q (.l 55 54),.q (.o 56 (.iadd 5 (.t 55) (.k (.c (.int .i64 1))))),.q (.d 57 5 56),⟨.s 5 6 57,true,2⟩,.q (.m 58 7),⟨.m 7 58,false,3⟩]) (.ret))))
def r233 : List ResV := [.celln 3 4, .celln 5 5, .celln 5 6, .tmp 7]
theorem k233 : CodeIs Tryz.prog 233 2 Tryz.f233 c233 r233 := .auto Tryz.func233
def c243 : AC := .seq (.reg [.o 3 (.box (.t 1))]) (.seq (.reg [.o 4 (.mov (.k (.c (.str [63]))))]) (.seq (.seq (.reg [.f 7 0 3,.l 8 7]) (.block 0 (.seq (.reg [.o 10 (.bin .eql (.t 8) (.k (.c (.int .i64 0)))),.m 9 10]) (.cond (.t 9) (.seq (.reg [.f 11 1 3,.l 12 11,.m 4 12]) (.seq (.reg [.m 14 0,.n 15 14,.f 16 0 15,.l 17 16,.m 18 4,.k 19 66 [(.t 17),(.t 18)],.m 13 19,.x 20 13 0,.x 21 13 1,.o 5 (.box (.k (.agg [.c (.str []),.c (.int .i64 0),.c (.int .i64 0)]))),.s 3 5 20,.m 6 21]) (.seq (.reg [.m 22 6]) (.cond (.t 22) (.reg [.m 23 4,.o 24 (.bin .add (.k (.c (.str [40]))) (.t 23)),.o 25 (.bin .add (.t 24) (.k (.c (.str [41])))),.m 4 25]) (.skip))))) (.seq (.reg [.o 27 (.bin .eql (.t 8) (.k (.c (.int .i64 1)))),.m 26 27]) (.cond (.t 26) (.reg [.f 28 1 3,.l 29 28,.m 4 29]) (.seq (.reg [.o 31 (.bin .eql (.t 8) (.k (.c (.int .i64 2)))),.m 30 31]) (.cond (.t 30) (.reg [.f 32 2 3,.l 33 32,.o 34 (.mx (.t 33) (.k (.c (.int .i64 0)))),.k 35 69 [(.t 34)],.m 4 35]) (.skip))))))))) (.reg [.m 36 0,.n 37 36,.f 38 1 37,.m 39 4,.k 40 86 [(.t 38),(.t 39)]])))
def r243 : List ResV := []
theorem k243 : CodeIs Tryz.prog 243 2 Tryz.f243 c243 r243 := .auto Tryz.func243
end Go.Proofs.YtpcmcfajfnpjeaaGreatDoor
namespace Go.Lamb
def infR (l : List OpT) (p : Pre) : OpT × Pre × Pre × Bool :=
  if appP p = true then match p.l with
    | [f, b] => if appP f = true then match f.l with
        | [c, a] => if c.k = 0 then ((findL l c.name).getD .zero, a, b, (findL l c.name).isSome) else (.zero, .none, .none, false)
        | _ => (.zero, .none, .none, false)
      else (.zero, .none, .none, false)
    | _ => (.zero, .none, .none, false)
  else (.zero, .none, .none, false)
def infV (l : List OpT) (p : Pre) : V := .tup [(infR l p).1.v, (infR l p).2.1.v, (infR l p).2.2.1.v, B (infR l p).2.2.2]
end Go.Lamb
namespace Go.Proofs.YtpcmcfajfnpjeaaGreatDoor
open Go.RowKit Go.Lamb
attribute [local go_sem] advO_skip advO_reg advO_seq advO_block advO_exit advO_endb advO_opsNil advO_ops advG_yes advG_no advG_none advS_some advS_none advO_cond advO_loop advO_dreg advO_ret advO_bad advO_inv advO_nil advO_zero wantedV Lamb.step ev_t ev_k put_some put_none argEnv popTo cellsAt V.cellsV V.rows V.sub V.toC toCs fillV bytesC byteRows appV rowsV boundV boundL binV binInt binStr eqC eqL V.isNil leaves V.leaf Ins.quiet Ins.pure List.getD_cons_zero List.getD_cons_succ List.getD_nil List.all_cons List.all_nil List.length_cons List.length_nil List.take_succ_cons List.take_zero List.drop_succ_cons List.drop_zero List.cons_append List.nil_append List.append_nil List.append_assoc List.map_cons List.map_nil List.getElem?_cons_zero List.getElem?_cons_succ List.length_append List.length_set hget0 hget hset0 hset hsets hgs0 hgs hss0 hss List.set_cons_zero List.set_cons_succ List.forall_mem_cons List.not_mem_nil false_implies implies_true Option.map_some Bool.and_true Bool.true_and Bool.not_not Bool.not_true Bool.not_false Bool.and_self Bool.or_true Bool.true_or Bool.or_false Bool.false_or Bool.and_false Bool.false_and Bool.false_eq_true beq_self_eq_true and_self and_true true_and if_true if_false Nat.zero_add Nat.add_zero Nat.le_refl Int.toNat_natCast decide_true decide_false beq_t beq_f List.length_map List.getElem?_map I S B opsC toksC OpT.v OpT.cs OpT.zero Tok.v Tok.cs Pre.v Pre.cs_eq k_mk name_mk n_mk l_mk pos_mk Pre.app applyL natCast0 natCast1 natCast2 AOp.o AOp.m AOp.f AOp.l AOp.d AOp.n AOp.x AOp.s AOp.k AOp.y AOp.z EOp.q low_c low_void low_any low_csl low_nilf low_ptr low_osl low_agg low_tup low_fn resEval advPO_nil advPO_loud advPO_quiet pL_yes pL_no pLS_some pLS_none pQ_yes pQ_no pQS_some pQS_loud eq_self Nat.sub_zero
section
theorem show_lambda (w0 : World) (p : Pre) (σ : H) : DC Tryz.prog w0 239 [p.v] σ (Same (B (lamP p)) σ) := by
  refine k239.go rfl (fun hok hsz => ?_)
  have hl : ((p.l.length : Int) == 1) = (p.l.length == 1) := by rw [Bool.eq_iff_iff]; simp; omega
  unfold lamP
  cases hk : p.k == 4
  · ((try refine W.a ?_); simp only [go_sem, seval, reduceCtorEq, c239, hk])
    (refine W.fs (hok) (by simp only [r239, go_sem, seval, reduceCtorEq]; rfl) ?_; simp only [resV]; try exact V.wk.rfl _)
  · ((try refine W.a ?_); simp only [go_sem, seval, reduceCtorEq, c239, hk, hl])
    (refine W.fs (hok) (by simp only [r239, go_sem, seval, reduceCtorEq]; rfl) ?_; simp only [resV]; try exact V.wk.rfl _)
theorem show_application (w0 : World) (p : Pre) (σ : H) : DC Tryz.prog w0 240 [p.v] σ (Same (B (appP p)) σ) := by
  refine k240.go rfl (fun hok hsz => ?_)
  have hl : ((p.l.length : Int) == 2) = (p.l.length == 2) := by rw [Bool.eq_iff_iff]; simp; omega
  unfold appP
  cases hk : p.k == 3
  · ((try refine W.a ?_); simp only [go_sem, seval, reduceCtorEq, c240, hk])
    (refine W.fs (hok) (by simp only [r240, go_sem, seval, reduceCtorEq]; rfl) ?_; simp only [resV]; try exact V.wk.rfl _)
  · ((try refine W.a ?_); simp only [go_sem, seval, reduceCtorEq, c240, hk, hl])
    (refine W.fs (hok) (by simp only [r240, go_sem, seval, reduceCtorEq]; rfl) ?_; simp only [resV]; try exact V.wk.rfl _)
theorem app_two {p : Pre} (h : appP p = true) : ∃ f b, p.l = [f, b] := by
  unfold appP at h
  simp only [Bool.and_eq_true, beq_iff_eq] at h
  match p.l, h.2 with
  | [f, b], _ => exact ⟨f, b, rfl⟩
attribute [local go_sem] wrC wrY rs_len rs_g0 rs_g rs_s0 rs_s rs_sv Pre.v Pre.cs_eq
theorem writer_infix (w0 : World) (σ : H) (b v : Nat) (D : Two σ b v) (l : List OpT) (A : V) (s : List UInt8) (p : Pre) :
    DC Tryz.prog w0 233 [.ptr b 0, p.v] (wrs σ b v l A s) (Same (infV l p) (wrs σ b v l A s)) := by
  refine k233.go rfl (fun hok hsz => ?_)
  have a1 := fun σ => show_application w0 p σ
  have e0 : infR l p = (.zero, .none, .none, false) → infV l p = .tup [.agg [S [], I 0, I 0], .agg [I 0, S [], I 0, .c (.sl []), I 0], .agg [I 0, S [], I 0, .c (.sl []), I 0], B false] := fun e => by
    unfold infV
    rw [e]
    rfl
  cases h1 : appP p
  · rw [h1] at a1
    rw [e0 (by unfold infR; rw [h1]; rfl)]
    ((try refine W.a ?_); simp only [go_sem, seval, reduceCtorEq, c233, rsA D])
    (refine W.c1 (a1 _) ?_; simp only [go_sem, seval, reduceCtorEq, rsA D])
    refine W.yes rfl ?_
    ((try refine W.a ?_); simp only [go_sem, seval, reduceCtorEq, rsA D])
    (refine W.fs (hok) (by simp only [r233, go_sem, seval, reduceCtorEq]; rfl) ?_; simp only [resV]; try exact V.wk.rfl _)
    (all_goals exact wk_here)
  obtain ⟨f, t, hl⟩ := app_two h1
  have a2 := fun σ => show_application w0 f σ
  rw [h1] at a1
  cases h2 : appP f
  · rw [h2] at a2
    rw [e0 (by unfold infR; rw [h1, if_pos rfl, hl]; simp only [h2]; rfl)]
    ((try refine W.a ?_); simp only [go_sem, seval, reduceCtorEq, c233, rsA D])
    (refine W.c1 (a1 _) ?_; simp only [go_sem, seval, reduceCtorEq, rsA D, hl, nat0])
    (refine W.c1 (a2 _) ?_; simp only [go_sem, seval, reduceCtorEq, rsA D])
    refine W.yes rfl ?_
    ((try refine W.a ?_); simp only [go_sem, seval, reduceCtorEq, rsA D])
    (refine W.fs (hok) (by simp only [r233, go_sem, seval, reduceCtorEq]; rfl) ?_; simp only [resV]; try exact V.wk.rfl _)
    (all_goals exact wk_here)
  obtain ⟨c, a, hl2⟩ := app_two h2
  rw [h2] at a2
  by_cases h3 : c.k = 0
  · have k3 : (c.k != 0) = false := by simpa using h3
    have a3 := fun σ => ops_Find w0 l c.name σ
    have e1 : infV l p = .tup [((findL l c.name).getD .zero).v, a.v, t.v, B (findL l c.name).isSome] := by
      unfold infV infR
      rw [h1, if_pos rfl, hl]
      simp only [h2, if_true, hl2, h3]
    rw [e1]
    unfold foundV at a3
    generalize (findL l c.name).getD .zero = o at *
    generalize (findL l c.name).isSome = is at *
    ((try refine W.a ?_); simp only [go_sem, seval, reduceCtorEq, c233, rsA D])
    (refine W.c1 (a1 _) ?_; simp only [go_sem, seval, reduceCtorEq, rsA D, hl, nat0])
    (refine W.c1 (a2 _) ?_; simp only [go_sem, seval, reduceCtorEq, rsA D, hl2, nat0, k3])
    refine W.no rfl ?_
    ((try refine W.a ?_); simp only [go_sem, seval, reduceCtorEq, rsA D])
    apply W.dregE (List.cons_ne_nil _ _)
    case hc =>
      (apply CanonE.advPO; simp only [go_sem, seval, reduceCtorEq, rsA D, hl, hl2, nat0])
      (apply CanonE.call (a3 _); (case hg => rfl); (case hf => rfl); (case ha => first | rfl | simp))
      (apply CanonE.advPO; simp only [go_sem, seval, reduceCtorEq, rsA D])
      exact CanonE.nil
    ((try refine W.a ?_); simp only [go_sem, seval, reduceCtorEq, rsA D])
    (apply W.dregE (List.cons_ne_nil _ _); case hc => ((apply CanonE.advPO; simp only [go_sem, seval, reduceCtorEq, rsA D, hl, hl2, nat0]); exact CanonE.nil))
    ((try refine W.a ?_); simp only [go_sem, seval, reduceCtorEq, rsA D])
    (refine W.fs (hok) (by simp only [r233, go_sem, seval, reduceCtorEq]; rfl) ?_; simp only [resV]; try exact V.wk.rfl _)
  · have k3 : (c.k != 0) = true := by simpa using h3
    rw [e0 (by unfold infR; rw [h1, if_pos rfl, hl]; simp only [h2, if_true, hl2, if_neg h3])]
    ((try refine W.a ?_); simp only [go_sem, seval, reduceCtorEq, c233, rsA D])
    (refine W.c1 (a1 _) ?_; simp only [go_sem, seval, reduceCtorEq, rsA D, hl, nat0])
    (refine W.c1 (a2 _) ?_; simp only [go_sem, seval, reduceCtorEq, rsA D, hl2, nat0, k3])
    refine W.yes rfl ?_
    ((try refine W.a ?_); simp only [go_sem, seval, reduceCtorEq, rsA D])
    (refine W.fs (hok) (by simp only [r233, go_sem, seval, reduceCtorEq]; rfl) ?_; simp only [resV]; try exact V.wk.rfl _)
    (all_goals exact wk_here)
end
section
theorem strconv_ItoaS {w0 : World} (hG : Glob w0) (n : Int) (h0 : -9223372036854775808 ≤ n) (h1 : n ≤ 9223372036854775807) (σ : H) : DC Tryz.prog w0 69 [I n] σ (Same (S (Lib.itoa n)) σ) := by
  refine DC.of_calls (enters_fn Tryz.func69 (by kernel_rfl) rfl) fun κ w vs hrep hfit => ?_
  obtain ⟨v, ys, rfl, hv, hfit⟩ := hfit.cons_inv
  have := hfit.nil_inv
  subst this
  cases hv with
  | c hv =>
    cases hv with
    | int _ _ =>
      refine ⟨_, .c (.str _ (by have := Lib.itoa_length_le n h0 h1; unfold maxLen; omega)), (itoaC n w h0 h1 (hG.ext hrep.ext)).mono ?_⟩
      rintro e w' ⟨rfl, hb⟩
      exact ⟨rfl, hb⟩
attribute [local go_sem] wrC wrY rs_len rs_g0 rs_g rs_s0 rs_s rs_sv Pre.v
theorem wrs_put (σ : H) (b v : Nat) (l : List OpT) (A : V) (s t : List UInt8) : wrs σ b v l A (s ++ t) = rs σ b v (.cells [.c (opsC l), A, .osl v (byteRows (s ++ t))] (some 196)) (.spare 5 1 (s.length + t.length)) := by
  show rs σ b v (wrC l A v (s ++ t)) (wrY (s ++ t)) = _
  simp only [wrC, wrY, List.length_append]
theorem writer_word {w0 : World} (hG : Glob w0) (σ : H) (b v : Nat) (D : Two σ b v) (l : List OpT) (A : V) (hA : A = .c .nilp ∨ A = .ptr b 1) (s : List UInt8) (p : Pre) (hn : p.n ≤ 9223372036854775807) (hlen : s.length + (wordP l p).length ≤ 100000000) :
    DC Tryz.prog w0 243 [.ptr b 0, p.v] (wrs σ b v l A s) (Same (.tup []) (wrs σ b v l (.ptr b 1) (s ++ wordP l p))) := by
  refine k243.go rfl (fun hok hsz => ?_)
  by_cases k0 : p.k = 0
  · have e0 : (p.k == 0) = true := by simpa using k0
    have a3 := fun σ => ops_Find w0 l p.name σ
    unfold foundV at a3
    have ew : wordP l p = if (findL l p.name).isSome = true then 40 :: p.name ++ [41] else p.name := by unfold wordP; rw [if_pos k0]
    generalize (findL l p.name).getD .zero = o at a3
    generalize (findL l p.name).isSome = is at a3 ew
    cases is
    · rw [if_neg (by decide)] at ew
      rw [ew] at hlen ⊢
      have hok2 := wrs_ok D hok l (s ++ p.name)
      rw [wrs_put] at hok2 ⊢
      ((try refine W.a ?_); simp only [go_sem, seval, reduceCtorEq, c243, rsA D, e0])
      refine W.yes rfl ?_
      ((try refine W.a ?_); simp only [go_sem, seval, reduceCtorEq, rsA D])
      (refine W.c1 (a3 _) ?_; simp only [go_sem, seval, reduceCtorEq, rsA D])
      refine W.no rfl ?_
      ((try refine W.a ?_); simp only [go_sem, seval, reduceCtorEq, rsA D])
      (refine W.c1 (DC.lift D (fun D' => builder_WriteString w0 _ b v D' l A hA s p.name hlen)) ?_; simp only [go_sem, seval, reduceCtorEq, rsA D])
      (refine W.done (Fin.sameW (hok2) (by (first | rfl | assumption | exact List.length_set .. | simp)) (by simp only [r243, go_sem, seval, reduceCtorEq]; rfl) ?_ (by (first | exact .c _ | (simp only [go_sem, seval, reduceCtorEq]; done))) (by (first | rfl | exact (List.append_nil _).symm))); simp only [resV]; try exact V.wk.rfl _)
    · rw [if_pos rfl, List.cons_append] at ew
      have hln : (40 :: (p.name ++ [41])).length = p.name.length + 1 + 1 := by simp
      rw [ew] at hlen ⊢
      have hok2 := wrs_ok D hok l (s ++ (40 :: (p.name ++ [41])))
      rw [wrs_put, hln] at hok2 ⊢
      have hl : p.name.length + 2 ≤ 100000000 := by simp only [List.length_append, List.length_cons, List.length_nil] at hlen; omega
      have h1 : 1 + p.name.length ≤ 9223372036854775807 := by omega
      have h2 : p.name.length + 1 + 1 ≤ 9223372036854775807 := by omega
      have h3 : p.name.length + 1 ≤ 9223372036854775806 := by omega
      have h4 : p.name.length + 1 ≤ 9223372036854775807 := by omega
      ((try refine W.a ?_); simp only [go_sem, seval, reduceCtorEq, c243, rsA D, e0])
      refine W.yes rfl ?_
      ((try refine W.a ?_); simp only [go_sem, seval, reduceCtorEq, rsA D])
      (refine W.c1 (a3 _) ?_; simp only [go_sem, seval, reduceCtorEq, rsA D])
      refine W.yes rfl ?_
      ((try refine W.a ?_); simp only [go_sem, seval, reduceCtorEq, rsA D, h1, h2, h3, h4])
      (refine W.c1 (DC.lift D (fun D' => builder_WriteString w0 _ b v D' l A hA s (40 :: (p.name ++ [41])) hlen)) ?_; simp only [go_sem, seval, reduceCtorEq, rsA D])
      (refine W.done (Fin.sameW (hok2) (by (first | rfl | assumption | exact List.length_set .. | simp)) (by simp only [r243, go_sem, seval, reduceCtorEq]; rfl) ?_ (by (first | exact .c _ | (simp only [go_sem, seval, reduceCtorEq]; done))) (by (first | rfl | exact (List.append_nil _).symm))); simp only [resV]; try exact V.wk.rfl _)
  have e0 : (p.k == 0) = false := by simpa using k0
  by_cases k1 : p.k = 1
  · have e1 : (p.k == 1) = true := by simpa using k1
    have ew : wordP l p = p.name := by unfold wordP; rw [if_neg k0, if_pos k1]
    rw [ew] at hlen ⊢
    have hok2 := wrs_ok D hok l (s ++ p.name)
    rw [wrs_put] at hok2 ⊢
    ((try refine W.a ?_); simp only [go_sem, seval, reduceCtorEq, c243, rsA D, e0])
    refine W.no rfl ?_
    ((try refine W.a ?_); simp only [go_sem, seval, reduceCtorEq, rsA D, e1])
    refine W.yes rfl ?_
    ((try refine W.a ?_); simp only [go_sem, seval, reduceCtorEq, rsA D])
    (refine W.c1 (DC.lift D (fun D' => builder_WriteString w0 _ b v D' l A hA s p.name hlen)) ?_; simp only [go_sem, seval, reduceCtorEq, rsA D])
    (refine W.done (Fin.sameW (hok2) (by (first | rfl | assumption | exact List.length_set .. | simp)) (by simp only [r243, go_sem, seval, reduceCtorEq]; rfl) ?_ (by (first | exact .c _ | (simp only [go_sem, seval, reduceCtorEq]; done))) (by (first | rfl | exact (List.append_nil _).symm))); simp only [resV]; try exact V.wk.rfl _)
  have e1 : (p.k == 1) = false := by simpa using k1
  by_cases k2 : p.k = 2
  · have e2 : (p.k == 2) = true := by simpa using k2
    have ew : wordP l p = Lib.itoa (max p.n 0) := by unfold wordP; rw [if_neg k0, if_neg k1, if_pos k2]
    have hm : (if p.n < 0 then 0 else p.n) = max p.n 0 := by split <;> omega
    have hi := fun σ => strconv_ItoaS hG (max p.n 0) (by omega) (by omega) σ
    rw [ew] at hlen ⊢
    have hok2 := wrs_ok D hok l (s ++ (Lib.itoa (max p.n 0)))
    rw [wrs_put] at hok2 ⊢
    ((try refine W.a ?_); simp only [go_sem, seval, reduceCtorEq, c243, rsA D, e0])
    refine W.no rfl ?_
    ((try refine W.a ?_); simp only [go_sem, seval, reduceCtorEq, rsA D, e1])
    refine W.no rfl ?_
    ((try refine W.a ?_); simp only [go_sem, seval, reduceCtorEq, rsA D, e2])
    refine W.yes rfl ?_
    ((try refine W.a ?_); simp only [go_sem, seval, reduceCtorEq, rsA D, hm])
    (refine W.c1 (hi _) ?_; simp only [go_sem, seval, reduceCtorEq, rsA D])
    (refine W.c1 (DC.lift D (fun D' => builder_WriteString w0 _ b v D' l A hA s (Lib.itoa (max p.n 0)) hlen)) ?_; simp only [go_sem, seval, reduceCtorEq, rsA D])
    (refine W.done (Fin.sameW (hok2) (by (first | rfl | assumption | exact List.length_set .. | simp)) (by simp only [r243, go_sem, seval, reduceCtorEq]; rfl) ?_ (by (first | exact .c _ | (simp only [go_sem, seval, reduceCtorEq]; done))) (by (first | rfl | exact (List.append_nil _).symm))); simp only [resV]; try exact V.wk.rfl _)
  have e2 : (p.k == 2) = false := by simpa using k2
  have ew : wordP l p = [63] := by unfold wordP; rw [if_neg k0, if_neg k1, if_neg k2]
  rw [ew] at hlen ⊢
  have hok2 := wrs_ok D hok l (s ++ [63])
  rw [wrs_put] at hok2 ⊢
  ((try refine W.a ?_); simp only [go_sem, seval, reduceCtorEq, c243, rsA D, e0])
  refine W.no rfl ?_
  ((try refine W.a ?_); simp only [go_sem, seval, reduceCtorEq, rsA D, e1])
  refine W.no rfl ?_
  ((try refine W.a ?_); simp only [go_sem, seval, reduceCtorEq, rsA D, e2])
  refine W.no rfl ?_
  ((try refine W.a ?_); simp only [go_sem, seval, reduceCtorEq, rsA D])
  (refine W.c1 (DC.lift D (fun D' => builder_WriteString w0 _ b v D' l A hA s [63] hlen)) ?_; simp only [go_sem, seval, reduceCtorEq, rsA D])
  (refine W.done (Fin.sameW (hok2) (by (first | rfl | assumption | exact List.length_set .. | simp)) (by simp only [r243, go_sem, seval, reduceCtorEq]; rfl) ?_ (by (first | exact .c _ | (simp only [go_sem, seval, reduceCtorEq]; done))) (by (first | rfl | exact (List.append_nil _).symm))); simp only [resV]; try exact V.wk.rfl _)
end
section
def c234 : AC := .seq (.reg [.o 4 (.box (.t 1))]) (.seq (.reg [.m 11 0,.d 12 5 4,.k 13 233 [(.t 11),(.t 12)],.m 10 13,.x 14 10 0,.x 15 10 1,.x 16 10 2,.x 17 10 3,.o 6 (.box (.k (.agg [.c (.str []),.c (.int .i64 0),.c (.int .i64 0)]))),.o 7 (.box (.k (.agg [.c (.int .i64 0),.c (.str []),.c (.int .i64 0),.csl [],.c (.int .i64 0)]))),.o 8 (.box (.k (.agg [.c (.int .i64 0),.c (.str []),.c (.int .i64 0),.csl [],.c (.int .i64 0)]))),.s 3 6 14,.s 5 7 15,.s 5 8 16,.m 9 17]) (.dreg [.m 18 0,.d 19 5 4,.d 20 5 4,.k 21 239 [(.t 20)],.m 22 21,.z 23 (.mov (.t 9)) 22,.z 24 (.mov (.t 23)) 22,.y 25 (.mov (.t 2)) 24,.y 26 (.loadn 3 (.t 6)) 24,.y 27 (.call (.t 25) [(.t 26)]) 24,.y 28 (.un .not (.t 27)) 24,.z 29 (.pick (.t 24) (.t 28) (.k (.c (.bool false)))) 22,.o 30 (.pick (.t 22) (.k (.c (.bool true))) (.t 29)),.k 31 241 [(.t 18),(.t 19),(.t 30)]] [.q (.d 20 5 4),⟨.k 21 239 [(.t 20)],true,0⟩,⟨.m 22 21,false,1⟩,⟨.z 23 (.mov (.t 9)) 22,false,1⟩,⟨.z 24 (.mov (.t 23)) 22,false,1⟩,⟨.y 25 (.mov (.t 2)) 24,false,1⟩,⟨.y 26 (.loadn 3 (.t 6)) 24,false,1⟩,⟨.y 27 (.call (.t 25) [(.t 26)]) 24,true,1⟩,.q (.m 18 0),.q (.d 19 5 4),⟨.y 28 (.un .not (.t 27)) 24,false,2⟩,⟨.z 29 (.pick (.t 24) (.t 28) (.k (.c (.bool false)))) 22,false,2⟩,⟨.o 30 (.pick (.t 22) (.k (.c (.bool true))) (.t 29)),false,2⟩,⟨.k 31 241 [(.t 18),(.t 19),(.t 30)],true,2⟩]))
def r234 : List ResV := []
theorem k234 : CodeIs Tryz.prog 234 3 Tryz.f234 c234 r234 := .auto Tryz.func234
def c151 : AC := .seq (.reg [.o 3 (.box (.t 1))]) (.seq (.reg [.m 13 0,.d 14 5 3,.k 15 233 [(.t 13),(.t 14)],.m 12 15,.x 16 12 0,.x 17 12 1,.x 18 12 2,.x 19 12 3,.o 4 (.box (.k (.agg [.c (.str []),.c (.int .i64 0),.c (.int .i64 0)]))),.o 5 (.box (.k (.agg [.c (.int .i64 0),.c (.str []),.c (.int .i64 0),.csl [],.c (.int .i64 0)]))),.o 6 (.box (.k (.agg [.c (.int .i64 0),.c (.str []),.c (.int .i64 0),.csl [],.c (.int .i64 0)]))),.s 3 4 16,.s 5 5 17,.s 5 6 18,.m 7 19]) (.block 0 (.seq (.reg [.m 24 7,.m 23 24]) (.cond (.t 23) (.seq (.reg [.m 25 0,.d 26 5 5,.o 27 (.mkfn 235 [(.t 4)]),.k 28 234 [(.t 25),(.t 26),(.t 27)]]) (.seq (.dreg [.m 29 0,.n 30 29,.f 31 1 30,.f 32 0 4,.l 33 32,.o 34 (.bin .add (.k (.c (.str [32]))) (.t 33)),.o 35 (.bin .add (.t 34) (.k (.c (.str [32])))),.k 36 86 [(.t 31),(.t 35)]] [.q (.m 29 0),.q (.n 30 29),.q (.f 31 1 30),.q (.f 32 0 4),.q (.l 33 32),.q (.o 34 (.bin .add (.k (.c (.str [32]))) (.t 33))),.q (.o 35 (.bin .add (.t 34) (.k (.c (.str [32]))))),⟨.k 36 86 [(.t 31),(.t 35)],true,0⟩]) (.reg [.m 37 0,.d 38 5 6,.o 39 (.mkfn 237 [(.t 4)]),.k 40 234 [(.t 37),(.t 38),(.t 39)]]))) (.seq (.reg [.d 42 5 3,.k 43 239 [(.t 42)],.m 41 43]) (.cond (.t 41) (.seq (.dreg [.m 44 0,.n 45 44,.f 46 1 45,.f 47 1 3,.l 48 47,.o 49 (.bin .add (.t 48) (.k (.c (.str [92,32])))),.k 50 86 [(.t 46),(.t 49)]] [.q (.m 44 0),.q (.n 45 44),.q (.f 46 1 45),.q (.f 47 1 3),.q (.l 48 47),.q (.o 49 (.bin .add (.t 48) (.k (.c (.str [92,32]))))),⟨.k 50 86 [(.t 46),(.t 49)],true,0⟩]) (.reg [.m 51 0,.f 52 3 3,.l 53 52,.o 54 (.iadd 5 (.t 53) (.k (.c (.int .i64 0)))),.d 55 5 54,.k 56 151 [(.t 51),(.t 55)]])) (.seq (.reg [.d 58 5 3,.k 59 240 [(.t 58)],.m 57 59]) (.cond (.t 57) (.seq (.reg [.m 61 0,.f 62 3 3,.l 63 62,.o 64 (.iadd 5 (.t 63) (.k (.c (.int .i64 0)))),.d 65 5 64,.k 66 233 [(.t 61),(.t 65)],.m 60 66,.x 67 60 0,.x 68 60 1,.x 69 60 2,.x 70 60 3,.o 8 (.box (.k (.agg [.c (.str []),.c (.int .i64 0),.c (.int .i64 0)]))),.o 9 (.box (.k (.agg [.c (.int .i64 0),.c (.str []),.c (.int .i64 0),.csl [],.c (.int .i64 0)]))),.o 10 (.box (.k (.agg [.c (.int .i64 0),.c (.str []),.c (.int .i64 0),.csl [],.c (.int .i64 0)]))),.s 3 8 67,.s 5 9 68,.s 5 10 69,.m 11 70]) (.seq (.dreg [.m 71 0,.f 72 3 3,.l 73 72,.o 74 (.iadd 5 (.t 73) (.k (.c (.int .i64 0)))),.d 75 5 74,.m 76 11,.m 77 76,.z 78 (.fadd 3 (.t 3)) 77,.z 79 (.load1 (.t 78)) 77,.z 80 (.iadd 5 (.t 79) (.k (.c (.int .i64 0)))) 77,.z 81 (.loadn 5 (.t 80)) 77,.z 82 (.call (.k (.fn 239 [])) [(.t 81)]) 77,.o 83 (.pick (.t 77) (.k (.c (.bool true))) (.t 82)),.k 84 241 [(.t 71),(.t 75),(.t 83)]] [.q (.m 76 11),.q (.m 77 76),.q (.z 78 (.fadd 3 (.t 3)) 77),.q (.z 79 (.load1 (.t 78)) 77),.q (.z 80 (.iadd 5 (.t 79) (.k (.c (.int .i64 0)))) 77),.q (.z 81 (.loadn 5 (.t 80)) 77),⟨.z 82 (.call (.k (.fn 239 [])) [(.t 81)]) 77,true,0⟩,.q (.m 71 0),.q (.f 72 3 3),.q (.l 73 72),.q (.o 74 (.iadd 5 (.t 73) (.k (.c (.int .i64 0))))),.q (.d 75 5 74),⟨.o 83 (.pick (.t 77) (.k (.c (.bool true))) (.t 82)),false,1⟩,⟨.k 84 241 [(.t 71),(.t 75),(.t 83)],true,1⟩]) (.seq (.reg [.m 85 0,.n 86 85,.f 87 1 86,.k 88 242 [(.t 87),(.k (.c (.int .u8 32)))]]) (.dreg [.m 89 0,.f 90 3 3,.l 91 90,.o 92 (.iadd 5 (.t 91) (.k (.c (.int .i64 1)))),.d 93 5 92,.f 94 3 3,.l 95 94,.o 96 (.iadd 5 (.t 95) (.k (.c (.int .i64 1)))),.d 97 5 96,.k 98 239 [(.t 97)],.m 99 98,.z 100 (.fadd 3 (.t 3)) 99,.z 101 (.load1 (.t 100)) 99,.z 102 (.iadd 5 (.t 101) (.k (.c (.int .i64 1)))) 99,.z 103 (.loadn 5 (.t 102)) 99,.z 104 (.call (.k (.fn 240 [])) [(.t 103)]) 99,.o 105 (.pick (.t 99) (.k (.c (.bool true))) (.t 104)),.k 106 241 [(.t 89),(.t 93),(.t 105)]] [.q (.f 94 3 3),.q (.l 95 94),.q (.o 96 (.iadd 5 (.t 95) (.k (.c (.int .i64 1))))),.q (.d 97 5 96),⟨.k 98 239 [(.t 97)],true,0⟩,⟨.m 99 98,false,1⟩,⟨.z 100 (.fadd 3 (.t 3)) 99,false,1⟩,⟨.z 101 (.load1 (.t 100)) 99,false,1⟩,⟨.z 102 (.iadd 5 (.t 101) (.k (.c (.int .i64 1)))) 99,false,1⟩,⟨.z 103 (.loadn 5 (.t 102)) 99,false,1⟩,⟨.z 104 (.call (.k (.fn 240 [])) [(.t 103)]) 99,true,1⟩,.q (.m 89 0),.q (.f 90 3 3),.q (.l 91 90),.q (.o 92 (.iadd 5 (.t 91) (.k (.c (.int .i64 1))))),.q (.d 93 5 92),⟨.o 105 (.pick (.t 99) (.k (.c (.bool true))) (.t 104)),false,2⟩,⟨.k 106 241 [(.t 89),(.t 93),(.t 105)],true,2⟩])))) (.reg [.m 20 0,.d 21 5 3,.k 22 243 [(.t 20),(.t 21)]])))))))))
def r151 : List ResV := []
theorem k151 : CodeIs Tryz.prog 151 2 Tryz.f151 c151 r151 := .auto Tryz.func151
def c235 : AC := .seq (.reg [.o 2 (.box (.t 0)),.o 3 (.mov (.k (.c (.bool false))))]) (.seq (.reg [.d 4 3 1,.d 5 3 2,.k 6 236 [(.t 4),(.t 5)],.m 3 6]) (.ret))
def r235 : List ResV := [.tmp 3]
theorem k235 : CodeIs Tryz.prog 235 2 Tryz.f235 c235 r235 := .auto Tryz.func235
def c237 : AC := .seq (.reg [.o 2 (.box (.t 0)),.o 3 (.mov (.k (.c (.bool false))))]) (.seq (.reg [.d 4 3 1,.d 5 3 2,.k 6 238 [(.t 4),(.t 5)],.m 3 6]) (.ret))
def r237 : List ResV := [.tmp 3]
theorem k237 : CodeIs Tryz.prog 237 2 Tryz.f237 c237 r237 := .auto Tryz.func237
def c241 : AC := .seq (.reg [.o 4 (.box (.t 1))]) (.seq (.seq (.reg [.m 6 2]) (.cond (.t 6) (.seq (.reg [.m 7 0,.n 8 7,.f 9 1 8,.k 10 242 [(.t 9),(.k (.c (.int .u8 40)))]]) (.reg [.m 11 0,.n 12 11,.f 13 1 12,⟨none,.bad,none⟩])) (.skip))) (.reg [.m 14 0,.d 15 5 4,.k 16 151 [(.t 14),(.t 15)]]))
def r241 : List ResV := []
theorem k241 : CodeIs Tryz.prog 241 3 Tryz.f241 c241 r241 := .auto Tryz.func241
end
section
attribute [local go_sem] wrC wrY rs_len rs_g0 rs_g rs_s0 rs_s rs_sv
theorem builder_WriteByteD (w0 : World) (σ : H) (b v : Nat) (D : Two σ b v) (l : List OpT) (A : V) (hA : A = .c .nilp ∨ A = .ptr b 1) (s : List UInt8) (t : UInt8) (hn : s.length + 1 ≤ 100000000) :
    DCD Tryz.prog w0 242 [.ptr b 1, .c (.int .u8 t.toNat)] (wrs σ b v l A s) (Same (.c .nili) (wrs σ b v l (.ptr b 1) (s ++ [t]))) := by
  refine (k242).goD rfl (fun hok hsz => ?_)
  have hok2 := wrs_ok D hok l (s ++ [t])
  rw [wrs_push] at hok2 ⊢
  have hl1 : (byteRows s).length = s.length := by simp [byteRows]
  have hb1 : (s.length + 1) * 1 ≤ 140737488355328 := by omega
  have hb2 : s.length + 1 ≤ 140737488355328 := by omega
  ((try refine W.a ?_); simp only [go_sem, seval, reduceCtorEq, c242, rsA D])
  (refine W.c1 (copyCheckW w0 σ b v D l A hA s) ?_; simp only [go_sem, seval, reduceCtorEq])
  ((try refine W.a ?_); simp only [go_sem, seval, reduceCtorEq, rsA D, hl1, hb1, hb2])
  (refine W.fs (hok2) (by simp only [r242, go_sem, seval, reduceCtorEq]; rfl) ?_; simp only [resV]; try exact V.wk.rfl _)
def TreeD (w0 : World) (l : List OpT) (p : Pre) (t : List UInt8) : Prop :=
  ∀ (σ : H) (b v : Nat) (D : Two σ b v) (A : V) (hA : A = .c .nilp ∨ A = .ptr b 1) (s : List UInt8), s.length + t.length ≤ 100000000 →
    DC Tryz.prog w0 151 [.ptr b 0, p.v] (wrs σ b v l A s) (Same (.tup []) (wrs σ b v l (.ptr b 1) (s ++ t)))
theorem pre_value {κ : K} {p : Pre} {v : Value} (h : RV κ p.v v) : ∃ A c, v = .agg #[.int .i64 p.k, .string (bs p.name), .int .i64 p.n, .slice A p.l.length c, .int .i64 p.pos] := by
  unfold Pre.v at h
  cases h with
  | agg hl h1 =>
    rename_i xs
    match xs, hl, h1 with
    | [y0, y1, y2, y3, y4], _, h1 =>
      have r0 := h1 0 (by simp)
      have r1 := h1 1 (by simp)
      have r2 := h1 2 (by simp)
      have r3 := h1 3 (by simp)
      have r4 := h1 4 (by simp)
      simp only [List.getElem_cons_zero, List.getElem_cons_succ, List.getD_cons_zero, List.getD_cons_succ] at r0 r1 r2 r3 r4
      cases r0 with | c r0 => cases r0 with | int =>
      cases r1 with | c r1 => cases r1 with | str =>
      cases r2 with | c r2 => cases r2 with | int =>
      cases r4 with | c r4 => cases r4 with | int =>
      cases r3 with | c r3 =>
        cases r3 with
        | sl _ _ A cap =>
          rw [List.length_map]
          exact ⟨A, cap, rfl⟩
theorem pre_cells {w0 w : World} {κ : K} {σ : H} (h : Rep w0 κ σ w) {i : Nat} {p : Pre} (hi : σ[i]? = some (.cells p.v.cellsV none)) :
    ∃ y0 y1 y2 y3 y4, (∃ T, w.heap[κ.pos i]? = some (.cells #[y0, y1, y2, y3, y4] T (0, 0))) ∧ RV κ p.v (.agg #[y0, y1, y2, y3, y4]) := by
  obtain ⟨hlt, hie⟩ := List.getElem?_eq_some_iff.1 hi
  have hb := h.blk i hlt
  rw [hie] at hb
  obtain ⟨vs, t, k1, k2, k3⟩ := hb.row
  have k2 : vs.size = 5 := k2
  refine ⟨vs[0], vs[1], vs[2], vs[3], vs[4], ⟨t, ?_⟩, ?_⟩
  · rw [k1]
    congr 1
    congr 1
    apply Array.ext
    · simp [k2]
    · intro j h1 h2
      match j, h1 with
      | 0, _ => rfl
      | 1, _ => rfl
      | 2, _ => rfl
      | 3, _ => rfl
      | 4, _ => rfl
      | j + 5, h1 => omega
  · have e : ∀ j (hj : j < 5), vs.getD j undef = vs[j] := fun j hj => by simp [Array.getD, k2, hj]
    refine RV.agg (xs := [vs[0], vs[1], vs[2], vs[3], vs[4]]) rfl (fun j hj => ?_)
    have hj : j < 5 := hj
    have := (k3 j hj).2
    rw [e j hj] at this
    match j, hj, this with
    | 0, _, this => exact this
    | 1, _, this => exact this
    | 2, _, this => exact this
    | 3, _, this => exact this
    | 4, _, this => exact this
theorem part_brackets (w0 : World) (l : List OpT) (p : Pre) (t : List UInt8) (hT : TreeD w0 l p t) (σ : H) (b v : Nat) (D : Two σ b v) (A : V) (hA : A = .c .nilp ∨ A = .ptr b 1) (s : List UInt8) (hn : s.length + t.length + 2 ≤ 100000000) :
    DC Tryz.prog w0 241 [.ptr b 0, p.v, B true] (wrs σ b v l A s) (Same (.tup []) (wrs σ b v l (.ptr b 1) (s ++ (40 :: t ++ [41])))) := by
  refine ⟨enters_fn Tryz.func241 (by kernel_rfl) rfl, fun κ w vs hrep hfit => ?_⟩
  obtain ⟨x, ys, rfl, hx, hfit⟩ := hfit.cons_inv
  obtain ⟨y, zs, rfl, hy, hfit⟩ := hfit.cons_inv
  obtain ⟨z, us, rfl, hz, hfit⟩ := hfit.cons_inv
  have := hfit.nil_inv
  subst this
  have ez : z = .bool true := by cases hz with | c h => cases h; rfl
  have ex : x = .pointer (some ⟨κ.pos b, 0, none⟩) := by cases hx; rfl
  subst ez ex
  obtain ⟨vA, vc, ey⟩ := pre_value hy
  subst ey
  have hn0 : (wrs σ b v l A s).length = σ.length := rs_len _ _
  have hxn : b < κ.n ∧ κ.fr b = none := by cases hx with | ptr h1 h2 => exact ⟨h1, h2⟩
  have hbox := hrep.box (cs := p.v.cellsV) (vs := [.int .i64 p.k, .string (bs p.name), .int .i64 p.n, .slice vA p.l.length vc, .int .i64 p.pos]) 37 (tg := none) (fun T h => by cases h) rfl rfl (by
    have := cells_ok hy rfl
    exact this.2)
  obtain ⟨hb1, hb2⟩ := hbox
  rw [← rs_app D] at hb1
  have hle0 : κ.le (κ.more w.heap.size) := K.more_le
  rw [hn0] at hb2
  have hpn : b < (κ.more w.heap.size).n ∧ (κ.more w.heap.size).fr b = none ∧ (κ.more w.heap.size).pos b = κ.pos b := ⟨by have := hle0.n; omega, hle0.cells b hxn.1 hxn.2⟩
  have hqn : σ.length < (κ.more w.heap.size).n ∧ (κ.more w.heap.size).fr σ.length = none ∧ (κ.more w.heap.size).pos σ.length = w.heap.size := by
    generalize hg : Value.pointer (some ⟨w.heap.size, 0, none⟩) = g at hb2
    cases hb2 with
    | ptr h1 h2 => injection hg with hg; injection hg with hg; injection hg with hg; exact ⟨h1, h2, hg.symm⟩
  generalize κ.more w.heap.size = κ0 at *
  have hx2 : RV κ0 (.ptr b 1) (.pointer (some ⟨κ.pos b, 1, none⟩)) := by rw [← hpn.2.2]; exact .ptr hpn.1 hpn.2.1
  have hat : ∀ (X Y : Blk), (rs (σ ++ [Blk.cells p.v.cellsV]) b v X Y)[σ.length]? = some (.cells p.v.cellsV none) := fun X Y => by rw [rs_app D, rs_g0]
  go_enter_defers Tryz.func241, Tryz.ntmps241
  go_wp2_with (fail)
  refine ((builder_WriteByte w0 (σ ++ [.cells p.v.cellsV]) b v (D.app _) l A hA s 40 (by omega)).run _ _ [.pointer (some ⟨κ.pos b, 1, none⟩), .int .u8 40] hb1 (Fits.cons hx2 (Fits.cons (.c (.int _ _)) Fits.nil))).mono ?_
  rintro e w1 ⟨v1, d1, σ1, κ1, rfl, ⟨rfl, rfl⟩, hle1, hrep1, hv1⟩
  have hpn1 : b < κ1.n ∧ κ1.fr b = none ∧ κ1.pos b = κ.pos b := ⟨by have := hle1.n; omega, (hle1.cells b hpn.1 hpn.2.1).1, (hle1.cells b hpn.1 hpn.2.1).2.trans hpn.2.2⟩
  have hqn1 : κ1.pos σ.length = w.heap.size := (hle1.cells _ hqn.1 hqn.2.1).2.trans hqn.2.2
  obtain ⟨y0, y1, y2, y3, y4, ⟨T, hT1⟩, hy1⟩ := pre_cells hrep1 (hat _ _)
  obtain ⟨vA1, vc1, ey⟩ := pre_value hy1
  injection ey with ey
  injection ey with ey
  injection ey with e0 ey
  injection ey with e1 ey
  injection ey with e2 ey
  injection ey with e3 ey
  injection ey with e4 ey
  subst e0 e1 e2 e3 e4
  rw [hqn1] at hT1
  have c0 : w1.cell? ⟨w.heap.size, 0, none⟩ = _ := Lib.cell_of_heap hT1 0
  have c1 : w1.cell? ⟨w.heap.size, 1, none⟩ = _ := Lib.cell_of_heap hT1 1
  have c2 : w1.cell? ⟨w.heap.size, 2, none⟩ = _ := Lib.cell_of_heap hT1 2
  have c3 : w1.cell? ⟨w.heap.size, 3, none⟩ = _ := Lib.cell_of_heap hT1 3
  have c4 : w1.cell? ⟨w.heap.size, 4, none⟩ = _ := Lib.cell_of_heap hT1 4
  simp only [List.getElem?_toArray, List.getElem?_cons_zero, List.getElem?_cons_succ] at c0 c1 c2 c3 c4
  go_wp2_with (fail)
  have hx3 : RV κ1 (.ptr b 0) (.pointer (some ⟨κ.pos b, 0, none⟩)) := by rw [← hpn1.2.2]; exact .ptr hpn1.1 hpn1.2.1
  refine ((hT (σ ++ [.cells p.v.cellsV]) b v (D.app _) (.ptr b 1) (.inr rfl) (s ++ [40]) (by simp; omega)).run _ _ [.pointer (some ⟨κ.pos b, 0, none⟩), _] hrep1 (Fits.cons hx3 (Fits.cons hy1 Fits.nil))).mono ?_
  rintro e w2 ⟨v2, d2, σ2, κ2, rfl, ⟨rfl, rfl⟩, hle2, hrep2, hv2⟩
  have hpn2 : b < κ2.n ∧ κ2.fr b = none ∧ κ2.pos b = κ.pos b := ⟨by have := hle2.n; omega, (hle2.cells b hpn1.1 hpn1.2.1).1, (hle2.cells b hpn1.1 hpn1.2.1).2.trans hpn1.2.2⟩
  have hx4 : RV κ2 (.ptr b 1) (.pointer (some ⟨κ.pos b, 1, none⟩)) := by rw [← hpn2.2.2]; exact .ptr hpn2.1 hpn2.2.1
  go_wp2_with (fail)
  refine leaves_cons (f := 242) (args := #[.pointer (some ⟨κ.pos b, 1, none⟩), .int .u8 41]) (by simp) (by
    have hen := (builder_WriteByte w0 (σ ++ [.cells p.v.cellsV]) b v (D.app _) l A hA s 40 (by omega)).enters
    first | exact hen _ _ | simpa [invoke] using hen _ _ | simpa [go_sem] using hen _ _) ?_
  refine (builder_WriteByteD w0 (σ ++ [.cells p.v.cellsV]) b v (D.app _) l (.ptr b 1) (.inr rfl) (s ++ [40] ++ t) 41 (by simp; omega) κ2 w2 [.pointer (some ⟨κ.pos b, 1, none⟩), .int .u8 41] .returning hrep2 (Fits.cons hx4 (Fits.cons (.c (.int _ _)) Fits.nil))).mono ?_
  rintro e u' w3 ⟨rfl, v3, d3, σ3, κ3, rfl, ⟨rfl, rfl⟩, hle3, hrep3, hv3⟩
  refine ⟨_, by first | exact results_none rfl _ _ _ | (simp [results]; rfl), ?_⟩
  have hle : κ.le κ3 := K.le_trans hle0 (K.le_trans hle1 (K.le_trans hle2 hle3))
  have hs : s ++ [40] ++ t ++ [41] = s ++ 40 :: (t ++ [41]) := by simp
  rw [hs] at hrep3
  have hok2 := wrs_ok D hrep.ok l (s ++ 40 :: (t ++ [41]))
  have hr3 : Rep w0 κ3 (wrs σ b v l (.ptr b 1) (s ++ 40 :: (t ++ [41])) ++ [.cells p.v.cellsV]) w3 := by rw [← rs_app D]; exact hrep3
  have ht : (wrs σ b v l (.ptr b 1) (s ++ 40 :: (t ++ [41])) ++ [Blk.cells p.v.cellsV]).take σ.length = wrs σ b v l (.ptr b 1) (s ++ 40 :: (t ++ [41])) := List.take_left' (rs_len _ _)
  have hcut := hr3.cut σ.length (by simp) (by rw [ht]; exact hok2)
  rw [ht] at hcut
  exact ⟨_, .tup [], _, κ3.cut σ.length, rfl, ⟨rfl, rfl⟩, K.cut_le hle (by rw [hrep.n, hn0]; exact Nat.le_refl _), hcut, .tup rfl (fun j hj => absurd hj (Nat.not_lt_zero _))⟩
theorem writer_part (w0 : World) (l : List OpT) (p : Pre) (t : List UInt8) (hT : TreeD w0 l p t) (br : Bool) (σ : H) (b v : Nat) (D : Two σ b v) (A : V) (hA : A = .c .nilp ∨ A = .ptr b 1) (s : List UInt8) (hn : s.length + (putP t br).length ≤ 100000000) :
    DC Tryz.prog w0 241 [.ptr b 0, p.v, B br] (wrs σ b v l A s) (Same (.tup []) (wrs σ b v l (.ptr b 1) (s ++ putP t br))) := by
  cases br
  · rw [show putP t false = t from rfl] at hn ⊢
    refine k241.go rfl (fun hok hsz => ?_)
    have hok2 := wrs_ok D hok l (s ++ t)
    have hT := fun σ D => hT σ b v D A hA s hn
    rw [wrs_put] at hok2 ⊢
    ((try refine W.a ?_); simp only [go_sem, seval, reduceCtorEq, c241, rsA D, Pre.v])
    refine W.no rfl ?_
    ((try refine W.a ?_); simp only [go_sem, seval, reduceCtorEq, rsA D])
    have hT2 : ∀ (L : H), DC Tryz.prog w0 151 [.ptr b 0, p.v] (rs σ b v (wrC l A v s) (wrY s) ++ L) (Same (.tup []) (rs σ b v (.cells [.c (opsC l), .ptr b 1, .osl v (byteRows (s ++ t))] (some 196)) (.spare 5 1 (s.length + t.length)) ++ L)) := fun L => DC.lift D (fun D' => by have := hT _ D'; rwa [wrs_put] at this)
    (refine W.c1 (hT2 _) ?_; simp only [go_sem, seval, reduceCtorEq, rsA D])
    (refine W.done (Fin.sameW (hok2) (by (first | rfl | assumption | exact List.length_set .. | simp)) (by simp only [r241, go_sem, seval, reduceCtorEq]; rfl) ?_ (by (first | exact .c _ | (simp only [go_sem, seval, reduceCtorEq]; done))) (by (first | rfl | exact (List.append_nil _).symm))); simp only [resV]; try exact V.wk.rfl _)
  · exact part_brackets w0 l p t hT σ b v D A hA s (by simp [putP] at hn; omega)
end
end Go.Proofs.YtpcmcfajfnpjeaaGreatDoor
namespace Go.Proofs.YtpcmcfajfnpjeaaGreatDoor
open Go.RowKit Go.Lamb
end Go.Proofs.YtpcmcfajfnpjeaaGreatDoor
namespace Go.Proofs.YtpcmcfajfnpjeaaGreatDoor
open Go.RowKit Go.Lamb
attribute [local go_sem] advO_skip advO_reg advO_seq advO_block advO_exit advO_endb advO_opsNil advO_ops advG_yes advG_no advG_none advS_some advS_none advO_cond advO_loop advO_dreg advO_ret advO_bad advO_inv advO_nil advO_zero wantedV Lamb.step ev_t ev_k put_some put_none argEnv popTo cellsAt V.cellsV V.rows V.sub V.toC toCs fillV bytesC byteRows appV rowsV boundV boundL binV binInt binStr eqC eqL V.isNil leaves V.leaf Ins.quiet Ins.pure List.getD_cons_zero List.getD_cons_succ List.getD_nil List.all_cons List.all_nil List.length_cons List.length_nil List.take_succ_cons List.take_zero List.drop_succ_cons List.drop_zero List.cons_append List.nil_append List.append_nil List.append_assoc List.map_cons List.map_nil List.getElem?_cons_zero List.getElem?_cons_succ List.length_append List.length_set hget0 hget hset0 hset hsets hgs0 hgs hss0 hss List.set_cons_zero List.set_cons_succ List.forall_mem_cons List.not_mem_nil false_implies implies_true Option.map_some Bool.and_true Bool.true_and Bool.not_not Bool.not_true Bool.not_false Bool.and_self Bool.or_true Bool.true_or Bool.or_false Bool.false_or Bool.and_false Bool.false_and Bool.false_eq_true beq_self_eq_true and_self and_true true_and if_true if_false Nat.zero_add Nat.add_zero Nat.le_refl Int.toNat_natCast decide_true decide_false beq_t beq_f List.length_map List.getElem?_map I S B opsC toksC OpT.v OpT.cs OpT.zero Tok.v Tok.cs Pre.v Pre.cs_eq k_mk name_mk n_mk l_mk pos_mk Pre.app applyL natCast0 natCast1 natCast2 AOp.o AOp.m AOp.f AOp.l AOp.d AOp.n AOp.x AOp.s AOp.k AOp.y AOp.z EOp.q low_c low_void low_any low_csl low_nilf low_ptr low_osl low_agg low_tup low_fn resEval advPO_nil advPO_loud advPO_quiet pL_yes pL_no pLS_some pLS_none pQ_yes pQ_no pQS_some pQS_loud eq_self Nat.sub_zero
section
attribute [local go_sem] Pre.v Pre.cs_eq
theorem infP_R (l : List OpT) (p : Pre) : infP l p = if (infR l p).2.2.2 = true then some ((infR l p).1, (infR l p).2.1, (infR l p).2.2.1) else none := by
  cases h1 : appP p
  · have h0 : infP l p = none := by
      cases e : infP l p with
      | none => rfl
      | some x =>
        have := infP_app (l := l) (p := p) (by rw [e]; rfl)
        rw [h1] at this
        cases this
    rw [h0]
    unfold infR
    rw [h1]
    rfl
  · obtain ⟨f, t, hl⟩ := app_two h1
    have hk : p.k = 3 := by unfold appP at h1; simp only [Bool.and_eq_true, beq_iff_eq] at h1; exact h1.1
    unfold infP infR
    rw [h1, if_pos rfl, if_pos hk, hl]
    simp only []
    cases h2 : appP f
    · by_cases hf : f.k = 3
      · rw [if_pos hf]
        have hlen : ¬ f.l.length = 2 := fun e => by simp [appP, hf, e] at h2
        split
        · rename_i e
          rw [e] at hlen
          exact absurd rfl hlen
        · rfl
      · rw [if_neg hf]
        rfl
    · obtain ⟨c, a, hl2⟩ := app_two h2
      have hf : f.k = 3 := by unfold appP at h2; simp only [Bool.and_eq_true, beq_iff_eq] at h2; exact h2.1
      rw [if_pos hf, hl2]
      simp only [if_true]
      by_cases h3 : c.k = 0
      · rw [if_pos h3, if_pos h3]
        cases findL l c.name <;> rfl
      · rw [if_neg h3, if_neg h3]
        rfl
end
section
attribute [local go_sem] wrC wrY rs_len rs_g0 rs_g rs_s0 rs_s rs_sv
theorem tree_left (w0 : World) (σ : H) (q : Nat) (o x : OpT) (hq : ∀ L, (σ ++ L)[q]? = some (.cells o.v.cellsV none)) : DC Tryz.prog w0 235 [x.v, .ptr q 0] σ (Same (B (besideL o x 1)) σ) := by
  refine k235.go rfl (fun hok hsz => ?_)
  ((try refine W.a ?_); simp only [go_sem, seval, reduceCtorEq, c235, hq])
  (refine W.c1 (ops_Left w0 o x _) ?_; simp only [go_sem, seval, reduceCtorEq])
  (refine W.fs (hok) (by simp only [r235, go_sem, seval, reduceCtorEq]; rfl) ?_; simp only [resV]; try exact V.wk.rfl _)
theorem tree_right (w0 : World) (σ : H) (q : Nat) (o x : OpT) (hq : ∀ L, (σ ++ L)[q]? = some (.cells o.v.cellsV none)) : DC Tryz.prog w0 237 [x.v, .ptr q 0] σ (Same (B (besideL o x 2)) σ) := by
  refine k237.go rfl (fun hok hsz => ?_)
  ((try refine W.a ?_); simp only [go_sem, seval, reduceCtorEq, c237, hq])
  (refine W.c1 (ops_Right w0 o x _) ?_; simp only [go_sem, seval, reduceCtorEq])
  (refine W.fs (hok) (by simp only [r237, go_sem, seval, reduceCtorEq]; rfl) ?_; simp only [resV]; try exact V.wk.rfl _)
def sideG (l : List OpT) (g : OpT → Bool) (p : Pre) : Bool := lamP p || (match infP l p with | some (x, _, _) => !g x | none => false)
theorem writer_side (w0 : World) (l : List OpT) (p : Pre) (t : List UInt8) (hT : TreeD w0 l p t) (f : FuncId) (caps : List V) (g : OpT → Bool) (σ : H) (b v : Nat) (D : Two σ b v) (A : V) (hA : A = .c .nilp ∨ A = .ptr b 1) (s : List UInt8)
    (hF : ∀ L x, DC Tryz.prog w0 f (x.v :: caps) (wrs σ b v l A s ++ L) (Same (B (g x)) (wrs σ b v l A s ++ L))) (hn : s.length + (putP t (sideG l g p)).length ≤ 100000000) :
    DC Tryz.prog w0 234 [.ptr b 0, p.v, .fn f caps] (wrs σ b v l A s) (Same (.tup []) (wrs σ b v l (.ptr b 1) (s ++ putP t (sideG l g p)))) := by
  refine k234.go rfl (fun hok hsz => ?_)
  have hok2 := wrs_ok D hok l (s ++ putP t (sideG l g p))
  have hi := fun L => DC.lift (L := L) D (fun D' => writer_infix w0 (σ ++ L) b v D' l A s p)
  have hl := fun σ => show_lambda w0 p σ
  have hsd : sideG l g p = (lamP p || (match infP l p with | some (x, _, _) => !g x | none => false)) := rfl
  have hp := fun L (br : Bool) hn => DC.lift (L := L) D (fun D' => writer_part w0 l p t hT br (σ ++ L) b v D' A hA s hn)
  unfold infV at hi
  rw [infP_R] at hsd
  have hR : infR l p = ((infR l p).1, (infR l p).2.1, (infR l p).2.2.1, (infR l p).2.2.2) := rfl
  generalize (infR l p).1 = o at *
  generalize (infR l p).2.1 = x at *
  generalize (infR l p).2.2.1 = y at *
  generalize (infR l p).2.2.2 = is at *
  generalize lamP p = lm at *
  generalize sideG l g p = br at *
  have hpb := fun L => hp L br hn
  rw [wrs_put] at hok2 ⊢
  cases lm
  · cases is
    · have e : br = false := by rw [hsd]; rfl
      subst e
      ((try refine W.a ?_); simp only [go_sem, seval, reduceCtorEq, c234, rsA D, Pre.v])
      (refine W.c1 (hi _) ?_; simp only [go_sem, seval, reduceCtorEq, rsA D, Pre.v])
      apply W.dregE (List.cons_ne_nil _ _)
      case hc =>
        (apply CanonE.advPO; simp only [go_sem, seval, reduceCtorEq, rsA D, Pre.v])
        (apply CanonE.call (hl _); (case hg => rfl); (case hf => rfl); (case ha => first | rfl | simp))
        (apply CanonE.advPO; simp only [go_sem, seval, reduceCtorEq, rsA D, Pre.v])
        (apply CanonE.call (hpb _); (case hg => rfl); (case hf => rfl); (case ha => first | rfl | simp))
        (apply CanonE.advPO; simp only [go_sem, seval, reduceCtorEq, rsA D, Pre.v])
        exact CanonE.nil
      ((try refine W.a ?_); simp only [go_sem, seval, reduceCtorEq, rsA D])
      (refine W.done (Fin.sameW (hok2) (by (first | rfl | assumption | exact List.length_set .. | simp)) (by simp only [r234, go_sem, seval, reduceCtorEq]; rfl) ?_ (by (first | exact .c _ | (simp only [go_sem, seval, reduceCtorEq]; done))) (by (first | rfl | exact (List.append_nil _).symm))); simp only [resV]; try exact V.wk.rfl _)
    · have e : br = !g o := by rw [hsd]; rfl
      subst e
      ((try refine W.a ?_); simp only [go_sem, seval, reduceCtorEq, c234, rsA D, Pre.v])
      (refine W.c1 (hi _) ?_; simp only [go_sem, seval, reduceCtorEq, rsA D, Pre.v])
      apply W.dregE (List.cons_ne_nil _ _)
      case hc =>
        (apply CanonE.advPO; simp only [go_sem, seval, reduceCtorEq, rsA D, Pre.v])
        (apply CanonE.call (hl _); (case hg => rfl); (case hf => rfl); (case ha => first | rfl | simp))
        (apply CanonE.advPO; simp only [go_sem, seval, reduceCtorEq, rsA D, Pre.v])
        (apply CanonE.call (hF _ o); (case hg => rfl); (case hf => rfl); (case ha => first | rfl | simp))
        (apply CanonE.advPO; simp only [go_sem, seval, reduceCtorEq, rsA D, Pre.v])
        (apply CanonE.call (hpb _); (case hg => rfl); (case hf => rfl); (case ha => first | rfl | simp))
        (apply CanonE.advPO; simp only [go_sem, seval, reduceCtorEq, rsA D, Pre.v])
        exact CanonE.nil
      ((try refine W.a ?_); simp only [go_sem, seval, reduceCtorEq, rsA D])
      (refine W.done (Fin.sameW (hok2) (by (first | rfl | assumption | exact List.length_set .. | simp)) (by simp only [r234, go_sem, seval, reduceCtorEq]; rfl) ?_ (by (first | exact .c _ | (simp only [go_sem, seval, reduceCtorEq]; done))) (by (first | rfl | exact (List.append_nil _).symm))); simp only [resV]; try exact V.wk.rfl _)
  · have e : br = true := by rw [hsd]; rfl
    subst e
    ((try refine W.a ?_); simp only [go_sem, seval, reduceCtorEq, c234, rsA D, Pre.v])
    (refine W.c1 (hi _) ?_; simp only [go_sem, seval, reduceCtorEq, rsA D, Pre.v])
    apply W.dregE (List.cons_ne_nil _ _)
    case hc =>
      (apply CanonE.advPO; simp only [go_sem, seval, reduceCtorEq, rsA D, Pre.v])
      (apply CanonE.call (hl _); (case hg => rfl); (case hf => rfl); (case ha => first | rfl | simp))
      (apply CanonE.advPO; simp only [go_sem, seval, reduceCtorEq, rsA D, Pre.v])
      (apply CanonE.call (hpb _); (case hg => rfl); (case hf => rfl); (case ha => first | rfl | simp))
      (apply CanonE.advPO; simp only [go_sem, seval, reduceCtorEq, rsA D, Pre.v])
      exact CanonE.nil
    ((try refine W.a ?_); simp only [go_sem, seval, reduceCtorEq, rsA D])
    (refine W.done (Fin.sameW (hok2) (by (first | rfl | assumption | exact List.length_set .. | simp)) (by simp only [r234, go_sem, seval, reduceCtorEq]; rfl) ?_ (by (first | exact .c _ | (simp only [go_sem, seval, reduceCtorEq]; done))) (by (first | rfl | exact (List.append_nil _).symm))); simp only [resV]; try exact V.wk.rfl _)
end
section
attribute [local go_sem] wrC wrY rs_len rs_g0 rs_g rs_s0 rs_s rs_sv
theorem sideG_sideB (l : List OpT) (o : OpT) (fix : Int) (p : Pre) : sideG l (fun x => besideL o x fix) p = sideB l o fix p := rfl
theorem tree_word {w0 : World} (hG : Glob w0) (l : List OpT) (p : Pre) (hO : OkP p) (h1 : lamP p = false) (h2 : appP p = false) : TreeD w0 l p (showL l p) := by
  intro σ b v D A hA s hn
  rw [showL_word h1 h2] at hn ⊢
  refine k151.go rfl (fun hok hsz => ?_)
  have hok2 := wrs_ok D hok l (s ++ wordP l p)
  have hi := fun L => DC.lift (L := L) D (fun D' => writer_infix w0 (σ ++ L) b v D' l A s p)
  have hl := fun σ => show_lambda w0 p σ
  have ha := fun σ => show_application w0 p σ
  have hw := fun L => DC.lift (L := L) D (fun D' => writer_word hG (σ ++ L) b v D' l A hA s p hO.n hn)
  have hR : (infR l p).2.2.2 = false := by unfold infR; rw [h2]; rfl
  unfold infV at hi
  rw [hR] at hi
  rw [h1] at hl
  rw [h2] at ha
  generalize (infR l p).1 = o at *
  generalize (infR l p).2.1 = x at *
  generalize (infR l p).2.2.1 = y at *
  rw [wrs_put] at hok2 ⊢
  ((try refine W.a ?_); simp only [go_sem, seval, reduceCtorEq, c151, rsA D, Pre.v])
  (refine W.c1 (hi _) ?_; simp only [go_sem, seval, reduceCtorEq, rsA D, Pre.v])
  refine W.no rfl ?_
  ((try refine W.a ?_); simp only [go_sem, seval, reduceCtorEq, rsA D, Pre.v])
  (refine W.c1 (hl _) ?_; simp only [go_sem, seval, reduceCtorEq, rsA D, Pre.v])
  refine W.no rfl ?_
  ((try refine W.a ?_); simp only [go_sem, seval, reduceCtorEq, rsA D, Pre.v])
  (refine W.c1 (ha _) ?_; simp only [go_sem, seval, reduceCtorEq, rsA D, Pre.v])
  refine W.no rfl ?_
  ((try refine W.a ?_); simp only [go_sem, seval, reduceCtorEq, rsA D, Pre.v])
  (refine W.c1 (hw _) ?_; simp only [go_sem, seval, reduceCtorEq, rsA D, Pre.v])
  (refine W.done (Fin.sameW (hok2) (by (first | rfl | assumption | exact List.length_set .. | simp)) (by simp only [r151, go_sem, seval, reduceCtorEq]; rfl) ?_ (by (first | exact .c _ | (simp only [go_sem, seval, reduceCtorEq]; done))) (by (first | rfl | exact (List.append_nil _).symm))); simp only [resV]; try exact V.wk.rfl _)
theorem tree_lam {w0 : World} (l : List OpT) (p q : Pre) (h1 : p.k = 4) (h2 : p.l = [q]) (hT : TreeD w0 l q (showL l q)) : TreeD w0 l p (showL l p) := by
  intro σ b v D A hA s hn
  rw [showL_lam h1 h2] at hn ⊢
  rw [List.append_assoc] at hn ⊢
  refine k151.go rfl (fun hok hsz => ?_)
  have hok2 := wrs_ok D hok l (s ++ (p.name ++ ([92, 32] ++ showL l q)))
  have hi := fun L => DC.lift (L := L) D (fun D' => writer_infix w0 (σ ++ L) b v D' l A s p)
  have hl := fun σ => show_lambda w0 p σ
  have hw := fun L => DC.lift (L := L) D (fun D' => builder_WriteString w0 (σ ++ L) b v D' l A hA s (p.name ++ [92, 32]) (by simp at hn ⊢; omega))
  have ht := fun L => DC.lift (L := L) D (fun D' => hT (σ ++ L) b v D' (.ptr b 1) (.inr rfl) (s ++ (p.name ++ [92, 32])) (by simp at hn ⊢; omega))
  have hR : (infR l p).2.2.2 = false := by unfold infR appP; simp [h1]
  have hlm : lamP p = true := by simp [lamP, h1, h2]
  have es : s ++ (p.name ++ [92, 32]) ++ showL l q = s ++ (p.name ++ ([92, 32] ++ showL l q)) := by simp
  unfold infV at hi
  rw [hR] at hi
  rw [hlm] at hl
  rw [es] at ht
  have k1 : p.name.length + 2 ≤ 9223372036854775807 := by simp at hn; omega
  have k2 : p.name.length + 1 + 1 ≤ 9223372036854775807 := by simp at hn; omega
  generalize p.name ++ ([92, 32] ++ showL l q) = u at *
  generalize s ++ u = s3 at *
  generalize s ++ (p.name ++ [92, 32]) = s1 at hw ht
  generalize (infR l p).1 = o at *
  generalize (infR l p).2.1 = x at *
  generalize (infR l p).2.2.1 = y at *
  ((try refine W.a ?_); simp only [go_sem, seval, reduceCtorEq, c151, rsA D, Pre.v])
  (refine W.c1 (hi _) ?_; simp only [go_sem, seval, reduceCtorEq, rsA D, Pre.v])
  refine W.no rfl ?_
  ((try refine W.a ?_); simp only [go_sem, seval, reduceCtorEq, rsA D, Pre.v])
  (refine W.c1 (hl _) ?_; simp only [go_sem, seval, reduceCtorEq, rsA D, Pre.v])
  refine W.yes rfl ?_
  ((try refine W.a ?_); simp only [go_sem, seval, reduceCtorEq, rsA D, Pre.v])
  apply W.dregE (List.cons_ne_nil _ _)
  case hc =>
    (apply CanonE.advPO; simp only [go_sem, seval, reduceCtorEq, rsA D, Pre.v, k1, k2])
    (apply CanonE.call (hw _); (case hg => rfl); (case hf => rfl); (case ha => first | rfl | simp))
    (apply CanonE.advPO; simp only [go_sem, seval, reduceCtorEq, rsA D, Pre.v])
    exact CanonE.nil
  ((try refine W.a ?_); simp only [go_sem, seval, reduceCtorEq, rsA D, h2, nat0])
  (refine W.c1 (ht _) ?_; simp only [go_sem, seval, reduceCtorEq, rsA D, Pre.v])
  (refine W.done (Fin.sameW (hok2) (by (first | rfl | assumption | exact List.length_set .. | simp)) (by simp only [r151, go_sem, seval, reduceCtorEq]; rfl) ?_ (by (first | exact .c _ | (simp only [go_sem, seval, reduceCtorEq]; done))) (by (first | rfl | exact (List.append_nil _).symm))); simp only [resV]; try exact V.wk.rfl _)
theorem tree_app {w0 : World} (l : List OpT) (p f c : Pre) (hi0 : infP l p = none) (h1 : p.k = 3) (h2 : p.l = [f, c]) (hf : TreeD w0 l f (showL l f)) (hc : TreeD w0 l c (showL l c)) : TreeD w0 l p (showL l p) := by
  intro σ b v D A hA s hn
  rw [showL_app hi0 h1 h2] at hn ⊢
  refine k151.go rfl (fun hok hsz => ?_)
  have hlf : ((infP l f).isSome || lamP f) = ((infR l f).2.2.2 || lamP f) := by rw [infP_R]; cases (infR l f).2.2.2 <;> rfl
  rw [hlf] at hn ⊢
  have hi := fun L => DC.lift (L := L) D (fun D' => writer_infix w0 (σ ++ L) b v D' l A s p)
  have hif := fun L => DC.lift (L := L) D (fun D' => writer_infix w0 (σ ++ L) b v D' l A s f)
  have hl := fun σ => show_lambda w0 p σ
  have ha := fun σ => show_application w0 p σ
  have hlF := fun σ => show_lambda w0 f σ
  have hlC := fun σ => show_lambda w0 c σ
  have haC := fun σ => show_application w0 c σ
  have hlm : lamP p = false := by simp [lamP, h1]
  have hap : appP p = true := by simp [appP, h1, h2]
  have hR : (infR l p).2.2.2 = false := by
    rw [infP_R] at hi0
    cases e : (infR l p).2.2.2
    · rfl
    · rw [e, if_pos rfl] at hi0; cases hi0
  unfold infV at hi hif
  rw [hR] at hi
  rw [hlm] at hl
  rw [hap] at ha
  generalize (infR l p).1 = o at *
  generalize (infR l p).2.1 = x at *
  generalize (infR l p).2.2.1 = y at *
  generalize (infR l f).1 = of at *
  generalize (infR l f).2.1 = xf at *
  generalize (infR l f).2.2.1 = yf at *
  generalize (infR l f).2.2.2 = isf at *
  have hp1 := fun L => DC.lift (L := L) D (fun D' => writer_part w0 l f _ hf (isf || lamP f) (σ ++ L) b v D' A hA s (by simp at hn ⊢; omega))
  have hw := fun L => DC.lift (L := L) D (fun D' => builder_WriteByte w0 (σ ++ L) b v D' l (.ptr b 1) (.inr rfl) (s ++ putP (showL l f) (isf || lamP f)) 32 (by simp at hn ⊢; omega))
  have hp2 := fun L => DC.lift (L := L) D (fun D' => writer_part w0 l c _ hc (lamP c || appP c) (σ ++ L) b v D' (.ptr b 1) (.inr rfl) (s ++ putP (showL l f) (isf || lamP f) ++ [32]) (by simp at hn ⊢; omega))
  have es : s ++ putP (showL l f) (isf || lamP f) ++ [32] ++ putP (showL l c) (lamP c || appP c) = s ++ (putP (showL l f) (isf || lamP f) ++ 32 :: putP (showL l c) (lamP c || appP c)) := by simp
  rw [es] at hp2
  generalize putP (showL l f) (isf || lamP f) ++ 32 :: putP (showL l c) (lamP c || appP c) = u at *
  have hok2 := wrs_ok D hok l (s ++ u)
  have hu8 : ((32 : UInt8).toNat : Int) = 32 := rfl
  rw [hu8] at hw
  generalize putP (showL l f) (isf || lamP f) = u1 at *
  generalize hb1 : (isf || lamP f) = b1 at *
  generalize hb2 : (lamP c || appP c) = b2 at *
  generalize s ++ u = s3 at *
  generalize s ++ u1 = s1 at hp1 hw hp2
  generalize s1 ++ [32] = s2 at hw hp2
  have hif2 : isf = true → b1 = true := fun e => by rw [← hb1, e]; rfl
  have hif3 : isf = false → ∀ σ, DC Tryz.prog w0 239 [f.v] σ (Same (B b1) σ) := fun e σ => by rw [← hb1, e]; exact hlF σ
  have hc2 : lamP c = true → b2 = true := fun e => by rw [← hb2, e]; rfl
  have hc3 : lamP c = false → ∀ σ, DC Tryz.prog w0 240 [c.v] σ (Same (B b2) σ) := fun e σ => by rw [← hb2, e]; exact haC σ
  clear hb1 hb2
  generalize lamP c = lc at *
  cases isf <;> cases lc <;> (
    (try (have e := hif2 rfl; subst e))
    (try (have e := hc2 rfl; subst e))
    ((try refine W.a ?_); simp only [go_sem, seval, reduceCtorEq, c151, rsA D, Pre.v])
    (refine W.c1 (hi _) ?_; simp only [go_sem, seval, reduceCtorEq, rsA D, Pre.v])
    refine W.no rfl ?_
    ((try refine W.a ?_); simp only [go_sem, seval, reduceCtorEq, rsA D, Pre.v])
    (refine W.c1 (hl _) ?_; simp only [go_sem, seval, reduceCtorEq, rsA D, Pre.v])
    refine W.no rfl ?_
    ((try refine W.a ?_); simp only [go_sem, seval, reduceCtorEq, rsA D, Pre.v])
    (refine W.c1 (ha _) ?_; simp only [go_sem, seval, reduceCtorEq, rsA D, Pre.v])
    refine W.yes rfl ?_
    ((try refine W.a ?_); simp only [go_sem, seval, reduceCtorEq, rsA D, h2, nat0])
    (refine W.c1 (hif _) ?_; simp only [go_sem, seval, reduceCtorEq, rsA D, Pre.v, h2, nat0])
    apply W.dregE (List.cons_ne_nil _ _)
    case hc =>
      (apply CanonE.advPO; simp only [go_sem, seval, reduceCtorEq, rsA D, h2, nat0])
      (try ((apply CanonE.call (hif3 rfl _); (case hg => rfl); (case hf => rfl); (case ha => first | rfl | simp)); (apply CanonE.advPO; simp only [go_sem, seval, reduceCtorEq, rsA D, h2, nat0])))
      (apply CanonE.call (hp1 _); (case hg => rfl); (case hf => rfl); (case ha => first | rfl | simp))
      (apply CanonE.advPO; simp only [go_sem, seval, reduceCtorEq, rsA D])
      exact CanonE.nil
    ((try refine W.a ?_); simp only [go_sem, seval, reduceCtorEq, rsA D, h2, nat0])
    (refine W.c1 (hw _) ?_; simp only [go_sem, seval, reduceCtorEq, rsA D])
    apply W.dregE (List.cons_ne_nil _ _)
    case hc =>
      (apply CanonE.advPO; simp only [go_sem, seval, reduceCtorEq, rsA D, h2, nat0])
      (apply CanonE.call (hlC _); (case hg => rfl); (case hf => rfl); (case ha => first | rfl | simp))
      (apply CanonE.advPO; simp only [go_sem, seval, reduceCtorEq, rsA D, h2, nat0])
      (try ((apply CanonE.call (hc3 rfl _); (case hg => rfl); (case hf => rfl); (case ha => first | rfl | simp)); (apply CanonE.advPO; simp only [go_sem, seval, reduceCtorEq, rsA D, h2, nat0])))
      (apply CanonE.call (hp2 _); (case hg => rfl); (case hf => rfl); (case ha => first | rfl | simp))
      (apply CanonE.advPO; simp only [go_sem, seval, reduceCtorEq, rsA D])
      exact CanonE.nil
    ((try refine W.a ?_); simp only [go_sem, seval, reduceCtorEq, rsA D])
    (refine W.done (Fin.sameW (hok2) (by (first | rfl | assumption | exact List.length_set .. | simp)) (by simp only [r151, go_sem, seval, reduceCtorEq]; rfl) ?_ (by (first | exact .c _ | (simp only [go_sem, seval, reduceCtorEq]; done))) (by (first | rfl | exact (List.append_nil _).symm))); simp only [resV]; try exact V.wk.rfl _))
end
section
attribute [local go_sem] wrC wrY rs_len rs_g0 rs_g rs_s0 rs_s rs_sv
theorem tree_inf {w0 : World} (l : List OpT) (p : Pre) (o : OpT) (a c : Pre) (hi0 : infP l p = some (o, a, c)) (ha : TreeD w0 l a (showL l a)) (hc : TreeD w0 l c (showL l c)) : TreeD w0 l p (showL l p) := by
  intro σ b v D A hA s hn
  rw [showL_inf hi0] at hn ⊢
  refine k151.go rfl (fun hok hsz => ?_)
  have hi := fun L => DC.lift (L := L) D (fun D' => writer_infix w0 (σ ++ L) b v D' l A s p)
  have hR : infR l p = (o, a, c, true) := by
    rw [infP_R] at hi0
    cases e : (infR l p).2.2.2
    · rw [e, if_neg (by decide)] at hi0; cases hi0
    · rw [e, if_pos rfl] at hi0
      injection hi0 with hi0
      injection hi0 with e1 e2
      injection e2 with e2 e3
      rw [← e1, ← e2, ← e3, ← e]
  unfold infV at hi
  rw [hR] at hi
  have hn1 : s.length + (putP (showL l a) (sideB l o 1 a)).length ≤ 100000000 := by simp at hn ⊢; omega
  have hn2 : (s ++ putP (showL l a) (sideB l o 1 a)).length + (32 :: (o.name ++ [32])).length ≤ 100000000 := by simp at hn ⊢; omega
  have hn3 : (s ++ putP (showL l a) (sideB l o 1 a) ++ (32 :: (o.name ++ [32]))).length + (putP (showL l c) (sideB l o 2 c)).length ≤ 100000000 := by simp at hn ⊢; omega
  have k1 : 1 + o.name.length ≤ 9223372036854775807 := by simp at hn; omega
  have k2 : o.name.length + 1 + 1 ≤ 9223372036854775807 := by simp at hn; omega
  have k3 : o.name.length + 1 ≤ 9223372036854775806 := by simp at hn; omega
  have k4 : o.name.length + 1 ≤ 9223372036854775807 := by omega
  have es : s ++ (putP (showL l a) (sideB l o 1 a) ++ (32 :: o.name ++ [32]) ++ putP (showL l c) (sideB l o 2 c)) = s ++ putP (showL l a) (sideB l o 1 a) ++ (32 :: (o.name ++ [32])) ++ putP (showL l c) (sideB l o 2 c) := by simp
  rw [es]
  have hok2 := wrs_ok D hok l (s ++ putP (showL l a) (sideB l o 1 a) ++ (32 :: (o.name ++ [32])) ++ putP (showL l c) (sideB l o 2 c))
  have h1 := fun (x y1 y2 : Blk) => DC.lift (L := [x, .cells o.v.cellsV, y1, y2]) D (fun D' => writer_side w0 l a _ ha 235 [.ptr (σ.length + 1) 0] (fun x => besideL o x 1) (σ ++ [x, .cells o.v.cellsV, y1, y2]) b v D' A hA s (fun L x => by
    exact tree_left w0 _ (σ.length + 1) o x (fun M => by
      show (rs (σ ++ _) b v _ _ ++ L ++ M)[_]? = _
      rw [rs_app D, List.append_assoc, List.append_assoc, rs_g]
      rfl)) hn1)
  have h2 := fun (x y1 y2 : Blk) => DC.lift (L := [x, .cells o.v.cellsV, y1, y2]) D (fun D' => builder_WriteString w0 (σ ++ [x, .cells o.v.cellsV, y1, y2]) b v D' l (.ptr b 1) (.inr rfl) (s ++ putP (showL l a) (sideB l o 1 a)) (32 :: (o.name ++ [32])) hn2)
  have h3 := fun (x y1 y2 : Blk) => DC.lift (L := [x, .cells o.v.cellsV, y1, y2]) D (fun D' => writer_side w0 l c _ hc 237 [.ptr (σ.length + 1) 0] (fun x => besideL o x 2) (σ ++ [x, .cells o.v.cellsV, y1, y2]) b v D' (.ptr b 1) (.inr rfl) (s ++ putP (showL l a) (sideB l o 1 a) ++ (32 :: (o.name ++ [32]))) (fun L x => by
    exact tree_right w0 _ (σ.length + 1) o x (fun M => by
      show (rs (σ ++ _) b v _ _ ++ L ++ M)[_]? = _
      rw [rs_app D, List.append_assoc, List.append_assoc, rs_g]
      rfl)) hn3)
  rw [sideG_sideB] at h1 h3
  generalize putP (showL l a) (sideB l o 1 a) = u1 at *
  generalize putP (showL l c) (sideB l o 2 c) = u2 at *
  generalize s ++ u1 ++ (32 :: (o.name ++ [32])) ++ u2 = s3 at *
  generalize s ++ u1 ++ (32 :: (o.name ++ [32])) = s2 at *
  generalize s ++ u1 = s1 at *
  ((try refine W.a ?_); simp only [go_sem, seval, reduceCtorEq, c151, rsA D, Pre.v])
  (refine W.c1 (hi _) ?_; simp only [go_sem, seval, reduceCtorEq, rsA D, Pre.v])
  refine W.yes rfl ?_
  ((try refine W.a ?_); simp only [go_sem, seval, reduceCtorEq, rsA D, Pre.v])
  (refine W.c1 (h1 _ _ _) ?_; simp only [go_sem, seval, reduceCtorEq, rsA D, Pre.v])
  apply W.dregE (List.cons_ne_nil _ _)
  case hc =>
    (apply CanonE.advPO; simp only [go_sem, seval, reduceCtorEq, rsA D, k1, k2, k3, k4])
    (apply CanonE.call (h2 _ _ _); (case hg => rfl); (case hf => rfl); (case ha => first | rfl | simp))
    (apply CanonE.advPO; simp only [go_sem, seval, reduceCtorEq, rsA D])
    exact CanonE.nil
  ((try refine W.a ?_); simp only [go_sem, seval, reduceCtorEq, rsA D, Pre.v])
  (refine W.c1 (h3 _ _ _) ?_; simp only [go_sem, seval, reduceCtorEq, rsA D, Pre.v])
  (refine W.done (Fin.sameW (hok2) (by (first | rfl | assumption | exact List.length_set .. | simp)) (by simp only [r151, go_sem, seval, reduceCtorEq]; rfl) ?_ (by (first | exact .c _ | (simp only [go_sem, seval, reduceCtorEq]; done))) (by (first | rfl | exact (List.append_nil _).symm))); simp only [resV]; try exact V.wk.rfl _)
theorem writer_tree {w0 : World} (hG : Glob w0) (l : List OpT) (p : Pre) (hO : OkP p) : TreeD w0 l p (showL l p) := by
  refine (Pre.ind (P := fun p => OkP p → TreeD w0 l p (showL l p) ∧ ∀ q ∈ p.l, TreeD w0 l q (showL l q)) (fun p ih hO => ⟨?_, fun q hq => (ih q hq (hO.mem hq)).1⟩) p hO).1
  cases hi : infP l p with
  | some x =>
    obtain ⟨o, a, c⟩ := x
    obtain ⟨_, f, _, h2, _, h3, _⟩ := infP_some hi
    have hf : f ∈ p.l := by rw [h2]; simp
    exact tree_inf l p o a c hi ((ih f hf (hO.mem hf)).2 a (by rw [h3]; simp)) (ih c (by rw [h2]; simp) (hO.mem (by rw [h2]; simp))).1
  | none =>
    by_cases h1 : lamP p = true
    · have h1' := h1
      unfold lamP at h1'
      simp only [Bool.and_eq_true, beq_iff_eq] at h1'
      obtain ⟨q, hq⟩ := List.length_eq_one_iff.1 h1'.2
      have hqm : q ∈ p.l := by rw [hq]; simp
      exact tree_lam l p q h1'.1 hq (ih q hqm (hO.mem hqm)).1
    · have h1 : lamP p = false := by simpa using h1
      by_cases h2 : appP p = true
      · obtain ⟨f, c, hq⟩ := app_two h2
        have hk : p.k = 3 := by unfold appP at h2; simp only [Bool.and_eq_true, beq_iff_eq] at h2; exact h2.1
        have hf : f ∈ p.l := by rw [hq]; simp
        have hc : c ∈ p.l := by rw [hq]; simp
        exact tree_app l p f c hi hk hq (ih f hf (hO.mem hf)).1 (ih c hc (hO.mem hc)).1
      · have h2 : appP p = false := by simpa using h2
        exact tree_word hG l p hO h1 h2
end
end Go.Proofs.YtpcmcfajfnpjeaaGreatDoor
namespace Go.Proofs.YtpcmcfajfnpjeaaGreatDoor
open Go.RowKit Go.Lamb
theorem string_end {w0 w : World} {κ : K} {σ : H} {b v : Nat} (D : Two σ b v) (l : List OpT) (A : V) (s : List UInt8) (hrep : Rep w0 κ (wrs σ b v l A s) w) (hnil : s = [] → κ.sv v = .slice none 0 0) :
    Calls Tryz.prog 87 #[.pointer (some ⟨κ.pos b, 1, none⟩)] w fun e w' => e = .returned (.string (bs s)) ∧ s.length ≤ maxLen ∧ ∃ κ' Y, κ.le κ' ∧ Rep w0 κ' (rs σ b v (wrC l A v s) Y) w' ∧ (∀ cs tg, Y = .cells cs tg → False) := by
  have hgb := rs_b D (wrC l A v s) (wrY s)
  have hgv := rs_v D (wrC l A v s) (wrY s)
  obtain ⟨hltb, hb'⟩ := List.getElem?_eq_some_iff.1 hgb
  obtain ⟨hltv, hv'⟩ := List.getElem?_eq_some_iff.1 hgv
  have hB := hrep.blk b hltb
  have hV := hrep.blk v hltv
  rw [hb'] at hB
  rw [hv'] at hV
  obtain ⟨us, T, k1, k2, k3⟩ := hB.row
  have k2 : us.size = 3 := k2
  have r2 := (k3 2 (by simp)).2
  have hu2 : us[2]? = some (us.getD 2 undef) := by rw [Array.getElem?_eq_getElem (by omega)]; simp [Array.getD, k2]
  have hc2 : w.cell? ⟨κ.pos b, 2, none⟩ = us[2]? := Lib.cell_of_heap k1 2
  generalize us.getD 2 undef = u at r2 hu2
  have hptr : RV κ (.ptr b 1) (.pointer (some ⟨κ.pos b, 1, none⟩)) := .ptr (by rw [hrep.n]; exact hltb) hB.fr
  by_cases h0 : s = []
  · subst h0
    have hu : u = .slice none 0 0 := by
      cases r2 with
      | osl hr q1 q2 q3 q4 q5 =>
        have hfr : κ.fr v = some 0 := hV.fr
        rw [hfr] at q2
        injection q2 with q2
        exact (q4 q2).trans (hnil rfl)
    subst hu
    refine (string_nil w (κ.pos b) (by rw [hc2, hu2])).mono ?_
    rintro e w' ⟨rfl, rfl⟩
    exact ⟨rfl, Nat.zero_le _, κ, wrY [], K.le_refl κ, hrep.drew, fun cs tg h => by cases h⟩
  · refine ((builder_String w0 σ b v D l A s h0).run κ w [.pointer (some ⟨κ.pos b, 1, none⟩)] hrep (Fits.cons hptr Fits.nil)).mono ?_
    rintro e w' ⟨v', d, σ', κ', rfl, ⟨rfl, rfl⟩, hle, hrep', hv⟩
    cases hv with
    | c hv =>
      cases hv with
      | str _ hlen => exact ⟨rfl, hlen, κ', .gone, hle, hrep', fun cs tg h => by cases h⟩
theorem writer_new {w0 w : World} {κ : K} {σ : H} {l : List OpT} {x : Value} (hrep : Rep w0 κ σ w) (hx : RV κ (.c (opsC l)) x) :
    ∃ κ3, κ.le κ3 ∧ Rep w0 κ3 (wrs (σ ++ [Blk.gone, Blk.gone]) σ.length (σ.length + 1) l (.c .nilp) []) (w.alloc (.cells #[x, .pointer none, .slice none 0 0] 196)) ∧ κ3.pos σ.length = w.heap.size ∧ κ3.sv (σ.length + 1) = .slice none 0 0 ∧ κ3.fr (σ.length + 1) = some 0 := by
  obtain ⟨h1, h2⟩ := hrep.box (cs := [.c (opsC l), .c .nilp, .csl []]) (vs := [x, .pointer none, .slice none 0 0]) 196 (tg := some 196) (fun T h => by injection h with h; exact h.symm) rfl rfl (fun j hj => by
    match j, hj with
    | 0, _ => exact hx
    | 1, _ => exact .c .nilp
    | 2, _ => exact .csl (A := none) (RC.nil _))
  have hle : κ.le (κ.more w.heap.size) := K.more_le
  have hp : (κ.more w.heap.size).pos σ.length = w.heap.size := by
    generalize hg : Value.pointer (some ⟨w.heap.size, 0, none⟩) = g at h2
    cases h2 with
    | ptr h1 h2 => injection hg with hg; injection hg with hg; injection hg with hg; exact hg.symm
  obtain ⟨κ3, k1, k2, k3, k4⟩ := turnNil h1 (b := σ.length) (j := 2) 5 1 (cs := [.c (opsC l), .c .nilp, .csl []]) (tg := some 196) (by simp) (by simp) (by rw [hp]; exact heap_alloc_new w _) rfl
  rw [show (σ ++ [Blk.cells [.c (opsC l), .c .nilp, .csl []] (some 196)]).length = σ.length + 1 from by simp] at k2 k3 k4
  refine ⟨κ3, K.le_trans hle k1, ?_, ?_, k3, k4⟩
  · have e : wrs (σ ++ [Blk.gone, Blk.gone]) σ.length (σ.length + 1) l (.c .nilp) [] = (σ ++ [Blk.cells [.c (opsC l), .c .nilp, .csl []] (some 196)] ++ [Blk.spare 5 1 0]).set σ.length (.cells ([V.c (opsC l), .c .nilp, .csl []].set 2 (.osl (σ.length + 1) [])) (some 196)) := by
      unfold wrs rs
      rw [List.append_assoc, hset0, hset0, hset]
      rfl
    rw [e]
    exact k2
  · have hB := h1.blk σ.length (by simp)
    rw [show (σ ++ [Blk.cells [.c (opsC l), .c .nilp, .csl []] (some 196)])[σ.length]'(by simp) = Blk.cells [.c (opsC l), .c .nilp, .csl []] (some 196) from by simp] at hB
    exact (k1.cells σ.length (by rw [h1.n]; simp) hB.fr).2.trans hp
theorem show_Text {w0 : World} (hG : Glob w0) (l : List OpT) (p : Pre) (hO : OkP p) (hn : (showL l p).length ≤ 100000000) (σ : H) :
    DC Tryz.prog w0 63 [.c (opsC l), p.v] σ (Same (S (showL l p)) σ) := by
  refine ⟨enters_fn Tryz.func63 (by kernel_rfl) rfl, fun κ w vs hrep hfit => ?_⟩
  obtain ⟨x, ys, rfl, hx, hfit⟩ := hfit.cons_inv
  obtain ⟨y, zs, rfl, hy, hfit⟩ := hfit.cons_inv
  have := hfit.nil_inv
  subst this
  obtain ⟨vA, vc, ey⟩ := pre_value hy
  subst ey
  obtain ⟨xA, xn, xc, ex⟩ : ∃ A n c, x = .slice A n c := by
    unfold opsC at hx
    cases hx with | c h => cases h; exact ⟨_, _, _, rfl⟩
  subst ex
  have hs1 : (w.alloc (.cells #[.int .i64 p.k, .string (bs p.name), .int .i64 p.n, .slice vA p.l.length vc, .int .i64 p.pos] 37)).heap.size = w.heap.size + 1 := Array.size_push ..
  obtain ⟨κ3, hle3, hr3, hp3, hnil, hfr3⟩ := writer_new (hrep.alloc (.cells #[.int .i64 p.k, .string (bs p.name), .int .i64 p.n, .slice vA p.l.length vc, .int .i64 p.pos] 37)) hx
  rw [hs1] at hp3
  have D : Two (σ ++ [Blk.gone, Blk.gone]) σ.length (σ.length + 1) := ⟨by omega, by simp, by simp⟩
  have hq3 : σ.length < κ3.n ∧ κ3.fr σ.length = none := by
    refine ⟨by rw [hr3.n]; simp, ?_⟩
    have e := rs_b D (wrC l (.c .nilp) (σ.length + 1) []) (wrY [])
    obtain ⟨hlt, e⟩ := List.getElem?_eq_some_iff.1 e
    have hB := hr3.blk σ.length hlt
    rw [e] at hB
    exact hB.fr
  have hx3 : RV κ3 (.ptr σ.length 0) (.pointer (some ⟨w.heap.size + 1, 0, none⟩)) := by
    rw [← hp3]
    exact .ptr hq3.1 hq3.2
  go_enter Tryz.func63, Tryz.ntmps63
  go_wp2_with (fail)
  refine ((writer_tree hG l p hO _ _ _ D (.c .nilp) (.inl rfl) [] (by simpa using hn)).run κ3 _ [.pointer (some ⟨w.heap.size + 1, 0, none⟩), _] hr3 (Fits.cons hx3 (Fits.cons (hy.mono hle3) Fits.nil))).mono ?_
  rintro e w1 ⟨v1, d1, σ1, κ4, rfl, ⟨rfl, rfl⟩, hle4, hr4, hv4⟩
  rw [List.nil_append] at hr4
  have hp4 : κ4.pos σ.length = w.heap.size + 1 := (hle4.cells _ hq3.1 hq3.2).2.trans hp3
  go_wp2_with (fail)
  rw [← hp4]
  refine (string_end D l _ _ hr4 (fun e => ?_)).mono ?_
  · obtain ⟨f', q1, q2, q3, q4⟩ := hle4.spare (σ.length + 1) 0 (by rw [hr3.n]; simp) hfr3
    have e2 := rs_v D (wrC l (.ptr σ.length 1) (σ.length + 1) (showL l p)) (wrY (showL l p))
    obtain ⟨hlt, e2⟩ := List.getElem?_eq_some_iff.1 e2
    have hV := hr4.blk _ hlt
    rw [e2] at hV
    have hf : κ4.fr (σ.length + 1) = some (showL l p).length := hV.fr
    rw [hf, e] at q1
    injection q1 with q1
    rw [q3 q1.symm, hnil]
  · rintro e w2 ⟨rfl, hlen, κ5, Y, hle5, hr5, hY⟩
    go_wp2
    go_ret
    have hfin : Rep w0 (κ5.cut σ.length) σ w2 := by
      have e3 : (rs (σ ++ [Blk.gone, Blk.gone]) σ.length (σ.length + 1) (wrC l (.ptr σ.length 1) (σ.length + 1) (showL l p)) Y).take σ.length = σ := by
        unfold rs
        rw [List.take_set_of_le (by omega), List.take_set_of_le (by omega), List.take_left' rfl]
      have := hr5.cut σ.length (by simp) (by rw [e3]; exact hrep.ok)
      rwa [e3] at this
    exact ⟨_, S (showL l p), σ, κ5.cut σ.length, rfl, ⟨rfl, rfl⟩, K.cut_le (K.le_trans hle3 (K.le_trans hle4 hle5)) (by rw [hrep.n]; exact Nat.le_refl _), hfin, .c (.str _ hlen)⟩
end Go.Proofs.YtpcmcfajfnpjeaaGreatDoor
namespace Go.Proofs.YtpcmcfajfnpjeaaGreatDoor
open Go.RowKit Go.Lamb
--absent /-- show.Width -/
--absent /-- show.Lines -/
end Go.Proofs.YtpcmcfajfnpjeaaGreatDoor
namespace Go.Lamb
end Go.Lamb
namespace Go.Proofs.YtpcmcfajfnpjeaaGreatDoor
open Go.RowKit Go.Lamb
end Go.Proofs.YtpcmcfajfnpjeaaGreatDoor
namespace Go.Proofs.YtpcmcfajfnpjeaaGreatDoor
open Go.RowKit Go.Lamb
end Go.Proofs.YtpcmcfajfnpjeaaGreatDoor
namespace Go.Proofs.YtpcmcfajfnpjeaaGreatDoor
open Go.RowKit Go.Lamb

end Go.Proofs.YtpcmcfajfnpjeaaGreatDoor
namespace Go.Lamb
def okPb : Nat → Pre → Bool
  | 0, _ => false
  | f + 1, p => decide (p.n ≤ 9223372036854775807) && p.l.all (okPb f)
theorem okPb_ok : ∀ (f : Nat) (p : Pre), okPb f p = true → OkP p
  | 0, _, h => by cases h
  | f + 1, .mk k s n l a, h => by
    rw [okPb, Bool.and_eq_true, decide_eq_true_eq] at h
    exact .mk h.1 fun x hx => okPb_ok f x (List.all_eq_true.1 h.2 x hx)
end Go.Lamb
namespace Go.Proofs.YtpcmcfajfnpjeaaGreatDoor
open Go.RowKit Go.Lamb
end Go.Proofs.YtpcmcfajfnpjeaaGreatDoor
namespace Go.Proofs.YtpcmcfajfnpjeaaGreatDoor
open Go.RowKit Go.Lamb
def extLex : List V → H → Option (V × H)
  | [.c (.str s)], σ => cond (Nat.ble s.length 100000) (let r := lexL s; some (.tup [.c (toksC r.toks), .c (.int .i64 r.err), .c (.int .i64 r.pos)], σ)) none
  | _, _ => none
def extGrow (e size : Nat) : List V → H → Option (V × H)
  | [.csl [], .c (.int .i64 n)], σ => cond (decide (0 ≤ n) && decide (n ≤ 1000000)) (some (.osl σ.length [], σ ++ [.spare e size 0])) none
  | _, _ => none
def extClone (e size : Nat) : List V → H → Option (V × H)
  | [a], σ => match a.rows with
    | some r => cond (r.all (fun q => Nat.beq q.length size) && Nat.ble r.length 1000000) (some (.osl σ.length r, σ ++ [.spare e size r.length])) none
    | none => none
  | _, _ => none
def extCloneT (e : Nat) : List V → H → Option (V × H)
  | [a], σ => match a.rows with
    | some [] => some (.osl σ.length [], σ ++ [.spare e 4 0])
    | _ => none
  | _, _ => none
theorem extGrow_op (w0 : World) (as' : List V) (σ : H) (v : V) (σ' : H) (h : extGrow 75 3 as' σ = some (v, σ')) : DC Tryz.prog w0 335 as' σ (Same v σ') := by
  unfold extGrow at h
  split at h
  · rename_i n
    cases hc : (decide (0 ≤ n) && decide (n ≤ 1000000)) with
    | false => rw [hc] at h; cases h
    | true =>
      rw [hc] at h
      injection h with h
      injection h with h1 h2
      subst h1 h2
      simp only [Bool.and_eq_true, decide_eq_true_eq] at hc
      obtain ⟨m, rfl⟩ : ∃ m : Nat, n = (m : Int) := ⟨n.toNat, by omega⟩
      exact slices_Grow w0 m (by omega) σ
  · cases h
theorem extGrow_nm (w0 : World) (as' : List V) (σ : H) (v : V) (σ' : H) (h : extGrow 68 5 as' σ = some (v, σ')) : DC Tryz.prog w0 342 as' σ (Same v σ') := by
  unfold extGrow at h
  split at h
  · rename_i n
    cases hc : (decide (0 ≤ n) && decide (n ≤ 1000000)) with
    | false => rw [hc] at h; cases h
    | true =>
      rw [hc] at h
      injection h with h
      injection h with h1 h2
      subst h1 h2
      simp only [Bool.and_eq_true, decide_eq_true_eq] at hc
      obtain ⟨m, rfl⟩ : ∃ m : Nat, n = (m : Int) := ⟨n.toNat, by omega⟩
      exact slices_GrowN w0 m (by omega) σ
  · cases h
theorem extGrow_tm (w0 : World) (as' : List V) (σ : H) (v : V) (σ' : H) (h : extGrow 30 4 as' σ = some (v, σ')) : DC Tryz.prog w0 219 as' σ (Same v σ') := by
  unfold extGrow at h
  split at h
  · rename_i n
    cases hc : (decide (0 ≤ n) && decide (n ≤ 1000000)) with
    | false => rw [hc] at h; cases h
    | true =>
      rw [hc] at h
      injection h with h
      injection h with h1 h2
      subst h1 h2
      simp only [Bool.and_eq_true, decide_eq_true_eq] at hc
      obtain ⟨m, rfl⟩ : ∃ m : Nat, n = (m : Int) := ⟨n.toNat, by omega⟩
      exact slices_GrowT w0 m (by omega) σ
  · cases h
theorem wk_rows {a : V} {r : List (List C)} (h : a.rows = some r) : V.wk (.agg [a]) (.agg [.c (.sl r)]) := by
  refine .agg rfl fun j hj hj' => ?_
  have : j = 0 := by simp at hj; omega
  subst this
  simp only [List.getElem_cons_zero]
  unfold V.rows at h
  split at h
  · injection h with h; subst h; exact .rfl _
  · injection h with h; subst h; exact .osl _ _
  · injection h with h; subst h; exact .csl _
  · cases h
theorem extClone_op (w0 : World) (as' : List V) (σ : H) (v : V) (σ' : H) (h : extClone 75 3 as' σ = some (v, σ')) : DC Tryz.prog w0 210 as' σ (Same v σ') := by
  unfold extClone at h
  split at h
  · split at h
    · rename_i r hr
      cases hc : (r.all (fun q => Nat.beq q.length 3) && Nat.ble r.length 1000000) with
      | false => rw [hc] at h; cases h
      | true =>
        rw [hc] at h
        injection h with h
        injection h with h1 h2
        subst h1 h2
        simp only [Bool.and_eq_true, List.all_eq_true] at hc
        exact (clone_opR w0 r (fun q hq => Nat.eq_of_beq_eq_true (hc.1 q hq)) (Nat.le_of_ble_eq_true hc.2) σ).weakA (wk_rows hr)
    · cases h
  · cases h
theorem extClone_kd (w0 : World) (as' : List V) (σ : H) (v : V) (σ' : H) (h : extClone 164 2 as' σ = some (v, σ')) : DC Tryz.prog w0 209 as' σ (Same v σ') := by
  unfold extClone at h
  split at h
  · split at h
    · rename_i r hr
      cases hc : (r.all (fun q => Nat.beq q.length 2) && Nat.ble r.length 1000000) with
      | false => rw [hc] at h; cases h
      | true =>
        rw [hc] at h
        injection h with h
        injection h with h1 h2
        subst h1 h2
        simp only [Bool.and_eq_true, List.all_eq_true] at hc
        exact (clone_kdR w0 r (fun q hq => Nat.eq_of_beq_eq_true (hc.1 q hq)) (Nat.le_of_ble_eq_true hc.2) σ).weakA (wk_rows hr)
    · cases h
  · cases h
theorem extClone_nm (w0 : World) (as' : List V) (σ : H) (v : V) (σ' : H) (h : extClone 68 5 as' σ = some (v, σ')) : DC Tryz.prog w0 196 as' σ (Same v σ') := by
  unfold extClone at h
  split at h
  · split at h
    · rename_i r hr
      cases hc : (r.all (fun q => Nat.beq q.length 5) && Nat.ble r.length 1000000) with
      | false => rw [hc] at h; cases h
      | true =>
        rw [hc] at h
        injection h with h
        injection h with h1 h2
        subst h1 h2
        simp only [Bool.and_eq_true, List.all_eq_true] at hc
        exact (clone_nmR w0 r (fun q hq => Nat.eq_of_beq_eq_true (hc.1 q hq)) (Nat.le_of_ble_eq_true hc.2) σ).weakA (wk_rows hr)
    · cases h
  · cases h
theorem extClone_tm (w0 : World) (as' : List V) (σ : H) (v : V) (σ' : H) (h : extCloneT 30 as' σ = some (v, σ')) : DC Tryz.prog w0 174 as' σ (Same v σ') := by
  unfold extCloneT at h
  split at h
  · split at h
    · rename_i hr
      injection h with h
      injection h with h1 h2
      subst h1 h2
      exact (clone_tmN w0 [] rfl σ).weakA (wk_rows hr)
    · cases h
  · cases h
def extItoa : List V → H → Option (V × H)
  | [.c (.int .i64 n)], σ => cond (decide (-9223372036854775808 ≤ n) && decide (n ≤ 9223372036854775807)) (some (.c (.str (Lib.itoa n)), σ)) none
  | _, _ => none
theorem extItoa_ok {w0 : World} (hG : Glob w0) (as' : List V) (σ : H) (v : V) (σ' : H) (h : extItoa as' σ = some (v, σ')) : DC Tryz.prog w0 69 as' σ (Same v σ') := by
  unfold extItoa at h
  split at h
  · rename_i n
    cases hc : (decide (-9223372036854775808 ≤ n) && decide (n ≤ 9223372036854775807)) with
    | false => rw [hc] at h; cases h
    | true =>
      rw [hc] at h
      injection h with h
      injection h with h1 h2
      subst h1 h2
      simp only [Bool.and_eq_true, decide_eq_true_eq] at hc
      exact strconv_ItoaS hG n hc.1 hc.2 σ
  · cases h
def extShow : List V → H → Option (V × H)
  | [ops, p], σ => match ops.rows.bind unO, (cells1 p).bind (unP 100) with
    | some l, some q => cond (okPb 100 q && Nat.ble (showL l q).length 100000000) (some (.c (.str (showL l q)), σ)) none
    | _, _ => none
  | _, _ => none
theorem extLex_ok {w0 : World} (hG : Glob w0) (as' : List V) (σ : H) (v : V) (σ' : H) (h : extLex as' σ = some (v, σ')) : DC Tryz.prog w0 176 as' σ (Same v σ') := by
  unfold extLex at h
  split at h
  · rename_i s
    cases hc : Nat.ble s.length 100000 with
    | false => rw [hc] at h; cases h
    | true =>
      rw [hc] at h
      injection h with h
      injection h with h1 h2
      subst h1 h2
      exact lex_Lex hG s (by have := Nat.le_of_ble_eq_true hc; omega) σ
  · cases h
theorem wk_toC {x : V} {y : C} (h : x.toC = some y) : V.wk x (.c y) := by
  unfold V.toC at h
  split at h
  · injection h with h; subst h; exact .rfl _
  · injection h with h; subst h; exact .osl _ _
  · injection h with h; subst h; exact .csl _
  · cases h
theorem wk_toCs {l : List V} {r : List C} (h : toCs l = some r) : V.wk (.agg l) (.agg (r.map .c)) := by
  obtain ⟨h1, _, h3⟩ := toCs_some h
  exact .agg (by simp [h1]) fun j hj hj' => by
    rw [List.getElem_map]
    exact wk_toC (h3 j hj (by omega))
def extCopy : List V → H → Option (V × H)
  | [.ptr b 0], σ => match σ[b]? with
    | some (.cells [.c .nilp, y] (some tg)) => cond (Nat.beq tg 123) (some (.tup [], σ.set b (.cells [.ptr b 0, y] (some 123)))) none
    | some (.cells [.ptr c 0, y] (some tg)) => cond (Nat.beq tg 123 && Nat.beq c b) (some (.tup [], σ.set b (.cells [.ptr b 0, y] (some 123)))) none
    | _ => none
  | _, _ => none
theorem extCopy_ok (w0 : World) (as' : List V) (σ : H) (v : V) (σ' : H) (h : extCopy as' σ = some (v, σ')) : DC Tryz.prog w0 175 as' σ (Same v σ') := by
  unfold extCopy at h
  split at h
  · rename_i b
    split at h
    · rename_i y tg hb
      cases hc : Nat.beq tg 123 with
      | false => rw [hc] at h; cases h
      | true =>
        rw [hc] at h
        injection h with h
        injection h with h1 h2
        subst h1 h2
        have := Nat.eq_of_beq_eq_true hc
        subst this
        exact copyCheckB w0 σ _ (.c .nilp) y hb (.inl rfl)
    · rename_i c y tg hb
      cases hc : (Nat.beq tg 123 && Nat.beq c b) with
      | false => rw [hc] at h; cases h
      | true =>
        rw [hc] at h
        injection h with h
        injection h with h1 h2
        subst h1 h2
        simp only [Bool.and_eq_true] at hc
        have e1 := Nat.eq_of_beq_eq_true hc.1
        have e2 := Nat.eq_of_beq_eq_true hc.2
        subst e1 e2
        exact copyCheckB w0 σ _ (.ptr _ 0) y hb (.inr rfl)
    · cases h
  · cases h
theorem wk_pre {p : V} {cs : List C} {q : Pre} (h : cells1 p = some cs) (hq : cs = q.cs) : V.wk p q.v := by
  have e : q.v = .agg (cs.map .c) := by rw [hq, Pre.cs_eq]; rfl
  rw [e]
  unfold cells1 at h
  have hl := (toCs_some h).1
  rw [hq, Pre.cs_eq] at hl
  unfold V.cellsV at h hl
  split at h
  · exact wk_toCs h
  · exfalso
    simp at hl
theorem extShow_ok {w0 : World} (hG : Glob w0) (as' : List V) (σ : H) (v : V) (σ' : H) (h : extShow as' σ = some (v, σ')) : DC Tryz.prog w0 63 as' σ (Same v σ') := by
  unfold extShow at h
  split at h
  · rename_i ops p
    split at h
    · rename_i l q h1 h2
      obtain ⟨r, hr, hl⟩ := Option.bind_eq_some_iff.1 h1
      obtain ⟨cs, hcs, hq⟩ := Option.bind_eq_some_iff.1 h2
      cases hc : (okPb 100 q && Nat.ble (showL l q).length 100000000) with
      | false => rw [hc] at h; cases h
      | true =>
        rw [hc] at h
        injection h with h
        injection h with e1 e2
        subst e1 e2
        simp only [Bool.and_eq_true] at hc
        have hk := wk_pre hcs (unP_eq hq)
        have hr2 := wk_rows hr
        rw [unO_eq hl] at hr2
        refine (show_Text hG l q (okPb_ok _ _ hc.1) (Nat.le_of_ble_eq_true hc.2) σ).weakA (.agg rfl fun j hj hj' => ?_)
        rcases (by simp at hj; omega : j = 0 ∨ j = 1) with rfl | rfl
        · cases hr2 with
          | rfl => exact .rfl _
          | agg k1 k2 => exact k2 0 (by simp) (by simp)
        · exact hk
    · cases h
  · cases h
theorem wk_row1 {a : V} {r : List (List C)} (h : a.rows = some r) : V.wk a (.c (.sl r)) := by
  unfold V.rows at h
  split at h
  · injection h with h; subst h; exact .rfl _
  · injection h with h; subst h; exact .osl _ _
  · injection h with h; subst h; exact .csl _
  · cases h
theorem wk_typ {p : V} {cs : List C} {q : Typ} (h : cells1 p = some cs) (hq : cs = q.cs) : V.wk p q.v := by
  have e : q.v = .agg (cs.map .c) := by rw [hq, Typ.cs_eq]; rfl
  rw [e]
  unfold cells1 at h
  have hl := (toCs_some h).1
  rw [hq, Typ.cs_eq] at hl
  unfold V.cellsV at h hl
  split at h
  · exact wk_toCs h
  · exfalso
    simp at hl
theorem wk_two {a b c d : V} (h1 : V.wk a c) (h2 : V.wk b d) : V.wk (.agg [a, b]) (.agg [c, d]) :=
  .agg rfl fun j hj hj' => by
    rcases (by simp at hj; omega : j = 0 ∨ j = 1) with rfl | rfl
    · exact h1
    · exact h2
def extArrow : List V → H → Option (V × H)
  | [to, fs], σ => match (cells1 to).bind (unT 100), fs.rows.bind (unTs (unT 100)) with
    | some t, some l => cond (Nat.ble l.length 1000000) (some ((arrows l t).v, σ)) none
    | _, _ => none
  | _, _ => none
theorem extArrow_ok (w0 : World) (as' : List V) (σ : H) (v : V) (σ' : H) (h : extArrow as' σ = some (v, σ')) : DC Tryz.prog w0 185 as' σ (Same v σ') := by
  unfold extArrow at h
  split at h
  · rename_i to fs
    split at h
    · rename_i t l h1 h2
      obtain ⟨cs, hcs, ht⟩ := Option.bind_eq_some_iff.1 h1
      obtain ⟨r, hr, hl⟩ := Option.bind_eq_some_iff.1 h2
      cases hc : Nat.ble l.length 1000000 with
      | false => rw [hc] at h; cases h
      | true =>
        rw [hc] at h
        injection h with h
        injection h with e1 e2
        subst e1 e2
        have hr2 := wk_row1 hr
        rw [unTs_eq (fun r x => unT_eq) hl] at hr2
        exact (ty_Arrow w0 t l (Nat.le_of_ble_eq_true hc) σ).weakA (wk_two (wk_typ hcs (unT_eq ht)) hr2)
    · cases h
  · cases h
def openOk (z : Typ) (u : Typ) : Bool := nearM 2305843009213693952 z && (Nat.ble (nodesM z) 40000 && (Nat.ble (nodesM u * nodesM z) 40000 && (nearM 2305843009213693952 u && (nearM 2305843009213693952 (shiftM 0 0 u) && Nat.ble (nodesM u) 40000))))
def extOpen : List V → H → Option (V × H)
  | [t, .ptr b o], σ => match σ[b]? with
    | some (.cells cs _) => match cs[o]? with
      | some y => match (cells1 t).bind (unT 100), y.rows.bind (unTs (unT 100)) with
        | some z, some l => cond (Nat.ble l.length 1 && l.all (openOk z)) (some ((openI 0 l z).v, σ)) none
        | _, _ => none
      | none => none
    | _ => none
  | _, _ => none
theorem extOpen_ok (w0 : World) (as' : List V) (σ : H) (v : V) (σ' : H) (h : extOpen as' σ = some (v, σ')) : DC Tryz.prog w0 136 as' σ (Same v σ') := by
  unfold extOpen at h
  split at h
  · rename_i t b o
    split at h
    · rename_i cs tg hb
      split at h
      · rename_i y hy
        split at h
        · rename_i z l h1 h2
          obtain ⟨qs, hqs, hz⟩ := Option.bind_eq_some_iff.1 h1
          obtain ⟨r, hr, hl⟩ := Option.bind_eq_some_iff.1 h2
          cases hc : (Nat.ble l.length 1 && l.all (openOk z)) with
          | false => rw [hc] at h; cases h
          | true =>
            rw [hc] at h
            injection h with h
            injection h with e1 e2
            subst e1 e2
            simp only [Bool.and_eq_true, List.all_eq_true] at hc
            have hr2 := wk_row1 hr
            rw [unTs_eq (fun r x => unT_eq) hl] at hr2
            refine (clause_Open2 w0 z l (Nat.le_of_ble_eq_true hc.1) (fun u hu => ?_) σ b o cs tg hb y hy hr2).weakA (wk_two (wk_typ hqs (unT_eq hz)) (.rfl _))
            have := hc.2 u hu
            simp only [openOk, Bool.and_eq_true] at this
            exact ⟨this.1, Nat.le_of_ble_eq_true this.2.1, Nat.le_of_ble_eq_true this.2.2.1, this.2.2.2.1, this.2.2.2.2.1, Nat.le_of_ble_eq_true this.2.2.2.2.2⟩
        · cases h
      · cases h
    · cases h
  · cases h
def unB : List (List C) → Option (List UInt8)
  | [] => some []
  | r :: l => match r with
    | [.int .u8 n] => match n with
      | .ofNat k => cond (Nat.blt k 256) (match unB l with
        | none => none
        | some y => some (UInt8.ofNat k :: y)) none
      | _ => none
    | _ => none
theorem unB_eq : ∀ {l : List (List C)} {y : List UInt8}, unB l = some y → l = byteRows y
  | [], y, h => by injection h with h; subst h; rfl
  | r :: l, y, h => by
    unfold unB at h
    split at h
    · split at h
      · rename_i k
        cases hk : Nat.blt k 256 with
        | false => rw [hk] at h; cases h
        | true =>
          rw [hk] at h
          simp only [cond_true] at h
          split at h
          · cases h
          · rename_i z hz
            injection h with h
            subst h
            have hk' : k < 256 := Nat.le_of_ble_eq_true hk
            rw [unB_eq hz]
            simp only [byteRows, List.map_cons]
            rw [show (UInt8.ofNat k).toNat = k from by simp; omega]
            rfl
      · cases h
    · cases h
def extString : List V → H → Option (V × H)
  | [.ptr b 0], σ => match σ[b]? with
    | some (.cells [_, .osl v r] (some tg)) => match σ[v]?, unB r with
      | some (.spare e 1 n), some (x :: s) => cond (Nat.beq tg 123 && (Nat.beq e 5 && Nat.beq n (s.length + 1))) (some (.c (.str (x :: s)), σ.set v .gone)) none
      | _, _ => none
    | _ => none
  | _, _ => none
theorem extString_ok (w0 : World) (as' : List V) (σ : H) (v : V) (σ' : H) (h : extString as' σ = some (v, σ')) : DC Tryz.prog w0 87 as' σ (Same v σ') := by
  unfold extString at h
  split at h
  · rename_i b
    split at h
    · rename_i A v r tg hb
      split at h
      · rename_i e n x s hv hr
        cases hc : (Nat.beq tg 123 && (Nat.beq e 5 && Nat.beq n (s.length + 1))) with
        | false => rw [hc] at h; cases h
        | true =>
          rw [hc] at h
          injection h with h
          injection h with e1 e2
          subst e1 e2
          simp only [Bool.and_eq_true] at hc
          have q1 := Nat.eq_of_beq_eq_true hc.1
          have q2 := Nat.eq_of_beq_eq_true hc.2.1
          have q3 := Nat.eq_of_beq_eq_true hc.2.2
          subst q1 q2 q3
          rw [unB_eq hr] at hb
          exact builder_StringB w0 σ b v A (x :: s) (by simp) hb hv
      · cases h
    · cases h
  · cases h
end Go.Proofs.YtpcmcfajfnpjeaaGreatDoor
namespace Go.Proofs.YtpcmcfajfnpjeaaGreatDoor
open Go.RowKit Go.Lamb
def c142 : AC := .seq (.reg [.o 2 (.box (.k (.agg [.csl [],.csl [],.csl []]))),.o 3 (.mov (.k (.c (.int .i64 0)))),.o 4 (.mov (.k (.c (.int .i64 0))))]) (.seq (.reg [.k 10 231 [],.o 5 (.box (.k (.agg [.csl [],.csl [],.csl []]))),.s 3 5 10]) (.seq (.seq (.reg [.m 11 0,.o 12 (.lenr (.t 11)),.o 13 (.mov (.k (.c (.int .i64 0))))]) (.block 0 (.loop (.seq (.reg [.o 14 (.bin .lss (.t 13) (.t 12))]) (.seq (.cond (.t 14) (.skip) (.exit 0)) (.seq (.block 1 (.seq (.reg [.m 15 13,.o 16 (.iadd 16 (.t 11) (.t 13)),.d 17 16 16,.o 7 (.box (.k (.agg [.c (.int .i64 0),.csl [],.c (.int .i64 0),.c (.int .i64 0),.c (.str []),.c (.int .i64 0),.csl [],.c (.str []),.c (.int .i64 0),.c (.int .i64 0),.c (.int .i64 0),.c (.str []),.c (.int .i64 0),.csl [],.c (.int .i64 0),.c (.int .i64 0)]))),.m 6 15,.s 16 7 17]) (.seq (.reg [.d 19 3 5,.d 20 16 7,.k 21 36 [(.t 19),(.t 20)],.m 18 21,.x 22 18 0,.x 23 18 1,.o 8 (.box (.k (.agg [.csl [],.csl [],.csl []]))),.s 3 8 22,.m 9 23]) (.seq (.seq (.reg [.m 24 9,.o 25 (.bin .neq (.t 24) (.k (.c (.int .i64 0))))]) (.cond (.t 25) (.seq (.reg [.o 26 (.build [.csl [],.csl [],.csl []] []),.m 27 9,.m 28 6,.s 3 2 26,.m 3 27,.m 4 28]) (.ret)) (.skip))) (.reg [.d 29 3 8,.s 3 5 29]))))) (.reg [.o 30 (.bin .add (.t 13) (.k (.c (.int .i64 1)))),.m 13 30]))))))) (.seq (.reg [.d 31 3 5,.s 3 2 31,.o 3 (.mov (.k (.c (.int .i64 0)))),.o 4 (.mov (.k (.c (.int .i64 0))))]) (.ret))))
def r142 : List ResV := [.celln 3 2, .tmp 3, .tmp 4]
theorem k142 : CodeIs Tryz.prog 142 1 Tryz.f142 c142 r142 := .auto Tryz.func142
--absent /-- law11.SigAll -/
end Go.Proofs.YtpcmcfajfnpjeaaGreatDoor
namespace Go.Proofs.YtpcmcfajfnpjeaaGreatDoor
open Go.RowKit Go.Lamb
noncomputable def tab14 : CT := (.n 161 ⟨c161, r161, 2, 8⟩ (.n 75 ⟨c75, r75, 1, 8⟩ (.n 44 ⟨c44, r44, 2, 8⟩ (.n 23 ⟨c23, r23, 1, 8⟩ (.n 18 ⟨c18, r18, 3, 8⟩ (.n 14 ⟨c14, r14, 3, 8⟩ (.n 12 ⟨c12, r12, 0, 8⟩ .e .e) .e) (.n 21 ⟨c21, r21, 2, 8⟩ (.n 20 ⟨c20, r20, 2, 8⟩ .e .e) .e)) (.n 36 ⟨c36, r36, 2, 8⟩ (.n 26 ⟨c26, r26, 3, 8⟩ (.n 24 ⟨c24, r24, 1, 8⟩ .e .e) .e) (.n 42 ⟨c42, r42, 2, 8⟩ .e .e))) (.n 66 ⟨c66, r66, 2, 8⟩ (.n 57 ⟨c57, r57, 2, 8⟩ (.n 56 ⟨c56, r56, 1, 8⟩ (.n 54 ⟨c54, r54, 2, 8⟩ .e .e) .e) (.n 65 ⟨c65, r65, 3, 8⟩ (.n 58 ⟨c58, r58, 3, 8⟩ .e .e) .e)) (.n 70 ⟨c70, r70, 2, 8⟩ (.n 68 ⟨c68, r68, 4, 8⟩ (.n 67 ⟨c67, r67, 2, 8⟩ .e .e) .e) (.n 71 ⟨c71, r71, 2, 8⟩ .e .e)))) (.n 124 ⟨c124, r124, 1, 8⟩ (.n 86 ⟨c86, r86, 2, 8⟩ (.n 79 ⟨c79, r79, 3, 8⟩ (.n 78 ⟨c78, r78, 1, 8⟩ (.n 77 ⟨c77, r77, 2, 8⟩ .e .e) .e) (.n 85 ⟨c85, r85, 2, 8⟩ (.n 80 ⟨c80, r80, 3, 8⟩ .e .e) .e)) (.n 119 ⟨c119, r119, 2, 8⟩ (.n 118 ⟨c118, r118, 1, 8⟩ (.n 93 ⟨c93, r93, 1, 8⟩ .e .e) .e) (.n 120 ⟨c120, r120, 3, 8⟩ .e .e))) (.n 145 ⟨c145, r145, 1, 8⟩ (.n 142 ⟨c142, r142, 1, 8⟩ (.n 141 ⟨c141, r141, 1, 8⟩ (.n 135 ⟨c135, r135, 1, 8⟩ .e .e) .e) (.n 144 ⟨c144, r144, 2, 8⟩ (.n 143 ⟨c143, r143, 1, 8⟩ .e .e) .e)) (.n 159 ⟨c159, r159, 2, 8⟩ (.n 147 ⟨c147, r147, 2, 8⟩ (.n 146 ⟨c146, r146, 1, 8⟩ .e .e) .e) (.n 160 ⟨c160, r160, 2, 8⟩ .e .e))))) (.n 276 ⟨c276, r276, 2, 8⟩ (.n 211 ⟨c211, r211, 2, 8⟩ (.n 170 ⟨c170, r170, 1, 8⟩ (.n 165 ⟨c165, r165, 2, 8⟩ (.n 164 ⟨c164, r164, 1, 8⟩ (.n 163 ⟨c163, r163, 1, 8⟩ .e .e) .e) (.n 169 ⟨c169, r169, 2, 8⟩ (.n 166 ⟨c166, r166, 1, 8⟩ .e .e) .e)) (.n 181 ⟨c181, r181, 2, 8⟩ (.n 180 ⟨c180, r180, 1, 8⟩ (.n 178 ⟨c178, r178, 1, 8⟩ .e .e) .e) (.n 182 ⟨c182, r182, 1, 8⟩ .e .e))) (.n 230 ⟨c230, r230, 1, 8⟩ (.n 214 ⟨c214, r214, 1, 8⟩ (.n 213 ⟨c213, r213, 3, 8⟩ (.n 212 ⟨c212, r212, 2, 8⟩ .e .e) .e) (.n 229 ⟨c229, r229, 0, 8⟩ (.n 215 ⟨c215, r215, 1, 8⟩ .e .e) .e)) (.n 274 ⟨c274, r274, 2, 8⟩ (.n 254 ⟨c254, r254, 2, 8⟩ (.n 231 ⟨c231, r231, 0, 8⟩ .e .e) .e) (.n 275 ⟨c275, r275, 2, 8⟩ .e .e)))) (.n 337 ⟨c337, r337, 2, 8⟩ (.n 293 ⟨c293, r293, 1, 8⟩ (.n 288 ⟨c288, r288, 0, 8⟩ (.n 287 ⟨c287, r287, 3, 8⟩ (.n 286 ⟨c286, r286, 1, 8⟩ .e .e) .e) (.n 290 ⟨c290, r290, 1, 8⟩ (.n 289 ⟨c289, r289, 1, 8⟩ .e .e) .e)) (.n 296 ⟨c296, r296, 2, 8⟩ (.n 295 ⟨c295, r295, 1, 8⟩ (.n 294 ⟨c294, r294, 1, 8⟩ .e .e) .e) (.n 336 ⟨c336, r336, 1, 8⟩ .e .e))) (.n 393 ⟨c393, r393, 1, 8⟩ (.n 341 ⟨c341, r341, 3, 8⟩ (.n 340 ⟨c340, r340, 2, 8⟩ (.n 338 ⟨c338, r338, 3, 8⟩ .e .e) .e) (.n 376 ⟨c376, r376, 2, 8⟩ (.n 375 ⟨c375, r375, 2, 8⟩ .e .e) .e)) (.n 396 ⟨c396, r396, 3, 8⟩ (.n 395 ⟨c395, r395, 1, 8⟩ (.n 394 ⟨c394, r394, 2, 8⟩ .e .e) .e) (.n 397 ⟨c397, r397, 2, 8⟩ .e .e))))))
theorem tab14_ok : CT.Ok Tryz.prog tab14 := ⟨⟨_, k161⟩, ⟨⟨_, k75⟩, ⟨⟨_, k44⟩, ⟨⟨_, k23⟩, ⟨⟨_, k18⟩, ⟨⟨_, k14⟩, ⟨⟨_, k12⟩, trivial, trivial⟩, trivial⟩, ⟨⟨_, k21⟩, ⟨⟨_, k20⟩, trivial, trivial⟩, trivial⟩⟩, ⟨⟨_, k36⟩, ⟨⟨_, k26⟩, ⟨⟨_, k24⟩, trivial, trivial⟩, trivial⟩, ⟨⟨_, k42⟩, trivial, trivial⟩⟩⟩, ⟨⟨_, k66⟩, ⟨⟨_, k57⟩, ⟨⟨_, k56⟩, ⟨⟨_, k54⟩, trivial, trivial⟩, trivial⟩, ⟨⟨_, k65⟩, ⟨⟨_, k58⟩, trivial, trivial⟩, trivial⟩⟩, ⟨⟨_, k70⟩, ⟨⟨_, k68⟩, ⟨⟨_, k67⟩, trivial, trivial⟩, trivial⟩, ⟨⟨_, k71⟩, trivial, trivial⟩⟩⟩⟩, ⟨⟨_, k124⟩, ⟨⟨_, k86⟩, ⟨⟨_, k79⟩, ⟨⟨_, k78⟩, ⟨⟨_, k77⟩, trivial, trivial⟩, trivial⟩, ⟨⟨_, k85⟩, ⟨⟨_, k80⟩, trivial, trivial⟩, trivial⟩⟩, ⟨⟨_, k119⟩, ⟨⟨_, k118⟩, ⟨⟨_, k93⟩, trivial, trivial⟩, trivial⟩, ⟨⟨_, k120⟩, trivial, trivial⟩⟩⟩, ⟨⟨_, k145⟩, ⟨⟨_, k142⟩, ⟨⟨_, k141⟩, ⟨⟨_, k135⟩, trivial, trivial⟩, trivial⟩, ⟨⟨_, k144⟩, ⟨⟨_, k143⟩, trivial, trivial⟩, trivial⟩⟩, ⟨⟨_, k159⟩, ⟨⟨_, k147⟩, ⟨⟨_, k146⟩, trivial, trivial⟩, trivial⟩, ⟨⟨_, k160⟩, trivial, trivial⟩⟩⟩⟩⟩, ⟨⟨_, k276⟩, ⟨⟨_, k211⟩, ⟨⟨_, k170⟩, ⟨⟨_, k165⟩, ⟨⟨_, k164⟩, ⟨⟨_, k163⟩, trivial, trivial⟩, trivial⟩, ⟨⟨_, k169⟩, ⟨⟨_, k166⟩, trivial, trivial⟩, trivial⟩⟩, ⟨⟨_, k181⟩, ⟨⟨_, k180⟩, ⟨⟨_, k178⟩, trivial, trivial⟩, trivial⟩, ⟨⟨_, k182⟩, trivial, trivial⟩⟩⟩, ⟨⟨_, k230⟩, ⟨⟨_, k214⟩, ⟨⟨_, k213⟩, ⟨⟨_, k212⟩, trivial, trivial⟩, trivial⟩, ⟨⟨_, k229⟩, ⟨⟨_, k215⟩, trivial, trivial⟩, trivial⟩⟩, ⟨⟨_, k274⟩, ⟨⟨_, k254⟩, ⟨⟨_, k231⟩, trivial, trivial⟩, trivial⟩, ⟨⟨_, k275⟩, trivial, trivial⟩⟩⟩⟩, ⟨⟨_, k337⟩, ⟨⟨_, k293⟩, ⟨⟨_, k288⟩, ⟨⟨_, k287⟩, ⟨⟨_, k286⟩, trivial, trivial⟩, trivial⟩, ⟨⟨_, k290⟩, ⟨⟨_, k289⟩, trivial, trivial⟩, trivial⟩⟩, ⟨⟨_, k296⟩, ⟨⟨_, k295⟩, ⟨⟨_, k294⟩, trivial, trivial⟩, trivial⟩, ⟨⟨_, k336⟩, trivial, trivial⟩⟩⟩, ⟨⟨_, k393⟩, ⟨⟨_, k341⟩, ⟨⟨_, k340⟩, ⟨⟨_, k338⟩, trivial, trivial⟩, trivial⟩, ⟨⟨_, k376⟩, ⟨⟨_, k375⟩, trivial, trivial⟩, trivial⟩⟩, ⟨⟨_, k396⟩, ⟨⟨_, k395⟩, ⟨⟨_, k394⟩, trivial, trivial⟩, trivial⟩, ⟨⟨_, k397⟩, trivial, trivial⟩⟩⟩⟩⟩⟩
end Go.Proofs.YtpcmcfajfnpjeaaGreatDoor
namespace Go.Lamb
open Go Go.RowKit
def orX (g : FuncId) (e : List V → H → Option (V × H)) (r : Caller) : Caller := fun f as_ σ => cond (Nat.beq f g) (e as_ σ) (r f as_ σ)
def noX : Caller := fun _ _ _ => none
theorem noX_ok {P : Program} {w0 : World} : Caller.Ok P w0 noX := fun _ _ _ _ _ h => by cases h
theorem orX_ok {P : Program} {w0 : World} {g : FuncId} {e : List V → H → Option (V × H)} {r : Caller} (he : ∀ as_ σ v σ', e as_ σ = some (v, σ') → DC P w0 g as_ σ (Same v σ')) (hr : Caller.Ok P w0 r) : Caller.Ok P w0 (orX g e r) := by
  intro f as_ σ v σ' h
  unfold orX at h
  cases hb : Nat.beq f g with
  | true =>
    rw [hb] at h
    have := Nat.eq_of_beq_eq_true hb
    subst this
    exact he _ _ _ _ h
  | false =>
    rw [hb] at h
    exact hr _ _ _ _ _ h
end Go.Lamb
namespace Go.Proofs.YtpcmcfajfnpjeaaGreatDoor
open Go.RowKit Go.Lamb
noncomputable def ext14 : Caller :=
  orX 176 extLex (orX 185 extArrow (orX 63 extShow (orX 69 extItoa
  (orX 335 (extGrow 75 3) (orX 342 (extGrow 68 5) (orX 219 (extGrow 30 4)
  (orX 210 (extClone 75 3) (orX 209 (extClone 164 2) (orX 196 (extClone 68 5) (orX 174 (extCloneT 30)
  (orX 136 extOpen (orX 175 extCopy (orX 87 extString noX)))))))))))))
theorem ext14_ok {w0 : World} (hG : Glob w0) : Caller.Ok Tryz.prog w0 ext14 :=
  orX_ok (extLex_ok hG) (orX_ok (extArrow_ok w0) (orX_ok (extShow_ok hG) (orX_ok (extItoa_ok hG)
  (orX_ok (extGrow_op w0) (orX_ok (extGrow_nm w0) (orX_ok (extGrow_tm w0)
  (orX_ok (extClone_op w0) (orX_ok (extClone_kd w0) (orX_ok (extClone_nm w0) (orX_ok (extClone_tm w0)
  (orX_ok (extOpen_ok w0) (orX_ok (extCopy_ok w0) (orX_ok (extString_ok w0) noX_ok)))))))))))))
noncomputable def X14 : XP := ⟨Tryz.prog, ext14, tab14, fun _ => false, fun _ => false⟩
theorem X14_ok {w0 : World} (hG : Glob w0) : X14.Ok w0 := ⟨ext14_ok hG, tab14_ok⟩
theorem run14 : isTrue (runX X14 100000 12 [] []) = true := by kernel_rfl
end Go.Proofs.YtpcmcfajfnpjeaaGreatDoor
namespace Go.Lamb
open Go Go.RowKit
noncomputable def nmsOf (s : Sg) (vars : List Str) (N : Nat) : List Str := (List.range N).map (nameM s vars)
theorem nmsOf_succ (s : Sg) (vars : List Str) (N : Nat) : nmsOf s vars (N + 1) = nmsOf s vars N ++ [nameM s vars N] := by simp [nmsOf, List.range_succ]
theorem nmsOf_len (s : Sg) (vars : List Str) (N : Nat) : (nmsOf s vars N).length = N := by simp [nmsOf]
theorem nmsOf_get (s : Sg) (vars : List Str) {N i : Nat} (h : i < N) : (nmsOf s vars N)[i]? = some (nameM s vars i) := by simp [nmsOf, h]
noncomputable def cntOf (s : Sg) (vars : List Str) (N : Nat) : Nat := if N = 0 then 0 else numAt s vars (N - 1) + 1
def Tried (s : Sg) (vars : List Str) (N c : Nat) : Prop := cntN (tkX s vars) c = N
theorem tried_cnt (s : Sg) (vars : List Str) (N : Nat) : Tried s vars N (cntOf s vars N) := by
  unfold Tried cntOf
  split
  · rename_i h; subst h; rfl
  · rename_i h
    have := numAt_at s vars (N - 1)
    rw [cntN, if_neg (by rw [this.1]; simp), this.2]
    omega
theorem tried_le {s : Sg} {vars : List Str} {N c i : Nat} (h : Tried s vars N c) (hi : N ≤ i) : c ≤ numAt s vars i := by
  have h1 := numAt_at s vars i
  rcases Nat.lt_or_ge (numAt s vars i) c with hl | hl
  · have h2 := cntN_le (tkX s vars) (show numAt s vars i + 1 ≤ c from hl)
    rw [cntN, if_neg (by rw [h1.1]; simp), h1.2] at h2
    unfold Tried at h
    omega
  · exact hl
theorem tried_free {s : Sg} {vars : List Str} {N c : Nat} (h : Tried s vars N c) (hf : tkX s vars (c + 1) = false) : numAt s vars N = c ∧ Tried s vars (N + 1) (c + 1) ∧ cntOf s vars (N + 1) = c + 1 := by
  have h1 : numAt s vars N = c := nameAt_one (numAt_at s vars N) ⟨hf, h⟩
  refine ⟨h1, ?_, ?_⟩
  · unfold Tried at h ⊢
    rw [cntN, if_neg (by rw [hf]; simp), h]
  · unfold cntOf
    rw [if_neg (by omega), Nat.add_sub_cancel, h1]
theorem tried_taken {s : Sg} {vars : List Str} {N c : Nat} (h : Tried s vars N c) (hf : tkX s vars (c + 1) = true) : Tried s vars N (c + 1) := by
  unfold Tried at h ⊢
  rw [cntN, if_pos hf, h]; rfl
end Go.Lamb
namespace Go.Proofs.YtpcmcfajfnpjeaaGreatDoor
open Go.RowKit Go.Lamb
attribute [local go_sem] advO_skip advO_reg advO_seq advO_block advO_exit advO_endb advO_opsNil advO_ops advG_yes advG_no advG_none advS_some advS_none advO_cond advO_loop advO_dreg advO_ret advO_bad advO_inv advO_nil advO_zero wantedV Lamb.step ev_t ev_k put_some put_none argEnv popTo cellsAt V.cellsV V.rows V.sub V.toC toCs fillV bytesC byteRows appV rowsV boundV boundL binV binInt binStr eqC eqL V.isNil leaves V.leaf Ins.quiet Ins.pure List.getD_cons_zero List.getD_cons_succ List.getD_nil List.all_cons List.all_nil List.length_cons List.length_nil List.take_succ_cons List.take_zero List.drop_succ_cons List.drop_zero List.cons_append List.nil_append List.append_nil List.append_assoc List.map_cons List.map_nil List.getElem?_cons_zero List.getElem?_cons_succ List.length_append List.length_set hget0 hget hset0 hset hsets hgs0 hgs hss0 hss List.set_cons_zero List.set_cons_succ List.forall_mem_cons List.not_mem_nil false_implies implies_true Option.map_some Bool.and_true Bool.true_and Bool.not_not Bool.not_true Bool.not_false Bool.and_self Bool.or_true Bool.true_or Bool.or_false Bool.false_or Bool.and_false Bool.false_and Bool.false_eq_true beq_self_eq_true and_self and_true true_and if_true if_false Nat.zero_add Nat.add_zero Nat.le_refl Int.toNat_natCast decide_true decide_false beq_t beq_f List.length_map List.getElem?_map I S B opsC toksC OpT.v OpT.cs OpT.zero Tok.v Tok.cs Pre.v Pre.cs_eq k_mk name_mk n_mk l_mk pos_mk Pre.app applyL natCast0 natCast1 natCast2 AOp.o AOp.m AOp.f AOp.l AOp.d AOp.n AOp.x AOp.s AOp.k AOp.y AOp.z EOp.q low_c low_void low_any low_csl low_nilf low_ptr low_osl low_agg low_tup low_fn resEval advPO_nil advPO_loud advPO_quiet pL_yes pL_no pLS_some pLS_none pQ_yes pQ_no pQS_some pQS_loud eq_self Nat.sub_zero
section
attribute [local go_sem] Sg.v findV foundV Typ.v OpT.v nmX

theorem names_taken (w0 : World) (s : Sg) (vars : List Str) (name : Str) (σ : H) (b : Nat) (h0 : σ[b]? = some (.cells s.v.cellsV)) (h1 : σ[b + 1]? = some (.cells [.c (.sl (strsR vars))])) :
    DC Tryz.prog w0 65 [S name, .ptr b 0, .ptr (b + 1) 0] σ (Same (B (takenX s vars name)) σ) := by
  refine k65.go rfl (fun hok hsz => ?_)
  have hT : takenX s vars name = ((findN s.types name).isSome || (findL s.ops name).isSome || vars.contains name) := rfl
  rw [hT]
  clear hT
  have h0' : σ[b]? = some (.cells [.c (kdsC s.kinds), .c (nmsC s.types), .c (opsC s.ops)]) := h0
  have g0 := hG h0'
  have g1 := hG h1
  cases hA : (findN s.types name).isSome <;> cases hB : (findL s.ops name).isSome
  all_goals
    ((try refine W.a ?_); simp only [go_sem, seval, reduceCtorEq, c65, g0, g1, h0', h1])
    (refine W.c1 (sig_Find w0 s name _) ?_; simp only [go_sem, seval, reduceCtorEq])
    ((try refine W.a ?_); simp only [go_sem, seval, reduceCtorEq, hA, g0, g1])
    (refine W.c1 (ops_Find w0 s.ops name _) ?_; simp only [go_sem, seval, reduceCtorEq])
    ((try refine W.a ?_); simp only [go_sem, seval, reduceCtorEq, hA, hB, g0, g1])
  · (refine W.c1 (str_contains w0 vars name _) ?_; simp only [go_sem, seval, reduceCtorEq])
    (refine W.fs (hok) (by simp only [r65, go_sem, seval, reduceCtorEq]; rfl) ?_; simp only [resV]; try exact V.wk.rfl _)
  all_goals
    (refine W.fs (hok) (by simp only [r65, go_sem, seval, reduceCtorEq]; rfl) ?_; simp only [resV]; try exact V.wk.rfl _)
noncomputable def nmB (s : Sg) (vars : List Str) (b N c : Nat) : H := [.cells s.v.cellsV, .cells [.c (.sl (strsR vars))], .cells [.osl (b + 5) (strsR (nmsOf s vars N))], .cells [I (c : Nat)], .cells [.fn 65 [.ptr b 0, .ptr (b + 1) 0]], .spare 9 1 N]
theorem pretty_Names (w0 : World) (s : Sg) (vars : List Str) (σ : H) : DC Tryz.prog w0 20 [s.v, .c (.sl (strsR vars))] σ (Same (.fn 68 [.ptr (σ.length + 2) 0, .ptr (σ.length + 3) 0, .ptr (σ.length + 4) 0]) (σ ++ nmB s vars σ.length 0 0)) := by
  refine k20.goN rfl (fun hok hsz => ?_)
  ((try refine W.a ?_); simp only [go_sem, seval, reduceCtorEq, c20])
  refine W.ownCell (σ.length + 2) 0 9 1 (cs := [.csl []]) (tg := none) ?_ rfl ?_
  · simp only [hget, List.getElem?_cons_succ, List.getElem?_cons_zero]
  · ((try refine W.a ?_); simp only [go_sem, seval, reduceCtorEq])
    refine W.ret ⟨_, _, rfl, .rfl _, rfl, ?_⟩
    simp only [nmB, nmsOf, List.range_zero, List.map_nil, strsR, go_sem]
end
section
attribute [local go_sem] Sg.v findV foundV Typ.v OpT.v

theorem names_takenL (w0 : World) (s : Sg) (vars : List Str) (name : Str) (σ L : H) :
    DC Tryz.prog w0 65 [S name, .ptr σ.length 0, .ptr (σ.length + 1) 0] (σ ++ (.cells [.c (kdsC s.kinds), .c (nmsC s.types), .c (.sl (s.ops.map OpT.cs))] :: .cells [.c (.sl (strsR vars))] :: L)) (Same (B (takenX s vars name)) (σ ++ (.cells [.c (kdsC s.kinds), .c (nmsC s.types), .c (.sl (s.ops.map OpT.cs))] :: .cells [.c (.sl (strsR vars))] :: L))) :=
  names_taken w0 s vars name _ _ (by rw [hget0]; rfl) (by rw [hget]; rfl)
theorem nm_len (s : Sg) (vars : List Str) (b N c : Nat) : (nmB s vars b N c).length = 6 := rfl
theorem nm_ok {s : Sg} {vars : List Str} {σ L : H} {N c : Nat} (h : H.ok (σ ++ (nmB s vars σ.length N c ++ L))) (N' c' : Nat) : H.ok (σ ++ (nmB s vars σ.length N' c' ++ L)) := by
  intro B hB cs tg hc x hx
  have hl : (σ ++ (nmB s vars σ.length N' c' ++ L)).length = (σ ++ (nmB s vars σ.length N c ++ L)).length := by simp [nm_len]
  have hl2 : σ.length + 6 ≤ (σ ++ (nmB s vars σ.length N' c' ++ L)).length := by simp [nm_len]
  rcases List.mem_append.1 hB with hB | hB
  · rw [hl]; exact h B (List.mem_append_left _ hB) cs tg hc x hx
  · rcases List.mem_append.1 hB with hB | hB
    · simp only [nmB, List.mem_cons, List.not_mem_nil, or_false] at hB
      rcases hB with rfl | rfl | rfl | rfl | rfl | rfl
      · injection hc with hc; subst hc
        simp only [Sg.v, V.cellsV, List.mem_cons, List.not_mem_nil, or_false] at hx
        rcases hx with rfl | rfl | rfl <;> exact .c _
      · injection hc with hc; subst hc
        simp only [List.mem_cons, List.not_mem_nil, or_false] at hx
        subst hx; exact .c _
      · injection hc with hc; subst hc
        simp only [List.mem_cons, List.not_mem_nil, or_false] at hx
        subst hx; exact .osl (by omega)
      · injection hc with hc; subst hc
        simp only [List.mem_cons, List.not_mem_nil, or_false] at hx
        subst hx; exact .c _
      · injection hc with hc; subst hc
        simp only [List.mem_cons, List.not_mem_nil, or_false] at hx
        subst hx
        refine .fn fun y hy => ?_
        simp only [List.mem_cons, List.not_mem_nil, or_false] at hy
        rcases hy with rfl | rfl <;> exact .ptr (by omega)
      · cases hc
    · rw [hl]; exact h B (List.mem_append_right _ (List.mem_append_right _ hB)) cs tg hc x hx
theorem names_at {w0 : World} (hG : Glob w0) (s : Sg) (vars : List Str) (hT : (takenT s vars).length ≤ 900000) (n : Nat) (hn : n ≤ 100000) (N : Nat) (hN : N ≤ 100001) (σ L : H) :
    DC Tryz.prog w0 68 [I (n : Int), .ptr (σ.length + 2) 0, .ptr (σ.length + 3) 0, .ptr (σ.length + 4) 0] (σ ++ (nmB s vars σ.length N (cntOf s vars N) ++ L))
      (Same (S (nameM s vars n)) (σ ++ (nmB s vars σ.length (max N (n + 1)) (cntOf s vars (max N (n + 1))) ++ L))) := by
  refine k68.go rfl (fun hok hsz => ?_)
  have h0 : ¬ ((n : Int) < 0) := by omega
  have h1 : ¬ ((n : Int) > 100000) := by omega
  have hnum := numAt_le s vars n
  ((try refine W.a ?_); simp only [go_sem, seval, reduceCtorEq, c68, nmB, h0, h1])
  refine W.no rfl ?_
  ((try refine W.a ?_); simp only [go_sem, seval, reduceCtorEq])
  refine W.loopP (α := Nat × Nat) (fun x => N ≤ x.1 ∧ x.1 ≤ max N (n + 1) ∧ Tried s vars x.1 x.2 ∧ (n < x.1 → x.2 = cntOf s vars x.1)) (fun x => ⟨((((base.put (some 0) (I (n : Int))).put (some 1) (.ptr (σ.length + 2) 0)).put (some 2) (.ptr (σ.length + 3) 0)).put (some 3) (.ptr (σ.length + 4) 0)), σ ++ (nmB s vars σ.length x.1 x.2 ++ L)⟩) (fun x => if x.1 ≤ n then numAt s vars n + 1 - x.2 else 0) (N, cntOf s vars N) ⟨Nat.le_refl _, by simp only; omega, tried_cnt s vars N, fun _ => rfl⟩ ?_ (fun x hx => ?_)
  · (refine Lew.env ?_; exact lee_here)
  · obtain ⟨N', c⟩ := x
    obtain ⟨hx1, hx2, hx3, hx4⟩ := hx
    simp only at hx1 hx2 hx3 hx4
    have hlen := nmsOf_len s vars N'
    by_cases hle : N' ≤ n
    · have hc := tried_le hx3 hle
      have h2 : ((N' : Nat) : Int) ≤ (n : Int) := by omega
      have hw : IntKind.i64.wrap ((c : Int) + 1) = ((c + 1 : Nat) : Int) := by rw [wrap_in] <;> omega
      have hit : Lib.itoa ((c + 1 : Nat) : Int) = Lib.decDigits (c + 1) := by rw [itoa_nat (by omega), Int.toNat_natCast]
      have hl : 1 + (Lib.decDigits (c + 1)).length ≤ 9223372036854775807 := by have := dec_len (u := c + 1) (by omega); omega
      have hb1 : (N' + 1) * 16 ≤ 140737488355328 := by omega
      have hb2 : N' + 1 ≤ 140737488355328 := by omega
      ((try refine W.a ?_); simp only [go_sem, seval, reduceCtorEq, nmB, hlen, strsR, h2])
      refine W.yes rfl ?_
      ((try refine W.a ?_); simp only [go_sem, seval, reduceCtorEq, hw])
      (refine W.c1 (strconv_ItoaS hG ((c + 1 : Nat) : Int) (by omega) (by omega) _) ?_; simp only [go_sem, seval, reduceCtorEq, hit, hl])
      (refine W.c1 (names_takenL w0 s vars (120 :: Lib.decDigits (c + 1)) σ _) ?_; simp only [go_sem, seval, reduceCtorEq])
      cases ht : takenX s vars (120 :: Lib.decDigits (c + 1))
      · have hfr := tried_free hx3 (show tkX s vars (c + 1) = false from ht)
        have hE : List.map (fun s => [C.str s]) (nmsOf s vars (N' + 1)) = List.map (fun s => [C.str s]) (nmsOf s vars N') ++ [[C.str (120 :: Lib.decDigits (c + 1))]] := by
          rw [nmsOf_succ]
          simp [nameM, hfr.1, nmX]
        ((try refine W.a ?_); simp only [go_sem, seval, reduceCtorEq])
        refine W.yes rfl ?_
        ((try refine W.a ?_); simp only [go_sem, seval, reduceCtorEq, hb1, hb2, hlen])
        refine .inv ⟨(N' + 1, c + 1), ⟨by simp only; omega, by simp only; omega, hfr.2.1, fun _ => hfr.2.2.symm⟩, ?_, ?_⟩
        · show (if N' + 1 ≤ n then _ else _) < (if N' ≤ n then _ else _)
          rw [if_pos hle]
          split <;> omega
        · simp only [nmB, strsR, hE]
          (refine Lew.env ?_; exact lee_here)
      · ((try refine W.a ?_); simp only [go_sem, seval, reduceCtorEq])
        refine W.no rfl ?_
        ((try refine W.a ?_); simp only [go_sem, seval, reduceCtorEq])
        refine .inv ⟨(N', c + 1), ⟨hx1, hx2, tried_taken hx3 ht, fun h => by simp only at h; omega⟩, ?_, ?_⟩
        · show (if N' ≤ n then _ else _) < (if N' ≤ n then _ else _)
          rw [if_pos hle, if_pos hle]
          omega
        · simp only [nmB, strsR]
          (refine Lew.env ?_; exact lee_here)
    · have h2 : ¬ ((N' : Nat) : Int) ≤ (n : Int) := by omega
      have hmx : max N (n + 1) = N' := by omega
      have hgx := nmsOf_get s vars (N := N') (i := n) (by omega)
      have h3 : (0 : Int) ≤ (n : Int) := by omega
      have h4 : (n : Int) < ((N' : Nat) : Int) := by omega
      ((try refine W.a ?_); simp only [go_sem, seval, reduceCtorEq, nmB, hlen, strsR, h2])
      refine W.no rfl ?_
      ((try refine W.a ?_); simp only [go_sem, seval, reduceCtorEq, hlen, h3, h4, hgx])
      rw [hmx, ← hx4 (by omega)]
      (refine W.fg (nm_ok hok N' c) (d := S (nameM s vars n)) (by simp only [r68, go_sem, seval, reduceCtorEq]; rfl) (by simp only [resV, go_sem, seval, reduceCtorEq]; exact wk_here) ?_ (hn := by simp [nm_len]; omega))
      exact ⟨rfl, rfl⟩
end
section
attribute [local go_sem] Typ.v Typ.cs_eq Pre.v Pre.cs_eq Pre.app tk_mk tname_mk tn_mk tl_mk

structure NmR (w0 : World) (s : Sg) (vars : List Str) (F : V) (τ : Nat → H) (M : Nat) : Prop where
  len : ∀ N, (τ N).length = M
  ok : ∀ N N' X, H.ok (τ N ++ X) → H.ok (τ N' ++ X)
  low : V.low M F
  leaf : F.leaf = true
  call : ∃ f caps, F = .fn f caps ∧ ∀ X j N, j ≤ 100000 → N ≤ 100001 → DC Tryz.prog w0 f (I (j : Nat) :: caps) (τ N ++ X) (Same (S (nameM s vars j)) (τ (max N (j + 1)) ++ X))
theorem NmR.more {w0 : World} {s : Sg} {vars : List Str} {F : V} {τ : Nat → H} {M : Nat} (h : NmR w0 s vars F τ M) (Y : H) : NmR w0 s vars F (fun N => τ N ++ Y) (M + Y.length) := by
  obtain ⟨f, caps, hF, hc⟩ := h.call
  refine ⟨fun N => by simp [h.len], fun N N' X hk => ?_, V.low_mono (Nat.le_add_right _ _) h.low, h.leaf, f, caps, hF, fun X j N hj hN => ?_⟩
  · simp only [List.append_assoc] at hk ⊢
    exact h.ok N N' _ hk
  · simp only [List.append_assoc]
    exact hc (Y ++ X) j N hj hN
theorem nm_R {w0 : World} (hG : Glob w0) (s : Sg) (vars : List Str) (hT : (takenT s vars).length ≤ 900000) (σ L : H) : NmR w0 s vars (.fn 68 [.ptr (σ.length + 2) 0, .ptr (σ.length + 3) 0, .ptr (σ.length + 4) 0]) (fun N => σ ++ (nmB s vars σ.length N (cntOf s vars N) ++ L)) (σ.length + 6 + L.length) := by
  refine ⟨fun N => by simp [nm_len]; omega, fun N N' X h => ?_, ?_, rfl, _, _, rfl, fun X j N hj hN => ?_⟩
  · rw [List.append_assoc, List.append_assoc] at h ⊢
    exact nm_ok h _ _
  · refine .fn fun y hy => ?_
    simp only [List.mem_cons, List.not_mem_nil, or_false] at hy
    rcases hy with rfl | rfl | rfl <;> exact .ptr (by omega)
  · have := names_at hG s vars hT j hj N hN σ (L ++ X)
    simpa only [List.append_assoc] using this
def wrV (vars : List Str) (F : V) : V := .agg [I 0, .c (.sl (strsR vars)), F]
theorem writer_variable {w0 : World} (hG : Glob w0) (vars : List Str) (f : FuncId) (caps : List V) (N : Nat) (hN : N ≤ 4611686018427387904) (σ : H) :
    DC Tryz.prog w0 147 [wrV vars (.fn f caps), I (N : Int)] σ (Same (Pre.mk 1 (if N < vars.length then vars.getD N [] else 95 :: Lib.decDigits N) 0 [] 0).v σ) := by
  refine k147.go rfl (fun hok hsz => ?_)
  have hit : Lib.itoa (N : Int) = Lib.decDigits N := by rw [itoa_nat (by omega), Int.toNat_natCast]
  have hl := dec_fits hN 1 (by decide)
  have hw : IntKind.i64.wrap ((N : Int) - 0) = (N : Int) := by rw [wrap_in] <;> omega
  have h0 : (0 : Int) ≤ (N : Int) := by omega
  by_cases hv : N < vars.length
  · have h1 : (N : Int) < (vars.length : Int) := by omega
    have hx : vars[N]? = some vars[N] := List.getElem?_eq_getElem hv
    have hg : vars.getD N [] = vars[N] := by rw [List.getD_eq_getElem?_getD, hx]; rfl
    rw [if_pos hv, hg]
    ((try refine W.a ?_); simp only [go_sem, seval, reduceCtorEq, c147, wrV, strsR])
    (refine W.c1 (strconv_ItoaS hG (N : Int) (by omega) (by omega) _) ?_; simp only [go_sem, seval, reduceCtorEq, hit, hl])
    ((try refine W.a ?_); simp only [go_sem, seval, reduceCtorEq, hw, h0, h1, strsR])
    refine W.yes rfl ?_
    ((try refine W.a ?_); simp only [go_sem, seval, reduceCtorEq, h0, h1, hx, strsR])
    (refine W.fs (hok) (by simp only [r147, go_sem, seval, reduceCtorEq]; rfl) ?_; simp only [resV]; try exact V.wk.rfl _)
    (all_goals exact wk_here)
  · have h1 : ¬ (N : Int) < (vars.length : Int) := by omega
    rw [if_neg hv]
    ((try refine W.a ?_); simp only [go_sem, seval, reduceCtorEq, c147, wrV, strsR])
    (refine W.c1 (strconv_ItoaS hG (N : Int) (by omega) (by omega) _) ?_; simp only [go_sem, seval, reduceCtorEq, hit, hl])
    ((try refine W.a ?_); simp only [go_sem, seval, reduceCtorEq, hw, h0, h1, strsR])
    refine W.no rfl ?_
    ((try refine W.a ?_); simp only [go_sem, seval, reduceCtorEq])
    (refine W.fs (hok) (by simp only [r147, go_sem, seval, reduceCtorEq]; rfl) ?_; simp only [resV]; try exact V.wk.rfl _)
    (all_goals exact wk_here)
def TreeOK (w0 : World) (s : Sg) (vars : List Str) (F : V) (t : Typ) (k : Nat) : Prop := ∀ (τ : Nat → H) (M : Nat), NmR w0 s vars F τ M → ∀ N, k ≤ N → N ≤ 1001 →
  DC Tryz.prog w0 58 [wrV vars F, t.v, I (k : Int)] (τ N) (fun d σ' => d = (treeM s vars k t).v ∧ ∃ N', N ≤ N' ∧ N' ≤ 1001 ∧ σ' = τ N')
theorem TreeOK.leaf {w0 : World} {s : Sg} {vars : List Str} {F : V} {t : Typ} {k : Nat} (h : ∀ f caps, F = .fn f caps → ∀ σ, DC Tryz.prog w0 58 [wrV vars F, t.v, I (k : Int)] σ (Same (treeM s vars k t).v σ)) : TreeOK w0 s vars F t k := fun τ M hR N hk hN => by
  obtain ⟨f, caps, hF, hc⟩ := hR.call
  exact (h f caps hF (τ N)).mono fun d σ' ⟨h1, h2⟩ => ⟨h1, N, Nat.le_refl _, hN, h2⟩
section
variable {w0 : World} {s : Sg} {vars : List Str} {F : V}
theorem wtree_const (t : Typ) (k : Nat) (h : (t.k == 0) = true) : TreeOK w0 s vars F t k := .leaf fun f caps hF σ => by
  subst hF
  have hE : treeM s vars k t = .mk 0 t.name 0 [] 0 := by
    have h : t.k = 0 := by simpa using h
    rw [treeM_eq, if_neg (by omega), if_neg (by omega), leafP, if_neg (by omega), if_neg (by omega), if_neg (by omega), if_neg (by omega)]
  rw [hE]
  clear hE
  have k1 := pkind_no h 1 (by decide)
  have k2 := pkind_no h 2 (by decide)
  have k3 := pkind_no h 3 (by decide)
  have k4 := pkind_no h 4 (by decide)
  have k5 := pkind_no h 5 (by decide)
  have k6 := pkind_no h 6 (by decide)
  refine k58.go rfl (fun hok hsz => ?_)
  (((try refine W.a ?_); (try simp only [bne, go_sem, seval, reduceCtorEq, c58, wrV, h, k1, k2, k3, k4, k5, k6, *])); (repeat' (first | (refine W.yes rfl ?_; (refine W.a ?_; simp only [bne, go_sem, seval, reduceCtorEq, c58, wrV, h, k1, k2, k3, k4, k5, k6, *])) | (refine W.no rfl ?_; (refine W.a ?_; simp only [bne, go_sem, seval, reduceCtorEq, c58, wrV, h, k1, k2, k3, k4, k5, k6, *])) | (refine W.c1 (pretty_word w0 t.name _) ?_; simp only [bne, go_sem, seval, reduceCtorEq, c58, wrV, h, k1, k2, k3, k4, k5, k6, *]) | (refine W.testn rfl (fun hT => ?_) (fun hT => ?_) <;> (refine W.a ?_; simp only [bne, go_sem, seval, reduceCtorEq, c58, wrV, h, k1, k2, k3, k4, k5, k6, *])) | (refine W.test rfl (fun hT => ?_) (fun hT => ?_) <;> (refine W.a ?_; simp only [bne, go_sem, seval, reduceCtorEq, c58, wrV, h, k1, k2, k3, k4, k5, k6, *])) | (refine advG_ifn _ _ _ _ (fun hT => ?_) (fun hT => ?_) <;> simp only [bne, go_sem, seval, reduceCtorEq, c58, wrV, h, k1, k2, k3, k4, k5, k6, *]) | (refine advG_if _ _ _ _ (fun hT => ?_) (fun hT => ?_) <;> simp only [bne, go_sem, seval, reduceCtorEq, c58, wrV, h, k1, k2, k3, k4, k5, k6, *]))))
  all_goals (refine W.fs (hok) (by simp only [r58, go_sem, seval, reduceCtorEq]; rfl) ?_; simp only [resV]; try exact V.wk.rfl _)
  all_goals (all_goals exact wk_here)
theorem wtree_int (t : Typ) (k : Nat) (h : (t.k == 2) = true) : TreeOK w0 s vars F t k := .leaf fun f caps hF σ => by
  subst hF
  have hE : treeM s vars k t = numP t.n := leaf_int h
  rw [hE]
  clear hE
  refine k58.go rfl (fun hok hsz => ?_)
  (((try refine W.a ?_); (try simp only [bne, go_sem, seval, reduceCtorEq, c58, wrV, h, *])); (repeat' (first | (refine W.yes rfl ?_; (refine W.a ?_; simp only [bne, go_sem, seval, reduceCtorEq, c58, wrV, h, *])) | (refine W.no rfl ?_; (refine W.a ?_; simp only [bne, go_sem, seval, reduceCtorEq, c58, wrV, h, *])) | (refine W.c1 (pretty_number w0 t.n _) ?_; simp only [bne, go_sem, seval, reduceCtorEq, c58, wrV, h, *]) | (refine W.testn rfl (fun hT => ?_) (fun hT => ?_) <;> (refine W.a ?_; simp only [bne, go_sem, seval, reduceCtorEq, c58, wrV, h, *])) | (refine W.test rfl (fun hT => ?_) (fun hT => ?_) <;> (refine W.a ?_; simp only [bne, go_sem, seval, reduceCtorEq, c58, wrV, h, *])) | (refine advG_ifn _ _ _ _ (fun hT => ?_) (fun hT => ?_) <;> simp only [bne, go_sem, seval, reduceCtorEq, c58, wrV, h, *]) | (refine advG_if _ _ _ _ (fun hT => ?_) (fun hT => ?_) <;> simp only [bne, go_sem, seval, reduceCtorEq, c58, wrV, h, *]))))
  all_goals (refine W.fs (hok) (by simp only [r58, go_sem, seval, reduceCtorEq]; rfl) ?_; simp only [resV]; try exact V.wk.rfl _)
  all_goals (all_goals exact wk_here)
theorem wtree_eigen (hG : Glob w0) (t : Typ) (k : Nat) (h : (t.k == 1) = true) (N : Nat) (e : t.n = (N : Int)) (hN : N ≤ 4611686018427387904) : TreeOK w0 s vars F t k := .leaf fun f caps hF σ => by
  subst hF
  have hE : treeM s vars k t = .mk 0 (99 :: 39 :: Lib.decDigits N) 0 [] 0 := by
    have h : t.k = 1 := by simpa using h
    rw [treeM_eq, if_neg (by omega), if_neg (by omega), leafP, if_neg (by omega), if_neg (by omega), if_pos h, e, Int.toNat_natCast]
  rw [hE]
  clear hE
  have k2 := pkind_no h 2 (by decide)
  have k4 := pkind_no h 4 (by decide)
  have hl := dec_fits hN 2 (by decide)
  have hit : Lib.itoa (N : Int) = Lib.decDigits N := by rw [itoa_nat (by omega), Int.toNat_natCast]
  refine k58.go rfl (fun hok hsz => ?_)
  (((try refine W.a ?_); (try simp only [bne, go_sem, seval, reduceCtorEq, c58, wrV, h, k2, k4, e, hl, hit, *])); (repeat' (first | (refine W.yes rfl ?_; (refine W.a ?_; simp only [bne, go_sem, seval, reduceCtorEq, c58, wrV, h, k2, k4, e, hl, hit, *])) | (refine W.no rfl ?_; (refine W.a ?_; simp only [bne, go_sem, seval, reduceCtorEq, c58, wrV, h, k2, k4, e, hl, hit, *])) | (refine W.c1 (strconv_ItoaS hG (N : Int) (by omega) (by omega) _) ?_; simp only [bne, go_sem, seval, reduceCtorEq, c58, wrV, h, k2, k4, e, hl, hit, *]) | (refine W.c1 (pretty_word w0 (99 :: 39 :: Lib.decDigits N) _) ?_; simp only [bne, go_sem, seval, reduceCtorEq, c58, wrV, h, k2, k4, e, hl, hit, *]) | (refine W.testn rfl (fun hT => ?_) (fun hT => ?_) <;> (refine W.a ?_; simp only [bne, go_sem, seval, reduceCtorEq, c58, wrV, h, k2, k4, e, hl, hit, *])) | (refine W.test rfl (fun hT => ?_) (fun hT => ?_) <;> (refine W.a ?_; simp only [bne, go_sem, seval, reduceCtorEq, c58, wrV, h, k2, k4, e, hl, hit, *])) | (refine advG_ifn _ _ _ _ (fun hT => ?_) (fun hT => ?_) <;> simp only [bne, go_sem, seval, reduceCtorEq, c58, wrV, h, k2, k4, e, hl, hit, *]) | (refine advG_if _ _ _ _ (fun hT => ?_) (fun hT => ?_) <;> simp only [bne, go_sem, seval, reduceCtorEq, c58, wrV, h, k2, k4, e, hl, hit, *]))))
  all_goals (refine W.fs (hok) (by simp only [r58, go_sem, seval, reduceCtorEq]; rfl) ?_; simp only [resV]; try exact V.wk.rfl _)
  all_goals (all_goals exact wk_here)
theorem wtree_var (hG : Glob w0) (t : Typ) (k : Nat) (h : (t.k == 4) = true) (N : Nat) (e : t.n = (N : Int)) (hN : N ≤ 4611686018427387904) : TreeOK w0 s vars F t k := .leaf fun f caps hF σ => by
  subst hF
  have hE : treeM s vars k t = Pre.mk 1 (if N < vars.length then vars.getD N [] else 95 :: Lib.decDigits N) 0 [] 0 := by
    have h : t.k = 4 := by simpa using h
    rw [treeM_eq, if_neg (by omega), if_neg (by omega), leafP, if_neg (by omega), if_pos h, e, Int.toNat_natCast]
    simp only [Int.ofNat_lt]
    split <;> rfl
  rw [hE]
  clear hE
  have k2 := pkind_no h 2 (by decide)
  refine k58.go rfl (fun hok hsz => ?_)
  (((try refine W.a ?_); (try simp only [bne, go_sem, seval, reduceCtorEq, c58, wrV, h, k2, e, *])); (repeat' (first | (refine W.yes rfl ?_; (refine W.a ?_; simp only [bne, go_sem, seval, reduceCtorEq, c58, wrV, h, k2, e, *])) | (refine W.no rfl ?_; (refine W.a ?_; simp only [bne, go_sem, seval, reduceCtorEq, c58, wrV, h, k2, e, *])) | (refine W.c1 (writer_variable hG vars f caps N hN _) ?_; simp only [bne, go_sem, seval, reduceCtorEq, c58, wrV, h, k2, e, *]) | (refine W.testn rfl (fun hT => ?_) (fun hT => ?_) <;> (refine W.a ?_; simp only [bne, go_sem, seval, reduceCtorEq, c58, wrV, h, k2, e, *])) | (refine W.test rfl (fun hT => ?_) (fun hT => ?_) <;> (refine W.a ?_; simp only [bne, go_sem, seval, reduceCtorEq, c58, wrV, h, k2, e, *])) | (refine advG_ifn _ _ _ _ (fun hT => ?_) (fun hT => ?_) <;> simp only [bne, go_sem, seval, reduceCtorEq, c58, wrV, h, k2, e, *]) | (refine advG_if _ _ _ _ (fun hT => ?_) (fun hT => ?_) <;> simp only [bne, go_sem, seval, reduceCtorEq, c58, wrV, h, k2, e, *]))))
  all_goals (refine W.fs (hok) (by simp only [r58, go_sem, seval, reduceCtorEq]; rfl) ?_; simp only [resV]; try exact V.wk.rfl _)
  all_goals (all_goals exact wk_here)
theorem wtree_far (hG : Glob w0) (t : Typ) (k : Nat) (h : (t.k == 3) = true) (N : Nat) (e : t.n = (N : Int)) (hN : N ≤ 4611686018427387904) (hk : k ≤ N) : TreeOK w0 s vars F t k := .leaf fun f caps hF σ => by
  subst hF
  have hE : treeM s vars k t = .mk 0 (98 :: 39 :: Lib.decDigits (N - k)) 0 [] 0 := by
    have h : t.k = 3 := by simpa using h
    rw [treeM_eq, if_neg (by omega), if_neg (by omega), leafP, if_neg (by omega), if_neg (by omega), if_neg (by omega), if_pos h, e, Int.toNat_natCast]
    simp only [Int.ofNat_lt]
    rw [if_neg (by omega)]
  rw [hE]
  clear hE
  have k1 := pkind_no h 1 (by decide)
  have k2 := pkind_no h 2 (by decide)
  have k4 := pkind_no h 4 (by decide)
  have h1 : (N : Int) ≥ (k : Int) := by omega
  have hw : IntKind.i64.wrap ((N : Int) - (k : Int)) = ((N - k : Nat) : Int) := by rw [wrap_in] <;> omega
  have hl := dec_fits (N := N - k) (by omega) 2 (by decide)
  have hit : Lib.itoa ((N - k : Nat) : Int) = Lib.decDigits (N - k) := by rw [itoa_nat (by omega), Int.toNat_natCast]
  refine k58.go rfl (fun hok hsz => ?_)
  (((try refine W.a ?_); (try simp only [bne, go_sem, seval, reduceCtorEq, c58, wrV, h, k1, k2, k4, e, hl, hit, h1, hw, *])); (repeat' (first | (refine W.yes rfl ?_; (refine W.a ?_; simp only [bne, go_sem, seval, reduceCtorEq, c58, wrV, h, k1, k2, k4, e, hl, hit, h1, hw, *])) | (refine W.no rfl ?_; (refine W.a ?_; simp only [bne, go_sem, seval, reduceCtorEq, c58, wrV, h, k1, k2, k4, e, hl, hit, h1, hw, *])) | (refine W.c1 (strconv_ItoaS hG ((N - k : Nat) : Int) (by omega) (by omega) _) ?_; simp only [bne, go_sem, seval, reduceCtorEq, c58, wrV, h, k1, k2, k4, e, hl, hit, h1, hw, *]) | (refine W.c1 (pretty_word w0 (98 :: 39 :: Lib.decDigits (N - k)) _) ?_; simp only [bne, go_sem, seval, reduceCtorEq, c58, wrV, h, k1, k2, k4, e, hl, hit, h1, hw, *]) | (refine W.testn rfl (fun hT => ?_) (fun hT => ?_) <;> (refine W.a ?_; simp only [bne, go_sem, seval, reduceCtorEq, c58, wrV, h, k1, k2, k4, e, hl, hit, h1, hw, *])) | (refine W.test rfl (fun hT => ?_) (fun hT => ?_) <;> (refine W.a ?_; simp only [bne, go_sem, seval, reduceCtorEq, c58, wrV, h, k1, k2, k4, e, hl, hit, h1, hw, *])) | (refine advG_ifn _ _ _ _ (fun hT => ?_) (fun hT => ?_) <;> simp only [bne, go_sem, seval, reduceCtorEq, c58, wrV, h, k1, k2, k4, e, hl, hit, h1, hw, *]) | (refine advG_if _ _ _ _ (fun hT => ?_) (fun hT => ?_) <;> simp only [bne, go_sem, seval, reduceCtorEq, c58, wrV, h, k1, k2, k4, e, hl, hit, h1, hw, *]))))
  all_goals (refine W.fs (hok) (by simp only [r58, go_sem, seval, reduceCtorEq]; rfl) ?_; simp only [resV]; try exact V.wk.rfl _)
  all_goals (all_goals exact wk_here)
theorem wtree_bound (t : Typ) (k : Nat) (h : (t.k == 3) = true) (n : Nat) (e : t.n = (n : Int)) (hn : n < k) (hk1 : k ≤ 1000) : TreeOK w0 s vars F t k := fun τ M hR N hk hN => by
  obtain ⟨f, caps, rfl, hc⟩ := hR.call
  have hE : treeM s vars k t = .mk 0 (nameM s vars (k - 1 - n)) 0 [] 0 := by
    have h : t.k = 3 := by simpa using h
    rw [treeM_eq, if_neg (by omega), if_neg (by omega), leafP, if_neg (by omega), if_neg (by omega), if_neg (by omega), if_pos h, e, Int.toNat_natCast]
    simp only [Int.ofNat_lt]
    rw [if_pos hn]
  rw [hE]
  clear hE
  have k1 := pkind_no h 1 (by decide)
  have k2 := pkind_no h 2 (by decide)
  have k4 := pkind_no h 4 (by decide)
  have h1 : ¬ (n : Int) ≥ (k : Int) := by omega
  have hw1 : IntKind.i64.wrap ((k : Int) - 1) = ((k - 1 : Nat) : Int) := by rw [wrap_in] <;> omega
  have hw2 : IntKind.i64.wrap (((k - 1 : Nat) : Int) - (n : Int)) = ((k - 1 - n : Nat) : Int) := by rw [wrap_in] <;> omega
  have hmx : max N (k - 1 - n + 1) = N := by omega
  have hC := fun X => hc X (k - 1 - n) N (by omega) (by omega)
  simp only [hmx] at hC
  have key : ∀ σ, (∀ X, DC Tryz.prog w0 f (I ((k - 1 - n : Nat) : Int) :: caps) (σ ++ X) (Same (S (nameM s vars (k - 1 - n))) (σ ++ X))) → DC Tryz.prog w0 58 [wrV vars (.fn f caps), t.v, I (k : Int)] σ (Same (Pre.mk 0 (nameM s vars (k - 1 - n)) 0 [] 0).v σ) := by
    intro σ hC
    refine k58.go rfl (fun hok hsz => ?_)
    (((try refine W.a ?_); (try simp only [bne, go_sem, seval, reduceCtorEq, c58, wrV, h, k1, k2, k4, e, h1, hw1, hw2, *])); (repeat' (first | (refine W.yes rfl ?_; (refine W.a ?_; simp only [bne, go_sem, seval, reduceCtorEq, c58, wrV, h, k1, k2, k4, e, h1, hw1, hw2, *])) | (refine W.no rfl ?_; (refine W.a ?_; simp only [bne, go_sem, seval, reduceCtorEq, c58, wrV, h, k1, k2, k4, e, h1, hw1, hw2, *])) | (refine W.c1 (hC _) ?_; simp only [bne, go_sem, seval, reduceCtorEq, c58, wrV, h, k1, k2, k4, e, h1, hw1, hw2, *]) | (refine W.c1 (pretty_word w0 (nameM s vars (k - 1 - n)) _) ?_; simp only [bne, go_sem, seval, reduceCtorEq, c58, wrV, h, k1, k2, k4, e, h1, hw1, hw2, *]) | (refine W.testn rfl (fun hT => ?_) (fun hT => ?_) <;> (refine W.a ?_; simp only [bne, go_sem, seval, reduceCtorEq, c58, wrV, h, k1, k2, k4, e, h1, hw1, hw2, *])) | (refine W.test rfl (fun hT => ?_) (fun hT => ?_) <;> (refine W.a ?_; simp only [bne, go_sem, seval, reduceCtorEq, c58, wrV, h, k1, k2, k4, e, h1, hw1, hw2, *])) | (refine advG_ifn _ _ _ _ (fun hT => ?_) (fun hT => ?_) <;> simp only [bne, go_sem, seval, reduceCtorEq, c58, wrV, h, k1, k2, k4, e, h1, hw1, hw2, *]) | (refine advG_if _ _ _ _ (fun hT => ?_) (fun hT => ?_) <;> simp only [bne, go_sem, seval, reduceCtorEq, c58, wrV, h, k1, k2, k4, e, h1, hw1, hw2, *]))))
    all_goals (refine W.fs (hok) (by simp only [r58, go_sem, seval, reduceCtorEq]; rfl) ?_; simp only [resV]; try exact V.wk.rfl _)
    all_goals (all_goals exact wk_here)
  exact (key (τ N) hC).mono fun d σ' ⟨h1, h2⟩ => ⟨h1, N, Nat.le_refl _, hN, h2⟩
end
end
section
attribute [local go_sem] Typ.v Typ.cs_eq tk_mk tname_mk tn_mk tl_mk tysC rz_len rz_g0 rz_g rz_s0 rz_s rz_sb

def varB (n : Int) : Blk := .cells [I n]
attribute [local go_sem] varB
end
section

section
variable {τ : Nat → H}
theorem at_g0 {σ : H} {N : Nat} (h : σ.length = N) (x : Blk) (L : H) : (σ ++ x :: L)[N]? = some x := by subst h; exact hget0 σ (x :: L)
theorem at_g {σ : H} {N : Nat} (h : σ.length = N) (k : Nat) (L : H) : (σ ++ L)[N + k]? = L[k]? := by subst h; exact hget σ L k
theorem at_s0 {σ : H} {N : Nat} (h : σ.length = N) (x : Blk) (L : H) : (σ ++ L).set N x = σ ++ L.set 0 x := by subst h; exact hset0 σ L x
theorem at_s {σ : H} {N : Nat} (h : σ.length = N) (k : Nat) (x : Blk) (L : H) : (σ ++ L).set (N + k) x = σ ++ L.set k x := by subst h; exact hset σ L k x
end
attribute [local go_sem] Typ.v Typ.cs_eq tk_mk tname_mk tn_mk tl_mk tysC
end
section
attribute [local go_sem] Typ.v Typ.cs_eq Pre.v Pre.cs_eq Pre.app tk_mk tname_mk tn_mk tl_mk
section
variable {w0 : World} {s : Sg} {vars : List Str} {F : V}
theorem wtree_lam (t b : Typ) (k : Nat) (h : (t.k == 5) = true) (hl : t.l = [b]) (hk1 : k + 1 ≤ 1000) (hb : TreeOK w0 s vars F b (k + 1)) : TreeOK w0 s vars F t k := fun τ M hR N hk hN => by
  have hE : treeM s vars k t = .mk 4 (nameM s vars k) 0 [treeM s vars (k + 1) b] 0 := by
    have h : t.k = 5 := by simpa using h
    rw [treeM_eq, if_pos h, hl]
    rfl
  rw [hE]
  clear hE
  obtain ⟨tk, tn, tm, tl⟩ := t
  have hl : tl = [b] := hl
  subst hl
  have h : (tk == 5) = true := h
  have k1 : (tk == 1) = false := pkind_no (t := .mk tk tn tm [b]) h 1 (by decide)
  have k2 : (tk == 2) = false := pkind_no (t := .mk tk tn tm [b]) h 2 (by decide)
  have k3 : (tk == 3) = false := pkind_no (t := .mk tk tn tm [b]) h 3 (by decide)
  have k4 : (tk == 4) = false := pkind_no (t := .mk tk tn tm [b]) h 4 (by decide)
  obtain ⟨f, caps, rfl, hc⟩ := hR.call
  have hw : IntKind.i64.wrap ((k : Int) + 1) = ((k + 1 : Nat) : Int) := by rw [wrap_in] <;> omega
  refine k58.go rfl (fun hok hsz => ?_)
  have hl0 := hR.len
  have tg0 : ∀ N x L, (τ N ++ x :: L)[M]? = some x := fun s => at_g0 (hl0 s)
  have tg : ∀ N k L, (τ N ++ L)[M + k]? = L[k]? := fun s => at_g (hl0 s)
  have ts0 : ∀ N x L, (τ N ++ L).set M x = τ N ++ L.set 0 x := fun s => at_s0 (hl0 s)
  have ts : ∀ N k x L, (τ N ++ L).set (M + k) x = τ N ++ L.set k x := fun s => at_s (hl0 s)
  (((try refine W.a ?_); (try simp only [bne, go_sem, seval, reduceCtorEq, c58, wrV, h, k1, k2, k3, k4, hl0, tg0, tg, ts0, ts, *])); (repeat' (first | (refine W.yes rfl ?_; (refine W.a ?_; simp only [bne, go_sem, seval, reduceCtorEq, c58, wrV, h, k1, k2, k3, k4, hl0, tg0, tg, ts0, ts, *])) | (refine W.no rfl ?_; (refine W.a ?_; simp only [bne, go_sem, seval, reduceCtorEq, c58, wrV, h, k1, k2, k3, k4, hl0, tg0, tg, ts0, ts, *])) | (refine W.testn rfl (fun hT => ?_) (fun hT => ?_) <;> (refine W.a ?_; simp only [bne, go_sem, seval, reduceCtorEq, c58, wrV, h, k1, k2, k3, k4, hl0, tg0, tg, ts0, ts, *])) | (refine W.test rfl (fun hT => ?_) (fun hT => ?_) <;> (refine W.a ?_; simp only [bne, go_sem, seval, reduceCtorEq, c58, wrV, h, k1, k2, k3, k4, hl0, tg0, tg, ts0, ts, *])) | (refine advG_ifn _ _ _ _ (fun hT => ?_) (fun hT => ?_) <;> simp only [bne, go_sem, seval, reduceCtorEq, c58, wrV, h, k1, k2, k3, k4, hl0, tg0, tg, ts0, ts, *]) | (refine advG_if _ _ _ _ (fun hT => ?_) (fun hT => ?_) <;> simp only [bne, go_sem, seval, reduceCtorEq, c58, wrV, h, k1, k2, k3, k4, hl0, tg0, tg, ts0, ts, *]))))
  apply W.dregS (S0 := fun σ => ∃ N', N ≤ N' ∧ N' ≤ 1001 ∧ σ = τ N' ++ [.cells [I 0, .c (.sl (strsR vars)), .fn f caps], .cells [I tk, S tn, I tm, .c (.sl [[.int .i64 b.k, .str b.name, .int .i64 b.n, .sl (b.l.map Typ.cs)]])], .cells [I 0, S [], I 0, .csl [], I 0]])
    (S := fun σ => ∃ N', N ≤ N' ∧ N' ≤ 1001 ∧ σ = τ N' ++ [.cells [I 0, .c (.sl (strsR vars)), .fn f caps], .cells [I tk, S tn, I tm, .c (.sl [[.int .i64 b.k, .str b.name, .int .i64 b.n, .sl (b.l.map Typ.cs)]])], .cells [I 4, S (nameM s vars k), I 0, .csl [[.int .i64 (treeM s vars (k + 1) b).k, .str (treeM s vars (k + 1) b).name, .int .i64 (treeM s vars (k + 1) b).n, .sl ((treeM s vars (k + 1) b).l.map Pre.cs), .int .i64 (treeM s vars (k + 1) b).pos]], I 0]]) (List.cons_ne_nil _ _) ⟨N, Nat.le_refl _, hN, rfl⟩
  case hc =>
    apply CanonS.runN 3 (σ0 := τ N ++ [.cells [I 0, .c (.sl (strsR vars)), .fn f caps], .cells [I tk, S tn, I tm, .c (.sl [[.int .i64 b.k, .str b.name, .int .i64 b.n, .sl (b.l.map Typ.cs)]])], .cells [I 0, S [], I 0, .csl [], I 0]])
    case h0 => exact ⟨N, Nat.le_refl _, hN, rfl⟩
    case h =>
      rintro σ ⟨N', _, _, rfl⟩
      simp only [go_sem, seval, reduceCtorEq, runQ, hl0, tg0, tg, ts0, ts]
      rfl
    case hp =>
      intro T hT
      cases hT
    case k =>
    simp only [go_sem, seval, reduceCtorEq]
    apply CanonS.loud
    case h =>
      apply YieldS.call (S' := fun σ => ∃ N', N ≤ N' ∧ k + 1 ≤ N' ∧ N' ≤ 1001 ∧ σ = τ N' ++ [.cells [I 0, .c (.sl (strsR vars)), .fn f caps], .cells [I tk, S tn, I tm, .c (.sl [[.int .i64 b.k, .str b.name, .int .i64 b.n, .sl (b.l.map Typ.cs)]])], .cells [I 0, S [], I 0, .csl [], I 0]]) rfl rfl rfl
      rintro σ ⟨N', h1, h2, rfl⟩
      exact (hc _ k N' (by omega) (by omega)).mono fun d σ' ⟨q1, q2⟩ => ⟨q1, max N' (k + 1), by omega, by omega, by omega, q2⟩
    case k =>
    apply CanonS.runN 7 (σ0 := τ (max N (k + 1)) ++ [.cells [I 0, .c (.sl (strsR vars)), .fn f caps], .cells [I tk, S tn, I tm, .c (.sl [[.int .i64 b.k, .str b.name, .int .i64 b.n, .sl (b.l.map Typ.cs)]])], .cells [I 0, S [], I 0, .csl [], I 0]])
    case h0 => exact ⟨max N (k + 1), by omega, by omega, by omega, rfl⟩
    case h =>
      rintro σ ⟨N', _, _, _, rfl⟩
      simp only [go_sem, seval, reduceCtorEq, runQ, hl0, tg0, tg, ts0, ts, hw]
      rfl
    case hp =>
      intro T hT
      simp only [List.mem_cons, List.not_mem_nil, or_false] at hT
      subst hT
      rintro σ ⟨N', _, _, rfl⟩
      simp only [go_sem, seval, reduceCtorEq, runQ, hl0, tg0, tg, ts0, ts, hw]
    case k =>
    simp only [go_sem, seval, reduceCtorEq]
    apply CanonS.loud
    case h =>
      apply YieldS.call (S' := fun σ => ∃ N', N ≤ N' ∧ k + 1 ≤ N' ∧ N' ≤ 1001 ∧ σ = τ N' ++ [.cells [I 0, .c (.sl (strsR vars)), .fn f caps], .cells [I tk, S tn, I tm, .c (.sl [[.int .i64 b.k, .str b.name, .int .i64 b.n, .sl (b.l.map Typ.cs)]])], .cells [I 0, S [], I 0, .csl [], I 0]]) rfl rfl rfl
      rintro σ ⟨N', h1, h2, h3, rfl⟩
      exact (hb (fun N => τ N ++ _) _ (hR.more _) N' h2 h3).mono fun d σ' ⟨q1, N2, q2, q3, q4⟩ => ⟨q1, N2, by omega, by omega, q3, q4⟩
    case k =>
    apply CanonS.runN 2 (σ0 := τ (max N (k + 1)) ++ [.cells [I 0, .c (.sl (strsR vars)), .fn f caps], .cells [I tk, S tn, I tm, .c (.sl [[.int .i64 b.k, .str b.name, .int .i64 b.n, .sl (b.l.map Typ.cs)]])], .cells [I 0, S [], I 0, .csl [], I 0]])
    case h0 => exact ⟨max N (k + 1), by omega, by omega, by omega, rfl⟩
    case h =>
      rintro σ ⟨N', _, _, _, rfl⟩
      simp only [go_sem, seval, reduceCtorEq, runQ, hl0, tg0, tg, ts0, ts, hw]
      rfl
    case hp =>
      intro T hT
      simp only [List.mem_cons, List.not_mem_nil, or_false] at hT
      rcases hT with rfl | rfl
      · rintro σ ⟨N', _, _, _, rfl⟩
        simp only [go_sem, seval, reduceCtorEq, runQ, hl0, tg0, tg, ts0, ts, hw]
      · rintro σ ⟨N', _, _, rfl⟩
        simp only [go_sem, seval, reduceCtorEq, runQ, hl0, tg0, tg, ts0, ts, hw]
    case k =>
    simp only [go_sem, seval, reduceCtorEq]
    apply CanonS.loud
    case k => exact .nil
    case h =>
      refine YieldS.step (v := .void) rfl ?_
      rintro σ ⟨N', h1, _, h3, rfl⟩
      refine ⟨_, ?_, N', h1, h3, rfl⟩
      simp only [go_sem, seval, reduceCtorEq, hl0, tg0, tg, ts0, ts]
  case h =>
    rintro σ ⟨N', h1, h2, rfl⟩
    have hokN : H.ok (τ N') := by
      have := hR.ok N N' [] (by rw [List.append_nil]; exact hok)
      rwa [List.append_nil] at this
    ((try refine W.a ?_); simp only [go_sem, seval, reduceCtorEq, hl0, tg0, tg, ts0, ts])
    (refine W.fg (hokN) (d := (Pre.mk 4 (nameM s vars k) 0 [treeM s vars (k + 1) b] 0).v) (by simp only [r58, go_sem, seval, reduceCtorEq, tg0, tg]; rfl) (by simp only [resV, go_sem, seval, reduceCtorEq, tg0, tg]; exact wk_here) ?_ (hl := by (first | exact .c _ | (simp only [go_sem, seval, reduceCtorEq, tg0, tg]; done))) (hn := by rw [hl0]))
    exact ⟨by rw [Pre.v]; simp only [Pre.k, Pre.name, Pre.n, Pre.l, Pre.pos, List.map, Pre.cs_eq], N', h1, h2, rfl⟩
end
end
end Go.Proofs.YtpcmcfajfnpjeaaGreatDoor
